/- Merged texts. -/
import Derived.Test.YtepkfjmjidjedaaGreatMA02
import Derived.Test.YtepkfjmjidjedaaGreatMA13
import Derived.Test.YtepkfjmjidjedaaGreatMA05
import Derived.Test.YtepkfjmjidjedaaGreatMA19
import Derived.Test.YtepkfjmjidjedaaGreatMA12
import Derived.Test.YtepkfjmjidjedaaGreatMA07
import Derived.Test.YtepkfjmjidjedaaGreatMA00
import Derived.SizedLaws
import Derived.Deep.Slices
import Derived.Lib.SmallJoins
import Derived.ChangeArms
import Derived.Test.YtepkfjmjidjedaaGreatMA14
import Derived.Test.YtepkfjmjidjedaaGreatMA16
import Derived.Test.YtepkfjmjidjedaaGreatMA15
import Derived.Test.YtepkfjmjidjedaaGreatMA18
set_option linter.unusedVariables false
set_option linter.unusedSimpArgs false
set_option maxHeartbeats 8000000
set_option maxRecDepth 100000
section
namespace Go.Proofs.YtepkfjmjidjedaaGreat.C
open Go.RowKit Go.Proofs.YtepkfjmjidjedaaGreatW.PrintWords Go.Proofs.YtepkfjmjidjedaaGreatW.PrintLast Go.Proofs.YtepkfjmjidjedaaGreatW.PrintMore
attribute [local go_sem] Qho Qhp Qhq Qhr Qhs Qht Qhu Qhv
noncomputable def Qav.j0:Nat→Int→List (S36)→Bool→Option (Bool)
 | 0,_,_,_=>none
 | k+1,x0,x1,x16=>if x16=true then((Qaw.f).bind fun t451=>(some t451))else((Qat.f x0).bind fun bt452=>((Qbm.f k bt452.1 bt452.2 x1).bind fun bt455=>(if bt455.2=0 then((Qbo.f k bt452.1 bt452.2 bt455.1).bind fun bt459=>(if bt459.2=0 then((Qay.f k x1).bind fun t463=>((Qax.f k bt459.1 t463).bind fun t466=>(some t466)))else(some false)))else(some ((bt455.1.length:Int) == 0)))))
noncomputable def Qav.f(k:Nat)(a0:Int)(l1:List (S36)):Option (Bool):=(Qaw.f).bind fun t449=>(if t449=true then((Qar.f k l1 40 2000).bind fun t450=>(Qav.j0 k a0 l1 (!t450)))else(Qav.j0 k a0 l1 true))
theorem Qav.calls(k:Nat)(a0:Int)(A1:Option Addr)(c1:Nat)(l1:List (S36))(r:Bool)(w:World)(hr1:Kd.C k36 w A1 l1.length l1)(hc1:l1.length≤c1)(h:Qav.f k a0 l1=some r) :
  Calls Tryz.prog 9 #[.int .u8 a0,.slice A1 l1.length c1] w fun e w'=>e=.returned (.bool r)∧Below w.heap.size w w':=by
 have hu40:=Tryz.underlying40;have B:=QA hr1;have D:=QA hc1;clear hr1 hc1;have HB:=QA (Below.refl w.heap.size w);have H:((Qaw.f).bind fun E=>(if E=true then((Qar.f k l1 40 2000).bind fun y=>(Qav.j0 k a0 l1 (!y)))else(Qav.j0 k a0 l1 true)))=some r:=h;clear h;have J:=QA H;clear H
 go_enter Tryz.func9,Tryz.ntmps9
 go_upto_region 1 with(fail)
 go_cut [16] (fun au wc=>∃(kq:Nat) (u:Bool),au=.bool u∧Aside0 (Qav.j0 kq a0 l1 u=some r)∧Aside0 (kq≤k)∧Aside0 (Below w.heap.size w wc))
 case first =>
  have H:=J.out;clear J;replace H:=Option.bind_eq_some_iff.mp H;obtain⟨E,ad,H⟩:=H;have A4:=QA ad;clear ad
  by_cases c5:E=true
  ·subst c5;rw[if_pos rfl]at H;replace H:=Option.bind_eq_some_iff.mp H;obtain⟨y,ae,H⟩:=H;have A6:=QA ae;clear ae;have H':=QA H;clear H
   go_wp2_with (first |((with_reducible refine Qhw (f:=19) rfl ?_);refine Qfz (some 10) rfl rfl Tryz.func19 qq_5 rfl #[] rfl qq_1 ?_;(with_reducible refine(Qaw.calls  true _ A4.out).mono ?_);rintro e w7 ⟨rfl,hb⟩;refine⟨_,rfl,?_⟩;have n_:=qn1 (Qes qq_b hb);clear HB;have HB:=n_;clear n_;(try clear hb);(try clear hb2);(try clear hk);(try clear hi)) |(go_at_call 11;(with_reducible refine(Qar.calls k _ _ l1 40 2000 y _ ?side1 ?side2 A6.out).mono ?_);(case side1=>repeat(first|exact(Kd.C_below B.out HB.out) |(with_reducible refine Kd.C_alloc ?_ _) |(with_reducible refine Kd.C_drewN ?_ _) |(with_reducible refine Kd.C_drew ?_)));(case side2=>exact D.out);rintro e w8 ⟨rfl,hb⟩;have n_:=qn1 (Qes qq_b hb);clear HB;have HB:=n_;clear n_;(try clear hb);(try clear hb2);(try clear hk);(try clear hi)))
   go_meet
   case rel=>exact⟨_,(!y),qq_7,H',⟨by first|omega|exact Nat.le_refl _⟩,⟨qq_b⟩⟩
  ·replace c5:=Bool.eq_false_iff.mpr c5;subst c5;rw[if_neg (show ¬(false=true)by decide)]at H;have H':=QA H;clear H
   go_wp2_with (first |((with_reducible refine Qhw (f:=19) rfl ?_);refine Qfz (some 10) rfl rfl Tryz.func19 qq_5 rfl #[] rfl qq_1 ?_;(with_reducible refine(Qaw.calls  false _ A4.out).mono ?_);rintro e w9 ⟨rfl,hb⟩;refine⟨_,rfl,?_⟩;have n_:=qn1 (Qes qq_b hb);clear HB;have HB:=n_;clear n_;(try clear hb);(try clear hb2);(try clear hk);(try clear hi)))
   go_meet
   case rel=>exact⟨_,(true),qq_7,H',⟨by first|omega|exact Nat.le_refl _⟩,⟨qq_b⟩⟩
 case rest =>
  clear J
  try clear c1
  try clear c5
  obtain⟨kq,u,rfl,HA,HJ2,HB⟩:=hcut
  cases kq with
  | zero=>exact absurd HA.out (by simp[Qav.j0])
  | succ kj2 =>
   have H:=HA.out;clear HA;simp only[Qav.j0]at H
   by_cases c10:u=true
   ·subst c10;rw[if_pos rfl]at H;replace H:=Option.bind_eq_some_iff.mp H;obtain⟨ag,L,H⟩:=H;have av:=QA L;clear L;obtain rfl:=Option.some.inj H
    go_wp2_with (first |((with_reducible refine Qhw (f:=19) rfl ?_);refine Qfz (some 17) rfl rfl Tryz.func19 qq_5 rfl #[] rfl qq_1 ?_;(with_reducible refine(Qaw.calls  ag _ av.out).mono ?_);rintro e aE ⟨rfl,hb⟩;refine⟨_,rfl,?_⟩;have n_:=qn1 (Qes qq_b hb);clear HB;have HB:=n_;clear n_;(try clear hb);(try clear hb2);(try clear hk);(try clear hi)))
    go_ret
    exact⟨qq_4,qq_b⟩
   ·replace c10:=Bool.eq_false_iff.mpr c10;subst c10;rw[if_neg (show ¬(false=true)by decide)]at H;replace H:=Option.bind_eq_some_iff.mp H;obtain⟨⟨c,d⟩,M,H⟩:=H;replace H:((Qbm.f kj2 c d l1).bind fun bt455=>(if bt455.2=0 then((Qbo.f kj2 c d bt455.1).bind fun bt459=>(if bt459.2=0 then((Qay.f kj2 l1).bind fun q=>((Qax.f kj2 bt459.1 q).bind fun t=>(some t)))else(some false)))else(some ((bt455.1.length:Int) == 0))))=some r:=H;have O:=QA M;clear M;replace H:=Option.bind_eq_some_iff.mp H;obtain⟨⟨n,p⟩,P,H⟩:=H;replace H:(if p=0 then((Qbo.f kj2 c d n).bind fun bt459=>(if bt459.2=0 then((Qay.f kj2 l1).bind fun q=>((Qax.f kj2 bt459.1 q).bind fun t=>(some t)))else(some false)))else(some ((n.length:Int) == 0)))=some r:=H;have T:=QA P;clear P
    by_cases v:p=0
    ·rw[if_pos v]at H;have Z:(p == 0)=true:=beq_iff_eq.mpr v;have aa:(p != 0)=false:=bne_eq_false_iff_eq.mpr v;clear v;replace H:=Option.bind_eq_some_iff.mp H;obtain⟨⟨z,s⟩,U,H⟩:=H;replace H:(if s=0 then((Qay.f kj2 l1).bind fun q=>((Qax.f kj2 z q).bind fun t=>(some t)))else(some false))=some r:=H;have af:=QA U;clear U
     by_cases x:s=0
     ·rw[if_pos x]at H;have ab:(s == 0)=true:=beq_iff_eq.mpr x;have ac:(s != 0)=false:=bne_eq_false_iff_eq.mpr x;clear x;replace H:=Option.bind_eq_some_iff.mp H;obtain⟨q,W,H⟩:=H;have aw:=QA W;clear W;replace H:=Option.bind_eq_some_iff.mp H;obtain⟨t,X,H⟩:=H;have ax:=QA X;clear X;obtain rfl:=Option.some.inj H
      go_wp2_with (first |((with_reducible refine Qhw (f:=14) rfl ?_);refine Qfz (some 19) rfl rfl Tryz.func14 qq_5 rfl #[.int .u8 a0] rfl qq_1 ?_;(with_reducible refine(Qat.calls a0 c d _ O.out).mono ?_);rintro e aF ⟨rfl,hb⟩;refine⟨_,rfl,?_⟩;have n_:=qn1 (Qes qq_b hb);clear HB;have HB:=n_;clear n_;(try clear hb);(try clear hb2);(try clear hk);(try clear hi)) |((with_reducible refine Qfc (N:=5) rfl ?_);refine qq_e 5 #[.int .u8 0,.int .u32 0] 40 ?_;intro j hg aG hbox hb;have n_:=qn4 (Qes qq_b hb) (hbox) (qq_s hg:w.heap.size≤j) (qq_s hg:w.heap.size≤j);clear HB;obtain⟨HB,a,G,I⟩:=n_;clear hb hbox hg;obtain⟨ai,aj⟩:=qc2 a.out;have ay:=Qdg a.out) |((with_reducible refine Qhw (f:=20) rfl ?_);refine Qfz (some 23) rfl rfl Tryz.func20 qq_5 rfl #[.agg #[.int .u8 c,.int .u32 d],.slice A1 l1.length c1] rfl qq_1 ?_;(with_reducible refine(Qbm.calls kj2 c d _ _ l1 n p _ ?side1 ?side2 T.out).mono ?_);(case side1=>exact Kd.C_below B.out qq_b);(case side2=>exact D.out);rintro e aH ⟨Y,rfl,l,hb⟩;refine⟨_,rfl,?_⟩;have n_:=qn3 (Kd.R_lower l (Qer qq_b)) (Qds (g:=j) (o:=.cells #[.int .u8 c,.int .u32 d] 40 (0,0)) qq_x hb) (Qes qq_b hb);clear a HB;obtain⟨b,a,HB⟩:=n_;(try clear hb);(try clear hb2);(try clear hk);(try clear hi);(try clear l);obtain⟨ak,al⟩:=qc2 a.out;have az:=Qdg a.out;obtain⟨Ao25,co25,eo25⟩:=Kd.R_slice b.out;subst eo25) |((with_reducible refine Qhw (f:=35) rfl ?_);refine Qfz (some 34) rfl rfl Tryz.func35 qq_5 rfl #[.agg #[.int .u8 c,.int .u32 d],.slice Ao25 n.length co25] rfl qq_1 ?_;(with_reducible refine(Qbo.calls kj2 c d _ _ n z s _ ?side1 ?side2 af.out).mono ?_);(case side1=>repeat(first|exact(Kd.R_reads' b.out).2.2 |(with_reducible refine Kd.C_alloc ?_ _) |(with_reducible refine Kd.C_drewN ?_ _) |(with_reducible refine Kd.C_drew ?_)));(case side2=>exact(Kd.R_reads' b.out).2.1);rintro e aI ⟨ah,rfl,l,hb⟩;refine⟨_,rfl,?_⟩;have n_:=qn4 (Kd.R_below (by(with_reducible repeat(first|apply Kd.R_alloc|apply Kd.R_drewN|apply Kd.R_drew));exact b.out) hb) (Kd.R_lower l (Qer qq_b)) (Qds (g:=j) (o:=.cells #[.int .u8 c,.int .u32 d] 40 (0,0)) qq_0 hb) (Qes qq_b hb);clear b a HB;obtain⟨b,m,a,HB⟩:=n_;(try clear hb);(try clear hb2);(try clear hk);(try clear hi);(try clear l)) |(go_at_call 36;(with_reducible refine(Qay.calls kj2 _ _ l1 q _ ?side1 ?side2 aw.out).mono ?_);(case side1=>repeat(first|exact(Kd.C_below B.out HB.out) |(with_reducible refine Kd.C_alloc ?_ _) |(with_reducible refine Kd.C_drewN ?_ _) |(with_reducible refine Kd.C_drew ?_)));(case side2=>exact D.out);rintro e aJ ⟨aD,rfl,l,hb⟩;have n_:=qn5 (Kd.R_below (by(with_reducible repeat(first|apply Kd.R_alloc|apply Kd.R_drewN|apply Kd.R_drew));exact b.out) hb) (Kd.R_elder' (by(with_reducible repeat(first|apply Kd.R_alloc|apply Kd.R_drewN|apply Kd.R_drew));exact m.out) (Kd.R_base l) hb) (Kd.R_lower (Kd.R_new' l (Kd.R_lt (by(with_reducible repeat(first|apply Kd.R_alloc|apply Kd.R_drewN|apply Kd.R_drew));exact m.out))) (Qer qq_b)) (Qds (g:=j) (o:=.cells #[.int .u8 c,.int .u32 d] 40 (0,0)) qq_0 hb) (Qes qq_b hb);clear b m a HB;obtain⟨b,m,A,a,HB⟩:=n_;(try clear hb);(try clear hb2);(try clear hk);(try clear hi);(try clear l);obtain⟨Ao28,co28,eo28⟩:=Kd.R_slice m.out;subst eo28;obtain⟨Ao29,co29,eo29⟩:=Kd.R_slice A.out;subst eo29) |(go_at_call 16;(with_reducible refine(Qax.calls kj2 _ _ z _ _ q t _ ?side1 ?side2 ?side3 ?side4 ax.out).mono ?_);(case side1=>repeat(first|exact(Kd.R_reads' m.out).2.2 |(with_reducible refine Kd.C_alloc ?_ _) |(with_reducible refine Kd.C_drewN ?_ _) |(with_reducible refine Kd.C_drew ?_)));(case side2=>exact(Kd.R_reads' m.out).2.1);(case side3=>repeat(first|exact(Kd.R_reads' A.out).2.2 |(with_reducible refine Kd.C_alloc ?_ _) |(with_reducible refine Kd.C_drewN ?_ _) |(with_reducible refine Kd.C_drew ?_)));(case side4=>exact(Kd.R_reads' A.out).2.1);rintro e w' ⟨rfl,⟨nd,rfl⟩⟩))
      go_ret
      exact⟨qq_4,qq_b⟩
     ·rw[if_neg x]at H;have ab:(s == 0)=false:=beq_eq_false_iff_ne.mpr x;have ac:(s != 0)=true:=bne_iff_ne.mpr x;obtain rfl:=Option.some.inj H
      go_wp2_with (first |((with_reducible refine Qhw (f:=14) rfl ?_);refine Qfz (some 19) rfl rfl Tryz.func14 qq_5 rfl #[.int .u8 a0] rfl qq_1 ?_;(with_reducible refine(Qat.calls a0 c d _ O.out).mono ?_);rintro e aK ⟨rfl,hb⟩;refine⟨_,rfl,?_⟩;have n_:=qn1 (Qes qq_b hb);clear HB;have HB:=n_;clear n_;(try clear hb);(try clear hb2);(try clear hk);(try clear hi)) |((with_reducible refine Qfc (N:=5) rfl ?_);refine qq_e 5 #[.int .u8 0,.int .u32 0] 40 ?_;intro j hg aL hbox hb;have n_:=qn4 (Qes qq_b hb) (hbox) (qq_s hg:w.heap.size≤j) (qq_s hg:w.heap.size≤j);clear HB;obtain⟨HB,a,G,I⟩:=n_;clear hb hbox hg;obtain⟨am,an⟩:=qc2 a.out;have aA:=Qdg a.out) |((with_reducible refine Qhw (f:=20) rfl ?_);refine Qfz (some 23) rfl rfl Tryz.func20 qq_5 rfl #[.agg #[.int .u8 c,.int .u32 d],.slice A1 l1.length c1] rfl qq_1 ?_;(with_reducible refine(Qbm.calls kj2 c d _ _ l1 n p _ ?side1 ?side2 T.out).mono ?_);(case side1=>exact Kd.C_below B.out qq_b);(case side2=>exact D.out);rintro e aM ⟨Y,rfl,l,hb⟩;refine⟨_,rfl,?_⟩;have n_:=qn3 (Kd.R_lower l (Qer qq_b)) (Qds (g:=j) (o:=.cells #[.int .u8 c,.int .u32 d] 40 (0,0)) qq_x hb) (Qes qq_b hb);clear a HB;obtain⟨b,a,HB⟩:=n_;(try clear hb);(try clear hb2);(try clear hk);(try clear hi);(try clear l);obtain⟨ao,ap⟩:=qc2 a.out;have aB:=Qdg a.out;obtain⟨Ao35,co35,eo35⟩:=Kd.R_slice b.out;subst eo35) |((with_reducible refine Qhw (f:=35) rfl ?_);refine Qfz (some 34) rfl rfl Tryz.func35 qq_5 rfl #[.agg #[.int .u8 c,.int .u32 d],.slice Ao35 n.length co35] rfl qq_1 ?_;(with_reducible refine(Qbo.calls kj2 c d _ _ n z s _ ?side1 ?side2 af.out).mono ?_);(case side1=>repeat(first|exact(Kd.R_reads' b.out).2.2 |(with_reducible refine Kd.C_alloc ?_ _) |(with_reducible refine Kd.C_drewN ?_ _) |(with_reducible refine Kd.C_drew ?_)));(case side2=>exact(Kd.R_reads' b.out).2.1);rintro e aN ⟨ah,rfl,l,hb⟩;refine⟨_,rfl,?_⟩;have n_:=qn4 (Kd.R_below (by(with_reducible repeat(first|apply Kd.R_alloc|apply Kd.R_drewN|apply Kd.R_drew));exact b.out) hb) (Kd.R_lower l (Qer qq_b)) (Qds (g:=j) (o:=.cells #[.int .u8 c,.int .u32 d] 40 (0,0)) qq_0 hb) (Qes qq_b hb);clear b a HB;obtain⟨b,m,a,HB⟩:=n_;(try clear hb);(try clear hb2);(try clear hk);(try clear hi);(try clear l)))
      go_ret
      exact⟨qq_4,qq_b⟩
    ·rw[if_neg v]at H;have Z:(p == 0)=false:=beq_eq_false_iff_ne.mpr v;have aa:(p != 0)=true:=bne_iff_ne.mpr v;obtain rfl:=Option.some.inj H
     go_wp2_with (first |((with_reducible refine Qhw (f:=14) rfl ?_);refine Qfz (some 19) rfl rfl Tryz.func14 qq_5 rfl #[.int .u8 a0] rfl qq_1 ?_;(with_reducible refine(Qat.calls a0 c d _ O.out).mono ?_);rintro e aO ⟨rfl,hb⟩;refine⟨_,rfl,?_⟩;have n_:=qn1 (Qes qq_b hb);clear HB;have HB:=n_;clear n_;(try clear hb);(try clear hb2);(try clear hk);(try clear hi)) |((with_reducible refine Qfc (N:=5) rfl ?_);refine qq_e 5 #[.int .u8 0,.int .u32 0] 40 ?_;intro j hg aP hbox hb;have n_:=qn4 (Qes qq_b hb) (hbox) (qq_s hg:w.heap.size≤j) (qq_s hg:w.heap.size≤j);clear HB;obtain⟨HB,a,G,I⟩:=n_;clear hb hbox hg;obtain⟨aq,ar⟩:=qc2 a.out;have aC:=Qdg a.out) |((with_reducible refine Qhw (f:=20) rfl ?_);refine Qfz (some 23) rfl rfl Tryz.func20 qq_5 rfl #[.agg #[.int .u8 c,.int .u32 d],.slice A1 l1.length c1] rfl qq_1 ?_;(with_reducible refine(Qbm.calls kj2 c d _ _ l1 n p _ ?side1 ?side2 T.out).mono ?_);(case side1=>exact Kd.C_below B.out qq_b);(case side2=>exact D.out);rintro e aQ ⟨Y,rfl,l,hb⟩;refine⟨_,rfl,?_⟩;have n_:=qn3 (Kd.R_lower l (Qer qq_b)) (Qds (g:=j) (o:=.cells #[.int .u8 c,.int .u32 d] 40 (0,0)) qq_x hb) (Qes qq_b hb);clear a HB;obtain⟨b,a,HB⟩:=n_;(try clear hb);(try clear hb2);(try clear hk);(try clear hi);(try clear l);obtain⟨Ao41,co41,eo41⟩:=Kd.R_slice b.out;subst eo41))
     go_ret
     exact⟨qq_4,qq_b⟩
end Go.Proofs.YtepkfjmjidjedaaGreat.C
end
section
namespace Go.Proofs.YtepkfjmjidjedaaGreat.Open
open Go.RowKit Go.Proofs.YtepkfjmjidjedaaGreatW.PrintWords Go.ChangeShapes Go.WideShapes Go.Deep
structure Opens (P:Program) (t:TypeId) {α:Type} (d:Kd α) (G:α→Prop):Prop where
  sz:P.cellsOf t=d.sz
  out:∀ {H:Type} {enc:TypeId × Value→H} {w:World} {base:Nat} {spare:Nat→Bool} {held:Bool} {fuel:Nat} {cs:List Value} {x:DataW H × List MemPlace},
    DataW.trod enc P w base spare held fuel t cs=some x→(∀n∈DataW.weights P t x.1,n≤reachBytes)→∃v,d.K w v cs∧G v
theorem Qty{P:Program}{t:TypeId}(ht:P.underlying t=some .bool)(hc:P.cellsOf t=1):Opens P t Kd.bool (fun _=>True) :=
 ⟨hc,fun h _=>by
  obtain⟨b,rfl,_⟩:=DataW.trod_bool ht h
  exact⟨b,rfl,trivial⟩⟩
theorem Qtz{P:Program}{t:TypeId}{k:IntKind}(ht:P.underlying t=some (.int k))(hc:P.cellsOf t=1):Opens P t (Kd.int k) (fun n=>(Lit.int k n).wf=true) :=
 ⟨hc,fun h _=>by
  obtain⟨b,rfl,_,hw⟩:=DataW.trod_int ht h
  exact⟨b,rfl,hw⟩⟩
theorem Qua{P:Program}{t:TypeId}(ht:P.underlying t=some .string)(hc:P.cellsOf t=1):Opens P t Kd.string (fun s=>s.size≤140737488351232) :=
 ⟨hc,fun h hs=>by
  obtain⟨b,rfl,rfl,hw⟩:=DataW.trod_string ht h
  refine⟨b,rfl,?_⟩
  have:=hs b.data.toList.length (by simp[DataW.weights])
  simpa [reachBytes]using this⟩
theorem Qub{H:Type}{P:Program}{e:TypeId}{n:Nat}:∀ {ds:List (DataW H)} {d:DataW H},d∈ds→n∈DataW.weights P e d→n∈DataW.weightsAll P e ds
 | [],_,h,_=>by simp at h
 | a :: r,d,h,hn=>by
  simp only[DataW.weightsAll]
  rcases List.mem_cons.1 h with rfl|h
  ·exact List.mem_append_left _ hn
  ·exact List.mem_append_right _ (Qub h hn)
theorem Quc{P:Program}{t e:TypeId}{α:Type}{d:Kd α}{G:α→Prop}{B:Nat}(ht:P.underlying t=some (.slice e))(hc:P.cellsOf t=1)(hB:P.bytesOf e=B)(he:Opens P e d G) :
  Opens P t (Kd.slice e d) (fun xs=>xs.length*B≤140737488351232∧∀x∈xs,G x) :=
 ⟨hc, fun {H enc w base spare held fuel cs x} h hs=>by
  rcases open_slice ht h with⟨rfl,rfl⟩ |⟨a,len,cap,m,n,D,Pl,rfl,hb,hl,hm,hmm,rfl,hx⟩
  ·exact⟨[],⟨none,0,rfl,Nat.zero_le _,rfl,by simp,fun hp=>absurd hp (by simp)⟩,by simp,by simp⟩
  have hlm:len≤m:=by rw[hmm];split<;>omega
  have hw:∀i,i<len→∃v,(∃cs',w.cells? base (a.add (i*P.cellsOf e)) (P.cellsOf e)=some cs'∧d.K w v cs')∧G v:=by
   intro i hi
   obtain⟨cs',h1,h2⟩:=hx i (by omega)
   obtain⟨v,hv,hg⟩:=he.out h2 (fun q hq=>hs q (by
    simp only[DataW.weights,ht]
    refine List.mem_cons_of_mem _ (List.mem_append_left _ (Qub (d:=D i) ?_ hq))
    exact List.mem_map.2 ⟨i,List.mem_range.2 hi,rfl⟩))
   exact⟨v,⟨cs',h1,hv⟩,hg⟩
  have hw':∃xs:List α,xs.length=len∧∀i p,xs[i]? = some p→(∃cs',w.cells? base (a.add (i*P.cellsOf e)) (P.cellsOf e)=some cs'∧d.K w p cs')∧G p:=by
   clear hs hx hmm hlm hm hl h
   induction len with
   | zero=>exact⟨[],rfl,by simp⟩
   | succ q ih =>
    obtain⟨xs,hxl,hxs⟩:=ih (fun i hi=>hw i (by omega))
    obtain⟨v,hv⟩:=hw q (by omega)
    refine⟨xs++[v],by simp[hxl],fun i p hp=>?_⟩
    rcases Nat.lt_or_ge i xs.length with hi|hi
    ·rw[List.getElem?_append_left hi]at hp
     exact hxs i p hp
    ·have:i=q:=by
      have:=(List.getElem?_eq_some_iff.1 hp).1
      simp at this
      omega
     subst this
     rw[← hxl]at hp
     have:v=p:=by simpa using hp
     subst this
     exact hv
  obtain⟨xs,hxl,hxs⟩:=hw'
  have hlen:len*B≤140737488351232:=by
   have:=hs ((((List.range len).map D).length+((List.range (m-len)).map fun j=>D (len+j)).length)*P.bytesOf e) (by simp[DataW.weights,ht])
   rw[hB]at this
   have h2:(((List.range len).map D).length+((List.range (m-len)).map fun j=>D (len+j)).length)=m:=by simp;omega
   rw[h2]at this
   have h3:m*B≤140737488351232:=by simpa [reachBytes]using this
   exact Nat.le_trans (Nat.mul_le_mul_right _ hlm) h3
  refine⟨xs,⟨some a,cap,by rw[hxl],by rw[hxl];exact hl,rfl,?_,fun hp=>⟨a,rfl,fun j p hj=>?_⟩⟩,by rw[hxl];exact hlen,fun x hx=>?_⟩
  ·rw[hxl]
   exact Nat.le_trans hl (by simpa [maxLen]using hm)
  ·obtain⟨⟨cs',h1,h2⟩,_⟩:=hxs j p hj
   obtain⟨_,hcl,hcc⟩:=World.cells?_some h1
   refine⟨cs',by rw[hcl,he.sz],h2,fun i u hu=>?_⟩
   have hi:i<P.cellsOf e:=by rw[← hcl];exact(List.getElem?_eq_some_iff.1 hu).1
   rw[he.sz]at hcc hi
   have:=hcc i hi
   rw[Go.Deep.add_add]at this
   rw[this,hu]
  ·obtain⟨i,hi⟩:=List.getElem?_of_mem hx
   exact(hxs i x hi).2⟩
structure OpensFs (P:Program) (ts:List TypeId) {α:Type} (d:Kd α) (G:α→Prop):Prop where
  sz:(ts.map P.cellsOf).sum=d.sz
  out:∀ {H:Type} {enc:TypeId × Value→H} {w:World} {base:Nat} {spare:Nat→Bool} {held:Bool} {fuel:Nat} {cs:List Value} {xs:List (DataW H × List MemPlace)},
    cs.length=(ts.map P.cellsOf).sum→xs.length=ts.length →
    (∀i t,ts[i]? = some t→DataW.trod enc P w base spare held fuel t ((cs.drop ((ts.take i).map P.cellsOf).sum).take (P.cellsOf t))=xs[i]?) →
    (∀n∈DataW.weightsEach P ts (xs.map (·.1)),n≤reachBytes)→∃v,d.K w v cs∧G v
theorem OpensFs.one{P:Program}{t:TypeId}{α:Type}{d:Kd α}{G:α→Prop}(h:Opens P t d G):OpensFs P [t] d G :=
 ⟨by simp[h.sz],fun {H enc w base spare held fuel cs xs} hl hx ht hs=>by
  match xs,hx with
  | [x],_ =>
   have h0:=ht 0 t rfl
   simp at hl h0
   rw[List.take_of_length_le (by omega)]at h0
   exact h.out h0 (fun n hn=>hs n (by simp[DataW.weightsEach,hn]))⟩
theorem OpensFs.cons{P:Program}{t:TypeId}{ts:List TypeId}{α β:Type}{d:Kd α}{G:α→Prop}{d':Kd β}{G':β→Prop}(h:Opens P t d G)(r:OpensFs P ts d' G'):OpensFs P (t :: ts) (Kd.pair d d') (fun x=>G x.1∧G' x.2) :=
 ⟨by simp[h.sz,r.sz,Kd.pair],fun {H enc w base spare held fuel cs xs} hl hx ht hs=>by
  match xs,hx with
  | x :: xs,hx =>
   have h0:=ht 0 t rfl
   simp at hl h0 hx
   obtain⟨a,ha,hga⟩:=h.out h0 (fun n hn=>hs n (by simp[DataW.weightsEach,hn]))
   obtain⟨b,hb,hgb⟩:=r.out (enc:=enc) (w:=w) (base:=base) (spare:=spare) (held:=held) (fuel:=fuel) (cs:=cs.drop (P.cellsOf t)) (xs:=xs) (by rw[List.length_drop];omega) hx
    (fun i t' hi=>by
     have:=ht (i+1) t' (by simpa using hi)
     simp only[List.take_succ_cons,List.map_cons,List.sum_cons,List.getElem?_cons_succ]at this
     rw[List.drop_drop]
     exact this)
    (fun n hn=>hs n (by simp only[List.map_cons,DataW.weightsEach];exact List.mem_append_right _ hn))
   exact⟨(a,b),⟨cs.take (P.cellsOf t),cs.drop (P.cellsOf t),by simp,ha,hb⟩,hga,hgb⟩⟩
def Qud(P:Program):Nat→List Field→Bool
 | _,[]=>true
 | o,f :: r=>(f.offset == o) && Qud P (o+P.cellsOf f.type) r
theorem Que{P:Program}:∀ {fs:List Field} {o:Nat},Qud P o fs=true→∀i f,fs[i]? = some f→f.offset=o+(((fs.map (·.type)).take i).map P.cellsOf).sum
 | [],_,_,i,f,h=>by simp at h
 | g :: r,o,h,0,f,hf=>by
  simp[Qud]at h
  simp at hf
  subst hf
  simp[h.1]
 | g :: r,o,h,i+1,f,hf=>by
  simp[Qud]at h
  have:=Que h.2 i f (by simpa using hf)
  simp[this]
  omega
theorem Quf{P:Program}{t:TypeId}{fs:Array Field}{α β:Type}{d:Kd α}{G:α→Prop}(ht:P.underlying t=some (.struct fs))(hl:Qud P 0 fs.toList=true)(hc:P.cellsOf t=d.sz)
  (r:OpensFs P (fs.toList.map (·.type)) d G) (f:β→α) (g:α→β) (hfg:∀a,f (g a)=a):Opens P t (Kd.iso d f) (fun x=>G (f x)) :=
 ⟨hc,fun {H enc w base spare held fuel cs x} h hs=>by
  obtain⟨xs,n,rfl,rfl,hcl,hxl,hx⟩:=DataW.trod_struct ht h
  obtain⟨v,hv,hg⟩:=r.out (enc:=enc) (w:=w) (base:=base) (spare:=spare) (held:=held) (fuel:=n) (cs:=cs) (xs:=xs) (by rw[hcl,hc,r.sz]) (by simp[hxl])
   (fun i t' hi=>by
    rw[List.getElem?_map]at hi
    cases hf:fs.toList[i]? with
    | none=>simp[hf]at hi
    | some fd =>
     simp[hf]at hi
     subst hi
     have:=hx i fd (by simpa using hf)
     rw[Que hl i fd hf,Nat.zero_add]at this
     exact this)
   (fun q hq=>hs q (by simp only[DataW.weights,ht];exact hq))
  exact⟨g v,by show d.K w (f (g v)) cs;rw[hfg];exact hv,by show G (f (g v));rw[hfg];exact hg⟩⟩
theorem Qug{H:Type}{P:Program}:∀ {ts:List TypeId} {ds:List (DataW H)} {j:Nat} {t:TypeId} {d:DataW H},(DataW.weightsEach P ts ds).all (·≤reachBytes)=true→ts[j]? = some t→ds[j]? = some d→∀n∈DataW.weights P t d,n≤reachBytes
 | [],_,_,_,_,_,h,_=>by simp at h
 | _ :: _,[],_,_,_,_,_,h=>by simp at h
 | t0 :: ts,d0 :: ds,0,t,d,hz,h1,h2=>by
  simp at h1 h2
  subst h1 h2
  intro n hn
  simp only[DataW.weightsEach]at hz
  exact of_decide_eq_true (List.all_eq_true.1 hz n (List.mem_append_left _ hn))
 | t0 :: ts,d0 :: ds,j+1,t,d,hz,h1,h2=>by
  simp only[DataW.weightsEach]at hz
  refine Qug (ts:=ts) (ds:=ds) (j:=j) ?_ (by simpa using h1) (by simpa using h2)
  rw[List.all_append]at hz
  exact(Bool.and_eq_true _ _ ▸ hz).2
theorem Quh{H:Type}{enc:TypeId × Value→H}{P:Program}{w:World}{base:Nat}{spare:Nat→Bool}{held:Bool}{t e:TypeId}{α:Type}{d:Kd α}{G:List α→Prop}(op:Opens P t (Kd.slice e d) G){a:Option Addr}{len cap:Nat}{x:DataW H}{ps:List MemPlace}
  (h:DataW.Trod enc P w base spare held t (.slice a len cap) x ps) (hs:∀n∈DataW.weights P t x,n≤reachBytes):∃l:List α,len=l.length∧l.length≤cap∧d.C w a l.length l∧G l:=by
 obtain⟨fuel,hf⟩:=h
 obtain⟨l,⟨A,c,he,hc,hr⟩,hg⟩:=op.out hf hs
 have he':[Value.slice a len cap]=[.slice A l.length c]:=by simpa [Value.cells]using he
 simp only[List.cons.injEq,Value.slice.injEq,and_true]at he'
 obtain⟨rfl,rfl,rfl⟩:=he'
 exact⟨l,rfl,hc,hr,hg⟩
end Go.Proofs.YtepkfjmjidjedaaGreat.Open
end
section
namespace Go.Proofs.YtepkfjmjidjedaaGreat.C
open Go.RowKit Go.Proofs.YtepkfjmjidjedaaGreatW.PrintWords Go.Proofs.YtepkfjmjidjedaaGreatW.PrintLast Go.Proofs.YtepkfjmjidjedaaGreatW.PrintMore Go.Proofs.YtepkfjmjidjedaaGreat.Open
theorem opT4:Opens Tryz.prog 4 Kd.bool (fun x=>True):=Qty Tryz.underlying4 (by kernel_rfl)
theorem opT32:Opens Tryz.prog 32 (Kd.int .u64) (fun x=>(Lit.int .u64 x).wf=true):=Qtz Tryz.underlying32 (by kernel_rfl)
theorem opT9:Opens Tryz.prog 9 Kd.string (fun x=>x.size≤140737488351232):=Qua Tryz.underlying9 (by kernel_rfl)
def OG36(x:S36):Prop:=True∧(Lit.int .u64 x.f1).wf=true∧x.f2.size≤140737488351232∧x.f3.size≤140737488351232
theorem opT36:Opens Tryz.prog 36 k36 (fun x=>OG36 x):=Quf Tryz.underlying36 (by kernel_rfl) (by kernel_rfl) (OpensFs.cons opT4 (OpensFs.cons opT32 (OpensFs.cons opT9 (OpensFs.one opT9)))) (fun x:S36=>(x.f0,x.f1,x.f2,x.f3)) (fun p=>⟨p.1,p.2.1,p.2.2.1,p.2.2.2⟩) (fun _=>rfl)
theorem opT22:Opens Tryz.prog 22 (Kd.slice 36 k36) (fun x=>(x.length*48≤140737488351232∧∀z1∈x,OG36 z1)):=Quc (B:=48) Tryz.underlying22 (by kernel_rfl) (by kernel_rfl) opT36
def Qav.Pure:Prop:=∀(x0:Int) (x1:List (S36)),(Lit.int .u8 x0).wf=true→(x1.length*48≤140737488351232∧∀z2∈x1,OG36 z2)→∃k,Qav.f k x0 x1=some true
end Go.Proofs.YtepkfjmjidjedaaGreat.C
end
section
namespace Go.Proofs.YtepkfjmjidjedaaGreat.CodecP
open Go.RowKit Go.Proofs.YtepkfjmjidjedaaGreat.C Go.Proofs.YtepkfjmjidjedaaGreatW.PrintWords Go.Proofs.YtepkfjmjidjedaaGreatW.PrintLast Go.Proofs.YtepkfjmjidjedaaGreatW.PrintMore
theorem Qxb(j:Nat)(x b:Int)(hj:j≤9)(d:0≤x)(hx:x<128^j)(hb0:0≤b)(hb:b<256)(h9:j=9→b≤1) :
  Go.bits .or .u64 x (shl .u64 (IntKind.u64.wrap (Go.bits .andNot .u8 b 128)) (7*(j:Int)))=x+128^j*(b%128):=by
 have e0:Go.bits .andNot .u8 b 128=b%128:=by
  have h:∀n:Fin 256,Go.bits .andNot .u8 ((n.val:Nat):Int) 128=((n.val:Nat):Int)%128:=by decide +kernel
  obtain⟨n,rfl⟩:=Int.eq_ofNat_of_zero_le hb0;exact h ⟨n,by omega⟩
 have hc:b%128<128∧0≤b%128∧(j=9→b%128≤1):=⟨by omega,by omega,fun h=>by have:=h9 h;omega⟩;rw[e0,IntWalk.u64_in _ (by omega)];generalize b%128=c at hc ⊢;obtain⟨hc1,hc0,hc9⟩:=hc;obtain⟨a,rfl⟩:=Int.eq_ofNat_of_zero_le d;obtain⟨c,rfl⟩:=Int.eq_ofNat_of_zero_le hc0;have hp:(128:Nat)^j=2^(7*j):=by rw[Nat.pow_mul]
 have ha:a<2^(7*j):=by
  rw[← hp]
  exact_mod_cast hx
 have hbig:c*2^(7*j)<2^64:=by
  by_cases h:j=9
  ·subst h;have:=hc9 rfl;have e:(2:Nat)^(7*9)=9223372036854775808:=by decide
   rw[e];omega
  ·have h1:c*2^(7*j)<2^7*2^(7*j):=Nat.mul_lt_mul_of_pos_right (by omega) (Nat.two_pow_pos _);have h2:(2:Nat)^7*2^(7*j)≤2^64:=by rw[← Nat.pow_add];exact Nat.pow_le_pow_right (by omega) (by omega)
   omega
 have ha2:a<2^64:=by
  have h2:(2:Nat)^(7*j)≤2^64:=Nat.pow_le_pow_right (by omega) (by omega);omega
 rw[show(7*(j:Int))=((7*j:Nat):Int)by push_cast;rfl];unfold shl;rw[show min ((7*j:Nat):Int).toNat IntKind.u64.bits=7*j by simp[IntKind.bits];omega,IntKind.wrap_u64];have e1:((c:Int)*2^(7*j))%18446744073709551616=((2^(7*j)*c:Nat):Int):=by
  have e2:((c:Int)*2^(7*j))=((c*2^(7*j):Nat):Int):=by push_cast;rfl
  rw[e2,Nat.mul_comm (2^(7*j)) c];omega
 rw[e1,bits_or_u64_nat _ _ (by omega) (by rw[Nat.mul_comm];omega),Nat.or_comm,← Nat.two_pow_add_eq_or_of_lt ha];have e3:((128:Int)^j*(c:Int))=((128^j*c:Nat):Int):=by push_cast;rfl
 rw[e3,hp];omega
theorem Qxc{bs:List Int}{i:Nat}(h:i<bs.length):bs.drop i=rd bs (i:Int) :: bs.drop (i+1):=by rw[rd_get h];exact List.drop_eq_getElem_cons h
theorem Qxd{bs:List Int}{i:Nat}{c:Int}{t:List Int}(h:bs.drop i=c :: t):i<bs.length∧rd bs (i:Int)=c∧bs.drop (i+1)=t:=by
 have hi:i<bs.length:=by
  rcases Nat.lt_or_ge i bs.length with h1|h1
  ·exact h1
  ·rw[List.drop_eq_nil_of_le h1]at h;cases h
 rw[Qxc hi]at h
 cases h
 exact⟨hi,rfl,rfl⟩
theorem p128(j:Nat)(h:j≤8):(128:Int)^j≤72057594037927936:=by
 have k:∀j:Fin 9,(128:Int)^j.val≤72057594037927936:=by decide +kernel
 exact k ⟨j,by omega⟩
theorem Qxe(j:Nat):0<(128:Int)^j:=Int.pow_pos (by decide)
theorem Qxf(bs:List Int)(hb:Bytes bs):∀(n j i:Nat) (x r i1:Int),n+j=9→0≤x→x<128^j→Qqh bs (n+1) (j:Int) (i:Int) x=.ok (r,i1) →
  ∃y:Int,0≤y∧(0<j→y≠0)∧r=x+128^j*y∧r<18446744073709551616∧i1=((i+(vput n y).length:Nat):Int)∧bs.drop i=vput n y++bs.drop (i+(vput n y).length)
 | n, j,i,x,r,i1,hnj,hx0,hx1,h=>by
  have hpos:=Qxe j;unfold Qqh at h
  by_cases hi:(i:Int)<(bs.length:Int)
  ·rw [if_pos hi]at h;have hd:=rd_range hb (show i<bs.length by omega);have hdrop:=Qxc (show i<bs.length by omega)
   by_cases c1:(j:Int)=9∧1<rd bs (i:Int)
   ·rw[if_pos c1]at h;cases h
   ·rw [if_neg c1]at h;have h9:j=9→rd bs (i:Int)≤1:=fun hj=>by omega
    rw[Qxb j x (rd bs (i:Int)) (by omega) hx0 hx1 hd.1 hd.2 h9]at h;generalize rd bs (i:Int)=b at *;have hm:(128:Int)^j*(b%128)≤128^j*127:=Int.mul_le_mul_of_nonneg_left (by omega) (by omega);have hm0:0≤(128:Int)^j*(b%128):=Int.mul_nonneg (by omega) (by omega)
    by_cases c2:128≤b
    ·rw[if_pos c2]at h
     cases n with
     | zero=>have:=h9 (by omega);omega
     | succ n =>
      have h':Qqh bs (n+1) ((j+1:Nat):Int) ((i+1:Nat):Int) (x+128^j*(b%128))=.ok (r,i1):=by push_cast;exact h
      have hp:(128:Int)^(j+1)=128^j*128:=Int.pow_succ ..;obtain⟨y,a,hyn,hr,hr1,hi1,hdr⟩:=Qxf bs hb n (j+1) (i+1) _ r i1 (by omega) (by omega) (by rw[hp];omega) h';have hy:=hyn (by omega);have hv:vput (n+1) (b%128+128*y)=b :: vput n y:=by
       rw[vput,if_neg (by omega),show(b%128+128*y)%128+128=b by omega,show(b%128+128*y)/128=y by omega]
      refine⟨b%128+128*y,by omega,fun _=>by omega,?_,hr1,?_,?_⟩
      ·rw[hr,hp,Int.mul_add,← Int.mul_assoc];omega
      ·rw[hv,hi1,List.length_cons];congr 1;omega
      ·rw[hv,hdrop,hdr,List.length_cons,List.cons_append,show i+1+(vput n y).length=i+((vput n y).length+1)by omega]
    ·rw[if_neg c2]at h
     by_cases c3:b=0∧(0:Int)<(j:Int)
     ·rw[if_pos c3]at h;cases h
     ·rw[if_neg c3]at h
      cases h
      have e:b%128=b:=by omega
      have hv:vput n b=[b]:=by
       cases n with
       | zero=>rfl
       | succ n=>rw[vput,if_pos (by omega)]
      refine⟨b,hd.1,fun hj hb0=>c3 ⟨hb0,by omega⟩,by rw[e],?_,by rw[hv];rfl,by rw[hv,hdrop];rfl⟩
      by_cases hj:j=9
      ·subst hj;have:=h9 rfl;have e9:(128:Int)^9=9223372036854775808:=by decide
       rw[e,e9];rw[e9]at hx1;omega
      ·have:=p128 j (by omega);omega
  ·rw[if_neg hi]at h;cases h
theorem Qxg(bs:List Int)(hb:Bytes bs):∀(n j i:Nat) (x y:Int) (t:List Int),n+j=9→0≤x→x<128^j→0≤y→(0<j→y≠0)→x+128^j*y<18446744073709551616→bs.drop i=vput n y++t →
  Qqh bs (n+1) (j:Int) (i:Int) x=.ok (x+128^j*y,((i+(vput n y).length:Nat):Int))
 | n,j,i,x,y,t,hnj,hx0,hx1,hy0,hyn,hlt,h=>by
  have hpos:=Qxe j;have h9:j=9→y≤1:=fun hj=>by
   subst hj;have e9:(128:Int)^9=9223372036854775808:=by decide
   rw[e9]at hlt;omega
  by_cases hs:y<128
  ·have hv:vput n y=[y]:=by
    cases n with
    | zero=>rfl
    | succ n=>rw[vput,if_pos hs]
   rw[hv]at h ⊢;obtain⟨hi,hr,_⟩:=Qxd h;unfold Qqh;rw[if_pos (by omega),hr,if_neg (fun c=>by have:=h9 (by omega);omega),if_neg (by omega),if_neg (fun c=>hyn (by omega) c.1),Qxb j x y (by omega) hx0 hx1 hy0 (by omega) h9,show y%128=y by omega];rfl
  ·cases n with
   | zero=>have:=h9 (by omega);omega
   | succ n =>
    have hv:vput (n+1) y=(y%128+128) :: vput n (y/128):=by rw[vput,if_neg hs]
    rw[hv]at h ⊢;obtain⟨hi,hr,ht⟩:=Qxd h;have hp:(128:Int)^(j+1)=128^j*128:=Int.pow_succ ..;have hm:(128:Int)^j*(y%128)≤128^j*127:=Int.mul_le_mul_of_nonneg_left (by omega) (by omega);have hm0:0≤(128:Int)^j*(y%128):=Int.mul_nonneg (by omega) (by omega);have hsplit:x+128^j*(y%128)+128^(j+1)*(y/128)=x+128^j*y:=by
     have e:y=y%128+128*(y/128):=by omega
     have e2:(128:Int)^j*y=128^j*(y%128)+128^j*(128*(y/128)):=by rw[← Int.mul_add,← e]
     rw[e2,hp,Int.mul_assoc];omega
    have ih:=Qxg bs hb n (j+1) (i+1) (x+128^j*(y%128)) (y/128) t (by omega) (by omega) (by rw[hp];omega) (by omega) (fun _=>by omega) (by rw[hsplit];exact hlt) ht;unfold Qqh;rw[if_pos (by omega),hr,if_neg (fun c=>by omega),if_pos (by omega),Qxb j x (y%128+128) (by omega) hx0 hx1 (by omega) (by omega) (fun hj=>by omega),show(y%128+128)%128=y%128 by omega];rw[hsplit]at ih
    push_cast at ih
    rw[ih,List.length_cons]
    congr 2
    push_cast
    omega
theorem Qxh{bs:List Int}(hb:Bytes bs){i:Nat}{n i1:Int}(h:Qqh bs 10 0 (i:Int) 0=.ok (n,i1)):∃m:Nat,i1=(m:Int)∧0≤n∧n<18446744073709551616∧bs.drop i=vput 9 n++bs.drop m∧m=i+(vput 9 n).length:=by
 obtain⟨y,h0,_,h2,h3,h4,h5⟩:=Qxf bs hb 9 0 i 0 n i1 rfl (Int.le_refl _) (by decide) h;obtain rfl:n=y:=by rw[h2];simp
 exact⟨_,h4,h0,h3,h5,rfl⟩
theorem Qxi{bs:List Int}(hb:Bytes bs){i:Nat}{n:Int}{t:List Int}(h0:0≤n)(h1:n<18446744073709551616)(h:bs.drop i=vput 9 n++t):Qqh bs 10 0 (i:Int) 0=.ok (n,((i+(vput 9 n).length:Nat):Int)):=by
 have:=Qxg bs hb 9 0 i 0 n t rfl (Int.le_refl _) (by decide) h0 (fun h=>by omega) (by simpa using h1) h
 simpa using this
theorem Qxj{bs:List Int}(hb:Bytes bs){i:Nat}{least most i2:Int}{xs:List Int}(hl:0≤least)(h:Qqk bs least most (i:Int)=.ok (xs,i2)) :
  ∃m:Nat,i2=(m:Int)∧least≤(xs.length:Int)∧(xs.length:Int)≤most∧bs.drop i=vput 9 (xs.length:Int)++(xs++bs.drop m)∧Bytes xs:=by
 unfold Qqk at h
 cases hv:Qqh bs 10 0 (i:Int) 0 with
 | error p=>rw[hv]at h;cases h
 | ok p =>
  obtain⟨n,i1⟩:=p;obtain⟨m,rfl,h0,h1,hd,hm⟩:=Qxh hb hv;rw[hv]at h;dsimp only at h;split at h
  ·cases h
  ·rename_i c1;split at h
   ·cases h
   ·rename_i c2;split at h
    ·rename_i c3
     cases h
     have hlen:((bs.drop ((m:Int)).toNat).take n.toNat).length=n.toNat:=by rw[List.length_take,List.length_drop];omega
     refine⟨m+n.toNat,by omega,by rw[hlen];omega,by rw[hlen];omega,?_,(hb.drop _).take _⟩;rw[hlen,hd,show((n.toNat:Nat):Int)=n by omega,Int.toNat_natCast,← List.drop_drop,List.take_append_drop]
    ·cases h
theorem Qxk:∀(n:Nat) (x:Int),0<(vput n x).length
 | 0,_=>by simp[vput]
 | n+1,x=>by
  unfold vput;split<;>simp
theorem Qxl{bs:List Int}(hb:Bytes bs){i:Nat}{least most:Int}{xs t:List Int}(h0:least≤(xs.length:Int))(h1:(xs.length:Int)≤most)(hm:most<18446744073709551616)(h:bs.drop i=vput 9 (xs.length:Int)++(xs++t)) :
  Qqk bs least most (i:Int)=.ok (xs,((i+(vput 9 (xs.length:Int)).length+xs.length:Nat):Int)):=by
 have hv:=Qxi hb (Int.natCast_nonneg _) (by omega) h;have hd:bs.drop (i+(vput 9 (xs.length:Int)).length)=xs++t:=by rw[← List.drop_drop,h,List.drop_left]
 have hlen:i+(vput 9 (xs.length:Int)).length+xs.length≤bs.length∨xs=[]:=by
  have:=congrArg List.length hd;rw[List.length_drop,List.length_append]at this
  rcases xs with _ |⟨x,xs⟩
  ·exact Or.inr rfl
  ·exact Or.inl (by simp only[List.length_cons]at this ⊢;omega)
 have hle:i+(vput 9 (xs.length:Int)).length≤bs.length:=by
  have:=congrArg List.length h;rw[List.length_drop,List.length_append]at this;have hne:=Qxk 9 (xs.length:Int);omega
 unfold Qqk;rw[hv];dsimp only;have hle2:i+(vput 9 (xs.length:Int)).length+xs.length≤bs.length:=by
  rcases hlen with h|h
  ·exact h
  ·rw[h]at hle ⊢;simpa using hle
 rw[if_neg (by omega),if_neg (by omega),if_pos (by push_cast;omega),Int.toNat_natCast,Int.toNat_natCast,hd,List.take_left]
 congr 1
theorem Qxm {bs:List Int} (hb:Bytes bs) {d:Bool} {q i:Int} {a b:ByteArray} (h:recL bs=.ok ((d,q,a,b),i)):bs=Qkk d q a b∧chk d a b=0∧0≤q∧q<18446744073709551616:=by
 unfold recL at h
 by_cases h0:(0:Int)<(bs.length:Int)
 ·rw [if_pos h0]at h;have hdrop:bs=rd bs 0 :: bs.drop 1:=Qxc (i:=0) (by omega);have hnum:∀ {xs:List Int},Bytes xs→(strOfNums xs).size=xs.length:=fun hx=>by rw[Qpi,bytesOf_nums hx]
  generalize hr:rd bs 0=k at *
  by_cases hk:k≠2∧k≠3
  ·rw[if_pos hk]at h;cases h
  ·rw [if_neg hk]at h
   cases hv:Qqh bs 10 0 (0+1) 0 with
   | error p=>rw[hv]at h;cases h
   | ok p =>
    obtain⟨q',i2⟩:=p;obtain⟨m2,rfl,hq0,hq1,hd2,_⟩:=Qxh (i:=1) hb hv;rw[hv]at h;dsimp only at h
    cases ht:Qqk bs 1 4096 (m2:Int)with
    | error p=>rw[ht]at h;cases h
    | ok p =>
     obtain⟨xs,i3⟩:=p;obtain⟨m3,rfl,c,g,hd3,hbx⟩:=Qxj hb (by decide) ht;rw[ht]at h;dsimp only at h;have hsx:=hnum hbx;have hkey:¬(strOfNums xs).toList=([]:List UInt8):=fun e=>by
      have:=(Qtf _).1 e;omega
     by_cases hk3:k=3
     ·rw[if_pos hk3]at h
      by_cases hend:(0:Int)<(bs.length:Int)-(m3:Int)
      ·rw[if_pos hend]at h;cases h
      ·rw[if_neg hend]at h
       cases h
       refine⟨?_,?_,hq0,hq1⟩
       ·unfold Qkk;rw[if_pos rfl,if_pos rfl,hsx,bytesOf_nums hbx]
        conv=>lhs;rw[hdrop,hd2,hd3,List.drop_eq_nil_of_le (show bs.length≤m3 by omega),hk3]
        simp
       ·unfold chk;rw[if_neg hkey,if_neg (by rw[hsx];omega),(Qtf (⟨#[]⟩:ByteArray)).2 rfl,if_neg (by decide),if_neg (by decide)]
     ·rw [if_neg hk3]at h;obtain rfl:k=2:=by omega
      cases hu:Qqk bs 0 1048576 (m3:Int)with
      | error p=>rw[hu]at h;cases h
      | ok p =>
       obtain⟨ys,i4⟩:=p;obtain⟨m4,rfl,j,l,hd4,hby⟩:=Qxj hb (by decide) hu;rw[hu]at h;dsimp only at h;have hsy:=hnum hby
       by_cases hend:(0:Int)<(bs.length:Int)-(m4:Int)
       ·rw[if_pos hend]at h;cases h
       ·rw[if_neg hend]at h
        cases h
        refine⟨?_,?_,hq0,hq1⟩
        ·unfold Qkk;rw[if_neg (by decide),if_neg (by decide),hsx,hsy,bytesOf_nums hbx,bytesOf_nums hby]
         conv=>lhs;rw[hdrop,hd2,hd3,hd4,List.drop_eq_nil_of_le (show bs.length≤m4 by omega)]
         simp
        ·unfold chk;rw[if_neg hkey,if_neg (by rw[hsx];omega),if_neg (by simp),if_neg (by rw[hsy];omega)]
 ·rw[if_neg h0]at h;cases h
theorem Qxn{d:Bool}{q:Int}{a b:ByteArray}(h0:0≤q)(h1:q<18446744073709551616)(hc:chk d a b=0):∃i,recL (Qkk d q a b)=.ok ((d,q,a,b),i):=by
 have hca:(0:Int)<a.size∧(a.size:Int)≤4096∧(b.size:Int)≤1048576:=by
  unfold chk at hc;split at hc
  ·cases hc
  ·rename_i c1;rw[Qtf]at c1;split at hc
   ·cases hc
   ·split at hc
    ·cases hc
    ·split at hc
     ·cases hc
     ·omega
 have hb:Bytes (Qkk d q a b):=Qwq d q a b h0 h1 (by omega) (by omega);have hle:(Qkk d q a b)≠[]:=by unfold Qkk;simp
 have hpos:(0:Int)<((Qkk d q a b).length:Int):=by
  have:=List.length_pos_iff.2 hle;omega
 generalize hB:Qkk d q a b=bs at *;have hbody:=hB;unfold Qkk at hbody;have hd0:bs.drop 0=(if d then(3:Int)else 2) :: (vput 9 q++((vput 9 a.size++bytesOf a)++(if d then []else vput 9 b.size++bytesOf b))):=by
  rw[List.drop_zero,← hbody];simp
 obtain⟨_,hr,hd1⟩:=Qxd hd0;have hv:=Qxi hb h0 h1 hd1;have hd2:bs.drop (1+(vput 9 q).length)=vput 9 (((bytesOf a).length:Nat):Int)++(bytesOf a++(if d then []else vput 9 b.size++bytesOf b)):=by
  rw[← List.drop_drop,hd1,List.drop_left,Qpi,List.append_assoc]
 have hla:((bytesOf a).length:Int)=a.size:=by rw[Qpi]
 have hlb:((bytesOf b).length:Int)=b.size:=by rw[Qpi]
 have ht:=Qxl hb (least:=1) (most:=4096) (by omega) (by omega) (by decide) hd2;have hd3:bs.drop (1+(vput 9 q).length+(vput 9 (((bytesOf a).length:Nat):Int)).length+(bytesOf a).length)=(if d then []else vput 9 b.size++bytesOf b):=by
  rw[← List.drop_drop,← List.drop_drop,hd2,List.drop_left,List.drop_left]
 generalize 1+(vput 9 q).length=m2 at *;generalize m2+(vput 9 (((bytesOf a).length:Nat):Int)).length+(bytesOf a).length=m3 at *;have hv':Qqh bs 10 0 (0+1) 0=.ok (q,(m2:Int)):=by simpa using hv
 cases d with
 | true =>
  have hr':rd bs 0=3:=hr;have hd3':bs.drop m3=[]:=hd3;have hlen:=congrArg List.length hd3';rw[List.length_drop,List.length_nil]at hlen;obtain rfl:b=ByteArray.empty:=Qwr hc;unfold recL;rw[if_pos hpos,hr',if_neg (by decide),hv'];dsimp only;rw[ht];dsimp only;rw[Qsx,if_pos rfl,if_neg (by omega)];exact⟨_,rfl⟩
 | false =>
  have hr':rd bs 0=2:=hr;have hd3':bs.drop m3=vput 9 (((bytesOf b).length:Nat):Int)++(bytesOf b++[]):=by rw[hd3,hlb];simp
  have hu:=Qxl hb (least:=0) (most:=1048576) (by omega) (by omega) (by decide) hd3';have hlen:=congrArg List.length hd3';rw[List.length_drop,List.length_append,List.length_append,List.length_nil]at hlen;unfold recL;rw[if_pos hpos,hr',if_neg (by decide),hv'];dsimp only;rw[ht];dsimp only;rw[Qsx,if_neg (by decide),hu];dsimp only;rw[Qsx,if_neg (by push_cast;omega)];exact⟨_,rfl⟩
theorem Qxo:Bytes []:=fun x hx=>nomatch hx
def unsF:Nat→List Int→Option (List Int)
 | _,[]=>some []
 | 0,_ :: _=>none
 | k+1,c :: t=>if t.length+1<c.toNat then none else(unsF k (t.drop (c.toNat-1))).map (fun d=>t.take (c.toNat-1)++(if c<255∧t.drop (c.toNat-1)≠[]then 0 :: d else d))
theorem Qxp(k:Nat):unsF k []=some []:=by cases k<;>rfl
theorem Qxq:∀(n:Nat) (b:List Int) (k:Nat),b.length≤n→Bytes b→(Qjq b).length≤k→unsF k (Qjq b)=some b
 | n,b,k,hn,hb,hk=>by
  rcases Qwd hb with⟨a,r,rfl,hf,hl,e⟩ |⟨a,r,rfl,hf,hl,hr,e⟩ |⟨hf,hl,e⟩
  ·rw[List.length_append,List.length_cons]at hn;rw[e,List.length_cons,List.length_append]at hk
   match n,k,hn,hk with
   | n+1,k+1,hn,hk =>
    have ih:=Qxq n r k (by omega) hb.right.tail (by omega);have hs:=Qwe _ r (Nat.le_refl _) hb.right.tail;have hc:((a.length:Int)+1).toNat-1=a.length:=by omega
    rw[e,unsF,hc,List.take_left' rfl,List.drop_left' rfl,if_neg (by rw[List.length_append];omega),ih,Option.map_some,if_pos ⟨by omega,hs.2.2⟩]
  ·rw[List.length_append]at hn;rw[e,List.length_cons,List.length_append]at hk
   match n,k,hn,hk with
   | 0,k,hn,hk=>omega
   | n+1,k+1,hn,hk =>
    have ih:=Qxq n r k (by omega) hb.right (by omega);have hc:(255:Int).toNat-1=a.length:=by omega
    rw[e,unsF,hc,List.take_left' rfl,List.drop_left' rfl,if_neg (by rw[List.length_append];omega),ih,Option.map_some,if_neg (fun h=>by omega)]
  ·rw[e,List.length_cons]at hk;obtain⟨k,rfl⟩:∃m,k=m+1:=⟨k-1,by omega⟩;have hc:((b.length:Int)+1).toNat-1=b.length:=by omega
   rw[e,unsF,hc,List.take_of_length_le (Nat.le_refl _),List.drop_of_length_le (Nat.le_refl _),if_neg (by omega),Qxp,Option.map_some,if_neg (fun h=>h.2 rfl),List.append_nil]
def unsR(acc rest c:List Int)(j:Nat):List Int × Int:=match unsF j rest with
 | none=>([],2)
 | some d=>if Qjq (acc++d)=c then(acc++d,0)else([],4)
theorem Qxr(c:List Int)(hc:Bytes c)(hcl:c.length≤1000000000):∀(j k:Nat) (acc rest:List Int),rest.length≤j→Bytes rest→Free rest→Bytes acc→acc.length+rest.length≤c.length→j+2≤k→Qan.l0 k c acc rest=some (unsR acc rest c j)
 | j,k+1,acc,[],hj,hb,hf,ha,hl,hk=>by
  have hs:=Qwe _ acc (Nat.le_refl _) ha;unfold Qan.l0 unsR;rw[Qxp];dsimp only;rw[if_neg (by simp),List.append_nil];unfold Qam.f;rw[if_pos (by simp at hl;omega),Option.bind_some];unfold Qad.f;rw[Option.bind_some]
  by_cases he:Qjq acc=c
  ·rw[if_pos he,if_pos (by rw[he];exact beq_self_eq_true _)]
  ·rw[if_neg he,if_neg (by
    intro h;exact he ((Qti hs.2.1 hc).1 (beq_iff_eq.1 h)))]
 | j + 1,k+1,acc,x :: t,hj,hb,hf,ha,hl,hk=>by
  have hx:=hb x (List.mem_cons_self ..);have b:=hf x (List.mem_cons_self ..);have hw:wrap64 x=x:=by unfold wrap64;omega
  have hrd:rd (x :: t) 0=x:=rfl;obtain⟨m,hm⟩:∃m:Nat,x=(m:Int)+1:=⟨x.toNat-1,by omega⟩;have hxt:x.toNat=m+1:=by omega
  unfold Qan.l0;rw[hrd,hw,if_pos (by simp only[List.length_cons];omega),if_pos (by simp only[List.length_cons];omega)]
  by_cases hsh:t.length<m
  ·rw[if_pos (by simp only[List.length_cons];omega)];unfold unsR;rw[unsF,hxt,if_pos (by omega)]
  ·have e1:((x :: t).take (m+1)).drop 1=t.take m:=by simp
   have e2:(x :: t).drop (m+1)=t.drop m:=by simp
   have hlt:(t.take m).length=m:=by rw[List.length_take];omega
   simp only[List.length_cons]at hj hl;have hba:Bytes (acc++t.take m):=ha.app (hb.tail.take m);have hbt:Bytes (t.drop m):=hb.tail.drop m;have hft:Free (t.drop m):=fun y hy=>hf y (List.mem_cons_of_mem _ (List.mem_of_mem_drop hy))
   have hdl:(t.drop m).length=t.length-m:=List.length_drop;rw[if_neg (by simp only[List.length_cons];omega),if_pos (by omega),if_pos (by simp only[List.length_cons];omega),hxt,e1,e2,Option.bind_some,hlt,if_pos (by omega),Option.bind_some,if_pos (by omega),Option.bind_some];have hu:∀(z:List Int) (hz:z=if x<255∧t.drop m≠[]then [0]else []),unsR acc (x :: t) c (j+1)=unsR (acc++t.take m++z) (t.drop m) c j:=by
    intro z hz;unfold unsR;rw[unsF,hxt,if_neg (by omega),Nat.add_sub_cancel]
    cases unsF j (t.drop m)with
    | none=>rfl
    | some d =>
     simp only[Option.map_some];have:acc++(t.take m++(if x<255∧t.drop m≠[]then 0 :: d else d))=acc++t.take m++z++d:=by
      rw[hz]
      by_cases h:x<255∧t.drop m≠[]
      ·rw[if_pos h,if_pos h];simp
      ·rw[if_neg h,if_neg h];simp
     rw[this]
   by_cases a:x≤254
   ·rw[if_pos a]
    by_cases hne:t.drop m=[]
    ·rw[if_neg (by rw[hne];simp),Qxr c hc hcl j k _ _ (by omega) hbt hft hba (by rw[List.length_append,hlt,hdl];omega) (by omega),hu [] (by rw[if_neg (fun h=>h.2 hne)]),List.append_nil]
    ·have hpos:0<(t.drop m).length:=List.length_pos_iff.2 hne;rw[if_pos (by omega),if_pos (by rw[List.length_append,hlt];omega),Qxr c hc hcl j k _ _ (by omega) hbt hft (hba.app (fun y hy=>by rw[List.mem_singleton.1 hy];omega)) (by rw[List.length_append,List.length_append,hlt,hdl,List.length_singleton];omega) (by omega),hu [0] (by rw[if_pos ⟨by omega,hne⟩])]
   ·rw[if_neg a,Qxr c hc hcl j k _ _ (by omega) hbt hft hba (by rw[List.length_append,hlt,hdl];omega) (by omega),hu [] (by rw[if_neg (fun h=>by omega)]),List.append_nil]
theorem Qxs{c:List Int}(hc:Bytes c)(hf:Free c)(hcl:c.length≤1000000000)(k:Nat)(hk:c.length+5≤k):Qan.f k c=some (if c=[]then([],2)else unsR [] c c c.length):=by
 unfold Qan.f Qae.f;rw[Option.bind_some,Qsz hc hf,if_neg (by decide)]
 by_cases h:c=[]
 ·rw[if_pos h,if_pos (by rw[h];rfl)]
 ·rw[if_neg h,if_neg (fun e=>h (List.length_eq_zero_iff.1 (by omega)))];exact Qxr c hc hcl c.length k [] c (Nat.le_refl _) hc hf (fun x hx=>by cases hx) (by simp) (by omega)
theorem Qxt{c:List Int}{out:List Int}{e:Int}(h:unsR [] c c c.length=(out,e)):e=0→Qjq out=c:=by
 intro he;unfold unsR at h
 cases hu:unsF c.length c with
 | none=>rw[hu]at h;cases h;cases he
 | some d =>
  rw[hu]at h;dsimp only at h
  by_cases hs:Qjq ([]++d)=c
  ·rw[if_pos hs]at h
   cases h
   exact hs
  ·rw[if_neg hs]at h
   cases h
   cases he
theorem Qxu:∀(j:Nat) (rest d:List Int),Bytes rest→unsF j rest=some d→Bytes d∧d.length≤rest.length
 | j,[],d,hb,h=>by rw[Qxp]at h;cases h;exact⟨Qxo,Nat.le_refl _⟩
 | 0,_ :: _,d,hb,h=>by cases h
 | j+1,x :: t,d,hb,h=>by
  rw[unsF]at h;split at h
  ·cases h
  ·obtain⟨d2,h2,rfl⟩:=Option.map_eq_some_iff.1 h;obtain⟨h3,h4⟩:=Qxu j _ d2 (hb.tail.drop _) h2;rw[List.length_drop]at h4;rename_i hle;have hx:=hb x (List.mem_cons_self ..);split
   ·refine⟨(hb.tail.take _).app (h3.cons ⟨by decide,by decide⟩),?_⟩;rename_i hc;have:0<(t.drop (x.toNat-1)).length:=List.length_pos_iff.2 hc.2;rw[List.length_drop]at this;rw[List.length_append,List.length_take,List.length_cons,List.length_cons];omega
   ·refine⟨(hb.tail.take _).app h3,?_⟩;rw[List.length_append,List.length_take,List.length_cons];omega
theorem Qxv{c:List Int}(hc:Bytes c){out:List Int}{e:Int}(h:unsR [] c c c.length=(out,e)):Bytes out∧out.length≤c.length:=by
 unfold unsR at h
 cases hu:unsF c.length c with
 | none=>rw[hu]at h;cases h;exact⟨Qxo,Nat.zero_le _⟩
 | some d =>
  rw[hu]at h;dsimp only at h;split at h
  ·cases h;exact Qxu _ _ _ hc hu
  ·cases h;exact⟨Qxo,Nat.zero_le _⟩
theorem Qxw{b:List Int}(hb:Bytes b):unsR [] (Qjq b) (Qjq b) (Qjq b).length=(b,0):=by
 unfold unsR;rw[Qxq _ b _ (Nat.le_refl _) hb (Nat.le_refl _)];dsimp only;rw[List.nil_append,if_pos rfl]
theorem Qxx:∀(l:List Int),Bytes l→leb (leI l) l.length=l
 | [],_=>rfl
 | b :: l,h=>by
  have hb:=h b (List.mem_cons_self ..);have hr:=(leI_range h.tail).1;simp only[List.length_cons,leb,leI];rw[show(b+256*leI l)%256=b by omega,show(b+256*leI l)/256=leI l by omega,Qxx l h.tail]
theorem Qxy:∀(n:Nat) (x:Int),0≤x→x<256^n→leI (leb x n)=x
 | 0,x,h0,h1=>by simp at h1;simp[leb,leI];omega
 | n+1,x,h0,h1=>by
  rw[Int.pow_succ]at h1;simp only[leb,leI];rw[Qxy n (x/256) (by omega) (by omega)];omega
theorem Qxz(b:List Int):R64 (Qkt 0 b):=by
 unfold Qkt sumP;split<;>(unfold finP;exact bits_r _ _ _)
theorem Qya{c:List Int}(hc:Bytes c)(hf:Free c)(hcl:c.length≤1000000000)(k:Nat)(hk:c.length+5≤k) :
  ∃out e,Qbg.f k c=some (out,e)∧(e=0→Bytes out∧out.length≤c.length∧c++[0]=Qla out)∧(∀b,Bytes b→c++[0]=Qla b→e=0∧out=b):=by
 have hsb:∀b,Bytes b→c++[0]=Qla b→c=Qjq (b++leb (Qkt 0 b) 8):=fun b hb h=>by
  unfold Qla at h;exact List.append_cancel_right h
 have hbl:∀b,Bytes b→Bytes (b++leb (Qkt 0 b) 8):=fun b hb=>hb.app (Qwk 8 _)
 unfold Qbg.f;rw[Qxs hc hf hcl k hk,Option.bind_some]
 by_cases h0:c=[]
 ·rw[if_pos h0,if_neg (by decide)];refine⟨[],2,rfl,fun h=>absurd h (by decide),fun b hb h=>?_⟩;have h1:=hsb b hb h;rw[h0]at h1;exact absurd h1.symm (Qwe _ _ (Nat.le_refl _) (hbl b hb)).2.2
 ·rw [if_neg h0];obtain⟨o,e0,ho⟩:∃o e0,unsR [] c c c.length=(o,e0):=⟨_,_,rfl⟩;rw[ho];obtain⟨hbo,hlo⟩:=Qxv hc ho;have hun:∀b,Bytes b→c++[0]=Qla b→e0=0∧o=b++leb (Qkt 0 b) 8:=fun b hb h=>by
   have h1:=hsb b hb h;have h2:=Qxw (hbl b hb);rw[← h1,ho]at h2
   cases h2
   exact⟨rfl,rfl⟩
  dsimp only
  by_cases he:e0=0
  ·rw [if_pos he,if_pos ⟨hbo,by omega⟩];have hst:=Qxt ho he;unfold openS
   by_cases h8:o.length<8
   ·rw[if_pos h8];refine⟨[],2,rfl,fun h=>absurd h (by decide),fun b hb h=>?_⟩;have h2:=(hun b hb h).2;rw[h2,List.length_append,Qiq]at h8;omega
   ·rw[if_neg h8];have hdl:(o.drop (o.length-8)).length=8:=by rw[List.length_drop];omega
    by_cases hh:leI (o.drop (o.length-8))=Qkt 0 (o.take (o.length-8))
    ·rw[if_pos hh];refine⟨_,0,rfl,fun _=>⟨hbo.take _,by rw[List.length_take];omega,?_⟩,fun b hb h=>⟨rfl,?_⟩⟩
     ·unfold Qla;rw[← hh];have h3:=Qxx (o.drop (o.length-8)) (hbo.drop _);rw[hdl]at h3;rw[h3,List.take_append_drop,hst]
     ·have h2:=(hun b hb h).2;rw[h2,List.length_append,Qiq,Nat.add_sub_cancel,List.take_left' rfl]
    ·rw[if_neg hh];refine⟨[],5,rfl,fun h=>absurd h (by decide),fun b hb h=>?_⟩;have h2:=(hun b hb h).2
     exfalso
     apply hh;have hr:=Qxz b;rw[h2,List.length_append,Qiq,Nat.add_sub_cancel,List.take_left' rfl,List.drop_left' rfl,Qxy 8 _ hr.1 (by have:=hr.2;simpa using this)]
  ·rw[if_neg he];exact⟨[],e0,rfl,fun h=>absurd h he,fun b hb h=>absurd (hun b hb h).1 he⟩
theorem Qyb{c:List Int}(hc:Bytes c)(hf:Free c)(hcl:c.length≤1000000000)(k:Nat)(hk:c.length+5≤k) :
  ∃r1 r2 r3 r4 r5,Qbf.f k c=some (r1,r2,r3,r4,r5)∧(r5=0→okR (⟨r1,r2,r3,r4⟩:Rec)∧c++[0]=Qvn (⟨r1,r2,r3,r4⟩:Rec))∧(∀r',okR r'→c++[0]=Qvn r'→r5=0∧(⟨r1,r2,r3,r4⟩:Rec)=r'):=by
 obtain⟨out,e,ho,h1,h2⟩:=Qya hc hf hcl k hk;unfold Qbf.f;rw[ho,Option.bind_some];dsimp only
 by_cases he:e=0
 ·obtain⟨hbo,hlo,hso⟩:=h1 he;rw[if_pos he];unfold Qby.f;rw[if_pos ⟨hbo,by omega⟩]
  cases hr:recL out with
  | ok p =>
   obtain⟨⟨d,q,a,b⟩,i⟩:=p;obtain⟨e1,e2,e3,e4⟩:=Qxm hbo hr;refine⟨d,q,a,b,0,rfl,fun _=>⟨⟨e2,e3,e4⟩,?_⟩,fun r' hr' hfr=>⟨rfl,?_⟩⟩
   ·rw[hso,e1];rfl
   ·have h3:=(h2 _ (Qwt hr') hfr).2;obtain⟨i2,h4⟩:=Qxn hr'.2.1 hr'.2.2 hr'.1;rw[← h3,hr]at h4
    cases h4
    rfl
  | error p =>
   obtain⟨er,i⟩:=p;refine⟨_,_,_,_,er,rfl,fun h=>absurd h (Qqy hr),fun r' hr' hfr=>?_⟩;have h3:=(h2 _ (Qwt hr') hfr).2;obtain⟨i2,h4⟩:=Qxn hr'.2.1 hr'.2.2 hr'.1;rw[← h3,hr]at h4
   cases h4
 ·rw[if_neg he];exact⟨_,_,_,_,e,rfl,fun h=>absurd h he,fun r' hr' hfr=>absurd (h2 _ (Qwt hr') hfr).1 he⟩
theorem entsL_front(bs:List Int)(i n:Nat):Qro bs i (n+1)=(⟨leI ((bs.drop i).take 8),leI ((bs.drop (i+8)).take 4)⟩:Ent) :: Qro bs (i+12) n:=by
 unfold Qro;rw[List.range_succ_eq_map,List.map_cons,List.map_map]
 congr 1
 refine List.map_congr_left fun j _=>?_
 simp only[Function.comp,Nat.succ_eq_add_one];rw[show i+12*(j+1)=i+12+12*j by omega]
theorem wordsL_front(bs:List Int)(i n:Nat):Qrj bs i (n+1)=leI ((bs.drop i).take 8) :: Qrj bs (i+8) n:=by
 unfold Qrj;rw[List.range_succ_eq_map,List.map_cons,List.map_map]
 congr 1
 refine List.map_congr_left fun j _=>?_
 simp only[Function.comp,Nat.succ_eq_add_one];rw[show i+8*(j+1)=i+8+8*j by omega]
theorem drop_leb{bs t:List Int}{i:Nat}{x:Int}{n:Nat}(h:bs.drop i=leb x n++t):(bs.drop i).take n=leb x n∧bs.drop (i+n)=t:=by
 refine⟨by rw[h,List.take_left' (Qiq _ _)],by rw[← List.drop_drop,h,List.drop_left' (Qiq _ _)]⟩
theorem ents_flat(bs:List Int):∀(t:List Ent) (i:Nat) (rest:List Int),(∀x∈t,wfE x)→bs.drop i=t.flatMap ent++rest→Qro bs i t.length=t∧bs.drop (i+12*t.length)=rest
 | [],i,rest,_,h=>⟨rfl,h⟩
 | x :: t,i,rest,hw,h=>by
  obtain⟨⟨h0,h1⟩,h2,h3⟩:=hw x (List.mem_cons_self ..);rw[List.flatMap_cons]at h;unfold ent at h;rw[List.append_assoc,List.append_assoc]at h;obtain⟨e1,e2⟩:=drop_leb h;obtain⟨e3,e4⟩:=drop_leb e2;obtain⟨e5,e6⟩:=ents_flat bs t (i+12) rest (fun y hy=>hw y (List.mem_cons_of_mem _ hy)) e4;refine⟨?_,?_⟩
  ·rw[List.length_cons,entsL_front,e5,e1,e3,Qxy 8 _ h0 (by simpa using h1),Qxy 4 _ h2 (by simpa using h3)]
  ·rw[List.length_cons,show i+12*(t.length+1)=i+12+12*t.length by omega];exact e6
theorem words_flat(bs:List Int):∀(t:List Int) (i:Nat) (rest:List Int),(∀x∈t,0≤x∧x<18446744073709551616)→bs.drop i=t.flatMap (fun x=>leb x 8)++rest→Qrj bs i t.length=t∧bs.drop (i+8*t.length)=rest
 | [],i,rest,_,h=>⟨rfl,h⟩
 | x :: t,i,rest,hw,h=>by
  obtain⟨h0,h1⟩:=hw x (List.mem_cons_self ..);rw[List.flatMap_cons,List.append_assoc]at h;obtain⟨e1,e2⟩:=drop_leb h;obtain⟨e5,e6⟩:=words_flat bs t (i+8) rest (fun y hy=>hw y (List.mem_cons_of_mem _ hy)) e2;refine⟨?_,?_⟩
  ·rw[List.length_cons,wordsL_front,e5,e1,Qxy 8 _ h0 (by simpa using h1)]
  ·rw[List.length_cons,show i+8*(t.length+1)=i+8+8*t.length by omega];exact e6
theorem leb_drop{bs:List Int}(hb:Bytes bs){i n:Nat}(h:i+n≤bs.length):bs.drop i=leb (leI ((bs.drop i).take n)) n++bs.drop (i+n):=by
 have hl:((bs.drop i).take n).length=n:=by rw[List.length_take,List.length_drop];omega
 have h1:=Qxx ((bs.drop i).take n) ((hb.drop _).take _);rw[hl]at h1;rw[h1,← List.drop_drop,List.take_append_drop]
theorem ents_back{bs:List Int}(hb:Bytes bs):∀(n i:Nat),i+12*n≤bs.length→bs.drop i=(Qro bs i n).flatMap ent++bs.drop (i+12*n)
 | 0,i,h=>rfl
 | n+1,i,h=>by
  have ih:=ents_back hb n (i+12) (by omega);rw[entsL_front,List.flatMap_cons];unfold ent at ih ⊢;rw[List.append_assoc,List.append_assoc]
  conv=>lhs;rw[leb_drop hb (show i+8≤bs.length by omega),leb_drop hb (show i+8+4≤bs.length by omega),ih]
  rw[show i+12*(n+1)=i+12+12*n by omega]
theorem words_back{bs:List Int}(hb:Bytes bs):∀(n i:Nat),i+8*n≤bs.length→bs.drop i=(Qrj bs i n).flatMap (fun x=>leb x 8)++bs.drop (i+8*n)
 | 0,i,h=>rfl
 | n+1,i,h=>by
  have ih:=words_back hb n (i+8) (by omega);rw[wordsL_front,List.flatMap_cons,List.append_assoc]
  conv=>lhs;rw[leb_drop hb (show i+8≤bs.length by omega),ih]
  rw[show i+8*(n+1)=i+8+8*n by omega]
def footB(u:Int)(t:List Ent):List Int:=[4]++leb t.length 4++leb u 4++t.flatMap ent++(Qmk t).flatMap (fun x=>leb x 8)
theorem footB_bytes(u:Int)(l:List Ent):Bytes (footB u l):=by
 refine Bytes.app (Bytes.app (Bytes.app (Bytes.app ?_ (Qwk 4 _)) (Qwk 4 _)) (Qwz _ Qwy l)) (Qwz _ (fun x=>Qwk 8 x) _);intro y hy
 rcases List.mem_singleton.1 hy with rfl
 omega
theorem footG_sound{bs:List Int}(hb:Bytes bs){u:Int}{t:List Ent}(h:Qry bs=some (u,t,Qmk t)):bs=footB u t:=by
 unfold Qry at h;split at h
 ·rename_i h1;split at h
  ·rename_i h2;split at h
   ·have h3:=Option.some.inj h;have eu:=congrArg Prod.fst h3;have et:=congrArg (fun p=>p.2.1) h3;have ew:=congrArg (fun p=>p.2.2) h3;dsimp only at eu et ew;have hlen:=congrArg List.length et;rw[Qrq]at hlen;have hl4:=(leI_range (((hb.drop 1).take 4))).1;generalize hn:(leI ((bs.drop 1).take 4)).toNat=n at *;have hnv:leI ((bs.drop 1).take 4)=(t.length:Int):=by omega
    have d0:bs=rd bs 0 :: bs.drop 1:=Qxc (i:=0) (by omega);have d1:=leb_drop hb (show 1+4≤bs.length by omega);have d2:=leb_drop hb (show 5+4≤bs.length by omega);have d3:=ents_back hb n 9 (by omega);have d4:=words_back hb ((n+15)/16) (9+12*n) (by omega);rw[List.drop_eq_nil_of_le (show bs.length≤9+12*n+8*((n+15)/16)by omega),List.append_nil]at d4;rw[et]at d3;rw[ew]at d4;rw[hnv]at d1;rw[eu]at d2
    conv=>lhs;rw[d0,h1.2,d1,d2,d3,d4]
    unfold footB;simp
   ·cases h
  ·cases h
 ·cases h
theorem fence_rise{t:List Ent}(hp:t.Pairwise (fun x y=>x.f0≤y.f0))(j:Nat)(h:j+1<(Qmk t).length):rd (Qmk t) (j:Int)≤rd (Qmk t) ((j+1:Nat):Int):=by
 have hl:=Qye t;have h1:(j+1)*16<t.length:=by omega
 have hk:∀i,i<(Qmk t).length→rd (Qmk t) (i:Int)=(Qio t ((i*16:Nat):Int)).f0:=fun i hi=>by
  rw[rd_get hi];have h2:(Qmk t)[i]=Qmj t i:=by simp[Qmk]
  rw[h2];rfl
 rw[hk j (by omega),hk (j+1) h,rdE t (j*16) (by omega),rdE t ((j+1)*16) h1];exact List.pairwise_iff_getElem.1 hp (j*16) ((j+1)*16) (by omega) h1 (by omega)
theorem footG_compl{u:Int}{t:List Ent}(hu:0≤u∧u<4294967296)(hw:∀x∈t,wfE x)(hl:t.length≤1048576)(hr:Qnh t=true)(hp:t.Pairwise (fun x y=>x.f0≤y.f0)):Qry (footB u t)=some (u,t,Qmk t):=by
 have hfl:=Qye t;have hB:(footB u t).length=9+12*t.length+8*(Qmk t).length:=by
  have h:=Qnu (t.length:Int) u t;rw[List.nil_append]at h;exact h
 have hd0:(footB u t).drop 0=4 :: (leb (t.length:Int) 4++(leb u 4++(t.flatMap ent++((Qmk t).flatMap (fun x=>leb x 8)++[])))):=by
  rw[List.drop_zero];unfold footB;simp
 generalize footB u t=bs at *;obtain⟨_,hr0,hd1⟩:=Qxd hd0;obtain⟨e1,hd5⟩:=drop_leb hd1;obtain⟨e2,hd9⟩:=drop_leb hd5;obtain⟨e3,hd10⟩:=ents_flat bs t (0+1+4+4) _ hw hd9;obtain⟨e4,_⟩:=words_flat bs (Qmk t) _ [] (Qyx t hw) hd10;have hn:leI ((bs.drop 1).take 4)=(t.length:Int):=by rw[show bs.drop 1=bs.drop (0+1) from rfl,e1,Qxy 4 _ (by omega) (by omega)]
 have hu':leI ((bs.drop 5).take 4)=u:=by rw[show bs.drop 5=bs.drop (0+1+4) from rfl,e2,Qxy 4 _ hu.1 (by simpa using hu.2)]
 have e3':Qro bs 9 t.length=t:=e3;have e4':Qrj bs (9+12*t.length) ((t.length+15)/16)=Qmk t:=by rw[hfl]at e4;exact e4
 have hs:=(Qrx (Qmk t) (by omega)).2 (fun j hj=>fence_rise hp j hj);unfold Qry;rw[if_pos ⟨by omega,hr0⟩,hn,Int.toNat_natCast,hu',e3',e4',if_pos ⟨hl,by omega⟩,if_pos ⟨hr,hs⟩]
theorem sortE_f0(l:List Ent):(Qmu l).Pairwise (fun x y=>x.f0≤y.f0):=by
 refine(Qyi l).imp ?_;intro x y h;rw[Qmw]at h;simp at h;exact h.1
theorem foot_spec{c:List Int}{out:List Int}{e:Int}(h1:e=0→Bytes out∧out.length≤c.length∧c++[0]=Qla out)(h2:∀b,Bytes b→c++[0]=Qla b→e=0∧out=b){u:Int}{l:List Rec}{ps:List Int}(hu:0≤u∧u<4294967296)(hnd:(Qrb l ps).Nodup)(hwe:∀x∈Qrb l ps,wfE x∧x.f1<u)(hll:(Qrb l ps).length≤1000000) :
  Qso u l ps (getF e out)=true↔(Qrb l ps≠[]∧c++[0]=Qnp u (Qmu (Qrb l ps))):=by
 generalize hE:Qrb l ps=E at *;have hsl:=Qmv E
 constructor
 ·intro h;unfold getF at h
  by_cases he:e=0
  ·rw [if_pos he]at h;obtain⟨hbo,_,hso⟩:=h1 he
   cases hG:Qry out with
   | none=>rw[hG]at h;cases h
   | some p =>
    obtain⟨u',t,x⟩:=p;rw[hG]at h;dsimp only at h
    by_cases hc:Qnm u' t=0∧x=Qmk t
    ·rw[if_pos hc]at h;unfold Qso at h;rw[hE]at h;simp only[Bool.and_eq_true,decide_eq_true_eq]at h;obtain⟨rfl,rfl⟩:=h;obtain⟨hck,rfl⟩:=hc;have hb:=footG_sound hbo hG;refine⟨?_,by rw[hso,hb];rfl⟩;rintro rfl;have:Qnm u' (Qmu [])=4:=by
      unfold Qnm;rw[if_pos (show(Qmu ([]:List Ent)).length=0 from hsl)]
     omega
    ·rw[if_neg hc]at h;cases h
  ·rw[if_neg he]at h;cases h
 ·rintro⟨hne,h⟩;have hpos:0<E.length:=List.length_pos_iff.2 hne;obtain⟨he,ho⟩:=h2 (footB u (Qmu E)) (footB_bytes _ _) h;have hmem:∀x∈Qmu E,wfE x:=fun x hx=>(hwe x ((Qne _).mem_iff.1 hx)).1
  have hG:=footG_compl hu hmem (by omega) (Qyk hnd) (sortE_f0 E);have hck:Qnm u (Qmu E)=0:=by
   unfold Qnm;rw[if_neg (by omega),if_neg (by omega),Qyk hnd,if_neg (by decide),Qyp u (fun x hx=>(hwe x hx).2),if_neg (by decide)]
  unfold getF;rw[if_pos he,ho,hG];dsimp only;rw[if_pos ⟨hck,rfl⟩];unfold Qso;rw[hE];simp
end Go.Proofs.YtepkfjmjidjedaaGreat.CodecP
end
