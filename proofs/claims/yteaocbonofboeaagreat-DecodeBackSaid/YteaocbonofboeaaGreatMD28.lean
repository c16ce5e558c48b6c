/- Merged texts. -/
import Derived.Test.YteaocbonofboeaaGreatMD02
import Derived.Test.YteaocbonofboeaaGreatMD27
import Derived.Test.YteaocbonofboeaaGreatMD06
import Derived.Test.YteaocbonofboeaaGreatMD17
import Derived.Test.YteaocbonofboeaaGreatMD09
import Derived.Test.YteaocbonofboeaaGreatMD00
import Derived.SizedLaws
import Derived.Deep.Slices
import Derived.Lib.SmallJoins
import Derived.ChangeArms
set_option linter.unusedVariables false
set_option linter.unusedSimpArgs false
set_option maxHeartbeats 8000000
set_option maxRecDepth 100000
section
namespace Go.Proofs.YteaocbonofboeaaGreat.C
open Go.RowKit Go.Proofs.YteaocbonofboeaaGreatW.PrintWords Go.Proofs.YteaocbonofboeaaGreatW.PrintLast Go.Proofs.YteaocbonofboeaaGreatW.PrintMore
attribute [local go_sem] Qhl Qhm Qhn Qho Qhp Qhq Qhr Qhs
noncomputable def Qay.j0:Nat→Int→List (S37)→Bool→Option (Bool)
 | 0,_,_,_=>none
 | k+1,x0,x1,x17=>if x17=true then((Qaz.f k).bind fun t823=>(some t823))else((Qaw.f x0).bind fun bt824=>((Qbk.f k bt824.1 bt824.2 x1).bind fun bt827=>(if bt827.2=0 then((some (([]:List Int):List Int)).bind fun y831=>(if y831.length+bt827.1.length<140737488355328 then((some (y831++bt827.1:List Int)).bind fun y834=>((Qar.f k bt824.1 bt824.2 y834).bind fun bt837=>(if bt837.2=0 then((Qba.f k bt837.1 x1).bind fun t841=>(if t841=true then((Qas.f k bt824.1 bt824.2 bt827.1).bind fun t842=>(if t842=true then(some ((strOfNums y834).toList == (strOfNums bt827.1).toList))else(some false)))else(some false)))else(some false))))else(none)))else(some ((bt827.1.length:Int) == 0)))))
noncomputable def Qay.f(k:Nat)(a0:Int)(l1:List (S37)):Option (Bool):=(Qaz.f k).bind fun t821=>(if t821=true then((Qau.f k l1 40 2000).bind fun t822=>(Qay.j0 k a0 l1 (!t822)))else(Qay.j0 k a0 l1 true))
theorem Qay.calls (k:Nat) (a0:Int) (A1:Option Addr) (c1:Nat) (l1:List (S37)) (r:Bool) (w:World) (hr1:Kd.C k37 w A1 l1.length l1) (hc1:l1.length≤c1) (h:Qay.f k a0 l1=some r) :
  Calls Tryz.prog 12 #[.int .u8 a0,.slice A1 l1.length c1] w fun e w'=>e=.returned (.bool r)∧Below w.heap.size w w':=by
 have hu28:=Tryz.underlying28;have A:=QA hr1;have B:=QA hc1;clear hr1 hc1;have HB:=QA (Below.refl w.heap.size w);have H:((Qaz.f k).bind fun ad=>(if ad=true then((Qau.f k l1 40 2000).bind fun Z=>(Qay.j0 k a0 l1 (!Z)))else(Qay.j0 k a0 l1 true)))=some r:=h;clear h;have ak:=QA H;clear H
 go_enter Tryz.func12,Tryz.ntmps12
 go_upto_region 1 with(fail)
 go_cut [17] (fun be wc=>∃(kq:Nat) (L:Bool),be=.bool L∧Aside0 (Qay.j0 kq a0 l1 L=some r)∧Aside0 (kq≤k)∧Aside0 (Below w.heap.size w wc))
 case first =>
  have H:=ak.out;clear ak;replace H:=Option.bind_eq_some_iff.mp H;obtain⟨ad,ay,H⟩:=H;have A4:=QA ay;clear ay
  by_cases c5:ad=true
  ·subst c5;rw[if_pos rfl]at H;replace H:=Option.bind_eq_some_iff.mp H;obtain⟨Z,az,H⟩:=H;have A6:=QA az;clear az;have H':=QA H;clear H
   go_wp2_with (first |((with_reducible refine Qht (f:=50) rfl ?_);refine Qft (some 11) rfl rfl Tryz.func50 qq_4 rfl #[] rfl qq_1 ?_;(with_reducible refine(Qaz.calls k  true _ A4.out).mono ?_);rintro e w7 ⟨rfl,hb⟩;refine⟨_,rfl,?_⟩;have n_:=qn1 (Qeo qq_b hb);clear HB;have HB:=n_;clear n_;(try clear hb);(try clear hb2);(try clear hk);(try clear hi)) |(go_at_call 15;(with_reducible refine(Qau.calls k _ _ l1 40 2000 Z _ ?side1 ?side2 A6.out).mono ?_);(case side1=>repeat(first|exact(Kd.C_below A.out HB.out) |(with_reducible refine Kd.C_alloc ?_ _) |(with_reducible refine Kd.C_drewN ?_ _) |(with_reducible refine Kd.C_drew ?_)));(case side2=>exact B.out);rintro e w8 ⟨rfl,hb⟩;have n_:=qn1 (Qeo qq_b hb);clear HB;have HB:=n_;clear n_;(try clear hb);(try clear hb2);(try clear hk);(try clear hi)))
   go_meet
   case rel=>exact⟨_,(!Z),qq_8,H',⟨by first|omega|exact Nat.le_refl _⟩,⟨qq_b⟩⟩
  ·replace c5:=Bool.eq_false_iff.mpr c5;subst c5;rw[if_neg (show ¬(false=true)by decide)]at H;have H':=QA H;clear H
   go_wp2_with (first |((with_reducible refine Qht (f:=50) rfl ?_);refine Qft (some 11) rfl rfl Tryz.func50 qq_4 rfl #[] rfl qq_1 ?_;(with_reducible refine(Qaz.calls k  false _ A4.out).mono ?_);rintro e w9 ⟨rfl,hb⟩;refine⟨_,rfl,?_⟩;have n_:=qn1 (Qeo qq_b hb);clear HB;have HB:=n_;clear n_;(try clear hb);(try clear hb2);(try clear hk);(try clear hi)))
   go_meet
   case rel=>exact⟨_,(true),qq_8,H',⟨by first|omega|exact Nat.le_refl _⟩,⟨qq_b⟩⟩
 case rest =>
  clear ak
  try clear c1
  try clear c5
  obtain⟨kq,L,rfl,HA,HJ2,HB⟩:=hcut
  cases kq with
  | zero=>exact absurd HA.out (by simp[Qay.j0])
  | succ kj2 =>
   have H:=HA.out;clear HA;simp only[Qay.j0]at H
   by_cases c10:L=true
   ·subst c10;rw[if_pos rfl]at H;replace H:=Option.bind_eq_some_iff.mp H;obtain⟨aC,al,H⟩:=H;have bf:=QA al;clear al;obtain rfl:=Option.some.inj H
    go_wp2_with (first |((with_reducible refine Qht (f:=50) rfl ?_);refine Qft (some 18) rfl rfl Tryz.func50 qq_4 rfl #[] rfl qq_1 ?_;(with_reducible refine(Qaz.calls kj2  aC _ bf.out).mono ?_);rintro e bv ⟨rfl,hb⟩;refine⟨_,rfl,?_⟩;have n_:=qn1 (Qeo qq_b hb);clear HB;have HB:=n_;clear n_;(try clear hb);(try clear hb2);(try clear hk);(try clear hi)))
    go_ret
    exact⟨qq_3,qq_b⟩
   ·replace c10:=Bool.eq_false_iff.mpr c10;subst c10;rw[if_neg (show ¬(false=true)by decide)]at H;replace H:=Option.bind_eq_some_iff.mp H;obtain⟨⟨c,d⟩,am,H⟩:=H;replace H:((Qbk.f kj2 c d l1).bind fun bt827=>(if bt827.2=0 then((some (([]:List Int):List Int)).bind fun q=>(if q.length+bt827.1.length<140737488355328 then((some (q++bt827.1:List Int)).bind fun n=>((Qar.f kj2 c d n).bind fun bt837=>(if bt837.2=0 then((Qba.f kj2 bt837.1 l1).bind fun s=>(if s=true then((Qas.f kj2 c d bt827.1).bind fun t=>(if t=true then(some ((strOfNums n).toList == (strOfNums bt827.1).toList))else(some false)))else(some false)))else(some false))))else(none)))else(some ((bt827.1.length:Int) == 0))))=some r:=H;have ab:=QA am;clear am;replace H:=Option.bind_eq_some_iff.mp H;obtain⟨⟨l,u⟩,an,H⟩:=H;replace H:(if u=0 then((some (([]:List Int):List Int)).bind fun q=>(if q.length+l.length<140737488355328 then((some (q++l:List Int)).bind fun n=>((Qar.f kj2 c d n).bind fun bt837=>(if bt837.2=0 then((Qba.f kj2 bt837.1 l1).bind fun s=>(if s=true then((Qas.f kj2 c d l).bind fun t=>(if t=true then(some ((strOfNums n).toList == (strOfNums l).toList))else(some false)))else(some false)))else(some false))))else(none)))else(some ((l.length:Int) == 0)))=some r:=H;have ac:=QA an;clear an
    by_cases W:u=0
    ·rw [if_pos W]at H;have au:(u == 0)=true:=beq_iff_eq.mpr W;have av:(u != 0)=false:=bne_eq_false_iff_eq.mpr W;clear W;obtain⟨q,D⟩:∃y_:List Int,y_=(([]:List Int)):=⟨_,rfl⟩;replace H:(if q.length+l.length<140737488355328 then((some (q++l:List Int)).bind fun n=>((Qar.f kj2 c d n).bind fun bt837=>(if bt837.2=0 then((Qba.f kj2 bt837.1 l1).bind fun s=>(if s=true then((Qas.f kj2 c d l).bind fun t=>(if t=true then(some ((strOfNums n).toList == (strOfNums l).toList))else(some false)))else(some false)))else(some false))))else(none))=some r:=by first |(rw[D];with_reducible exact H) |(have X:=(Option.bind_some _ _).symm.trans H;rw[D];with_reducible exact X) |(have X:=(Option.bind_some _ _).symm.trans H;with_reducible exact X)|with_reducible exact H |(rw[D];exact H)|exact H
     have v:=QA D;clear D
     by_cases ag:q.length+l.length<140737488355328
     ·rw [if_pos ag]at H;have M:=QA ag;clear ag;obtain⟨n,E⟩:∃y_:List Int,y_=(q++l):=⟨_,rfl⟩;replace H:((Qar.f kj2 c d n).bind fun bt837=>(if bt837.2=0 then((Qba.f kj2 bt837.1 l1).bind fun s=>(if s=true then((Qas.f kj2 c d l).bind fun t=>(if t=true then(some ((strOfNums n).toList == (strOfNums l).toList))else(some false)))else(some false)))else(some false)))=some r:=by first |(rw[E];with_reducible exact H) |(have X:=(Option.bind_some _ _).symm.trans H;rw[E];with_reducible exact X) |(have X:=(Option.bind_some _ _).symm.trans H;with_reducible exact X)|with_reducible exact H |(rw[E];exact H)|exact H
      have O:=QA E;clear E;replace H:=Option.bind_eq_some_iff.mp H;obtain⟨⟨y,x⟩,ao,H⟩:=H;replace H:(if x=0 then((Qba.f kj2 y l1).bind fun s=>(if s=true then((Qas.f kj2 c d l).bind fun t=>(if t=true then(some ((strOfNums n).toList == (strOfNums l).toList))else(some false)))else(some false)))else(some false))=some r:=H;have ah:=QA ao;clear ao
      by_cases Y:x=0
      ·rw[if_pos Y]at H;have aw:(x == 0)=true:=beq_iff_eq.mpr Y;have ax:(x != 0)=false:=bne_eq_false_iff_eq.mpr Y;clear Y;replace H:=Option.bind_eq_some_iff.mp H;obtain⟨s,ap,H⟩:=H;have aq:=QA ap;clear ap
       by_cases ai:s=true
       ·subst ai;rw[if_pos rfl]at H;replace H:=Option.bind_eq_some_iff.mp H;obtain⟨t,ar,H⟩:=H;have aA:=QA ar;clear ar
        by_cases aj:t=true
        ·subst aj;rw[if_pos rfl]at H;obtain rfl:=Option.some.inj H
         go_wp2_with (first |((with_reducible refine Qht (f:=16) rfl ?_);refine Qft (some 20) rfl rfl Tryz.func16 qq_4 rfl #[.int .u8 a0] rfl qq_1 ?_;(with_reducible refine(Qaw.calls a0 c d _ ab.out).mono ?_);rintro e bw ⟨rfl,hb⟩;refine⟨_,rfl,?_⟩;have n_:=qn1 (Qeo qq_b hb);clear HB;have HB:=n_;clear n_;(try clear hb);(try clear hb2);(try clear hk);(try clear hi)) |((with_reducible refine Qey (N:=5) rfl ?_);refine qq_e 5 #[.int .u8 0,.int .u32 0] 28 ?_;intro j hg bx hbox hb;have n_:=qn4 (Qeo qq_b hb) (hbox) (qq_s hg:w.heap.size≤j) (qq_s hg:w.heap.size≤j);clear HB;obtain⟨HB,a,T,U⟩:=n_;clear hb hbox hg;obtain⟨aD,aE⟩:=qc2 a.out;have bg:=Qdc a.out) |((with_reducible refine Qht (f:=32) rfl ?_);refine Qft (some 24) rfl rfl Tryz.func32 qq_4 rfl #[.agg #[.int .u8 c,.int .u32 d],.slice A1 l1.length c1] rfl qq_1 ?_;(with_reducible refine(Qbk.calls kj2 c d _ _ l1 l u _ ?side1 ?side2 ac.out).mono ?_);(case side1=>exact Kd.C_below A.out qq_b);(case side2=>exact B.out);rintro e bz ⟨aa,rfl,p,hb⟩;refine⟨_,rfl,?_⟩;have n_:=qn3 (Kd.R_lower p (Qen qq_b)) (Qdo (g:=j) (o:=.cells #[.int .u8 c,.int .u32 d] 28 (0,0)) qq_x hb) (Qeo qq_b hb);clear a HB;obtain⟨HO829,a,HB⟩:=n_;(try clear hb);(try clear hb2);(try clear hk);(try clear hi);(try clear p)) |((with_reducible refine Qey (N:=32) rfl ?_);refine Kd.R_lit (Kd.int .u8) _ 5 ?hg (N:=32) ?hd (xs:=([]:List Int)) (inner:=[]) (ok:=fun _=>True) (okp:=fun _=>True) ?hr ?hp (fun _ hk=>hk) trivial (Below.refl _ _) (Nat.le_refl _) (by simp) ?_;(case hd=>rfl);(case hg=>rfl);(case hr=>exact qq_17);(case hp=>exact(Reps.none _ _));intro z bA G hb hg_ hnew_;clear hg_ hnew_;(first|rw[← v.out]at G |(simp only[Int.reduceToNat]at G;rw[← v.out]at G));have n_:=qn4 (Kd.R_elder' qq_5 (Kd.R_base G) hb) (Kd.R_lower (Kd.R_new' G (Kd.R_lt qq_5)) (Qen qq_b)) (Qdo (g:=j) (o:=.cells #[.int .u8 c,.int .u32 d] 28 (0,0)) qq_0 hb) (Qeo qq_b hb);clear HO829 a HB;obtain⟨HO829,HO833,a,HB⟩:=n_;clear hb G;obtain⟨Ao30,co30,eo30⟩:=Kd.R_slice HO829.out;subst eo30) |((with_reducible refine Qhu (b:=.append) (xs:=#[.tmp 32,.tmp 33]) rfl ?_);at_builtin;refine Kd.R_append_rows (Kd.int .u8) (w0:=w) w.heap.size rfl (.tmp 32) (.tmp 33) 40 5 (.int .u8 0) 1 rfl Tryz.underlying40 Qia rfl (by decide) (by omega) z q l _ _ _ (fun k_=>some k_≠(.slice Ao30 l.length co30:Value).ownBlock) (fun _=>False) rfl rfl ?aO ?aR (fun _ _ h=>h) (fun _ h=>h.elim) ?aF ?aB ?aS ?aL ?_;(case aR=>repeat(first|exact(Kd.R_reads' HO829.out).2.2 |(with_reducible refine Kd.C_alloc ?_ _) |(with_reducible refine Kd.C_drewN ?_ _) |(with_reducible refine Kd.C_drew ?_)));(case aB=>exact qq_b);(case aF=>exact(fun k_ hk=>Kd.fresh' (Kd.R_lt qq_5) k_ hk));(case aO=>exact qq_18);(case aS=>exact(Qen qq_b));(case aL=>have:=M.out;omega);intro ae bB ho hb hg hat;rw[← O.out]at ho;have n_:=qn4 (Qdd (g:=j) (o:=.cells #[.int .u8 c,.int .u32 d] 28 (0,0)) qq_0 hg (Kd.R_ne HO833.out a.out (by decide))) (Kd.R_after (ok:=(fun _=>True)) qq_5 hg hat) (hb) (ho);clear a HO829 HB HO833;obtain⟨a,HO829,HB,HO836⟩:=n_;clear ho hb hg hat;obtain⟨aG,aH⟩:=qc2 a.out;have bh:=Qdc a.out;obtain⟨Ao32,co32,eo32⟩:=Kd.R_slice HO836.out;subst eo32) |((with_reducible refine Qht (f:=53) rfl ?_);refine Qft (some 38) rfl rfl Tryz.func53 qq_4 rfl #[.agg #[.int .u8 c,.int .u32 d],.slice Ao32 n.length co32] rfl qq_1 ?_;(with_reducible refine(Qar.calls kj2 c d _ _ n y x _ ?side1 ?side2 ah.out).mono ?_);(case side1=>repeat(first|exact(Kd.R_reads' HO836.out).2.2 |(with_reducible refine Kd.C_alloc ?_ _) |(with_reducible refine Kd.C_drewN ?_ _) |(with_reducible refine Kd.C_drew ?_)));(case side2=>exact(Kd.R_reads' HO836.out).2.1);rintro e bC ⟨af,rfl,p,hb⟩;refine⟨_,rfl,?_⟩;have n_:=qn5 (Kd.R_below qq_5 hb) (Kd.R_below qq_11 hb) (Kd.R_lower p (Qen qq_b)) (Qdo (g:=j) (o:=.cells #[.int .u8 c,.int .u32 d] 28 (0,0)) qq_0 hb) (Qeo qq_b hb);clear HO829 HO836 a HB;obtain⟨HO829,HO836,m,a,HB⟩:=n_;(try clear hb);(try clear hb2);(try clear hk);(try clear hi);(try clear p);obtain⟨Ao34,co34,eo34⟩:=Kd.R_slice m.out;subst eo34) |(go_at_call 35;(with_reducible refine(Qba.calls kj2 _ _ y _ _ l1 true _ ?side1 ?side2 ?side3 ?side4 aq.out).mono ?_);(case side1=>repeat(first|exact(Kd.R_reads' m.out).2.2 |(with_reducible refine Kd.C_alloc ?_ _) |(with_reducible refine Kd.C_drewN ?_ _) |(with_reducible refine Kd.C_drew ?_)));(case side2=>exact(Kd.R_reads' m.out).2.1);(case side3=>repeat(first|exact(Kd.C_below A.out HB.out) |(with_reducible refine Kd.C_alloc ?_ _) |(with_reducible refine Kd.C_drewN ?_ _) |(with_reducible refine Kd.C_drew ?_)));(case side4=>exact B.out);rintro e w' ⟨rfl,⟨nd,rfl⟩⟩;obtain⟨aI,aJ⟩:=qc2 a.out;have bi:=Qdc a.out) |(go_at_call 54;(with_reducible refine(Qas.calls kj2 c d _ _ l true _ ?side1 ?side2 aA.out).mono ?_);(case side1=>repeat(first|exact(Kd.R_reads' HO829.out).2.2 |(with_reducible refine Kd.C_alloc ?_ _) |(with_reducible refine Kd.C_drewN ?_ _) |(with_reducible refine Kd.C_drew ?_)));(case side2=>exact(Kd.R_reads' HO829.out).2.1);rintro e bD ⟨rfl,hb⟩;have n_:=qn5 (Kd.R_below qq_5 hb) (Kd.R_below qq_11 hb) (Kd.R_below (by(with_reducible repeat(first|apply Kd.R_alloc|apply Kd.R_drewN|apply Kd.R_drew));exact m.out) hb) (Qdo (g:=j) (o:=.cells #[.int .u8 c,.int .u32 d] 28 (0,0)) qq_0 hb) (Qeo qq_b hb);clear HO829 HO836 m a HB;obtain⟨HO829,HO836,m,a,HB⟩:=n_;(try clear hb);(try clear hb2);(try clear hk);(try clear hi);have bj:=Qcn (P:=Tryz.prog) Tryz.underlying40 Tryz.underlying5 Tryz.underlying9 (Kd.own_of_R HO836.out);have bk:=Qcn (P:=Tryz.prog) Tryz.underlying40 Tryz.underlying5 Tryz.underlying9 (Kd.own_of_R HO829.out)))
         go_ret
         exact⟨qq_3,qq_b⟩
        ·replace aj:=Bool.eq_false_iff.mpr aj;subst aj;rw[if_neg (show ¬(false=true)by decide)]at H;obtain rfl:=Option.some.inj H
         go_wp2_with (first |((with_reducible refine Qht (f:=16) rfl ?_);refine Qft (some 20) rfl rfl Tryz.func16 qq_4 rfl #[.int .u8 a0] rfl qq_1 ?_;(with_reducible refine(Qaw.calls a0 c d _ ab.out).mono ?_);rintro e bE ⟨rfl,hb⟩;refine⟨_,rfl,?_⟩;have n_:=qn1 (Qeo qq_b hb);clear HB;have HB:=n_;clear n_;(try clear hb);(try clear hb2);(try clear hk);(try clear hi)) |((with_reducible refine Qey (N:=5) rfl ?_);refine qq_e 5 #[.int .u8 0,.int .u32 0] 28 ?_;intro j hg bF hbox hb;have n_:=qn4 (Qeo qq_b hb) (hbox) (qq_s hg:w.heap.size≤j) (qq_s hg:w.heap.size≤j);clear HB;obtain⟨HB,a,T,U⟩:=n_;clear hb hbox hg;obtain⟨aK,aM⟩:=qc2 a.out;have bl:=Qdc a.out) |((with_reducible refine Qht (f:=32) rfl ?_);refine Qft (some 24) rfl rfl Tryz.func32 qq_4 rfl #[.agg #[.int .u8 c,.int .u32 d],.slice A1 l1.length c1] rfl qq_1 ?_;(with_reducible refine(Qbk.calls kj2 c d _ _ l1 l u _ ?side1 ?side2 ac.out).mono ?_);(case side1=>exact Kd.C_below A.out qq_b);(case side2=>exact B.out);rintro e bG ⟨aa,rfl,p,hb⟩;refine⟨_,rfl,?_⟩;have n_:=qn3 (Kd.R_lower p (Qen qq_b)) (Qdo (g:=j) (o:=.cells #[.int .u8 c,.int .u32 d] 28 (0,0)) qq_x hb) (Qeo qq_b hb);clear a HB;obtain⟨HO829,a,HB⟩:=n_;(try clear hb);(try clear hb2);(try clear hk);(try clear hi);(try clear p)) |((with_reducible refine Qey (N:=32) rfl ?_);refine Kd.R_lit (Kd.int .u8) _ 5 ?hg (N:=32) ?hd (xs:=([]:List Int)) (inner:=[]) (ok:=fun _=>True) (okp:=fun _=>True) ?hr ?hp (fun _ hk=>hk) trivial (Below.refl _ _) (Nat.le_refl _) (by simp) ?_;(case hd=>rfl);(case hg=>rfl);(case hr=>exact qq_17);(case hp=>exact(Reps.none _ _));intro z bH I hb hg_ hnew_;clear hg_ hnew_;(first|rw[← v.out]at I |(simp only[Int.reduceToNat]at I;rw[← v.out]at I));have n_:=qn4 (Kd.R_elder' qq_5 (Kd.R_base I) hb) (Kd.R_lower (Kd.R_new' I (Kd.R_lt qq_5)) (Qen qq_b)) (Qdo (g:=j) (o:=.cells #[.int .u8 c,.int .u32 d] 28 (0,0)) qq_0 hb) (Qeo qq_b hb);clear HO829 a HB;obtain⟨HO829,HO833,a,HB⟩:=n_;clear hb I;obtain⟨Ao46,co46,eo46⟩:=Kd.R_slice HO829.out;subst eo46) |((with_reducible refine Qhu (b:=.append) (xs:=#[.tmp 32,.tmp 33]) rfl ?_);at_builtin;refine Kd.R_append_rows (Kd.int .u8) (w0:=w) w.heap.size rfl (.tmp 32) (.tmp 33) 40 5 (.int .u8 0) 1 rfl Tryz.underlying40 Qia rfl (by decide) (by omega) z q l _ _ _ (fun k_=>some k_≠(.slice Ao46 l.length co46:Value).ownBlock) (fun _=>False) rfl rfl ?aO ?aR (fun _ _ h=>h) (fun _ h=>h.elim) ?aF ?aB ?aS ?aL ?_;(case aR=>repeat(first|exact(Kd.R_reads' HO829.out).2.2 |(with_reducible refine Kd.C_alloc ?_ _) |(with_reducible refine Kd.C_drewN ?_ _) |(with_reducible refine Kd.C_drew ?_)));(case aB=>exact qq_b);(case aF=>exact(fun k_ hk=>Kd.fresh' (Kd.R_lt qq_5) k_ hk));(case aO=>exact qq_18);(case aS=>exact(Qen qq_b));(case aL=>have:=M.out;omega);intro ae bI ho hb hg hat;rw[← O.out]at ho;have n_:=qn4 (Qdd (g:=j) (o:=.cells #[.int .u8 c,.int .u32 d] 28 (0,0)) qq_0 hg (Kd.R_ne HO833.out a.out (by decide))) (Kd.R_after (ok:=(fun _=>True)) qq_5 hg hat) (hb) (ho);clear a HO829 HB HO833;obtain⟨a,HO829,HB,HO836⟩:=n_;clear ho hb hg hat;obtain⟨aN,aP⟩:=qc2 a.out;have bn:=Qdc a.out;obtain⟨Ao48,co48,eo48⟩:=Kd.R_slice HO836.out;subst eo48) |((with_reducible refine Qht (f:=53) rfl ?_);refine Qft (some 38) rfl rfl Tryz.func53 qq_4 rfl #[.agg #[.int .u8 c,.int .u32 d],.slice Ao48 n.length co48] rfl qq_1 ?_;(with_reducible refine(Qar.calls kj2 c d _ _ n y x _ ?side1 ?side2 ah.out).mono ?_);(case side1=>repeat(first|exact(Kd.R_reads' HO836.out).2.2 |(with_reducible refine Kd.C_alloc ?_ _) |(with_reducible refine Kd.C_drewN ?_ _) |(with_reducible refine Kd.C_drew ?_)));(case side2=>exact(Kd.R_reads' HO836.out).2.1);rintro e bJ ⟨af,rfl,p,hb⟩;refine⟨_,rfl,?_⟩;have n_:=qn5 (Kd.R_below qq_5 hb) (Kd.R_below qq_11 hb) (Kd.R_lower p (Qen qq_b)) (Qdo (g:=j) (o:=.cells #[.int .u8 c,.int .u32 d] 28 (0,0)) qq_0 hb) (Qeo qq_b hb);clear HO829 HO836 a HB;obtain⟨HO829,HO836,m,a,HB⟩:=n_;(try clear hb);(try clear hb2);(try clear hk);(try clear hi);(try clear p);obtain⟨Ao50,co50,eo50⟩:=Kd.R_slice m.out;subst eo50) |(go_at_call 35;(with_reducible refine(Qba.calls kj2 _ _ y _ _ l1 true _ ?side1 ?side2 ?side3 ?side4 aq.out).mono ?_);(case side1=>repeat(first|exact(Kd.R_reads' m.out).2.2 |(with_reducible refine Kd.C_alloc ?_ _) |(with_reducible refine Kd.C_drewN ?_ _) |(with_reducible refine Kd.C_drew ?_)));(case side2=>exact(Kd.R_reads' m.out).2.1);(case side3=>repeat(first|exact(Kd.C_below A.out HB.out) |(with_reducible refine Kd.C_alloc ?_ _) |(with_reducible refine Kd.C_drewN ?_ _) |(with_reducible refine Kd.C_drew ?_)));(case side4=>exact B.out);rintro e w' ⟨rfl,⟨nd,rfl⟩⟩;obtain⟨aQ,aT⟩:=qc2 a.out;have bo:=Qdc a.out) |(go_at_call 54;(with_reducible refine(Qas.calls kj2 c d _ _ l false _ ?side1 ?side2 aA.out).mono ?_);(case side1=>repeat(first|exact(Kd.R_reads' HO829.out).2.2 |(with_reducible refine Kd.C_alloc ?_ _) |(with_reducible refine Kd.C_drewN ?_ _) |(with_reducible refine Kd.C_drew ?_)));(case side2=>exact(Kd.R_reads' HO829.out).2.1);rintro e bK ⟨rfl,hb⟩;have n_:=qn5 (Kd.R_below qq_5 hb) (Kd.R_below qq_11 hb) (Kd.R_below (by(with_reducible repeat(first|apply Kd.R_alloc|apply Kd.R_drewN|apply Kd.R_drew));exact m.out) hb) (Qdo (g:=j) (o:=.cells #[.int .u8 c,.int .u32 d] 28 (0,0)) qq_0 hb) (Qeo qq_b hb);clear HO829 HO836 m a HB;obtain⟨HO829,HO836,m,a,HB⟩:=n_;(try clear hb);(try clear hb2);(try clear hk);(try clear hi)))
         go_ret
         exact⟨qq_3,qq_b⟩
       ·replace ai:=Bool.eq_false_iff.mpr ai;subst ai;rw[if_neg (show ¬(false=true)by decide)]at H;obtain rfl:=Option.some.inj H
        go_wp2_with (first |((with_reducible refine Qht (f:=16) rfl ?_);refine Qft (some 20) rfl rfl Tryz.func16 qq_4 rfl #[.int .u8 a0] rfl qq_1 ?_;(with_reducible refine(Qaw.calls a0 c d _ ab.out).mono ?_);rintro e bL ⟨rfl,hb⟩;refine⟨_,rfl,?_⟩;have n_:=qn1 (Qeo qq_b hb);clear HB;have HB:=n_;clear n_;(try clear hb);(try clear hb2);(try clear hk);(try clear hi)) |((with_reducible refine Qey (N:=5) rfl ?_);refine qq_e 5 #[.int .u8 0,.int .u32 0] 28 ?_;intro j hg bM hbox hb;have n_:=qn4 (Qeo qq_b hb) (hbox) (qq_s hg:w.heap.size≤j) (qq_s hg:w.heap.size≤j);clear HB;obtain⟨HB,a,T,U⟩:=n_;clear hb hbox hg;obtain⟨aU,aV⟩:=qc2 a.out;have bp:=Qdc a.out) |((with_reducible refine Qht (f:=32) rfl ?_);refine Qft (some 24) rfl rfl Tryz.func32 qq_4 rfl #[.agg #[.int .u8 c,.int .u32 d],.slice A1 l1.length c1] rfl qq_1 ?_;(with_reducible refine(Qbk.calls kj2 c d _ _ l1 l u _ ?side1 ?side2 ac.out).mono ?_);(case side1=>exact Kd.C_below A.out qq_b);(case side2=>exact B.out);rintro e bN ⟨aa,rfl,p,hb⟩;refine⟨_,rfl,?_⟩;have n_:=qn3 (Kd.R_lower p (Qen qq_b)) (Qdo (g:=j) (o:=.cells #[.int .u8 c,.int .u32 d] 28 (0,0)) qq_x hb) (Qeo qq_b hb);clear a HB;obtain⟨HO829,a,HB⟩:=n_;(try clear hb);(try clear hb2);(try clear hk);(try clear hi);(try clear p)) |((with_reducible refine Qey (N:=32) rfl ?_);refine Kd.R_lit (Kd.int .u8) _ 5 ?hg (N:=32) ?hd (xs:=([]:List Int)) (inner:=[]) (ok:=fun _=>True) (okp:=fun _=>True) ?hr ?hp (fun _ hk=>hk) trivial (Below.refl _ _) (Nat.le_refl _) (by simp) ?_;(case hd=>rfl);(case hg=>rfl);(case hr=>exact qq_17);(case hp=>exact(Reps.none _ _));intro z bO J hb hg_ hnew_;clear hg_ hnew_;(first|rw[← v.out]at J |(simp only[Int.reduceToNat]at J;rw[← v.out]at J));have n_:=qn4 (Kd.R_elder' qq_5 (Kd.R_base J) hb) (Kd.R_lower (Kd.R_new' J (Kd.R_lt qq_5)) (Qen qq_b)) (Qdo (g:=j) (o:=.cells #[.int .u8 c,.int .u32 d] 28 (0,0)) qq_0 hb) (Qeo qq_b hb);clear HO829 a HB;obtain⟨HO829,HO833,a,HB⟩:=n_;clear hb J;obtain⟨Ao60,co60,eo60⟩:=Kd.R_slice HO829.out;subst eo60) |((with_reducible refine Qhu (b:=.append) (xs:=#[.tmp 32,.tmp 33]) rfl ?_);at_builtin;refine Kd.R_append_rows (Kd.int .u8) (w0:=w) w.heap.size rfl (.tmp 32) (.tmp 33) 40 5 (.int .u8 0) 1 rfl Tryz.underlying40 Qia rfl (by decide) (by omega) z q l _ _ _ (fun k_=>some k_≠(.slice Ao60 l.length co60:Value).ownBlock) (fun _=>False) rfl rfl ?aO ?aR (fun _ _ h=>h) (fun _ h=>h.elim) ?aF ?aB ?aS ?aL ?_;(case aR=>repeat(first|exact(Kd.R_reads' HO829.out).2.2 |(with_reducible refine Kd.C_alloc ?_ _) |(with_reducible refine Kd.C_drewN ?_ _) |(with_reducible refine Kd.C_drew ?_)));(case aB=>exact qq_b);(case aF=>exact(fun k_ hk=>Kd.fresh' (Kd.R_lt qq_5) k_ hk));(case aO=>exact qq_18);(case aS=>exact(Qen qq_b));(case aL=>have:=M.out;omega);intro ae bP ho hb hg hat;rw[← O.out]at ho;have n_:=qn4 (Qdd (g:=j) (o:=.cells #[.int .u8 c,.int .u32 d] 28 (0,0)) qq_0 hg (Kd.R_ne HO833.out a.out (by decide))) (Kd.R_after (ok:=(fun _=>True)) qq_5 hg hat) (hb) (ho);clear a HO829 HB HO833;obtain⟨a,HO829,HB,HO836⟩:=n_;clear ho hb hg hat;obtain⟨aW,aX⟩:=qc2 a.out;have bq:=Qdc a.out;obtain⟨Ao62,co62,eo62⟩:=Kd.R_slice HO836.out;subst eo62) |((with_reducible refine Qht (f:=53) rfl ?_);refine Qft (some 38) rfl rfl Tryz.func53 qq_4 rfl #[.agg #[.int .u8 c,.int .u32 d],.slice Ao62 n.length co62] rfl qq_1 ?_;(with_reducible refine(Qar.calls kj2 c d _ _ n y x _ ?side1 ?side2 ah.out).mono ?_);(case side1=>repeat(first|exact(Kd.R_reads' HO836.out).2.2 |(with_reducible refine Kd.C_alloc ?_ _) |(with_reducible refine Kd.C_drewN ?_ _) |(with_reducible refine Kd.C_drew ?_)));(case side2=>exact(Kd.R_reads' HO836.out).2.1);rintro e bQ ⟨af,rfl,p,hb⟩;refine⟨_,rfl,?_⟩;have n_:=qn5 (Kd.R_below qq_5 hb) (Kd.R_below qq_11 hb) (Kd.R_lower p (Qen qq_b)) (Qdo (g:=j) (o:=.cells #[.int .u8 c,.int .u32 d] 28 (0,0)) qq_0 hb) (Qeo qq_b hb);clear HO829 HO836 a HB;obtain⟨HO829,HO836,m,a,HB⟩:=n_;(try clear hb);(try clear hb2);(try clear hk);(try clear hi);(try clear p);obtain⟨Ao64,co64,eo64⟩:=Kd.R_slice m.out;subst eo64) |(go_at_call 35;(with_reducible refine(Qba.calls kj2 _ _ y _ _ l1 false _ ?side1 ?side2 ?side3 ?side4 aq.out).mono ?_);(case side1=>repeat(first|exact(Kd.R_reads' m.out).2.2 |(with_reducible refine Kd.C_alloc ?_ _) |(with_reducible refine Kd.C_drewN ?_ _) |(with_reducible refine Kd.C_drew ?_)));(case side2=>exact(Kd.R_reads' m.out).2.1);(case side3=>repeat(first|exact(Kd.C_below A.out HB.out) |(with_reducible refine Kd.C_alloc ?_ _) |(with_reducible refine Kd.C_drewN ?_ _) |(with_reducible refine Kd.C_drew ?_)));(case side4=>exact B.out);rintro e w' ⟨rfl,⟨nd,rfl⟩⟩))
        go_ret
        exact⟨qq_3,qq_b⟩
      ·rw[if_neg Y]at H;have aw:(x == 0)=false:=beq_eq_false_iff_ne.mpr Y;have ax:(x != 0)=true:=bne_iff_ne.mpr Y;obtain rfl:=Option.some.inj H
       go_wp2_with (first |((with_reducible refine Qht (f:=16) rfl ?_);refine Qft (some 20) rfl rfl Tryz.func16 qq_4 rfl #[.int .u8 a0] rfl qq_1 ?_;(with_reducible refine(Qaw.calls a0 c d _ ab.out).mono ?_);rintro e bR ⟨rfl,hb⟩;refine⟨_,rfl,?_⟩;have n_:=qn1 (Qeo qq_b hb);clear HB;have HB:=n_;clear n_;(try clear hb);(try clear hb2);(try clear hk);(try clear hi)) |((with_reducible refine Qey (N:=5) rfl ?_);refine qq_e 5 #[.int .u8 0,.int .u32 0] 28 ?_;intro j hg bS hbox hb;have n_:=qn4 (Qeo qq_b hb) (hbox) (qq_s hg:w.heap.size≤j) (qq_s hg:w.heap.size≤j);clear HB;obtain⟨HB,a,T,U⟩:=n_;clear hb hbox hg;obtain⟨aY,aZ⟩:=qc2 a.out;have br:=Qdc a.out) |((with_reducible refine Qht (f:=32) rfl ?_);refine Qft (some 24) rfl rfl Tryz.func32 qq_4 rfl #[.agg #[.int .u8 c,.int .u32 d],.slice A1 l1.length c1] rfl qq_1 ?_;(with_reducible refine(Qbk.calls kj2 c d _ _ l1 l u _ ?side1 ?side2 ac.out).mono ?_);(case side1=>exact Kd.C_below A.out qq_b);(case side2=>exact B.out);rintro e bT ⟨aa,rfl,p,hb⟩;refine⟨_,rfl,?_⟩;have n_:=qn3 (Kd.R_lower p (Qen qq_b)) (Qdo (g:=j) (o:=.cells #[.int .u8 c,.int .u32 d] 28 (0,0)) qq_x hb) (Qeo qq_b hb);clear a HB;obtain⟨HO829,a,HB⟩:=n_;(try clear hb);(try clear hb2);(try clear hk);(try clear hi);(try clear p)) |((with_reducible refine Qey (N:=32) rfl ?_);refine Kd.R_lit (Kd.int .u8) _ 5 ?hg (N:=32) ?hd (xs:=([]:List Int)) (inner:=[]) (ok:=fun _=>True) (okp:=fun _=>True) ?hr ?hp (fun _ hk=>hk) trivial (Below.refl _ _) (Nat.le_refl _) (by simp) ?_;(case hd=>rfl);(case hg=>rfl);(case hr=>exact qq_17);(case hp=>exact(Reps.none _ _));intro z bU K hb hg_ hnew_;clear hg_ hnew_;(first|rw[← v.out]at K |(simp only[Int.reduceToNat]at K;rw[← v.out]at K));have n_:=qn4 (Kd.R_elder' qq_5 (Kd.R_base K) hb) (Kd.R_lower (Kd.R_new' K (Kd.R_lt qq_5)) (Qen qq_b)) (Qdo (g:=j) (o:=.cells #[.int .u8 c,.int .u32 d] 28 (0,0)) qq_0 hb) (Qeo qq_b hb);clear HO829 a HB;obtain⟨HO829,HO833,a,HB⟩:=n_;clear hb K;obtain⟨Ao72,co72,eo72⟩:=Kd.R_slice HO829.out;subst eo72) |((with_reducible refine Qhu (b:=.append) (xs:=#[.tmp 32,.tmp 33]) rfl ?_);at_builtin;refine Kd.R_append_rows (Kd.int .u8) (w0:=w) w.heap.size rfl (.tmp 32) (.tmp 33) 40 5 (.int .u8 0) 1 rfl Tryz.underlying40 Qia rfl (by decide) (by omega) z q l _ _ _ (fun k_=>some k_≠(.slice Ao72 l.length co72:Value).ownBlock) (fun _=>False) rfl rfl ?aO ?aR (fun _ _ h=>h) (fun _ h=>h.elim) ?aF ?aB ?aS ?aL ?_;(case aR=>repeat(first|exact(Kd.R_reads' HO829.out).2.2 |(with_reducible refine Kd.C_alloc ?_ _) |(with_reducible refine Kd.C_drewN ?_ _) |(with_reducible refine Kd.C_drew ?_)));(case aB=>exact qq_b);(case aF=>exact(fun k_ hk=>Kd.fresh' (Kd.R_lt qq_5) k_ hk));(case aO=>exact qq_18);(case aS=>exact(Qen qq_b));(case aL=>have:=M.out;omega);intro ae bV ho hb hg hat;rw[← O.out]at ho;have n_:=qn4 (Qdd (g:=j) (o:=.cells #[.int .u8 c,.int .u32 d] 28 (0,0)) qq_0 hg (Kd.R_ne HO833.out a.out (by decide))) (Kd.R_after (ok:=(fun _=>True)) qq_5 hg hat) (hb) (ho);clear a HO829 HB HO833;obtain⟨a,HO829,HB,HO836⟩:=n_;clear ho hb hg hat;obtain⟨ba,bb⟩:=qc2 a.out;have bs:=Qdc a.out;obtain⟨Ao74,co74,eo74⟩:=Kd.R_slice HO836.out;subst eo74) |((with_reducible refine Qht (f:=53) rfl ?_);refine Qft (some 38) rfl rfl Tryz.func53 qq_4 rfl #[.agg #[.int .u8 c,.int .u32 d],.slice Ao74 n.length co74] rfl qq_1 ?_;(with_reducible refine(Qar.calls kj2 c d _ _ n y x _ ?side1 ?side2 ah.out).mono ?_);(case side1=>repeat(first|exact(Kd.R_reads' HO836.out).2.2 |(with_reducible refine Kd.C_alloc ?_ _) |(with_reducible refine Kd.C_drewN ?_ _) |(with_reducible refine Kd.C_drew ?_)));(case side2=>exact(Kd.R_reads' HO836.out).2.1);rintro e bW ⟨af,rfl,p,hb⟩;refine⟨_,rfl,?_⟩;have n_:=qn5 (Kd.R_below qq_5 hb) (Kd.R_below qq_11 hb) (Kd.R_lower p (Qen qq_b)) (Qdo (g:=j) (o:=.cells #[.int .u8 c,.int .u32 d] 28 (0,0)) qq_0 hb) (Qeo qq_b hb);clear HO829 HO836 a HB;obtain⟨HO829,HO836,m,a,HB⟩:=n_;(try clear hb);(try clear hb2);(try clear hk);(try clear hi);(try clear p)))
       go_ret
       exact⟨qq_3,qq_b⟩
     ·rw[if_neg ag]at H;exact absurd H (by simp)
    ·rw[if_neg W]at H;have au:(u == 0)=false:=beq_eq_false_iff_ne.mpr W;have av:(u != 0)=true:=bne_iff_ne.mpr W;obtain rfl:=Option.some.inj H
     go_wp2_with (first |((with_reducible refine Qht (f:=16) rfl ?_);refine Qft (some 20) rfl rfl Tryz.func16 qq_4 rfl #[.int .u8 a0] rfl qq_1 ?_;(with_reducible refine(Qaw.calls a0 c d _ ab.out).mono ?_);rintro e bX ⟨rfl,hb⟩;refine⟨_,rfl,?_⟩;have n_:=qn1 (Qeo qq_b hb);clear HB;have HB:=n_;clear n_;(try clear hb);(try clear hb2);(try clear hk);(try clear hi)) |((with_reducible refine Qey (N:=5) rfl ?_);refine qq_e 5 #[.int .u8 0,.int .u32 0] 28 ?_;intro j hg bY hbox hb;have n_:=qn4 (Qeo qq_b hb) (hbox) (qq_s hg:w.heap.size≤j) (qq_s hg:w.heap.size≤j);clear HB;obtain⟨HB,a,T,U⟩:=n_;clear hb hbox hg;obtain⟨bc,bd⟩:=qc2 a.out;have bu:=Qdc a.out) |((with_reducible refine Qht (f:=32) rfl ?_);refine Qft (some 24) rfl rfl Tryz.func32 qq_4 rfl #[.agg #[.int .u8 c,.int .u32 d],.slice A1 l1.length c1] rfl qq_1 ?_;(with_reducible refine(Qbk.calls kj2 c d _ _ l1 l u _ ?side1 ?side2 ac.out).mono ?_);(case side1=>exact Kd.C_below A.out qq_b);(case side2=>exact B.out);rintro e bZ ⟨aa,rfl,p,hb⟩;refine⟨_,rfl,?_⟩;have n_:=qn3 (Kd.R_lower p (Qen qq_b)) (Qdo (g:=j) (o:=.cells #[.int .u8 c,.int .u32 d] 28 (0,0)) qq_x hb) (Qeo qq_b hb);clear a HB;obtain⟨HO829,a,HB⟩:=n_;(try clear hb);(try clear hb2);(try clear hk);(try clear hi);(try clear p);obtain⟨Ao80,co80,eo80⟩:=Kd.R_slice HO829.out;subst eo80))
     go_ret
     exact⟨qq_3,qq_b⟩
end Go.Proofs.YteaocbonofboeaaGreat.C
end
section
namespace Go.Proofs.YteaocbonofboeaaGreat.Open
open Go.RowKit Go.Proofs.YteaocbonofboeaaGreatW.PrintWords Go.ChangeShapes Go.WideShapes Go.Deep
structure Opens (P:Program) (t:TypeId) {α:Type} (d:Kd α) (G:α→Prop):Prop where
  sz:P.cellsOf t=d.sz
  out:∀ {H:Type} {enc:TypeId × Value→H} {w:World} {base:Nat} {spare:Nat→Bool} {held:Bool} {fuel:Nat} {cs:List Value} {x:DataW H × List MemPlace},
    DataW.trod enc P w base spare held fuel t cs=some x→(∀n∈DataW.weights P t x.1,n≤reachBytes)→∃v,d.K w v cs∧G v
theorem Qta{P:Program}{t:TypeId}(ht:P.underlying t=some .bool)(hc:P.cellsOf t=1):Opens P t Kd.bool (fun _=>True) :=
 ⟨hc,fun h _=>by
  obtain⟨b,rfl,_⟩:=DataW.trod_bool ht h
  exact⟨b,rfl,trivial⟩⟩
theorem Qtb{P:Program}{t:TypeId}{k:IntKind}(ht:P.underlying t=some (.int k))(hc:P.cellsOf t=1):Opens P t (Kd.int k) (fun n=>(Lit.int k n).wf=true) :=
 ⟨hc,fun h _=>by
  obtain⟨b,rfl,_,hw⟩:=DataW.trod_int ht h
  exact⟨b,rfl,hw⟩⟩
theorem Qtc{P:Program}{t:TypeId}(ht:P.underlying t=some .string)(hc:P.cellsOf t=1):Opens P t Kd.string (fun s=>s.size≤140737488351232) :=
 ⟨hc,fun h hs=>by
  obtain⟨b,rfl,rfl,hw⟩:=DataW.trod_string ht h
  refine⟨b,rfl,?_⟩
  have:=hs b.data.toList.length (by simp[DataW.weights])
  simpa [reachBytes]using this⟩
theorem Qtd{H:Type}{P:Program}{e:TypeId}{n:Nat}:∀ {ds:List (DataW H)} {d:DataW H},d∈ds→n∈DataW.weights P e d→n∈DataW.weightsAll P e ds
 | [],_,h,_=>by simp at h
 | a :: r,d,h,hn=>by
  simp only[DataW.weightsAll]
  rcases List.mem_cons.1 h with rfl|h
  ·exact List.mem_append_left _ hn
  ·exact List.mem_append_right _ (Qtd h hn)
theorem Qte{P:Program}{t e:TypeId}{α:Type}{d:Kd α}{G:α→Prop}{B:Nat}(ht:P.underlying t=some (.slice e))(hc:P.cellsOf t=1)(hB:P.bytesOf e=B)(he:Opens P e d G) :
  Opens P t (Kd.slice e d) (fun xs=>xs.length*B≤140737488351232∧∀x∈xs,G x) :=
 ⟨hc, fun {H enc w base spare held fuel cs x} h hs=>by
  rcases open_slice ht h with⟨rfl,rfl⟩ |⟨a,len,cap,m,n,D,Pl,rfl,hb,hl,hm,hmm,rfl,hx⟩
  ·exact⟨[],⟨none,0,rfl,Nat.zero_le _,rfl,by simp,fun hp=>absurd hp (by simp)⟩,by simp,by simp⟩
  have hlm:len≤m:=by rw[hmm];split<;>omega
  have hw:∀i,i<len→∃v,(∃cs',w.cells? base (a.add (i*P.cellsOf e)) (P.cellsOf e)=some cs'∧d.K w v cs')∧G v:=by
   intro i hi
   obtain⟨cs',h1,h2⟩:=hx i (by omega)
   obtain⟨v,hv,hg⟩:=he.out h2 (fun q hq=>hs q (by
    simp only[DataW.weights,ht]
    refine List.mem_cons_of_mem _ (List.mem_append_left _ (Qtd (d:=D i) ?_ hq))
    exact List.mem_map.2 ⟨i,List.mem_range.2 hi,rfl⟩))
   exact⟨v,⟨cs',h1,hv⟩,hg⟩
  have hw':∃xs:List α,xs.length=len∧∀i p,xs[i]? = some p→(∃cs',w.cells? base (a.add (i*P.cellsOf e)) (P.cellsOf e)=some cs'∧d.K w p cs')∧G p:=by
   clear hs hx hmm hlm hm hl h
   induction len with
   | zero=>exact⟨[],rfl,by simp⟩
   | succ q ih =>
    obtain⟨xs,hxl,hxs⟩:=ih (fun i hi=>hw i (by omega))
    obtain⟨v,hv⟩:=hw q (by omega)
    refine⟨xs++[v],by simp[hxl],fun i p hp=>?_⟩
    rcases Nat.lt_or_ge i xs.length with hi|hi
    ·rw[List.getElem?_append_left hi]at hp
     exact hxs i p hp
    ·have:i=q:=by
      have:=(List.getElem?_eq_some_iff.1 hp).1
      simp at this
      omega
     subst this
     rw[← hxl]at hp
     have:v=p:=by simpa using hp
     subst this
     exact hv
  obtain⟨xs,hxl,hxs⟩:=hw'
  have hlen:len*B≤140737488351232:=by
   have:=hs ((((List.range len).map D).length+((List.range (m-len)).map fun j=>D (len+j)).length)*P.bytesOf e) (by simp[DataW.weights,ht])
   rw[hB]at this
   have h2:(((List.range len).map D).length+((List.range (m-len)).map fun j=>D (len+j)).length)=m:=by simp;omega
   rw[h2]at this
   have h3:m*B≤140737488351232:=by simpa [reachBytes]using this
   exact Nat.le_trans (Nat.mul_le_mul_right _ hlm) h3
  refine⟨xs,⟨some a,cap,by rw[hxl],by rw[hxl];exact hl,rfl,?_,fun hp=>⟨a,rfl,fun j p hj=>?_⟩⟩,by rw[hxl];exact hlen,fun x hx=>?_⟩
  ·rw[hxl]
   exact Nat.le_trans hl (by simpa [maxLen]using hm)
  ·obtain⟨⟨cs',h1,h2⟩,_⟩:=hxs j p hj
   obtain⟨_,hcl,hcc⟩:=World.cells?_some h1
   refine⟨cs',by rw[hcl,he.sz],h2,fun i u hu=>?_⟩
   have hi:i<P.cellsOf e:=by rw[← hcl];exact(List.getElem?_eq_some_iff.1 hu).1
   rw[he.sz]at hcc hi
   have:=hcc i hi
   rw[Go.Deep.add_add]at this
   rw[this,hu]
  ·obtain⟨i,hi⟩:=List.getElem?_of_mem hx
   exact(hxs i x hi).2⟩
structure OpensFs (P:Program) (ts:List TypeId) {α:Type} (d:Kd α) (G:α→Prop):Prop where
  sz:(ts.map P.cellsOf).sum=d.sz
  out:∀ {H:Type} {enc:TypeId × Value→H} {w:World} {base:Nat} {spare:Nat→Bool} {held:Bool} {fuel:Nat} {cs:List Value} {xs:List (DataW H × List MemPlace)},
    cs.length=(ts.map P.cellsOf).sum→xs.length=ts.length →
    (∀i t,ts[i]? = some t→DataW.trod enc P w base spare held fuel t ((cs.drop ((ts.take i).map P.cellsOf).sum).take (P.cellsOf t))=xs[i]?) →
    (∀n∈DataW.weightsEach P ts (xs.map (·.1)),n≤reachBytes)→∃v,d.K w v cs∧G v
theorem OpensFs.one{P:Program}{t:TypeId}{α:Type}{d:Kd α}{G:α→Prop}(h:Opens P t d G):OpensFs P [t] d G :=
 ⟨by simp[h.sz],fun {H enc w base spare held fuel cs xs} hl hx ht hs=>by
  match xs,hx with
  | [x],_ =>
   have h0:=ht 0 t rfl
   simp at hl h0
   rw[List.take_of_length_le (by omega)]at h0
   exact h.out h0 (fun n hn=>hs n (by simp[DataW.weightsEach,hn]))⟩
theorem OpensFs.cons{P:Program}{t:TypeId}{ts:List TypeId}{α β:Type}{d:Kd α}{G:α→Prop}{d':Kd β}{G':β→Prop}(h:Opens P t d G)(r:OpensFs P ts d' G'):OpensFs P (t :: ts) (Kd.pair d d') (fun x=>G x.1∧G' x.2) :=
 ⟨by simp[h.sz,r.sz,Kd.pair],fun {H enc w base spare held fuel cs xs} hl hx ht hs=>by
  match xs,hx with
  | x :: xs,hx =>
   have h0:=ht 0 t rfl
   simp at hl h0 hx
   obtain⟨a,ha,hga⟩:=h.out h0 (fun n hn=>hs n (by simp[DataW.weightsEach,hn]))
   obtain⟨b,hb,hgb⟩:=r.out (enc:=enc) (w:=w) (base:=base) (spare:=spare) (held:=held) (fuel:=fuel) (cs:=cs.drop (P.cellsOf t)) (xs:=xs) (by rw[List.length_drop];omega) hx
    (fun i t' hi=>by
     have:=ht (i+1) t' (by simpa using hi)
     simp only[List.take_succ_cons,List.map_cons,List.sum_cons,List.getElem?_cons_succ]at this
     rw[List.drop_drop]
     exact this)
    (fun n hn=>hs n (by simp only[List.map_cons,DataW.weightsEach];exact List.mem_append_right _ hn))
   exact⟨(a,b),⟨cs.take (P.cellsOf t),cs.drop (P.cellsOf t),by simp,ha,hb⟩,hga,hgb⟩⟩
def Qtf(P:Program):Nat→List Field→Bool
 | _,[]=>true
 | o,f :: r=>(f.offset == o) && Qtf P (o+P.cellsOf f.type) r
theorem Qtg{P:Program}:∀ {fs:List Field} {o:Nat},Qtf P o fs=true→∀i f,fs[i]? = some f→f.offset=o+(((fs.map (·.type)).take i).map P.cellsOf).sum
 | [],_,_,i,f,h=>by simp at h
 | g :: r,o,h,0,f,hf=>by
  simp[Qtf]at h
  simp at hf
  subst hf
  simp[h.1]
 | g :: r,o,h,i+1,f,hf=>by
  simp[Qtf]at h
  have:=Qtg h.2 i f (by simpa using hf)
  simp[this]
  omega
theorem Qth{P:Program}{t:TypeId}{fs:Array Field}{α β:Type}{d:Kd α}{G:α→Prop}(ht:P.underlying t=some (.struct fs))(hl:Qtf P 0 fs.toList=true)(hc:P.cellsOf t=d.sz)
  (r:OpensFs P (fs.toList.map (·.type)) d G) (f:β→α) (g:α→β) (hfg:∀a,f (g a)=a):Opens P t (Kd.iso d f) (fun x=>G (f x)) :=
 ⟨hc,fun {H enc w base spare held fuel cs x} h hs=>by
  obtain⟨xs,n,rfl,rfl,hcl,hxl,hx⟩:=DataW.trod_struct ht h
  obtain⟨v,hv,hg⟩:=r.out (enc:=enc) (w:=w) (base:=base) (spare:=spare) (held:=held) (fuel:=n) (cs:=cs) (xs:=xs) (by rw[hcl,hc,r.sz]) (by simp[hxl])
   (fun i t' hi=>by
    rw[List.getElem?_map]at hi
    cases hf:fs.toList[i]? with
    | none=>simp[hf]at hi
    | some fd =>
     simp[hf]at hi
     subst hi
     have:=hx i fd (by simpa using hf)
     rw[Qtg hl i fd hf,Nat.zero_add]at this
     exact this)
   (fun q hq=>hs q (by simp only[DataW.weights,ht];exact hq))
  exact⟨g v,by show d.K w (f (g v)) cs;rw[hfg];exact hv,by show G (f (g v));rw[hfg];exact hg⟩⟩
theorem Qti{H:Type}{P:Program}:∀ {ts:List TypeId} {ds:List (DataW H)} {j:Nat} {t:TypeId} {d:DataW H},(DataW.weightsEach P ts ds).all (·≤reachBytes)=true→ts[j]? = some t→ds[j]? = some d→∀n∈DataW.weights P t d,n≤reachBytes
 | [],_,_,_,_,_,h,_=>by simp at h
 | _ :: _,[],_,_,_,_,_,h=>by simp at h
 | t0 :: ts,d0 :: ds,0,t,d,hz,h1,h2=>by
  simp at h1 h2
  subst h1 h2
  intro n hn
  simp only[DataW.weightsEach]at hz
  exact of_decide_eq_true (List.all_eq_true.1 hz n (List.mem_append_left _ hn))
 | t0 :: ts,d0 :: ds,j+1,t,d,hz,h1,h2=>by
  simp only[DataW.weightsEach]at hz
  refine Qti (ts:=ts) (ds:=ds) (j:=j) ?_ (by simpa using h1) (by simpa using h2)
  rw[List.all_append]at hz
  exact(Bool.and_eq_true _ _ ▸ hz).2
theorem Qtj{H:Type}{enc:TypeId × Value→H}{P:Program}{w:World}{base:Nat}{spare:Nat→Bool}{held:Bool}{t e:TypeId}{α:Type}{d:Kd α}{G:List α→Prop}(op:Opens P t (Kd.slice e d) G){a:Option Addr}{len cap:Nat}{x:DataW H}{ps:List MemPlace}
  (h:DataW.Trod enc P w base spare held t (.slice a len cap) x ps) (hs:∀n∈DataW.weights P t x,n≤reachBytes):∃l:List α,len=l.length∧l.length≤cap∧d.C w a l.length l∧G l:=by
 obtain⟨fuel,hf⟩:=h
 obtain⟨l,⟨A,c,he,hc,hr⟩,hg⟩:=op.out hf hs
 have he':[Value.slice a len cap]=[.slice A l.length c]:=by simpa [Value.cells]using he
 simp only[List.cons.injEq,Value.slice.injEq,and_true]at he'
 obtain⟨rfl,rfl,rfl⟩:=he'
 exact⟨l,rfl,hc,hr,hg⟩
end Go.Proofs.YteaocbonofboeaaGreat.Open
end
