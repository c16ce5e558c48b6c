/- Merged texts. -/
import Derived.Test.YtepkfjmjidjedaaGreatMB02
import Derived.Test.YtepkfjmjidjedaaGreatMB09
import Derived.Test.YtepkfjmjidjedaaGreatMB03
import Derived.Test.YtepkfjmjidjedaaGreatMB05
import Derived.Test.YtepkfjmjidjedaaGreatMB08
import Derived.Test.YtepkfjmjidjedaaGreatMB04
import Derived.Test.YtepkfjmjidjedaaGreatMB06
import Derived.Test.YtepkfjmjidjedaaGreatMB07
import Derived.Laws.Bits64b
set_option linter.unusedVariables false
set_option linter.unusedSimpArgs false
set_option maxHeartbeats 8000000
set_option maxRecDepth 100000
section
namespace Go.Proofs.YtepkfjmjidjedaaGreat.C
open Go.RowKit Go.Proofs.YtepkfjmjidjedaaGreatW.PrintWords Go.Proofs.YtepkfjmjidjedaaGreatW.PrintLast Go.Proofs.YtepkfjmjidjedaaGreatW.PrintMore
attribute [local go_sem] Qhj Qhk Qhl Qhm Qhn Qho Qhp Qhq
def Qbs.l0:Nat→List Int→List (S36)→Int→Int→Int→Int→Option (List Int × List Int × Int)
 | 0,_,_,_,_,_,_=>none
 | k+1,x5,x23,x24,x25,x182000,x182001=>if x25<x24 then(if 0≤x25 then(if x25<(x23.length:Int)then((Qbn.f ((Qic x23 x25).f0) ((Qic x23 x25).f1) ((Qic x23 x25).f2) ((Qic x23 x25).f3)).bind fun bt186=>(if x5.length<17592186044416 then(Qbs.l0 k (x5++[(bt186.1.length:Int)]) x23 x24 (wrap64 (x25+1)) x182000 x182001)else(none)))else(none))else(none))else((Qbx.f k x182000 x182001 x5).bind fun bt193=>(some (bt193.1,x5,bt193.2)))
def Qbs.f(k:Nat)(a0_0:Int)(a0_1:Int)(l1:List (S36)):Option (List Int × List Int × Int):=(Qal.f a0_0 a0_1).bind fun t182=>(if t182=0 then((Qce.f k l1).bind fun t183=>(if t183=0 then(Qbs.l0 k ([]:List Int) l1 (l1.length:Int) 0 a0_0 a0_1)else(some (([]:List Int),([]:List Int),t183))))else(some (([]:List Int),([]:List Int),t182)))
theorem Qbs.calls (k:Nat) (d:Int) (j:Int) (A1:Option Addr) (c1:Nat) (l1:List (S36)) (r1:List Int) (r2:List Int) (r3:Int) (w:World) (hr1:Kd.C k36 w A1 l1.length l1) (hc1:l1.length≤c1) (h:Qbs.f k d j l1=some (r1,r2,r3)) :
  Calls Tryz.prog 43 #[.agg #[.int .u8 d,.int .u32 j],.slice A1 l1.length c1] w fun e w'=>∃an ao:Value,e=.returned (.tuple #[an,ao,.int .i64 r3])∧Kd.R (Kd.int .u32) 38 w' w.heap.size (fun _=>True) an r1∧Kd.R (Kd.int .i64) 3 w' w.heap.size (fun _=>True) ao r2∧Below w.heap.size w w':=by
 have hu40:=Tryz.underlying40;have hu36:=Tryz.underlying36;have U:=QA hr1;have ap:=QA hc1;clear hr1 hc1;have HB:=QA (Below.refl w.heap.size w);have H:((Qal.f d j).bind fun n=>(if n=0 then((Qce.f k l1).bind fun s=>(if s=0 then(Qbs.l0 k ([]:List Int) l1 (l1.length:Int) 0 d j)else(some (([]:List Int),([]:List Int),s))))else(some (([]:List Int),([]:List Int),n))))=some (r1,r2,r3):=h;clear h;replace H:=Option.bind_eq_some_iff.mp H;obtain⟨n,aq,H⟩:=H;have A3:=QA aq;clear aq
 by_cases c4:n=0
 ·rw [if_pos c4]at H;have W:(n == 0)=true:=beq_iff_eq.mpr c4;have X:(n != 0)=false:=bne_eq_false_iff_eq.mpr c4;clear c4;replace H:=Option.bind_eq_some_iff.mp H;obtain⟨s,ar,H⟩:=H;have A5:=QA ar;clear ar
  by_cases c6:s=0
  ·rw [if_pos c6]at H;have Y:(s == 0)=true:=beq_iff_eq.mpr c6;have Z:(s != 0)=false:=bne_eq_false_iff_eq.mpr c6;clear c6;have H':=QA H;clear H
   go_enter Tryz.func43,Tryz.ntmps43
   go_wp2_with (first |((with_reducible refine Qfe (N:=2) rfl ?_);refine qq_e 2 #[.int .u8 d,.int .u32 j] 40 ?_;intro l hg w7 hbox hb;have n_:=qn4 (Qeu qq_b hb) (hbox) (qq_s hg:w.heap.size≤l) (qq_s hg:w.heap.size≤l);clear HB;obtain⟨HB,a,L,M⟩:=n_;clear hb hbox hg;obtain⟨aa,ab⟩:=qc2 a.out;have au:=Qdm a.out) |((with_reducible refine Qhr (f:=82) rfl ?_);refine Qfz (some 14) rfl rfl Tryz.func82 qq_6 rfl #[.agg #[.int .u8 d,.int .u32 j]] rfl qq_2 ?_;(with_reducible refine(Qal.calls d j n _ A3.out).mono ?_);rintro e w9 ⟨rfl,hb⟩;refine⟨_,rfl,?_⟩;have n_:=qn2 (Qdy (g:=l) (o:=.cells #[.int .u8 d,.int .u32 j] 40 (0,0)) qq_0 hb) (Qeu qq_b hb);clear a HB;obtain⟨a,HB⟩:=n_;(try clear hb);(try clear hb2);(try clear hk);(try clear hi)) |((with_reducible refine Qhr (f:=83) rfl ?_);refine Qfz (some 19) rfl rfl Tryz.func83 qq_6 rfl #[.slice A1 l1.length c1] rfl qq_2 ?_;(with_reducible refine(Qce.calls k _ _ l1 s _ ?side1 ?side2 A5.out).mono ?_);(case side1=>repeat(first|exact(Kd.C_below U.out HB.out) |(with_reducible refine Kd.C_alloc ?_ _) |(with_reducible refine Kd.C_drewN ?_ _) |(with_reducible refine Kd.C_drew ?_)));(case side2=>exact ap.out);rintro e be ⟨rfl,hb⟩;refine⟨_,rfl,?_⟩;have n_:=qn2 (Qdy (g:=l) (o:=.cells #[.int .u8 d,.int .u32 j] 40 (0,0)) qq_0 hb) (Qeu qq_b hb);clear a HB;obtain⟨a,HB⟩:=n_;(try clear hb);(try clear hb2);(try clear hk);(try clear hi)))
   go_loopg [5,25] k (fun kq v5 aJ w'=>∃(q:List Int) (c:Int),aJ=.int .i64 c∧Aside0 (Qbs.l0 kq q l1 (l1.length:Int) c d j=some (r1,r2,r3))∧Aside0 (kq≤k)∧Aside0 (Kd.R (Kd.int .i64) 3 w' w.heap.size (fun _=>True) v5 q)∧Aside0 (w'.heap[l]? = some (.cells #[.int .u8 d,.int .u32 j] 40 (0,0)))∧Aside0 (Below w.heap.size w w'))
   case atStart=>exact⟨(([]:List Int)),(0),qq_7,H',⟨Nat.le_refl _⟩,⟨by first|exact Kd.R_nil _ _ _ _ _|exact Kd.N_nil _ _ _ _ _|exact Kd.V_nil _ _ _ _ _|exact Kd.Q_nil _ _ _ _ _|exact Kd.S_nil _ _ _ _ _⟩,⟨by(with_reducible repeat(first|apply Qdx|apply Qdw|apply Qdv));exact a.out⟩,⟨qq_b⟩⟩
   case round =>
    clear H'
    try clear c1
    try clear c4
    try clear W
    try clear X
    try clear c6
    try clear Y
    try clear Z
    try clear aa
    try clear ab
    try clear au
    obtain⟨q,c,rfl,HA,HK1,HO_5,a,HB⟩:=hrel
    cases gk with
    | zero=>exact absurd HA.out (by simp[Qbs.l0])
    | succ k1 =>
     have H:=HA.out;clear HA;simp only[Qbs.l0]at H
     by_cases x:c<(l1.length:Int)
     ·rw [if_pos x]at H;have ai:=decide_eq_true x;clear x
      by_cases O:0≤c
      ·rw[if_pos O]at H;have aN:=decide_eq_true O;clear O
       by_cases P:c<(l1.length:Int)
       ·rw[if_pos P]at H;have aQ:=decide_eq_true P;clear P;replace H:=Option.bind_eq_some_iff.mp H;obtain⟨⟨v,av⟩,ac,H⟩:=H;replace H:(if q.length<17592186044416 then(Qbs.l0 k1 (q++[(v.length:Int)]) l1 (l1.length:Int) (wrap64 (c+1)) d j)else(none))=some (r1,r2,r3):=H;have aK:=QA ac;clear ac
        by_cases T:q.length<17592186044416
        ·rw[if_pos T]at H;have aj:=QA T;clear T;obtain⟨ad,t⟩:∃y_:List Int,y_=(q++[(v.length:Int)]):=⟨_,rfl⟩;replace H:(Qbs.l0 k1 ad l1 (l1.length:Int) (wrap64 (c+1)) d j)=some (r1,r2,r3):=by first |(rw[t];with_reducible exact H) |(have ae:=(Option.bind_some _ _).symm.trans H;rw[t];with_reducible exact ae) |(have ae:=(Option.bind_some _ _).symm.trans H;with_reducible exact ae)|with_reducible exact H |(rw[t];exact H)|exact H
         have ak:=QA t;clear t;have H':=QA H;clear H;have I:0≤(c:Int):=of_decide_eq_true qq_4;have J:c<(l1.length:Int):=of_decide_eq_true qq_4;obtain⟨aR,aw,y,z,A,B⟩:=Qid U.out c I J
         cases aw
         replace y:=qq_h HB.out y;replace z:=qq_h HB.out z;replace A:=qq_h HB.out A;replace B:=qq_h HB.out B;replace I:=eq_true I;replace J:=eq_true J
         go_wp2_with (first |((with_reducible refine Qfe (N:=10) rfl ?_);refine qq_e 10 #[.bool false,.int .u64 0,.string (⟨#[]⟩:ByteArray),.string (⟨#[]⟩:ByteArray)] 36 ?_;intro m hg bf hbox hb;have n_:=qn8 (Kd.R_below qq_24 hb) (Qdy (g:=l) (o:=.cells #[.int .u8 d,.int .u32 j] 40 (0,0)) qq_0 hb) (Qeu qq_b hb) (hbox) (qq_s hg:w.heap.size≤m) (qq_s hg:w.heap.size≤m) ((by rw[hg];exact Nat.ne_of_lt (Qdk (g:=l) (o:=.cells #[.int .u8 d,.int .u32 j] 40 (0,0)) qq_0):l≠m)) ((by rw[hg];exact Nat.ne_of_gt (Qdk (g:=l) (o:=.cells #[.int .u8 d,.int .u32 j] 40 (0,0)) qq_0):m≠l));clear HO_5 a HB;obtain⟨HO_5,a,HB,r,aT,aU,D,E⟩:=n_;clear hb hbox hg;have aV:=E.out;have aW:=D.out;obtain⟨ax,ay,az,aA⟩:=qc4 r.out;have aX:=Qdm r.out) |((with_reducible refine Qhr (f:=84) rfl ?_);refine Qfz (some 31) rfl rfl Tryz.func84 qq_6 rfl #[.agg #[.bool ((Qic l1 c).f0),.int .u64 ((Qic l1 c).f1),.string ((Qic l1 c).f2),.string ((Qic l1 c).f3)]] rfl qq_2 ?_;(with_reducible refine(Qbn.calls ((Qic l1 c).f0) ((Qic l1 c).f1) ((Qic l1 c).f2) ((Qic l1 c).f3) v av _ aK.out).mono ?_);rintro e bg ⟨bb,rfl,G,hb⟩;refine⟨_,rfl,?_⟩;have n_:=qn5 (Kd.R_below (by(with_reducible repeat(first|apply Kd.R_alloc|apply Kd.R_drewN|apply Kd.R_drew));exact(Kd.R_mono (Kd.R_far (p:=⟨m,3,none⟩) (Kd.R_far (p:=⟨m,2,none⟩) (Kd.R_far (p:=⟨m,1,none⟩) (Kd.R_far (p:=⟨m,0,none⟩) (Kd.R_types HO_5.out r.out (by decide)) (fun _ hk=>hk.2) (.bool ((Qic l1 c).f0))) (fun _ hk=>hk.2) (.int .u64 ((Qic l1 c).f1))) (fun _ hk=>hk.2) (.string ((Qic l1 c).f2))) (fun _ hk=>hk.2) (.string ((Qic l1 c).f3))) (fun _ h_=>h_.1))) hb) (Kd.R_lower G (Qet qq_b)) (Qdy (g:=l) (o:=.cells #[.int .u8 d,.int .u32 j] 40 (0,0)) qq_8 hb) (Qdy (g:=m) (o:=.cells #[.bool ((Qic l1 c).f0),.int .u64 ((Qic l1 c).f1),.string ((Qic l1 c).f2),.string ((Qic l1 c).f3)] 36 (0,0)) qq_x hb) (Qeu qq_b hb);clear HO_5 a r HB;obtain⟨HO_5,u,a,r,HB⟩:=n_;(try clear hb);(try clear hb2);(try clear hk);(try clear hi);(try clear G);obtain⟨Ao20,co20,eo20⟩:=Kd.R_slice u.out;subst eo20) |((with_reducible refine Qhs (b:=.append) (xs:=#[.tmp 34,.tmp 37]) rfl ?_);at_builtin;refine Kd.R_append (Kd.int .i64) (w0:=w) w.heap.size rfl (.tmp 34) (.tmp 37) 101 3 (.int .i64 0) 8 rfl Tryz.underlying101 info3 rfl (by decide) (by omega) u5 q (v.length:Int) [.int .i64 (v.length:Int)] (fun _=>True) (fun _=>False) rfl rfl ?aP (fun _ hk=>hk.elim) ?aF ?aO ?aB ?aS ?aL ?_;(case aP=>exact rfl);(case aB=>exact qq_b);(case aF=>exact(fun _ _=>trivial));(case aO=>exact qq_24);(case aS=>exact(Qet qq_b));(case aL=>have:=aj.out;omega);intro bc bh ho hb hg hat;rw[← ak.out]at ho;have n_:=qn5 (Qdn (g:=l) (o:=.cells #[.int .u8 d,.int .u32 j] 40 (0,0)) qq_0 hg (Kd.R_ne HO_5.out a.out (by decide))) (Qdn (g:=m) (o:=.cells #[.bool ((Qic l1 c).f0),.int .u64 ((Qic l1 c).f1),.string ((Qic l1 c).f2),.string ((Qic l1 c).f3)] 36 (0,0)) qq_0 hg (Kd.R_ne HO_5.out r.out (by decide))) (Kd.R_over' (by(with_reducible repeat(first|apply Kd.R_alloc|apply Kd.R_drewN|apply Kd.R_drew));exact u.out) (Kd.R_typed qq_24) (by decide) hg) (hb) (ho);clear a r u HB HO_5;obtain⟨a,r,u,HB,al⟩:=n_;clear ho hb hg hat))
         go_roundg k1
         case measure=>have:=HK1.out;omega
         case rel=>exact⟨(ad),(wrap64 (c+1)),qq_7,H',⟨by have:=HK1.out;omega⟩,⟨by(with_reducible repeat(first|apply Kd.R_alloc|apply Kd.R_drewN|apply Kd.R_drew));exact al.out⟩,⟨by(with_reducible repeat(first|apply Qdx|apply Qdw|apply Qdv));exact a.out⟩,⟨qq_b⟩⟩
        ·rw[if_neg T]at H;exact absurd H (by simp)
       ·rw[if_neg P]at H;exact absurd H (by simp)
      ·rw[if_neg O]at H;exact absurd H (by simp)
     ·rw[if_neg x]at H;have ai:=decide_eq_false x;clear x;replace H:=Option.bind_eq_some_iff.mp H;obtain⟨⟨af,ag⟩,ah,H⟩:=H;replace H:(some (af,q,ag))=some (r1,r2,r3):=H;have aM:=QA ah;clear ah;simp only[Option.some.injEq,Prod.mk.injEq]at H;obtain⟨rfl,rfl,rfl⟩:=H;obtain⟨aC,aD⟩:=qc2 a.out;have aY:=Qdm a.out;obtain⟨Ao24,co24,eo24⟩:=Kd.R_slice HO_5.out;subst eo24
      go_wp2_with (first |((with_reducible refine Qhr (f:=85) rfl ?_);refine Qfz (some 43) rfl rfl Tryz.func85 qq_6 rfl #[.agg #[.int .u8 d,.int .u32 j],.slice Ao24 q.length co24] rfl qq_2 ?_;(with_reducible refine(Qbx.calls k1 d j _ _ q af ag _ ?side1 ?side2 aM.out).mono ?_);(case side1=>repeat(first|exact(Kd.R_reads' HO_5.out).2.2 |(with_reducible refine Kd.C_alloc ?_ _) |(with_reducible refine Kd.C_drewN ?_ _) |(with_reducible refine Kd.C_drew ?_)));(case side2=>exact(Kd.R_reads' HO_5.out).2.1);rintro e bi ⟨bd,rfl,G,hb⟩;refine⟨_,rfl,?_⟩;have n_:=qn4 (Kd.R_below qq_24 hb) (Kd.R_lower G (Qet qq_b)) (Qdy (g:=l) (o:=.cells #[.int .u8 d,.int .u32 j] 40 (0,0)) qq_0 hb) (Qeu qq_b hb);clear HO_5 a HB;obtain⟨HO_5,am,a,HB⟩:=n_;(try clear hb);(try clear hb2);(try clear hk);(try clear hi);(try clear G)))
      go_ret3
      exact⟨_,_,by first|rfl |(simp[Qhv,Qhw]<;>rfl) |(simp[*,Qhv,Qhw]<;>rfl),by(with_reducible repeat(first|apply Kd.R_alloc|apply Kd.R_drewN|apply Kd.R_drew));exact am.out,by(with_reducible repeat(first|apply Kd.R_alloc|apply Kd.R_drewN|apply Kd.R_drew));exact HO_5.out,qq_b⟩
  ·rw[if_neg c6]at H;have Y:(s == 0)=false:=beq_eq_false_iff_ne.mpr c6;have Z:(s != 0)=true:=bne_iff_ne.mpr c6;simp only[Option.some.injEq,Prod.mk.injEq]at H;obtain⟨rfl,rfl,rfl⟩:=H
   go_enter Tryz.func43,Tryz.ntmps43
   go_wp2_with (first |((with_reducible refine Qfe (N:=2) rfl ?_);refine qq_e 2 #[.int .u8 d,.int .u32 j] 40 ?_;intro l hg bj hbox hb;have n_:=qn4 (Qeu qq_b hb) (hbox) (qq_s hg:w.heap.size≤l) (qq_s hg:w.heap.size≤l);clear HB;obtain⟨HB,a,L,M⟩:=n_;clear hb hbox hg;obtain⟨aE,aG⟩:=qc2 a.out;have aZ:=Qdm a.out) |((with_reducible refine Qhr (f:=82) rfl ?_);refine Qfz (some 14) rfl rfl Tryz.func82 qq_6 rfl #[.agg #[.int .u8 d,.int .u32 j]] rfl qq_2 ?_;(with_reducible refine(Qal.calls d j n _ A3.out).mono ?_);rintro e bk ⟨rfl,hb⟩;refine⟨_,rfl,?_⟩;have n_:=qn2 (Qdy (g:=l) (o:=.cells #[.int .u8 d,.int .u32 j] 40 (0,0)) qq_0 hb) (Qeu qq_b hb);clear a HB;obtain⟨a,HB⟩:=n_;(try clear hb);(try clear hb2);(try clear hk);(try clear hi)) |((with_reducible refine Qhr (f:=83) rfl ?_);refine Qfz (some 19) rfl rfl Tryz.func83 qq_6 rfl #[.slice A1 l1.length c1] rfl qq_2 ?_;(with_reducible refine(Qce.calls k _ _ l1 s _ ?side1 ?side2 A5.out).mono ?_);(case side1=>repeat(first|exact(Kd.C_below U.out HB.out) |(with_reducible refine Kd.C_alloc ?_ _) |(with_reducible refine Kd.C_drewN ?_ _) |(with_reducible refine Kd.C_drew ?_)));(case side2=>exact ap.out);rintro e bl ⟨rfl,hb⟩;refine⟨_,rfl,?_⟩;have n_:=qn2 (Qdy (g:=l) (o:=.cells #[.int .u8 d,.int .u32 j] 40 (0,0)) qq_0 hb) (Qeu qq_b hb);clear a HB;obtain⟨a,HB⟩:=n_;(try clear hb);(try clear hb2);(try clear hk);(try clear hi)))
   go_ret3
   exact⟨_,_,by first|rfl |(simp[Qhv,Qhw]<;>rfl) |(simp[*,Qhv,Qhw]<;>rfl),by first|exact Kd.R_nil _ _ _ _ _|exact Kd.N_nil _ _ _ _ _|exact Kd.V_nil _ _ _ _ _|exact Kd.Q_nil _ _ _ _ _|exact Kd.S_nil _ _ _ _ _,by first|exact Kd.R_nil _ _ _ _ _|exact Kd.N_nil _ _ _ _ _|exact Kd.V_nil _ _ _ _ _|exact Kd.Q_nil _ _ _ _ _|exact Kd.S_nil _ _ _ _ _,qq_b⟩
 ·rw[if_neg c4]at H;have W:(n == 0)=false:=beq_eq_false_iff_ne.mpr c4;have X:(n != 0)=true:=bne_iff_ne.mpr c4;simp only[Option.some.injEq,Prod.mk.injEq]at H;obtain⟨rfl,rfl,rfl⟩:=H
  go_enter Tryz.func43,Tryz.ntmps43
  go_wp2_with (first |((with_reducible refine Qfe (N:=2) rfl ?_);refine qq_e 2 #[.int .u8 d,.int .u32 j] 40 ?_;intro l hg bn hbox hb;have n_:=qn4 (Qeu qq_b hb) (hbox) (qq_s hg:w.heap.size≤l) (qq_s hg:w.heap.size≤l);clear HB;obtain⟨HB,a,L,M⟩:=n_;clear hb hbox hg;obtain⟨aH,aI⟩:=qc2 a.out;have ba:=Qdm a.out) |((with_reducible refine Qhr (f:=82) rfl ?_);refine Qfz (some 14) rfl rfl Tryz.func82 qq_6 rfl #[.agg #[.int .u8 d,.int .u32 j]] rfl qq_2 ?_;(with_reducible refine(Qal.calls d j n _ A3.out).mono ?_);rintro e bo ⟨rfl,hb⟩;refine⟨_,rfl,?_⟩;have n_:=qn2 (Qdy (g:=l) (o:=.cells #[.int .u8 d,.int .u32 j] 40 (0,0)) qq_0 hb) (Qeu qq_b hb);clear a HB;obtain⟨a,HB⟩:=n_;(try clear hb);(try clear hb2);(try clear hk);(try clear hi)))
  go_ret3
  exact⟨_,_,by first|rfl |(simp[Qhv,Qhw]<;>rfl) |(simp[*,Qhv,Qhw]<;>rfl),by first|exact Kd.R_nil _ _ _ _ _|exact Kd.N_nil _ _ _ _ _|exact Kd.V_nil _ _ _ _ _|exact Kd.Q_nil _ _ _ _ _|exact Kd.S_nil _ _ _ _ _,by first|exact Kd.R_nil _ _ _ _ _|exact Kd.N_nil _ _ _ _ _|exact Kd.V_nil _ _ _ _ _|exact Kd.Q_nil _ _ _ _ _|exact Kd.S_nil _ _ _ _ _,qq_b⟩
def fascicleref07_Body.T2:Bool × List (List Nat × List Nat):=(true,[([],[]),([0],[0]),([1],[1]),([2],[2]),([],[]),([4],[4]),([5,2],[5]),([3,6],[3,6]),([7,6,0,1,2,3,4,5,6,7],[7])])
def fascicleref09_Head.T1:Bool × List (List Nat × List Nat):=(true,[([],[]),([0],[0]),([1],[1]),([2],[2]),([3],[3]),([],[]),([5],[5]),([6],[6]),([7],[7]),([4,8],[4,8]),([],[]),([10,8],[10]),([9,11],[9,11]),([12,11],[12]),([13,13,0,1,2,3,4,5,6,7,8,9,10,11,12,13],[13])])
def fascicleref09_Head.B1:List Nat:=[0,1,3,7,15,0,32,96,224,511,0,1504,4095,8191,16383]
def fascicleref14_Empty.T1:Bool × List (List Nat × List Nat):=(true,[([],[]),([],[]),([],[]),([],[]),([2,3],[2,3]),([4],[4]),([0,1,5],[0,1,5]),([6,4,0,1,2,3,4,5,6],[6])])
def fascicleref14_Empty.B1:List Nat:=[0,0,0,0,12,28,63,127]
def fascicleref13_Text.T1:Bool × List (List Nat × List Nat):=(true,[([],[]),([0],[0]),([1],[1]),([2],[2]),([3],[3]),([4],[4]),([],[]),([6],[6]),([7],[7]),([8,4],[8]),([5,9],[5,9]),([10,9,0,1,2,3,4,5,6,7,8,9,10],[10])])
def fascicleref13_Text.B1:List Nat:=[0,1,3,7,15,31,0,64,192,479,1023,2047]
def fascicleref13_Text.T2:Bool × List (List Nat × List Nat):=(true,[([],[]),([],[]),([1],[1]),([2],[2]),([0,3],[0,3]),([],[]),([5],[5]),([6,3],[6]),([7,7],[7]),([4,8],[4,8]),([9,8],[9]),([10,10,0,1,2,3,4,5,6,7,8,9,10],[10])])
end Go.Proofs.YtepkfjmjidjedaaGreat.C
end
section
namespace Go.Proofs.YtepkfjmjidjedaaGreat.C
open Go.RowKit Go.Proofs.YtepkfjmjidjedaaGreatW.PrintWords Go.Proofs.YtepkfjmjidjedaaGreatW.PrintLast Go.Proofs.YtepkfjmjidjedaaGreatW.PrintMore
abbrev Room5:=Int × Int × Int × Int × Int
def IsBd(W:World)(b g:Nat)(R:Room5)(fr:List Int)(tb:List S177):Prop :=
 ∃fv tv,W.heap[g]? = some (.cells #[.int .u8 R.1,.int .u32 R.2.1,.int .u32 R.2.2.1,.int .i64 R.2.2.2.1,.int .i64 R.2.2.2.2,fv,tv] 165 (0,0))∧R8 W b fv fr∧Kd.R k177 177 W b (fun _=>True) tv tb
theorem IsBd.kept{W W':World}{b g:Nat}{R:Room5}{fr:List Int}{tb:List S177}(h:IsBd W b g R fr tb)(hb:Below W.heap.size W W'):IsBd W' b g R fr tb:=by
 obtain⟨fv,tv,h1,h2,h3⟩:=h;exact⟨fv,tv,Qdy h1 hb,h2.kept hb,Kd.R_below h3 hb⟩
theorem room5{W:World}{B:Nat}{e s n u c:Int}(h:W.heap[B]? = some (.cells #[.int .u8 e,.int .u32 s,.int .u32 n,.int .i64 u,.int .i64 c] 125 (0,0))) :
  W.cell? ⟨B,0,none⟩=some (.int .u8 e)∧W.cell? ⟨B,1,none⟩=some (.int .u32 s)∧W.cell? ⟨B,2,none⟩=some (.int .u32 n)∧W.cell? ⟨B,3,none⟩=some (.int .i64 u)∧W.cell? ⟨B,4,none⟩=some (.int .i64 c) :=
 ⟨(Qdl h 0).trans rfl,(Qdl h 1).trans rfl,(Qdl h 2).trans rfl,(Qdl h 3).trans rfl,(Qdl h 4).trans rfl⟩
theorem Qmy(e s n u c:Int)(hd:List Int)(w:World)(hp:Qbw.f e s n=some (e,s,n,u,c,0))(hh:Qbm.f e s n=some (hd,0)) :
  Calls Tryz.prog 45 #[.agg #[.int .u8 e,.int .u32 s],.int .u32 n] w fun ee w'=>∃g,ee=.returned (.tuple #[.pointer (some ⟨g,0,none⟩),.int .i64 0])∧IsBd w' w.heap.size g (e,s,n,u,c) hd []∧Below w.heap.size w w'∧w.heap.size≤g:=by
 have hu:=Tryz.underlying40;have hu2:=Tryz.underlying125;have hu3:=Tryz.underlying165;have HP:=QA hp;have HH:=QA hh;clear hp hh;have hba:Below w.heap.size w (w.alloc (.cells #[.int .u8 e,.int .u32 s] 40)):=Qcn (Below.refl _ _) _;have hbn:=Qdz w (.cells #[.int .u8 e,.int .u32 s] 40)
 go_enter Tryz.func45,Tryz.ntmps45
 go_wp2_with (first
  |(go_at_call 58;refine(Qbw.calls e s n _ _ _ _ _ _ _ HP.out).mono ?_;rintro ee w1 ⟨rfl,hb1⟩;have hk1:=Qdy hbn hb1;have hw1:=QA (Qcq hba hba.size hb1);have hs1:=QA (show w.heap.size<w1.heap.size from Qdk hk1);have hk1':=Qdv hk1 (.cells #[.int .u8 e,.int .u32 s,.int .u32 n,.int .i64 u,.int .i64 c] 125);obtain⟨c0,c1⟩:=box2 hk1';clear hk1 hb1 hbn hba)
  |(go_at_call 90;refine(Qbm.calls e s n hd 0 _ HH.out).mono ?_;rintro ee w3 ⟨v3,rfl,hR3,hb3⟩;have hk3:=Qdy (Qdz w1 (.cells #[.int .u8 e,.int .u32 s,.int .u32 n,.int .i64 u,.int .i64 c] 125)) hb3;obtain⟨d0,d1,d2,d3,d4⟩:=room5 hk3;obtain⟨A3,n3,c3,rfl⟩:=R8.shape hR3))
 refine bodyPost_ret (results_tmp2 rfl _ _ _) rfl ?_;have hz1:=Nat.le_of_lt hs1.out;have hbr:Below w1.heap.size w1 (w1.alloc (.cells #[.int .u8 e,.int .u32 s,.int .u32 n,.int .i64 u,.int .i64 c] 125)):=Qcn (Below.refl _ _) _;have hz3:w.heap.size≤w3.heap.size:=Nat.le_trans (Nat.le_trans hz1 hbr.size) hb3.size;refine⟨w3.heap.size,rfl,⟨_,_,Qdz w3 _,?_,Kd.R_nil _ _ _ _ _⟩,?_,hz3⟩
 ·exact R8.low (R8.kept hR3 (Qcn (Below.refl _ _) _)) (Nat.le_trans hz1 hbr.size)
 ·exact((hw1.out.trans (Qip hbr hz1)).trans (Qip hb3 (Nat.le_trans hz1 hbr.size))).trans (Qip (Qcn (Below.refl w3.heap.size w3) _) hz3)
theorem Qmz(b g:Nat)(R:Room5)(fr:List Int)(tb:List S177)(w:World)(hI:IsBd w b g R fr tb)(hl:fr.length≤140737488355328) :
  Calls Tryz.prog 89 #[.pointer (some ⟨g,0,none⟩)] w fun e w'=>∃v:Value,e=.returned v∧R8 w' w.heap.size v fr∧Below w.heap.size w w':=by
 obtain⟨fv,tv,hv,hR,hT⟩:=hI;obtain⟨A,n,c,rfl,hn,hlc,hC⟩:=R8.reads hR;have hc:w.cell? ⟨g,5,none⟩=some (.slice A n c):=(Qdl hv 5).trans rfl;have hcl:=hC.1;have hu3:=Tryz.underlying165;have hcall:Calls Tryz.prog 151 #[.slice A n c] w fun e w'=>∃v0_:Value,e=.returned (v0_)∧R8 w' w.heap.size v0_ fr∧Below w.heap.size w w':=by
  subst hcl;exact Qiq A c fr w hC hl
 clear hcl
 go_enter Tryz.func89,Tryz.ntmps89
 go_wp2_with (go_at_call 151;refine hcall.mono ?_;rintro e w' ⟨v1,rfl,hd,hb⟩)
 go_ret
 exact⟨_,rfl,hd,hb⟩
theorem Qna(b0 b g:Nat)(R:Room5)(fr:List Int)(tb:List S177)(fs:List Int)(fsv:Value)(sz:Nat)(w:World)(hI:IsBd w b0 g R fr tb)(hF:R8 w b fsv fs)(hbw:b≤w.heap.size)(hsz:Qam.f R.1 R.2.1=some (sz:Int))(hle:fs.length≤sz)(hs2:sz≤70368744177664) :
  Calls Tryz.prog 88 #[.pointer (some ⟨g,0,none⟩),fsv] w fun e w'=>∃v:Value,e=.returned v∧R8 w' b v (fs++List.replicate (sz-fs.length) 255)∧Below b w w':=by
 obtain⟨fv,tv,hv,hR,hT⟩:=hI;obtain⟨A,n,c,rfl,hn,hlc,hC⟩:=R8.reads hF;have hnf:n=fs.length:=hn.out;have hc0:w.cell? ⟨g,0,none⟩=some (.int .u8 R.1):=(Qdl hv 0).trans rfl;have hc1:w.cell? ⟨g,1,none⟩=some (.int .u32 R.2.1):=(Qdl hv 1).trans rfl;have hu:=Tryz.underlying40;have hu2:=Tryz.underlying125;have hu3:=Tryz.underlying165;have hnsz:n≤sz:=by omega
 have hsub:IntKind.i64.wrap ((sz:Int)-(n:Int))=((sz-n:Nat):Int):=by rw[IntWalk.i64_in _ (by omega)];omega
 have hsub2:(sz:Int)-(n:Int)=((sz-n:Nat):Int):=by omega
 obtain⟨k,hk⟩:∃k,k=sz-n:=⟨_,rfl⟩;rw[← hk]at hsub hsub2;have HK:=QA hk;have HSZ:=QA hsz;have HF:=QA hF;have HNF:=QA hnf;clear hk hsz hF hnf
 go_enter Tryz.func88,Tryz.ntmps88
 go_wp2_with (first
  |(go_at_call 57;refine(Qam.calls _ _ _ _ HSZ.out).mono ?_;rintro e w1 ⟨rfl,hb1⟩)
  |(go_at_call 150;go_loud (refine(Qmx _ _ 255 k _ (by have:=HK.out;omega) ?hrep).mono ?_;(case hrep=>exact Kd.C_of_reads (d:=(0:Int)) ⟨rfl,by omega,fun _=>⟨_,rfl,fun j hj=>by(obtain rfl:j=0:=(by omega));exact(Qdl (Qdz w1 _) 0).trans rfl⟩⟩);rintro e w2 ⟨A2,c2,rfl,hkc2,hC2,hb2⟩))
  |(at_builtin;refine Kd.R_append_rows (Kd.int .u8) (Rr:=fun x cs=>cs=[.int .u8 x]) (w0:=w) b rfl (.tmp 15) (.tmp 18) 47 5 (.int .u8 0) 1 rfl Tryz.underlying47 Qhx rfl (by decide) (by omega) (.slice A n c) fs (List.replicate k 255) A2 k c2 (fun _=>True) (fun _=>False) rfl rfl ?bO hC2 (fun _ _ h=>h) (fun _ hk=>hk.elim) (fun _ _=>trivial) ?bB ?bS ?bL ?_;(case bO=>exact R8.kept (R8.kept (R8.kept HF.out hb1) (Qcn (Below.refl _ _) _)) hb2);(case bB=>exact((Qip hb1 hbw).trans (Qip (Qcn (Below.refl w1.heap.size w1) _) (Nat.le_trans hbw hb1.size))).trans (Qip hb2 (by rw[World.size_alloc];have:=hb1.size;omega)););(case bS=>have h1:=hb1.size;have h2:=hb2.size;rw[World.size_alloc]at h2;omega);(case bL=>have:=HK.out;have:=HNF.out;omega);intro v3 w3 a hb3 l hat3))
 go_ret
 refine⟨v3,rfl,?_,hb3⟩;have e1:k=sz-fs.length:=by rw[HK.out,HNF.out]
 rw[← e1];exact a
theorem Qnb(b g:Nat)(R:Room5)(fr:List Int)(tb:List S177)(sz:Nat)(w:World)(hI:IsBd w b g R fr tb)(hsz:Qam.f R.1 R.2.1=some (sz:Int))(hle:fr.length≤sz)(hs2:sz≤70368744177664) :
  Calls Tryz.prog 47 #[.pointer (some ⟨g,0,none⟩)] w fun e w'=>∃v:Value,e=.returned v∧R8 w' w.heap.size v (fr++List.replicate (sz-fr.length) 255)∧Below w.heap.size w w':=by
 go_enter Tryz.func47,Tryz.ntmps47
 go_wp2_with (first
  |(go_at_call 89;refine(Qmz b g R fr tb w hI (by omega)).mono ?_;rintro e w1 ⟨v1,rfl,hR1,hb1⟩)
  |(go_at_call 88;refine(Qna b w.heap.size g R fr tb fr v1 sz w1 (hI.kept hb1) hR1 hb1.size hsz hle hs2).mono ?_;rintro e w2 ⟨v2,rfl,hR2,hb2⟩))
 go_ret
 exact⟨v2,rfl,hR2,hb1.trans hb2⟩
def Qnc(W:World)(g:Nat)(R:Room5)(fv tv:Value):Prop:=W.heap[g]? = some (.cells #[.int .u8 R.1,.int .u32 R.2.1,.int .u32 R.2.2.1,.int .i64 R.2.2.2.1,.int .i64 R.2.2.2.2,fv,tv] 165 (0,0))
theorem Qnd{W:World}{g:Nat}{R:Room5}{fv tv:Value}(h:Qnc W g R fv tv) :
  W.cell? ⟨g,0,none⟩=some (.int .u8 R.1)∧W.cell? ⟨g,1,none⟩=some (.int .u32 R.2.1)∧W.cell? ⟨g,2,none⟩=some (.int .u32 R.2.2.1)∧W.cell? ⟨g,3,none⟩=some (.int .i64 R.2.2.2.1)∧W.cell? ⟨g,4,none⟩=some (.int .i64 R.2.2.2.2)∧W.cell? ⟨g,5,none⟩=some fv∧W.cell? ⟨g,6,none⟩=some tv :=
 ⟨(Qdl h 0).trans rfl,(Qdl h 1).trans rfl,(Qdl h 2).trans rfl,(Qdl h 3).trans rfl,(Qdl h 4).trans rfl,(Qdl h 5).trans rfl,(Qdl h 6).trans rfl⟩
theorem Qne:(Tryz.prog.info? 177).map (fun i=>(i.zero,i.size,i.bytes))=some (some (.agg #[.int .u64 0,.int .u32 0]),2,16):=by kernel_rfl
theorem bd_set5{W:World}{b g:Nat}{R:Room5}(R':Room5){fv tv:Value}{fr:List Int}{tb:List S177}(hv:Qnc W g R fv tv)(hR:R8 W b fv fr)(hT:Kd.R k177 177 W b (fun _=>True) tv tb)(hbg:b≤g) :
  ∃W',W'=(((((W.setCell ⟨g,0,none⟩ (.int .u8 R'.1)).setCell ⟨g,1,none⟩ (.int .u32 R'.2.1)).setCell ⟨g,2,none⟩ (.int .u32 R'.2.2.1)).setCell ⟨g,3,none⟩ (.int .i64 R'.2.2.2.1)).setCell ⟨g,4,none⟩ (.int .i64 R'.2.2.2.2)) ∧
   Qnc W' g R' fv tv∧R8 W' b fv fr∧Kd.R k177 177 W' b (fun _=>True) tv tb∧Below b W W'∧∀k,k≠g→W'.heap[k]? = W.heap[k]?:=by
 have ht:∀q,q∈177 :: (k177).E→q≠165:=by decide
 have b1:=Qdi hv 0 (.int .u8 R'.1);have b2:=Qdi b1 1 (.int .u32 R'.2.1);have b3:=Qdi b2 2 (.int .u32 R'.2.2.1);have b4:=Qdi b3 3 (.int .i64 R'.2.2.2.1);have b5:=Qdi b4 4 (.int .i64 R'.2.2.2.2);refine⟨_,rfl,b5,?_,?_,?_,fun k hk=>?_⟩
 ·exact R8.set (R8.set (R8.set (R8.set (R8.set hR hv (by decide) 0 _) b1 (by decide) 1 _) b2 (by decide) 2 _) b3 (by decide) 3 _) b4 (by decide) 4 _
 ·exact Kd.R_set (Kd.R_set (Kd.R_set (Kd.R_set (Kd.R_set hT hv ht 0 _) b1 ht 1 _) b2 ht 2 _) b3 ht 3 _) b4 ht 4 _
 ·exact Qio (Qio (Qio (Qio (Qio (Below.refl _ _) hbg) hbg) hbg) hbg) hbg
 ·rw[Below.heap_setCell _ _ _ k hk,Below.heap_setCell _ _ _ k hk,Below.heap_setCell _ _ _ k hk,Below.heap_setCell _ _ _ k hk,Below.heap_setCell _ _ _ k hk]
def Tb(g:Nat)(w w':World):Prop:=∀k cs t,w.heap[k]? = some (.cells cs t (0,0))→t≠5→t≠177→k≠g→w'.heap[k]? = some (.cells cs t (0,0))
theorem Tb.below{g:Nat}{w w':World}(h:Below w.heap.size w w'):Tb g w w':=fun _ _ _ h1 _ _ _=>Qdy h1 h
theorem Tb.trans{g:Nat}{a b c:World}(h:Tb g a b)(k:Tb g b c):Tb g a c:=fun _ _ _ h1 h2 h3 h4=>k _ _ _ (h _ _ _ h1 h2 h3 h4) h2 h3 h4
theorem Tb.set{g j:Nat}{w W:World}(h:Tb g w W)(v:Value):Tb g w (W.setCell ⟨g,j,none⟩ v):=fun _ _ _ h1 h2 h3 h4=>Qdj (h _ _ _ h1 h2 h3 h4) h4 v
theorem Tb.grown{g q:Nat}{w W W':World}{row:Option Nat}(h:Tb g w W)(hg:W.grownBy W' row)(hty:∀k,row=some k→∃cells,W.heap[k]? = some (.cells cells q (0,0)))(hq:q=5∨q=177):Tb g w W':=fun k cs t h1 h2 h3 h4=>by
 have h5:=h _ _ _ h1 h2 h3 h4;refine Qdn h5 hg (fun e=>?_);obtain⟨cells,hc⟩:=hty k e.symm;rw[hc]at h5
 injection h5 with h5
 injection h5 with _ h5
 rcases hq with hq|hq
 ·exact h2 (h5.symm.trans hq)
 ·exact h3 (h5.symm.trans hq)
theorem bd_Add(b g:Nat)(R R':Room5)(fr F:List Int)(tb:List S177)(d:Bool)(s:Int)(key v:ByteArray)(w:World)(hI:IsBd w b g R fr tb)(hbg:b≤g)(hbw:b≤w.heap.size)
  (hchk:chk d key v=0) (hput:Qbn.f d s key v=some (F,0)) (htl:Qcb.f R.1 R.2.1 F.length=some false) (htk:Qca.f R.1 R.2.1 R.2.2.1 R.2.2.2.1 R.2.2.2.2 F.length=some (R'.1,R'.2.1,R'.2.2.1,R'.2.2.2.1,R'.2.2.2.2,0))
  (hl:fr.length+F.length≤70368744177664) (hk:key.size≤70368744177664) (ht:tb.length≤1099511627776) :
  Calls Tryz.prog 46 #[.pointer (some ⟨g,0,none⟩),.agg #[.bool d,.int .u64 s,.string key,.string v]] w fun e w'=>e=.returned (.tuple #[.int .u32 ((fr.length:Int)%4294967296),.int .i64 0])∧IsBd w' b g R' (fr++F) (tb++[⟨Qkm 0 (bytesOf key),(fr.length:Int)%4294967296⟩])∧Below b w w'∧Tb g w w':=by
 have hu:=Tryz.underlying36;have hu1:=Tryz.underlying40;have hu2:=Tryz.underlying125;have hu3:=Tryz.underlying165;obtain⟨fv,tv,hv,hR,hT⟩:=hI;obtain⟨AT,nT,cT,rfl⟩:∃A n c,tv=.slice A n c:=by
  obtain⟨A,c,e⟩:=Kd.R_slice hT;exact⟨A,_,c,e⟩
 obtain⟨A,n,c,rfl,hn,hlc,hC⟩:=R8.reads hR;have hv':Qnc w g R (.slice A n c) (.slice AT nT cT):=hv;have hgw:g<w.heap.size:=Qdk hv;have hcheck:=Qmf d s key v;rw[hchk]at hcheck;have HCK:=QA hcheck;have HPU:=QA hput;have HTL:=QA htl;have HTK:=QA htk;have HR:=QA hR;have HT:=QA hT;have HV:=QA hv';have r:=hn;clear hcheck hput htl htk hchk hR hT hv hC hn hv';have hba:Below w.heap.size w (w.alloc (.cells #[.bool d,.int .u64 s,.string key,.string v] 36)):=Qcn (Below.refl _ _) _;have hbn:=Qdz w (.cells #[.bool d,.int .u64 s,.string key,.string v] 36)
 go_enter Tryz.func46,Tryz.ntmps46
 go_upto_region 12 with(first
  |(go_at_call 91;refine(Qcd.calls 1 _ s key v 0 _ HCK.out).mono ?_;rintro e w1 ⟨rfl,hb1⟩;have hB1:=QA (Qcq hba hba.size hb1);have hk1:=Qdy hbn hb1;obtain⟨c0,c1,c2,c3⟩:=box4 hk1)
  |(go_at_call 84;refine(Qbn.calls _ s key v F 0 _ HPU.out).mono ?_;rintro e w2 ⟨vF,rfl,hRF,hb2⟩;have hB2:=QA (Qcq hB1.out hB1.out.size hb2);have hk2:=Qdy hk1 hb2;obtain⟨AF,nF,cF,rfl,hnF,hlF,hCF⟩:=R8.reads hRF;have hv2:Qnc w2 g R (.slice A n c) (.slice AT nT cT):=Qdy HV.out hB2.out;obtain⟨g0,g1,g2,g3,g4,g5,g6⟩:=Qnd hv2;clear c0 c1 c2 c3)
  |(go_at_call 92;refine(Qcb.calls _ _ _ false _ (by rw[hnF.out];exact HTL.out)).mono ?_;rintro e w3 ⟨rfl,hb3⟩;have hB3:=QA (Qcq hB2.out hB2.out.size hb3);have hk3:=Qdy hk2 hb3;have hv3:Qnc w3 g R (.slice A n c) (.slice AT nT cT):=Qdy HV.out hB3.out;obtain⟨h0,h1,h2,h3,h4,h5,h6⟩:=Qnd hv3;clear g0 g1 g2 g3 g4 g5 g6)
  |(go_at_call 93;refine(Qca.calls _ _ _ _ _ _ _ _ _ _ _ _ _ (by rw[hnF.out];exact HTK.out)).mono ?_;rintro e w4 ⟨rfl,hb4⟩;have hB4:=QA (Qcq hB3.out hB3.out.size hb4);have hk4:=Qdy hk3 hb4;have hv4:Qnc w4 g R (.slice A n c) (.slice AT nT cT):=Qdy HV.out hB4.out;have hv5:Qnc (w4.alloc (.cells #[.int .u8 R'.1,.int .u32 R'.2.1,.int .u32 R'.2.2.1,.int .i64 R'.2.2.2.1,.int .i64 R'.2.2.2.2] 125)) g R (.slice A n c) (.slice AT nT cT):=Qdv hv4 _;obtain⟨i0,i1,i2,i3,i4,i5,i6⟩:=Qnd hv5;have f0:=Qdm hv5 0;have f1:=Qdm hv5 1;have f2:=Qdm hv5 2;have f3:=Qdm hv5 3;have f4:=Qdm hv5 4;have f5:=Qdm hv5 5;clear h0 h1 h2 h3 h4 h5 h6))
 have hv5:Qnc (w4.alloc (.cells #[.int .u8 R'.1,.int .u32 R'.2.1,.int .u32 R'.2.2.1,.int .i64 R'.2.2.2.1,.int .i64 R'.2.2.2.2] 125)) g R (.slice A n c) (.slice AT nT cT):=Qdv hv4 _;have hb5:Below w4.heap.size w4 (w4.alloc (.cells #[.int .u8 R'.1,.int .u32 R'.2.1,.int .u32 R'.2.2.1,.int .i64 R'.2.2.2.1,.int .i64 R'.2.2.2.2] 125)):=Qcn (Below.refl _ _) _;have hB5:=Qcq hB4.out hB4.out.size hb5;obtain⟨W6,hW6,hv6,hR6,hT6,hb6,hk6⟩:=bd_set5 R' hv5 (R8.kept HR.out hB5) (Kd.R_below HT.out hB5) hbg;have K6:Aside0 (Tb g w W6):=⟨fun k cs t h1 _ _ h4=>(hk6 k h4).trans (Qdy h1 hB5)⟩;rw[← hW6];have hs6:w4.heap.size≤W6.heap.size:=Nat.le_trans hb5.size hb6.size;clear hW6 i0 i1 i2 i3 i4 i5 i6 f0 f1 f2 f3 f4 f5;obtain⟨m0,m1,m2,m3,m4,m5,m6⟩:=Qnd hv6;have D:g<w1.heap.size:=Nat.lt_of_lt_of_le hgw hB1.out.size;have hRF5:=R8.kept (R8.kept (R8.kept hRF hb3) hb4) hb5;have hRF6:R8 W6 w1.heap.size (.slice AF nF cF) F:=Kd.R_mono (Kd.R_step (Kd.R_bound hRF5) (fun k hk _=>hk6 k (by have:=hk.2.1;omega))) (fun _ _=>trivial);have hCF6:Kd.C (Kd.int .u8) W6 AF nF F:=by
  have h:=Kd.R_reads' hRF6;rw[h.1];exact h.2.2
 have hB6:=QA ((Qip hB5 hbw).trans hb6);have hz6:b≤W6.heap.size:=Nat.le_trans hbw hB6.out.size;clear hRF5 hRF6 hRF
 go_wp2_with (first
  |(at_builtin;go_loud (refine Kd.R_append_rows (Kd.int .u8) (Rr:=fun x cs=>cs=[.int .u8 x]) (w0:=W6) b rfl (.tmp 57) (.tmp 58) 47 5 (.int .u8 0) 1 rfl Tryz.underlying47 Qhx rfl (by decide) (by omega) (.slice A n c) fr F AF nF cF (fun _=>True) (fun _=>False) rfl rfl hR6 hCF6 (fun _ _ h=>h) (fun _ hk=>hk.elim) (fun _ _=>trivial) (Below.refl _ _) hz6 ?bL ?_;(case bL=>have:=hnF.out;omega);intro v7 w7 l hb7 j hat7;obtain⟨A7,n7,c7,rfl⟩:=R8.shape l;have hv7:Qnc w7 g R' (.slice A n c) (.slice AT nT cT):=Qdn hv6 j (R8.clean hR6 hv6 (by decide));obtain⟨p0,p1,p2,p3,p4,p5,p6⟩:=Qnd hv7;have f5:=Qdm hv7 5;clear m0 m1 m2 m3 m4 m5 m6)))
 have K7:=QA (Tb.grown K6.out j (Kd.R_typed hR6) (.inl rfl));have hgB:w.heap.size≠g:=by omega
 have q5:=Qdv hk4 (.cells #[.int .u8 R'.1,.int .u32 R'.2.1,.int .u32 R'.2.2.1,.int .i64 R'.2.2.2.1,.int .i64 R'.2.2.2.2] 125);have q6:=(hk6 _ hgB).trans q5;have q7:=Qdn q6 j (R8.clean hR6 q6 (by decide));have hT7:=Kd.R_over' hT6 (Kd.R_typed hR6) (by decide) j;have ht:∀q,q∈177 :: (k177).E→q≠165:=by decide
 obtain⟨W8,hW8⟩:∃W8,W8=w7.setCell ⟨g,5,none⟩ (.slice A7 n7 c7):=⟨_,rfl⟩;have q8:W8.heap[w.heap.size]? = some (.cells #[.bool d,.int .u64 s,.string key,.string v] 36 (0,0)):=by rw[hW8];exact Qdj q7 hgB _
 have hv8:Qnc W8 g R' (.slice A7 n7 c7) (.slice AT nT cT):=by rw[hW8];exact Qdi hv7 5 _
 have hR8:R8 W8 b (.slice A7 n7 c7) (fr++F):=by rw[hW8];exact R8.set l hv7 (by decide) 5 _
 have hT8:Kd.R k177 177 W8 b (fun _=>True) (.slice AT nT cT) tb:=by rw[hW8];exact Kd.R_set hT7 hv7 ht 5 _
 have hB8:Aside0 (Below b w W8):=⟨by rw[hW8];exact Qio (hB6.out.trans hb7) hbg⟩;have K8:Aside0 (Tb g w W8):=⟨by rw[hW8];exact K7.out.set _⟩;rw[← hW8];clear hW8;have u:=QA hR8;have HT8:=QA hT8;clear hR8 hT8 hT7 hT6 hR6 l q5 q6 q7 hv7;obtain⟨r0,r1,r2,r3⟩:=box4 q8;obtain⟨s0,s1,s2,s3,s4,s5,s6⟩:=Qnd hv8;have hz8:b≤W8.heap.size:=Nat.le_trans hbw hB8.out.size;clear p0 p1 p2 p3 p4 p5 p6;have hnn:n=fr.length:=r.out;have HNN:=QA hnn;clear hnn
 go_region_law (first
  |(go_simp;go_at_call 94;refine(hash_of key W8.drew (by omega)).mono ?_;rintro e w9 ⟨rfl,hb9⟩;have hv9:Qnc w9 g R' (.slice A7 n7 c7) (.slice AT nT cT):=Qdy (w:=W8.drew) hv8 hb9;have hB9:Aside0 (Below b w w9):=⟨(hB8.out.trans (Qco (Below.refl _ _))).trans (Qip hb9 hz8)⟩;have K9:=QA (K8.out.trans (Tb.below (w:=W8.drew) hb9));have y:=QA (R8.kept (W:=W8.drew) u.out hb9);have HT9:=QA (Kd.R_below (w:=W8.drew) HT8.out hb9);obtain⟨u0,u1,u2,u3,u4,u5,u6⟩:=Qnd hv9;have a6:∀o,(w9.alloc o).cell? ⟨g,6,none⟩=some (.slice AT nT cT):=(fun o=>(Qnd (Qdv hv9 o)).2.2.2.2.2.2))
  |(refine Kd.R_append_step k177 (w0:=w) b (by rfl) (.tmp 66) (.tmp 72) 163 177 (.agg #[(.int .u64 0),(.int .u32 0)]) 16 rfl Tryz.underlying163 Qne rfl (by decide) (by omega) (.slice AT nT cT) tb (⟨Qkm 0 (bytesOf key),(n:Int)%4294967296⟩:S177) [.int .u64 (Qkm 0 (bytesOf key)),.int .u32 ((n:Int)%4294967296)] (fun _=>True) (fun _=>False) rfl ?ax ?aP (fun _ hk=>hk.elim) (fun _ _=>trivial) ?aO hB9.out ?aS ?aL ?_;(case ax=>rfl);(case aP=>exact Qig _ _ _ (⟨Qkm 0 (bytesOf key),(n:Int)%4294967296⟩:S177));(case aO=>exact HT9.out);(case aS=>exact Nat.le_trans hbw hB9.out.size);(case aL=>omega);intro z B m hb10 a hat10;obtain⟨G,I,c10,rfl⟩:∃A n c,z=.slice A n c:=(by obtain⟨A,c,e⟩:=Kd.R_slice m;exact⟨A,_,c,e⟩);have hv10:Qnc B g R' (.slice A7 n7 c7) (.slice AT nT cT):=Qdn hv9 a (Kd.R_ne HT9.out hv9 (by decide));have K10:=QA (Tb.grown K9.out a (Kd.R_typed HT9.out) (.inr rfl));have p:=QA (Kd.R_over' y.out (Kd.R_typed HT9.out) (by decide) a);obtain⟨x0,x1,x2,x3,x4,x5,x6⟩:=Qnd hv10;have fx:=Qdm hv10 6;clear u0 u1 u2 u3 u4 u5 u6 a6))
 all_goals
  go_wp2;refine bodyPost_ret (results_tmp2 rfl _ _ _) rfl ?_;refine⟨by(rw[← HNN.out];rfl),⟨_,_,Qdi hv10 6 _,R8.set p.out hv10 (by decide) 6 _,?_⟩,Qio hb10 hbg,K10.out.set _⟩;rw[← HNN.out];exact Kd.R_set m hv10 ht 6 _
def h12:List Int:=[5,1,2,12,1,9,239,228,35,222,95,189,149,23,0]
theorem head12:Qbm.f 12 1 0=some (h12,0):=by kernel_rfl
theorem empty12:Qbw.f 12 1 0=some (12,1,0,15,0,0):=by kernel_rfl
theorem size12:Qam.f 12 1=some ((4096:Nat):Int):=by kernel_rfl
def o12:List Int:=h12++List.replicate (4096-h12.length) 255
theorem o12_at:o12.length=4096∧rd o12 14=0∧rd o12 15=255∧rd o12 4095=255:=⟨by kernel_rfl,by kernel_rfl,by kernel_rfl,by kernel_rfl⟩
def Qas.f:Option Bool:=some true
theorem Qas.calls(r:Bool)(w:World)(h:Qas.f=some r) :
  Calls Tryz.prog 81 #[] w fun e w'=>e=.returned (.bool r)∧Below w.heap.size w w':=by
 obtain rfl:=Option.some.inj h;have hu:=Tryz.underlying40
 go_enter Tryz.func81,Tryz.ntmps81
 go_wp2_with (first
  |(go_at_call 45;refine(Qmy 12 1 0 15 0 h12 w empty12 head12).mono ?_;rintro e w1 ⟨g,rfl,hI1,hb1,hg1⟩)
  |(go_at_call 47;go_loud (refine(Qnb w.heap.size g (12,1,0,15,0) h12 [] 4096 w1 hI1 size12 (by decide) (by decide)).mono ?_;rintro e w2 ⟨v2,rfl,hR2,hb2⟩;obtain⟨A2,n2,c2,rfl,hn2,hlc2,hC2⟩:=R8.reads hR2;have hn2':n2=4096:=hn2.out.trans o12_at.1;subst hn2';obtain⟨ad,rfl,x14⟩:=Kd.at_int hC2 14 (by decide) (by decide);obtain⟨ad',hh,x15⟩:=Kd.at_int hC2 15 (by decide) (by decide);cases hh;obtain⟨ad',hh,x4095⟩:=Kd.at_int hC2 4095 (by decide) (by decide);cases hh;have y14:w2.cell? ⟨ad.block,ad.off+14,none⟩=some (.int .u8 0):=x14.trans (congrArg (fun z=>some (Value.int .u8 z)) o12_at.2.1);have y15:w2.cell? ⟨ad.block,ad.off+15,none⟩=some (.int .u8 255):=x15.trans (congrArg (fun z=>some (Value.int .u8 z)) o12_at.2.2.1);have y4095:w2.cell? ⟨ad.block,ad.off+4095,none⟩=some (.int .u8 255):=x4095.trans (congrArg (fun z=>some (Value.int .u8 z)) o12_at.2.2.2);clear x14 x15 x4095)))
 go_ret
 exact⟨rfl,hb1.trans (Qip hb2 hb1.size)⟩
theorem Qqe(n:Nat)(hn:n≤64):∀(d i:Nat) (x:Int),i+d=n→∃r,Qbb.l0 (d+1) x (n:Int) (i:Int)=some r
 | 0,i,x,h=>by
  refine⟨x,?_⟩;unfold Qbb.l0;rw[if_neg (by omega)]
 | d+1,i,x,h=>by
  obtain⟨r,hr⟩:=Qqe n hn d (i+1) (IntKind.u64.wrap ((Int.tmod (IntKind.u64.wrap (2*x)) 4294967296)+(IntKind.u64.wrap (Int.tdiv x 2147483648)))) (by omega);refine⟨r,?_⟩;unfold Qbb.l0;rw[if_pos (by omega),show wrap64 ((i:Int)+1)=((i+1:Nat):Int)by unfold wrap64;omega];exact hr
def Qqf(x:Int)(n:Nat):Int:=(Qbb.f (n+1) x n).getD 0
theorem Qqg(x:Int)(n:Nat)(hn:n≤64):Qbb.f (n+1) x n=some (Qqf x n):=by
 obtain⟨r,hr⟩:=Qqe n hn n 0 x (by omega);have h:Qbb.f (n+1) x n=some r:=hr;unfold Qqf;rw[h];rfl
def Qqh(x y:Int):Int:=(Qaz.f 14 x y).getD 0
theorem Qqi(x y:Int):Qaz.f 14 x y=some (Qqh x y):=by
 unfold Qqh Qaz.f;rw[show(14:Nat)=13+1 from rfl,show(13:Int)=((13:Nat):Int) from rfl,Qqg _ 13 (by omega)];rfl
theorem Qqj(n:Nat)(hn:n≤64)(x:Int):∀(d i:Nat) (y:Int),i+d=n→∃r,Qba.l0 (d+1) x y (n:Int) (i:Int)=some r
 | 0,i,y,h=>by
  refine⟨Go.bits .xor .u64 x y,?_⟩;unfold Qba.l0;rw[if_neg (by omega)]
 | d+1,i,y,h=>by
  obtain⟨r,hr⟩:=Qqj n hn x d (i+1) (IntKind.u64.wrap (Int.tdiv y 2)) (by omega);refine⟨r,?_⟩;unfold Qba.l0;rw[if_pos (by omega),show wrap64 ((i:Int)+1)=((i+1:Nat):Int)by unfold wrap64;omega];exact hr
def Qqk(x:Int)(n:Nat):Int:=(Qba.f (n+1) x n).getD 0
theorem mix3_is(x:Int)(n:Nat)(hn:n≤64):Qba.f (n+1) x n=some (Qqk x n):=by
 obtain⟨r,hr⟩:=Qqj n hn x n 0 x (by omega);have h:Qba.f (n+1) x n=some r:=hr;unfold Qqk;rw[h];rfl
theorem Qql(x:Int)(n:Nat)(j:Int)(hj:j=(n:Int))(hn:n≤64)(W:World):Calls Tryz.prog 178 #[.int .u64 x,.int .i64 j] W fun e w'=>e=.returned (.int .u64 (Qqf x n))∧Drawn0 W w':=by
 subst hj;exact Qbb.calls _ x n _ W (Qqg x n hn)
theorem Qqm(x y:Int)(W:World):Calls Tryz.prog 177 #[.int .u64 x,.int .u64 y] W fun e w'=>e=.returned (.int .u64 (Qqh x y))∧Drawn0 W w':=Qaz.calls _ x y _ W (Qqi x y)
theorem Qqn(x:Int)(n:Nat)(j:Int)(hj:j=(n:Int))(hn:n≤64)(W:World):Calls Tryz.prog 179 #[.int .u64 x,.int .i64 j] W fun e w'=>e=.returned (.int .u64 (Qqk x n))∧Drawn0 W w':=by
 subst hj;exact Qba.calls _ x n _ W (mix3_is x n hn)
def Qqo(v:V4)(s:ByteArray):V4:=(Qqh v.1 (rval (s.extract 0 4)),Qqh v.2.1 (rval (s.extract 4 8)),Qqh v.2.2.1 (rval (s.extract 8 12)),Qqh v.2.2.2 (rval (s.extract 12 16)))
def run3:Nat→V4→ByteArray→V4 × ByteArray
 | 0,v,s=>(v,s)
 | m+1,v,s=>run3 m (Qqo v s) (s.extract 16 s.size)
def sum3(V:V4):Int:=Int.tmod (IntKind.u64.wrap (IntKind.u64.wrap (IntKind.u64.wrap (Qqf V.1 1+Qqf V.2.1 7)+Qqf V.2.2.1 12)+Qqf V.2.2.2 18)) 4294967296
def Qqp(sd:Int):V4:=(Int.tmod (IntKind.u64.wrap (IntKind.u64.wrap (IntKind.u64.wrap sd+2654435761)+2246822519)) 4294967296,Int.tmod (IntKind.u64.wrap (IntKind.u64.wrap sd+2246822519)) 4294967296,IntKind.u64.wrap sd,Int.tmod (IntKind.u64.wrap (IntKind.u64.wrap (IntKind.u64.wrap sd+4294967296)-2654435761)) 4294967296)
def Qqq(i:Nat)(v:V4)(s:ByteArray):V4:=(if 0<i then Qqh v.1 (rval (s.extract 0 4))else v.1,if 1<i then Qqh v.2.1 (rval (s.extract 4 8))else v.2.1,if 2<i then Qqh v.2.2.1 (rval (s.extract 8 12))else v.2.2.1,if 3<i then Qqh v.2.2.2 (rval (s.extract 12 16))else v.2.2.2)
def Qqr(sd:Int)(s:ByteArray):Int × ByteArray:=if 16≤s.size then(sum3 (run3 (s.size/16) (Qqp sd) s).1,(run3 (s.size/16) (Qqp sd) s).2)else(Int.tmod (IntKind.u64.wrap (IntKind.u64.wrap sd+374761393)) 4294967296,s)
def Qqs(h:Int)(s:ByteArray):Int:=Int.tmod (IntKind.u64.wrap (Qqf (Int.tmod (IntKind.u64.wrap (h+IntKind.u64.wrap (rval (s.extract 0 4)*3266489917))) 4294967296) 17*668265263)) 4294967296
def Qqt:Nat→Int→ByteArray→Int × ByteArray
 | 0,h,s=>(h,s)
 | m+1,h,s=>Qqt m (Qqs h s) (s.extract 4 s.size)
def one3(h x:Int):Int:=Int.tmod (IntKind.u64.wrap (Qqf (Int.tmod (IntKind.u64.wrap (h+IntKind.u64.wrap (IntKind.u64.wrap x*374761393))) 4294967296) 11*2654435761)) 4294967296
def fin3(h:Int):Int:=Qqk (Int.tmod (IntKind.u64.wrap (Qqk (Int.tmod (IntKind.u64.wrap (Qqk h 15*2246822519)) 4294967296) 13*3266489917)) 4294967296) 16
def Qqu(h:Int)(s:ByteArray):Int:=fin3 ((bytesOf (Qqt (s.size/4) h s).2).foldl one3 (Qqt (s.size/4) h s).1)
def Qqv(sd:Int)(s:ByteArray)(long:Int):Int × ByteArray:=(Int.tmod (IntKind.u64.wrap ((Qqr sd s).1+long)) 4294967296,(Qqr sd s).2)
def Qqw(s:ByteArray):Int:=(s.size:Int)%4294967296
def doc3(sd:Int)(s:ByteArray):Int:=Qqu (Qqv sd s (Qqw s)).1 (Qqv sd s (Qqw s)).2
def V3At(W:World)(g:Nat)(V:V4):Prop:=W.heap[g]? = some (.cells #[.int .u64 V.1,.int .u64 V.2.1,.int .u64 V.2.2.1,.int .u64 V.2.2.2] 255 (0,0))
theorem Qqx(s:ByteArray)(a b:Nat)(h:b-a≤1000):(s.extract a b).size≤1000:=by
 rw[ByteArray.size_extract];omega
theorem doc_of (sd:Int) (s0:ByteArray) (w:World) (hs:s0.size≤9223372036854775807) :
  Calls Tryz.prog 120 #[.int .u32 sd,.string s0] w fun e w'=>e=.returned (.int .u32 (IntKind.u32.wrap (doc3 sd s0)))∧Below w.heap.size w w':=by
 have hu2:=Tryz.underlying255
 go_enter Tryz.func120,Tryz.ntmps120
 go_upto_if 20 with fail
 go_cut [1,5] (fun v1 v5 w'=>∃(h:Int) (s:ByteArray),v1=.string s∧v5=.int .u64 h∧s.size≤s0.size∧Aside0 ((h,s)=Qqr sd s0)∧Below w.heap.size w w')
 case first =>
  by_cases c:16≤s0.size
  ·have a:(16:Int)≤(s0.size:Int):=by omega
   go_wp2_with fail
   obtain⟨g,hg⟩:∃g,g=w.heap.size:=⟨_,rfl⟩;obtain⟨V0,hV0⟩:∃V0,V0=Qqp sd:=⟨_,rfl⟩;obtain⟨W,hW⟩:∃W,W=w.alloc (.cells #[.int .u64 (Qqp sd).1,.int .u64 (Qqp sd).2.1,.int .u64 (Qqp sd).2.2.1,.int .u64 (Qqp sd).2.2.2] 255):=⟨_,rfl⟩;have HV0:=QA (show V3At W g V0 by rw[hW,hg,hV0];exact Qdz w _);have HW0:=QA (show Below w.heap.size w W by rw[hW];exact Qcn (Below.refl _ _) _);unfold Qqp at hW;dsimp only at hW;rw[← hW,← hg];have hd20:decide ((16:Int)≤(s0.size:Int))=true:=decide_eq_true a;rw[hd20];clear hd20;have HG:=QA hg;have HVV:=QA hV0;have o:=QA c;clear hW hg hV0 c a
   go_loopw [1,8,41] (fun v1 v8 b wr=>∃(m:Nat) (s:ByteArray) (V:V4),v1=.string s∧s.size≤s0.size∧Aside0 (s.size/16=m∧run3 (s0.size/16) V0 s0=run3 m V s)∧Aside0 (V3At wr g V)∧Aside0 (Below w.heap.size w wr))
    (fun v1 _ _ _=>Qkq v1)
   case atStart=>exact⟨_,s0,V0,rfl,Nat.le_refl _,⟨rfl,rfl⟩,HV0,HW0⟩
   case round =>
    clear HV0 HW0;obtain⟨m,s,V,rfl,hss,HM,HV,HB⟩:=hrel
    by_cases t:16≤s.size
    ·have n:(16:Int)≤(s.size:Int):=by omega
     go_wp2_with fail
     go_loopw [8,41] (fun v8 b wi=>∃(i:Nat) (iv:Int),i≤4∧b=.int .i64 iv∧Aside0 (iv=(i:Int))∧Aside0 (V3At wi g (Qqq i V s))∧Aside0 (Below w.heap.size w wi))
      (fun _ b _=>4-(intOf b).toNat)
     case atStart=>exact⟨0,0,by omega,rfl,⟨rfl⟩,HV,HB⟩
     case round =>
      clear HV HB;obtain⟨i,iv,hi,rfl,HI,HV,HB⟩:=hrel
      by_cases h4:i<4
      ·have hk:i=0∨i=1∨i=2∨i=3:=by omega
       rcases hk with rfl|rfl|rfl|rfl
       ·obtain rfl:iv=0:=HI.out;have cv:wr.cell? ⟨g,0,none⟩=some (.int .u64 V.1):=(Qdl HV.out 0).trans rfl;have fv:=Qdm HV.out 0
        go_wp2_with fail
        have hw0:IntKind.i64.wrap 0=0:=IntWalk.i64_in 0 (by decide);have hw1:IntKind.i64.wrap 4=4:=IntWalk.i64_in 4 (by decide);have hsz:(4:Int)≤(s.size:Int):=by omega
        have hx:(s.extract 0 4).size≤1000:=Qqx s 0 4 (by decide)
        go_region_with (first |(go_at_call 104;refine(Qkr (s.extract 0 4) hx _).mono ?_;rintro e w7 ⟨rfl,hd⟩;obtain⟨q,rfl⟩:=hd.out;clear hd) |(go_at_call 177;refine(Qqm _ _ _).mono ?_;rintro e w8 ⟨rfl,hd⟩;obtain⟨q2,rfl⟩:=hd.out;clear hd))
        all_goals
         go_wp2_with fail
         go_roundw
         case rel=>exact⟨1,1,by omega,by go_num,⟨rfl⟩,⟨Qdi (w:=wr.drewN _) HV.out 0 _⟩,⟨Qio (Qcp HB.out _) (by rw[HG.out];exact Nat.le_refl _)⟩⟩
         case measure=>simp[intOf]
       ·obtain rfl:iv=1:=HI.out;have cv:wr.cell? ⟨g,1,none⟩=some (.int .u64 V.2.1):=(Qdl HV.out 1).trans rfl;have fv:=Qdm HV.out 1
        go_wp2_with fail
        have hw0:IntKind.i64.wrap 4=4:=IntWalk.i64_in 4 (by decide);have hw1:IntKind.i64.wrap 8=8:=IntWalk.i64_in 8 (by decide);have hsz:(8:Int)≤(s.size:Int):=by omega
        have hx:(s.extract 4 8).size≤1000:=Qqx s 4 8 (by decide)
        go_region_with (first |(go_at_call 104;refine(Qkr (s.extract 4 8) hx _).mono ?_;rintro e w7 ⟨rfl,hd⟩;obtain⟨q,rfl⟩:=hd.out;clear hd) |(go_at_call 177;refine(Qqm _ _ _).mono ?_;rintro e w8 ⟨rfl,hd⟩;obtain⟨q2,rfl⟩:=hd.out;clear hd))
        all_goals
         go_wp2_with fail
         go_roundw
         case rel=>exact⟨2,2,by omega,by go_num,⟨rfl⟩,⟨Qdi (w:=wr.drewN _) HV.out 1 _⟩,⟨Qio (Qcp HB.out _) (by rw[HG.out];exact Nat.le_refl _)⟩⟩
         case measure=>simp[intOf]
       ·obtain rfl:iv=2:=HI.out;have cv:wr.cell? ⟨g,2,none⟩=some (.int .u64 V.2.2.1):=(Qdl HV.out 2).trans rfl;have fv:=Qdm HV.out 2
        go_wp2_with fail
        have hw0:IntKind.i64.wrap 8=8:=IntWalk.i64_in 8 (by decide);have hw1:IntKind.i64.wrap 12=12:=IntWalk.i64_in 12 (by decide);have hsz:(12:Int)≤(s.size:Int):=by omega
        have hx:(s.extract 8 12).size≤1000:=Qqx s 8 12 (by decide)
        go_region_with (first |(go_at_call 104;refine(Qkr (s.extract 8 12) hx _).mono ?_;rintro e w7 ⟨rfl,hd⟩;obtain⟨q,rfl⟩:=hd.out;clear hd) |(go_at_call 177;refine(Qqm _ _ _).mono ?_;rintro e w8 ⟨rfl,hd⟩;obtain⟨q2,rfl⟩:=hd.out;clear hd))
        all_goals
         go_wp2_with fail
         go_roundw
         case rel=>exact⟨3,3,by omega,by go_num,⟨rfl⟩,⟨Qdi (w:=wr.drewN _) HV.out 2 _⟩,⟨Qio (Qcp HB.out _) (by rw[HG.out];exact Nat.le_refl _)⟩⟩
         case measure=>simp[intOf]
       ·obtain rfl:iv=3:=HI.out;have cv:wr.cell? ⟨g,3,none⟩=some (.int .u64 V.2.2.2):=(Qdl HV.out 3).trans rfl;have fv:=Qdm HV.out 3
        go_wp2_with fail
        have hw0:IntKind.i64.wrap 12=12:=IntWalk.i64_in 12 (by decide);have hw1:IntKind.i64.wrap 16=16:=IntWalk.i64_in 16 (by decide);have hsz:(16:Int)≤(s.size:Int):=by omega
        have hx:(s.extract 12 16).size≤1000:=Qqx s 12 16 (by decide)
        go_region_with (first |(go_at_call 104;refine(Qkr (s.extract 12 16) hx _).mono ?_;rintro e w7 ⟨rfl,hd⟩;obtain⟨q,rfl⟩:=hd.out;clear hd) |(go_at_call 177;refine(Qqm _ _ _).mono ?_;rintro e w8 ⟨rfl,hd⟩;obtain⟨q2,rfl⟩:=hd.out;clear hd))
        all_goals
         go_wp2_with fail
         go_roundw
         case rel=>exact⟨4,4,by omega,by go_num,⟨rfl⟩,⟨Qdi (w:=wr.drewN _) HV.out 3 _⟩,⟨Qio (Qcp HB.out _) (by rw[HG.out];exact Nat.le_refl _)⟩⟩
         case measure=>simp[intOf]
      ·obtain rfl:i=4:=by omega
       obtain rfl:iv=4:=HI.out
       go_wp2_with fail
       go_roundw
       case rel =>
        have e4:Qqq 4 V s=Qqo V s:=rfl;have hm:=HM.out;have hd:(s.extract 16 s.size).size=s.size-16:=by rw[ByteArray.size_extract];omega
        refine⟨m-1,s.extract 16 s.size,Qqo V s,rfl,by rw[hd];omega,⟨by rw[hd];omega,?_⟩,⟨?_⟩,HB⟩
        ·rw[hm.2,show m=(m-1)+1 by omega];rfl
        ·exact HV.out
       case measure=>simp[Qkq];omega
    ·have n:(s.size:Int)<16:=by omega
     go_wp2_with fail
     have c0:wr.cell? ⟨g,0,none⟩=some (.int .u64 V.1):=(Qdl HV.out 0).trans rfl;have c1:wr.cell? ⟨g,1,none⟩=some (.int .u64 V.2.1):=(Qdl HV.out 1).trans rfl;have c2:wr.cell? ⟨g,2,none⟩=some (.int .u64 V.2.2.1):=(Qdl HV.out 2).trans rfl;have c3:wr.cell? ⟨g,3,none⟩=some (.int .u64 V.2.2.2):=(Qdl HV.out 3).trans rfl
     go_region_held3 (fun w'=>w'.cell? ⟨g,0,none⟩=some (.int .u64 V.1)∧w'.cell? ⟨g,1,none⟩=some (.int .u64 V.2.1)∧w'.cell? ⟨g,2,none⟩=some (.int .u64 V.2.2.1)∧w'.cell? ⟨g,3,none⟩=some (.int .u64 V.2.2.2)) (go_keep) (first
      |(go_at_call_of 178 (Value.int .i64 1);refine(Qql V.1 1 1 rfl (by decide) _).mono ?_;rintro e w7 ⟨rfl,hd⟩;obtain⟨q1,rfl⟩:=hd.out;clear hd)
      |(go_at_call_of 178 (Value.int .i64 7);refine(Qql V.2.1 7 7 rfl (by decide) _).mono ?_;rintro e w7 ⟨rfl,hd⟩;obtain⟨q2,rfl⟩:=hd.out;clear hd)
      |(go_at_call_of 178 (Value.int .i64 12);refine(Qql V.2.2.1 12 12 rfl (by decide) _).mono ?_;rintro e w7 ⟨rfl,hd⟩;obtain⟨q3,rfl⟩:=hd.out;clear hd)
      |(go_at_call_of 178 (Value.int .i64 18);refine(Qql V.2.2.2 18 18 rfl (by decide) _).mono ?_;rintro e w7 ⟨rfl,hd⟩;obtain⟨q4,rfl⟩:=hd.out;clear hd))
     go_wp2_with fail
     go_meet
     case rel =>
      have hm0:m=0:=by have:=HM.out.1;omega
      have e5:=HM.out.2;rw[hm0]at e5;have e6:run3 (s0.size/16) (Qqp sd) s0=(V,s):=by rw[← HVV.out];exact e5
      refine⟨_,s,rfl,rfl,hss,⟨?_⟩,Qcp HB.out _⟩;unfold Qqr;rw[if_pos o.out,e6];rfl
  ·have a:(s0.size:Int)<16:=by omega
   go_wp2_with fail
   go_meet
   case rel =>
    refine⟨_,s0,rfl,rfl,Nat.le_refl _,⟨?_⟩,Below.refl _ _⟩;unfold Qqr;rw[if_neg c]
 case rest =>
  obtain⟨h,s,hv1,hv5,hss,HH,hB⟩:=hcut;subst hv1 hv5;have HB:=QA hB;clear hB;have HD:=QA (show doc3 sd s0=Qqu (Int.tmod (IntKind.u64.wrap (h+(s0.size:Int)%4294967296)) 4294967296) s by
   unfold doc3 Qqv Qqw;rw[← HH.out])
  clear HH
  go_upto_region 14 with fail
  go_loopw [1,5] (fun v1 v5 wr=>∃(m:Nat) (h':Int) (s':ByteArray),v1=.string s'∧v5=.int .u64 h'∧s'.size≤s0.size∧Aside0 (s'.size/4=m∧doc3 sd s0=Qqu h' s')∧Aside0 (Below w.heap.size w wr))
   (fun v1 _ _=>Qkq v1)
  case atStart=>exact⟨_,_,s,rfl,rfl,hss,⟨rfl,HD.out⟩,HB⟩
  case round =>
   clear HD HB hss;obtain⟨m,h',s',rfl,rfl,hss,HM,HB⟩:=hrel
   by_cases h4:4≤s'.size
   ·have p:(4:Int)≤(s'.size:Int):=by omega
    have hx:(s'.extract 0 4).size≤1000:=Qqx s' 0 4 (by decide)
    go_wp2_with (first
     |(go_at_call 104;refine(Qkr (s'.extract 0 4) hx _).mono ?_;rintro e w7 ⟨rfl,hd⟩;have hd1:=hd.below;clear hd)
     |(go_at_call 178;refine(Qql _ 17 17 rfl (by decide) _).mono ?_;rintro e w9 ⟨rfl,hd⟩;have hd3:=hd.below;clear hd))
    go_roundw
    case rel =>
     have hm:=HM.out;have hd:(s'.extract 4 s'.size).size=s'.size-4:=by rw[ByteArray.size_extract];omega
     refine⟨m-1,Qqs h' s',s'.extract 4 s'.size,rfl,rfl,by rw[hd];omega,⟨by rw[hd];omega,?_⟩,⟨Qcq (Qcq HB.out HB.out.size hd1) (Nat.le_trans HB.out.size hd1.size) hd3⟩⟩;rw[hm.2];unfold Qqu;rw[hd,show s'.size/4=(s'.size-4)/4+1 by omega];rfl
    case measure=>simp[Qkq];omega
   ·have p:(s'.size:Int)<4:=by omega
    go_upto_region 18 with fail
    obtain⟨R,hR⟩:∃R,R=(bytesOf s').foldl one3 h':=⟨_,rfl⟩;have d:=QA hR;clear hR
    go_loopw [5,9] (fun v5 v9 wi=>∃(k:Nat) (iv x:Int),k≤s'.size∧v9=.int .i64 iv∧v5=.int .u64 x∧Aside0 (iv=(k:Int))∧Aside0 (((bytesOf s').drop k).foldl one3 x=R)∧Aside0 (Below wr.heap.size wr wi))
     (fun _ v9 _=>s'.size-(intOf v9).toNat)
    case atStart=>exact⟨0,0,_,Nat.zero_le _,rfl,rfl,⟨rfl⟩,⟨by rw[List.drop_zero];exact d.out.symm⟩,⟨Below.refl _ _⟩⟩
    case round =>
     obtain⟨k,iv,x,hk,rfl,rfl,HK,HX,HBi⟩:=hrel
     by_cases hlt:k<s'.size
     ·have j:0≤iv:=by have:=HK.out;omega
      have l:iv<(s'.size:Int):=by have:=HK.out;omega
      have hwi:IntKind.i64.wrap (iv+1)=iv+1:=IntWalk.i64_in _ (by omega);have r:=bt_at s' iv;have P22:=j;have Q22:=l;replace j:=eq_true j;replace l:=eq_true l
      go_wp2_with (go_at_call 178;refine(Qql _ 11 11 rfl (by decide) _).mono ?_;rintro e u ⟨rfl,hd⟩;have hd4:=hd.below;clear hd)
      go_roundw
      case rel=>exact⟨k+1,iv+1,one3 x (bt s' iv),by omega,rfl,rfl,⟨by have:=HK.out;omega⟩,⟨by
       have e1:iv=(k:Int):=HK.out;have hl:=Qcy s';have e2:(bytesOf s').drop k=rd (bytesOf s') (k:Int) :: (bytesOf s').drop (k+1):=by
        rw[List.drop_eq_getElem_cons (by omega)];simp[rd,List.getD_eq_getElem?_getD,List.getElem?_eq_getElem (show k<(bytesOf s').length by omega)]
       have e3:=HX.out;rw[e2,List.foldl_cons,← e1,Qcz]at e3;exact e3⟩,⟨Qcq HBi.out HBi.out.size hd4⟩⟩
      case measure=>simp[intOf];omega
     ·obtain rfl:k=s'.size:=by omega
      have e1:iv=_:=HK.out;subst e1;have hx:=HX.out;rw[List.drop_of_length_le (Nat.le_of_eq (Qcy s'))]at hx;have hx':x=R:=hx;have hm:=HM.out;have hm0:m=0:=by omega
      have HE:=QA (show doc3 sd s0=fin3 x by
       rw[hm.2,hx',d.out];unfold Qqu;rw[hm.1,hm0];rfl)
      clear hx hx' hm hm0 HX d HM
      go_wp2_with (first
       |(go_at_call_of 179 (Value.int .i64 15);refine(Qqn _ 15 15 rfl (by decide) _).mono ?_;rintro e v1 ⟨rfl,hd⟩;have hd1:=hd.below;clear hd)
       |(go_at_call_of 179 (Value.int .i64 13);refine(Qqn _ 13 13 rfl (by decide) _).mono ?_;rintro e v2 ⟨rfl,hd⟩;have hd2:=hd.below;clear hd)
       |(go_at_call_of 179 (Value.int .i64 16);refine(Qqn _ 16 16 rfl (by decide) _).mono ?_;rintro e v3 ⟨rfl,hd⟩;have hd3:=hd.below;clear hd))
      go_ret
      have hA:=Qcq HB.out HB.out.size HBi.out;have hB1:=Qcq hA hA.size hd1;have hB2:=Qcq hB1 hB1.size hd2;exact⟨by rw[HE.out];rfl,Qcq hB2 hB2.size hd3⟩
end Go.Proofs.YtepkfjmjidjedaaGreat.C
end
