/- Merged texts. -/
import Derived.Test.YteaocbonofboeaaGreatMA02
import Derived.Test.YteaocbonofboeaaGreatMA05
import Derived.Test.YteaocbonofboeaaGreatMA04
import Derived.Test.YteaocbonofboeaaGreatMA08
import Derived.Test.YteaocbonofboeaaGreatMA09
import Derived.Test.YteaocbonofboeaaGreatMA06
import Derived.Test.YteaocbonofboeaaGreatMA03
set_option linter.unusedVariables false
set_option linter.unusedSimpArgs false
set_option maxHeartbeats 8000000
set_option maxRecDepth 100000
section
namespace Go.Proofs.YteaocbonofboeaaGreat.C
open Go.RowKit Go.Proofs.YteaocbonofboeaaGreatW.PrintWords Go.Proofs.YteaocbonofboeaaGreatW.PrintLast Go.Proofs.YteaocbonofboeaaGreatW.PrintMore
attribute [local go_sem] Qiz Qja Qjb Qjc Qjd Qje Qjf Qjg
def Qcc.l0:Nat→List Int→List (S37)→Int→Int→Int→Int→Option (List Int × Int)
 | 0,_,_,_,_,_,_=>none
 | k+1,x7,x18,x19,x20,x469000,x469001=>if x20<x19 then(if 0≤x20 then(if x20<(x18.length:Int)then((Qbv.f k ((Qjw x18 x20).f0) ((Qjw x18 x20).f1) ((Qjw x18 x20).f2) ((Qjw x18 x20).f3)).bind fun t473=>(if x7.length<17592186044416 then(Qcc.l0 k (x7++[(t473.size:Int)]) x18 x19 (wrap64 (x20+1)) x469000 x469001)else(none)))else(none))else(none))else((Qca.f k x469000 x469001 x7).bind fun bt477=>(some (bt477.1,bt477.2)))
def Qcc.f(k:Nat)(a0_0:Int)(a0_1:Int)(l1:List (S37)):Option (List Int × Int):=(Qbs.f a0_0 a0_1).bind fun t469=>(if t469=true then((Qbr.f k l1).bind fun t470=>(if t470=0 then(Qcc.l0 k ([]:List Int) l1 (l1.length:Int) 0 a0_0 a0_1)else(some (([]:List Int),t470))))else(some (([]:List Int),1)))
theorem Qcc.calls (k:Nat) (d:Int) (j:Int) (A1:Option Addr) (c1:Nat) (l1:List (S37)) (r1:List Int) (r2:Int) (w:World) (hr1:Kd.C k37 w A1 l1.length l1) (hc1:l1.length≤c1) (h:Qcc.f k d j l1=some (r1,r2)) :
  Calls Tryz.prog 48 #[.agg #[.int .u8 d,.int .u32 j],.slice A1 l1.length c1] w fun e w'=>∃ai:Value,e=.returned (.tuple #[ai,.int .i64 r2])∧Kd.R (Kd.int .u64) 35 w' w.heap.size (fun _=>True) ai r1∧Below w.heap.size w w':=by
 have hu28:=Tryz.underlying28;have hu37:=Tryz.underlying37;have O:=QA hr1;have aj:=QA hc1;clear hr1 hc1;have HB:=QA (Below.refl w.heap.size w);have H:((Qbs.f d j).bind fun D=>(if D=true then((Qbr.f k l1).bind fun q=>(if q=0 then(Qcc.l0 k ([]:List Int) l1 (l1.length:Int) 0 d j)else(some (([]:List Int),q))))else(some (([]:List Int),1))))=some (r1,r2):=h;clear h;replace H:=Option.bind_eq_some_iff.mp H;obtain⟨D,ak,H⟩:=H;have A3:=QA ak;clear ak
 by_cases c4:D=true
 ·subst c4;rw[if_pos rfl]at H;replace H:=Option.bind_eq_some_iff.mp H;obtain⟨q,al,H⟩:=H;have A5:=QA al;clear al
  by_cases c6:q=0
  ·rw [if_pos c6]at H;have P:(q == 0)=true:=beq_iff_eq.mpr c6;have T:(q != 0)=false:=bne_eq_false_iff_eq.mpr c6;clear c6;have H':=QA H;clear H
   go_enter Tryz.func48,Tryz.ntmps48
   go_wp2_with (first |((with_reducible refine Qgj (N:=2) rfl ?_);refine qq_e 2 #[.int .u8 d,.int .u32 j] 28 ?_;intro l hg w7 hbox hb;have n_:=qn4 (Qfy qq_b hb) (hbox) (qq_s hg:w.heap.size≤l) (qq_s hg:w.heap.size≤l);clear HB;obtain⟨HB,a,I,J⟩:=n_;clear hb hbox hg;obtain⟨U,W⟩:=qc2 a.out;have an:=Qej a.out) |((with_reducible refine Qjh (f:=87) rfl ?_);refine Qhf (some 11) rfl rfl Tryz.func87 qq_6 rfl #[.agg #[.int .u8 d,.int .u32 j]] rfl qq_1 ?_;(with_reducible refine(Qbs.calls d j true _ A3.out).mono ?_);rintro e w9 ⟨rfl,hb⟩;refine⟨_,rfl,?_⟩;have n_:=qn2 (Qex (g:=l) (o:=.cells #[.int .u8 d,.int .u32 j] 28 (0,0)) qq_0 hb) (Qfy qq_b hb);clear a HB;obtain⟨a,HB⟩:=n_;(try clear hb);(try clear hb2);(try clear hk);(try clear hi)) |((with_reducible refine Qjh (f:=88) rfl ?_);refine Qhf (some 14) rfl rfl Tryz.func88 qq_6 rfl #[.slice A1 l1.length c1] rfl qq_1 ?_;(with_reducible refine(Qbr.calls k _ _ l1 q _ ?side1 ?side2 A5.out).mono ?_);(case side1=>repeat(first|exact(Kd.C_below O.out HB.out) |(with_reducible refine Kd.C_alloc ?_ _) |(with_reducible refine Kd.C_drewN ?_ _) |(with_reducible refine Kd.C_drew ?_)));(case side2=>exact aj.out);rintro e aX ⟨rfl,hb⟩;refine⟨_,rfl,?_⟩;have n_:=qn2 (Qex (g:=l) (o:=.cells #[.int .u8 d,.int .u32 j] 28 (0,0)) qq_0 hb) (Qfy qq_b hb);clear a HB;obtain⟨a,HB⟩:=n_;(try clear hb);(try clear hb2);(try clear hk);(try clear hi)))
   go_loopg [7,20] k (fun kq v7 aC w'=>∃(r:List Int) (c:Int),aC=.int .i64 c∧Aside0 (Qcc.l0 kq r l1 (l1.length:Int) c d j=some (r1,r2))∧Aside0 (kq≤k)∧Aside0 (Kd.R (Kd.int .i64) 3 w' w.heap.size (fun _=>True) v7 r)∧Aside0 (w'.heap[l]? = some (.cells #[.int .u8 d,.int .u32 j] 28 (0,0)))∧Aside0 (Below w.heap.size w w'))
   case atStart=>exact⟨(([]:List Int)),(0),qq_7,H',⟨Nat.le_refl _⟩,⟨by first|exact Kd.R_nil _ _ _ _ _|exact Kd.N_nil _ _ _ _ _|exact Kd.V_nil _ _ _ _ _|exact Kd.Q_nil _ _ _ _ _|exact Kd.S_nil _ _ _ _ _⟩,⟨by(with_reducible repeat(first|apply Qew|apply Qev|apply Qeu));exact a.out⟩,⟨qq_b⟩⟩
   case round =>
    clear H'
    try clear c1
    try clear c4
    try clear c6
    try clear P
    try clear T
    try clear U
    try clear W
    try clear an
    obtain⟨r,c,rfl,HA,HK1,HO_7,a,HB⟩:=hrel
    cases gk with
    | zero=>exact absurd HA.out (by simp[Qcc.l0])
    | succ k1 =>
     have H:=HA.out;clear HA;simp only[Qcc.l0]at H
     by_cases t:c<(l1.length:Int)
     ·rw [if_pos t]at H;have ad:=decide_eq_true t;clear t
      by_cases K:0≤c
      ·rw[if_pos K]at H;have aG:=decide_eq_true K;clear K
       by_cases L:c<(l1.length:Int)
       ·rw[if_pos L]at H;have aH:=decide_eq_true L;clear L;replace H:=Option.bind_eq_some_iff.mp H;obtain⟨z,X,H⟩:=H;have aD:=QA X;clear X
        by_cases M:r.length<17592186044416
        ·rw[if_pos M]at H;have ae:=QA M;clear M;obtain⟨Y,s⟩:∃y_:List Int,y_=(r++[(z.size:Int)]):=⟨_,rfl⟩;replace H:(Qcc.l0 k1 Y l1 (l1.length:Int) (wrap64 (c+1)) d j)=some (r1,r2):=by first |(rw[s];with_reducible exact H) |(have Z:=(Option.bind_some _ _).symm.trans H;rw[s];with_reducible exact Z) |(have Z:=(Option.bind_some _ _).symm.trans H;with_reducible exact Z)|with_reducible exact H |(rw[s];exact H)|exact H
         have af:=QA s;clear s;have H':=QA H;clear H;have E:0≤(c:Int):=of_decide_eq_true qq_3;have G:c<(l1.length:Int):=of_decide_eq_true qq_3;obtain⟨aI,ao,u,v,x,y⟩:=Qjx O.out c E G
         cases ao
         replace u:=qq_h HB.out u;replace v:=qq_h HB.out v;replace x:=qq_h HB.out x;replace y:=qq_h HB.out y;replace E:=eq_true E;replace G:=eq_true G
         go_wp2_with (first |((with_reducible refine Qgj (N:=9) rfl ?_);refine qq_e 9 #[.bool false,.int .u64 0,.string (⟨#[]⟩:ByteArray),.string (⟨#[]⟩:ByteArray)] 37 ?_;intro m hg aY hbox hb;have n_:=qn8 (Kd.R_below qq_4 hb) (Qex (g:=l) (o:=.cells #[.int .u8 d,.int .u32 j] 28 (0,0)) qq_0 hb) (Qfy qq_b hb) (hbox) (qq_s hg:w.heap.size≤m) (qq_s hg:w.heap.size≤m) ((by rw[hg];exact Nat.ne_of_lt (Qeh (g:=l) (o:=.cells #[.int .u8 d,.int .u32 j] 28 (0,0)) qq_0):l≠m)) ((by rw[hg];exact Nat.ne_of_gt (Qeh (g:=l) (o:=.cells #[.int .u8 d,.int .u32 j] 28 (0,0)) qq_0):m≠l));clear HO_7 a HB;obtain⟨HO_7,a,HB,n,aJ,aK,A,B⟩:=n_;clear hb hbox hg;have aM:=B.out;have aN:=A.out;obtain⟨ap,aq,ar,au⟩:=qc4 n.out;have aQ:=Qej n.out) |((with_reducible refine Qjh (f:=37) rfl ?_);refine Qhf (some 26) rfl rfl Tryz.func37 qq_6 rfl #[.agg #[.bool ((Qjw l1 c).f0),.int .u64 ((Qjw l1 c).f1),.string ((Qjw l1 c).f2),.string ((Qjw l1 c).f3)]] rfl qq_1 ?_;(with_reducible refine(Qbv.calls k1 ((Qjw l1 c).f0) ((Qjw l1 c).f1) ((Qjw l1 c).f2) ((Qjw l1 c).f3) z _ aD.out).mono ?_);rintro e aZ ⟨rfl,hb⟩;refine⟨_,rfl,?_⟩;have n_:=qn4 (Kd.R_below (by(with_reducible repeat(first|apply Kd.R_alloc|apply Kd.R_drewN|apply Kd.R_drew));exact(Kd.R_mono (Kd.R_far (p:=⟨m,3,none⟩) (Kd.R_far (p:=⟨m,2,none⟩) (Kd.R_far (p:=⟨m,1,none⟩) (Kd.R_far (p:=⟨m,0,none⟩) (Kd.R_types HO_7.out n.out (by decide)) (fun _ hk=>hk.2) (.bool ((Qjw l1 c).f0))) (fun _ hk=>hk.2) (.int .u64 ((Qjw l1 c).f1))) (fun _ hk=>hk.2) (.string ((Qjw l1 c).f2))) (fun _ hk=>hk.2) (.string ((Qjw l1 c).f3))) (fun _ h_=>h_.1))) hb) (Qex (g:=l) (o:=.cells #[.int .u8 d,.int .u32 j] 28 (0,0)) qq_8 hb) (Qex (g:=m) (o:=.cells #[.bool ((Qjw l1 c).f0),.int .u64 ((Qjw l1 c).f1),.string ((Qjw l1 c).f2),.string ((Qjw l1 c).f3)] 37 (0,0)) qq_x hb) (Qfy qq_b hb);clear HO_7 a n HB;obtain⟨HO_7,a,n,HB⟩:=n_;(try clear hb);(try clear hb2);(try clear hk);(try clear hi)) |((with_reducible refine Qji (b:=.append) (xs:=#[.tmp 24,.tmp 28]) rfl ?_);at_builtin;refine Kd.R_append (Kd.int .i64) (w0:=w) w.heap.size rfl (.tmp 24) (.tmp 28) 153 3 (.int .i64 0) 8 rfl Tryz.underlying153 info3 rfl (by decide) (by omega) u7 r (z.size:Int) [.int .i64 (z.size:Int)] (fun _=>True) (fun _=>False) rfl rfl ?aP (fun _ hk=>hk.elim) ?aF ?aO ?aB ?aS ?aL ?_;(case aP=>exact rfl);(case aB=>exact qq_b);(case aF=>exact(fun _ _=>trivial));(case aO=>exact qq_4);(case aS=>exact(Qfx qq_b));(case aL=>have:=ae.out;omega);intro aV ba ho hb hg hat;rw[← af.out]at ho;have n_:=qn4 (Qek (g:=l) (o:=.cells #[.int .u8 d,.int .u32 j] 28 (0,0)) qq_0 hg (Kd.R_ne HO_7.out a.out (by decide))) (Qek (g:=m) (o:=.cells #[.bool ((Qjw l1 c).f0),.int .u64 ((Qjw l1 c).f1),.string ((Qjw l1 c).f2),.string ((Qjw l1 c).f3)] 37 (0,0)) qq_0 hg (Kd.R_ne HO_7.out n.out (by decide))) (hb) (ho);clear a n HB HO_7;obtain⟨a,n,HB,ag⟩:=n_;clear ho hb hg hat))
         go_roundg k1
         case measure=>have:=HK1.out;omega
         case rel=>exact⟨(Y),(wrap64 (c+1)),qq_7,H',⟨by have:=HK1.out;omega⟩,⟨by(with_reducible repeat(first|apply Kd.R_alloc|apply Kd.R_drewN|apply Kd.R_drew));exact ag.out⟩,⟨by(with_reducible repeat(first|apply Qew|apply Qev|apply Qeu));exact a.out⟩,⟨qq_b⟩⟩
        ·rw[if_neg M]at H;exact absurd H (by simp)
       ·rw[if_neg L]at H;exact absurd H (by simp)
      ·rw[if_neg K]at H;exact absurd H (by simp)
     ·rw[if_neg t]at H;have ad:=decide_eq_false t;clear t;replace H:=Option.bind_eq_some_iff.mp H;obtain⟨⟨aa,ab⟩,ac,H⟩:=H;replace H:(some (aa,ab))=some (r1,r2):=H;have aE:=QA ac;clear ac;simp only[Option.some.injEq,Prod.mk.injEq]at H;obtain⟨rfl,rfl⟩:=H;obtain⟨av,aw⟩:=qc2 a.out;have aR:=Qej a.out;obtain⟨Ao23,co23,eo23⟩:=Kd.R_slice HO_7.out;subst eo23
      go_wp2_with (first |((with_reducible refine Qjh (f:=89) rfl ?_);refine Qhf (some 33) rfl rfl Tryz.func89 qq_6 rfl #[.agg #[.int .u8 d,.int .u32 j],.slice Ao23 r.length co23] rfl qq_1 ?_;(with_reducible refine(Qca.calls k1 d j _ _ r aa ab _ ?side1 ?side2 aE.out).mono ?_);(case side1=>repeat(first|exact(Kd.R_reads' HO_7.out).2.2 |(with_reducible refine Kd.C_alloc ?_ _) |(with_reducible refine Kd.C_drewN ?_ _) |(with_reducible refine Kd.C_drew ?_)));(case side2=>exact(Kd.R_reads' HO_7.out).2.1);rintro e bb ⟨aW,rfl,am,hb⟩;refine⟨_,rfl,?_⟩;have n_:=qn4 (Kd.R_below qq_4 hb) (Kd.R_lower am (Qfx qq_b)) (Qex (g:=l) (o:=.cells #[.int .u8 d,.int .u32 j] 28 (0,0)) qq_0 hb) (Qfy qq_b hb);clear HO_7 a HB;obtain⟨HO_7,ah,a,HB⟩:=n_;(try clear hb);(try clear hb2);(try clear hk);(try clear hi);(try clear am)))
      go_ret2
      exact⟨_,by first|rfl |(simp[Qjm,Qjn]<;>rfl) |(simp[*,Qjm,Qjn]<;>rfl),by(with_reducible repeat(first|apply Kd.R_alloc|apply Kd.R_drewN|apply Kd.R_drew));exact ah.out,qq_b⟩
  ·rw[if_neg c6]at H;have P:(q == 0)=false:=beq_eq_false_iff_ne.mpr c6;have T:(q != 0)=true:=bne_iff_ne.mpr c6;simp only[Option.some.injEq,Prod.mk.injEq]at H;obtain⟨rfl,rfl⟩:=H
   go_enter Tryz.func48,Tryz.ntmps48
   go_wp2_with (first |((with_reducible refine Qgj (N:=2) rfl ?_);refine qq_e 2 #[.int .u8 d,.int .u32 j] 28 ?_;intro l hg bc hbox hb;have n_:=qn4 (Qfy qq_b hb) (hbox) (qq_s hg:w.heap.size≤l) (qq_s hg:w.heap.size≤l);clear HB;obtain⟨HB,a,I,J⟩:=n_;clear hb hbox hg;obtain⟨ax,ay⟩:=qc2 a.out;have aT:=Qej a.out) |((with_reducible refine Qjh (f:=87) rfl ?_);refine Qhf (some 11) rfl rfl Tryz.func87 qq_6 rfl #[.agg #[.int .u8 d,.int .u32 j]] rfl qq_1 ?_;(with_reducible refine(Qbs.calls d j true _ A3.out).mono ?_);rintro e bd ⟨rfl,hb⟩;refine⟨_,rfl,?_⟩;have n_:=qn2 (Qex (g:=l) (o:=.cells #[.int .u8 d,.int .u32 j] 28 (0,0)) qq_0 hb) (Qfy qq_b hb);clear a HB;obtain⟨a,HB⟩:=n_;(try clear hb);(try clear hb2);(try clear hk);(try clear hi)) |((with_reducible refine Qjh (f:=88) rfl ?_);refine Qhf (some 14) rfl rfl Tryz.func88 qq_6 rfl #[.slice A1 l1.length c1] rfl qq_1 ?_;(with_reducible refine(Qbr.calls k _ _ l1 q _ ?side1 ?side2 A5.out).mono ?_);(case side1=>repeat(first|exact(Kd.C_below O.out HB.out) |(with_reducible refine Kd.C_alloc ?_ _) |(with_reducible refine Kd.C_drewN ?_ _) |(with_reducible refine Kd.C_drew ?_)));(case side2=>exact aj.out);rintro e be ⟨rfl,hb⟩;refine⟨_,rfl,?_⟩;have n_:=qn2 (Qex (g:=l) (o:=.cells #[.int .u8 d,.int .u32 j] 28 (0,0)) qq_0 hb) (Qfy qq_b hb);clear a HB;obtain⟨a,HB⟩:=n_;(try clear hb);(try clear hb2);(try clear hk);(try clear hi)))
   go_ret2
   exact⟨_,by first|rfl |(simp[Qjm,Qjn]<;>rfl) |(simp[*,Qjm,Qjn]<;>rfl),by first|exact Kd.R_nil _ _ _ _ _|exact Kd.N_nil _ _ _ _ _|exact Kd.V_nil _ _ _ _ _|exact Kd.Q_nil _ _ _ _ _|exact Kd.S_nil _ _ _ _ _,qq_b⟩
 ·replace c4:=Bool.eq_false_iff.mpr c4;subst c4;rw[if_neg (show ¬(false=true)by decide)]at H;simp only[Option.some.injEq,Prod.mk.injEq]at H;obtain⟨rfl,rfl⟩:=H
  go_enter Tryz.func48,Tryz.ntmps48
  go_wp2_with (first |((with_reducible refine Qgj (N:=2) rfl ?_);refine qq_e 2 #[.int .u8 d,.int .u32 j] 28 ?_;intro l hg bf hbox hb;have n_:=qn4 (Qfy qq_b hb) (hbox) (qq_s hg:w.heap.size≤l) (qq_s hg:w.heap.size≤l);clear HB;obtain⟨HB,a,I,J⟩:=n_;clear hb hbox hg;obtain⟨az,aA⟩:=qc2 a.out;have aU:=Qej a.out) |((with_reducible refine Qjh (f:=87) rfl ?_);refine Qhf (some 11) rfl rfl Tryz.func87 qq_6 rfl #[.agg #[.int .u8 d,.int .u32 j]] rfl qq_1 ?_;(with_reducible refine(Qbs.calls d j false _ A3.out).mono ?_);rintro e bg ⟨rfl,hb⟩;refine⟨_,rfl,?_⟩;have n_:=qn2 (Qex (g:=l) (o:=.cells #[.int .u8 d,.int .u32 j] 28 (0,0)) qq_0 hb) (Qfy qq_b hb);clear a HB;obtain⟨a,HB⟩:=n_;(try clear hb);(try clear hb2);(try clear hk);(try clear hi)))
  go_ret2
  exact⟨_,by first|rfl |(simp[Qjm,Qjn]<;>rfl) |(simp[*,Qjm,Qjn]<;>rfl),by first|exact Kd.R_nil _ _ _ _ _|exact Kd.N_nil _ _ _ _ _|exact Kd.V_nil _ _ _ _ _|exact Kd.Q_nil _ _ _ _ _|exact Kd.S_nil _ _ _ _ _,qq_b⟩
def fascicleref13_Text.T1:Bool × List (List Nat × List Nat):=(true,[([],[]),([0],[0]),([1],[1]),([2],[2]),([3],[3]),([4],[4]),([],[]),([6],[6]),([7],[7]),([8,4],[8]),([5,9],[5,9]),([10,9,0,1,2,3,4,5,6,7,8,9,10],[10])])
def fascicleref13_Text.B1:List Nat:=[0,1,3,7,15,31,0,64,192,479,1023,2047]
def fascicleref13_Text.T2:Bool × List (List Nat × List Nat):=(true,[([],[]),([],[]),([1],[1]),([2],[2]),([0,3],[0,3]),([],[]),([5],[5]),([6,3],[6]),([7,7],[7]),([4,8],[4,8]),([9,8],[9]),([10,10,0,1,2,3,4,5,6,7,8,9,10],[10])])
def fascicleref13_Text.B2:List Nat:=[0,0,2,6,15,0,32,110,238,511,1023,2047]
def Qar.l0:Nat→List Int→List (S158)→Int→Int→List (S158)→Int→Option (List Int)
 | 0,_,_,_,_,_,_=>none
 | k+1,x5,x11,x12,x13,x359000,x359001=>if x13<x12 then(if 0≤x13 then(if x13<(x11.length:Int)then(if((Qkn x11 x13).f0)<(IntKind.u64.wrap ((x5.length:Int)))then(if 0≤((Qkn x11 x13).f0)then(if((Qkn x11 x13).f0)<(x5.length:Int)then(Qar.l0 k (x5.set (((Qkn x11 x13).f0):Int).toNat ((Qkn x11 x13).f1)) x11 x12 (wrap64 (x13+1)) x359000 x359001)else(none))else(none))else(Qar.l0 k x5 x11 x12 (wrap64 (x13+1)) x359000 x359001))else(none))else(none))else((Qas.f x359000 x359001 (x5.length:Int)).bind fun t365=>(if 0≤t365 then(if t365≤(x5.length:Int)then(some (x5.take (t365:Int).toNat))else(none))else(none)))
def Qar.f(k:Nat)(l0:List Int)(l1_0:List (S158))(a1_1:Int):Option (List Int):=(Qae.f l0).bind fun t359=>(Qar.l0 k t359 l1_0 (l1_0.length:Int) 0 l1_0 a1_1)
theorem Qar.calls (k:Nat) (A0:Option Addr) (c0:Nat) (l0:List Int) (D:Option Addr) (s:Nat) (a:List (S158)) (l:Int) (r:List Int) (w:World) (hr0:Kd.C (Kd.int .u8) w A0 l0.length l0) (hc0:l0.length≤c0) (hr1_0:Kd.C k158 w D a.length a) (hc1_0:a.length≤s) (h:Qar.f k l0 a l=some r) :
  Calls Tryz.prog 39 #[.slice A0 l0.length c0,.agg #[.slice D a.length s,.int .i64 l]] w fun e w'=>∃av:Value,e=.returned (av)∧Kd.R (Kd.int .u8) 5 w' w.heap.size (fun _=>True) av r∧Below w.heap.size w w':=by
 have hu81:=Tryz.underlying81;have hu158:=Tryz.underlying158;have aM:=QA hr0;have aN:=QA hc0;clear hr0 hc0;have M:=QA hr1_0;have am:=QA hc1_0;clear hr1_0 hc1_0;have HB:=QA (Below.refl w.heap.size w);have H:((Qae.f l0).bind fun O=>(Qar.l0 k O a (a.length:Int) 0 a l))=some r:=h;clear h;replace H:=Option.bind_eq_some_iff.mp H;obtain⟨O,aw,H⟩:=H;have A3:=QA aw;clear aw;have H':=QA H;clear H
 go_enter Tryz.func39,Tryz.ntmps39
 go_wp2_with (first |((with_reducible refine Qgj (N:=3) rfl ?_);refine qq_e 3 #[.slice D a.length s,.int .i64 l] 81 ?_;intro d hg w4 hbox hb;have n_:=qn4 (Qfy qq_b hb) (hbox) (qq_s hg:w.heap.size≤d) (qq_s hg:w.heap.size≤d);clear HB;obtain⟨HB,c,aS,aT⟩:=n_;clear hb hbox hg) |((with_reducible refine Qjh (f:=72) rfl ?_);refine Qhf (some 9) rfl rfl Tryz.func72 qq_6 rfl #[.slice A0 l0.length c0] rfl qq_1 ?_;(with_reducible refine(Qae.calls _ _ l0 O _ ?side1 ?side2 A3.out).mono ?_);(case side1=>repeat(first|exact(Kd.C_below aM.out HB.out) |(with_reducible refine Kd.C_alloc ?_ _) |(with_reducible refine Kd.C_drewN ?_ _) |(with_reducible refine Kd.C_drew ?_)));(case side2=>exact aN.out);rintro e w5 ⟨ab,rfl,ax,hb⟩;refine⟨_,rfl,?_⟩;have n_:=qn3 (Kd.R_lower ax (Qfx qq_b)) (Qex (g:=d) (o:=.cells #[.slice D a.length s,.int .i64 l] 81 (0,0)) qq_0 hb) (Qfy qq_b hb);clear c HB;obtain⟨an,c,HB⟩:=n_;(try clear hb);(try clear hb2);(try clear hk);(try clear hi);(try clear ax);obtain⟨ac,ad⟩:=qc2 c.out;have aC:=Qej c.out))
 go_loopg [13] k (fun kq aO w'=>∃(q:List Int) (b:Int),aO=.int .i64 b∧Aside0 (Qar.l0 kq q a (a.length:Int) b a l=some r)∧Aside0 (kq≤k)∧Aside0 (Kd.R (Kd.int .u8) 5 w' w.heap.size (fun _=>True) ab q)∧Aside0 (w'.heap[d]? = some (.cells #[(.slice D a.length s),.int .i64 l] 81 (0,0)))∧Aside0 (Below w.heap.size w w'))
 case atStart=>exact⟨(O),(0),qq_7,H',⟨Nat.le_refl _⟩,⟨by(with_reducible repeat(first|apply Kd.R_alloc|apply Kd.R_drewN|apply Kd.R_drew));exact an.out⟩,⟨by(with_reducible repeat(first|apply Qew|apply Qev|apply Qeu));exact c.out⟩,⟨qq_b⟩⟩
 case round =>
  clear H'
  try clear ac
  try clear ad
  try clear aC
  obtain⟨q,b,rfl,HA,HK1,HO_5,c,HB⟩:=hrel
  cases gk with
  | zero=>exact absurd HA.out (by simp[Qar.l0])
  | succ k1 =>
   have H:=HA.out;clear HA;simp only[Qar.l0]at H
   by_cases c7:b<(a.length:Int)
   ·rw [if_pos c7]at H;have aD:=decide_eq_true c7;clear c7
    by_cases c8:0≤b
    ·rw [if_pos c8]at H;have bj:=decide_eq_true c8;clear c8
     by_cases c9:b<(a.length:Int)
     ·rw [if_pos c9]at H;have bk:=decide_eq_true c9;clear c9
      by_cases c10:((Qkn a b).f0)<(IntKind.u64.wrap ((q.length:Int)))
      ·rw[if_pos c10]at H;have ao:=decide_eq_true c10;clear c10
       by_cases Y:0≤((Qkn a b).f0)
       ·rw[if_pos Y]at H;have aU:=decide_eq_true Y;clear Y
        by_cases Z:((Qkn a b).f0)<(q.length:Int)
        ·rw[if_pos Z]at H;have aV:=decide_eq_true Z;clear Z;obtain⟨W,I⟩:∃y_:List Int,y_=(q.set (((Qkn a b).f0):Int).toNat ((Qkn a b).f1)):=⟨_,rfl⟩;replace H:(Qar.l0 k1 W a (a.length:Int) (wrap64 (b+1)) a l)=some r:=by first |(rw[I];with_reducible exact H) |(have K:=(Option.bind_some _ _).symm.trans H;rw[I];with_reducible exact K) |(have K:=(Option.bind_some _ _).symm.trans H;with_reducible exact K)|with_reducible exact H |(rw[I];exact H)|exact H
         have ap:=QA I;clear I;have H':=QA H;clear H;have E:0≤(b:Int):=of_decide_eq_true qq_3;have G:b<(a.length:Int):=of_decide_eq_true qq_3;obtain⟨x,X,y,z⟩:=Qko M.out b E G
         cases X
         replace y:=qq_h HB.out y;replace z:=qq_h HB.out z;replace E:=eq_true E;replace G:=eq_true G
         go_wp2_with (first |((with_reducible refine Qgj (N:=7) rfl ?_);refine qq_e 7 #[.int .u64 0,.int .u8 0] 158 ?_;intro j hg aP hbox hb;have n_:=qn8 (Kd.R_below qq_4 hb) (Qex (g:=d) (o:=.cells #[.slice (some x) a.length s,.int .i64 l] 81 (0,0)) qq_0 hb) (Qfy qq_b hb) (hbox) (qq_s hg:w.heap.size≤j) (qq_s hg:w.heap.size≤j) ((by rw[hg];exact Nat.ne_of_lt (Qeh (g:=d) (o:=.cells #[.slice (some x) a.length s,.int .i64 l] 81 (0,0)) qq_0):d≠j)) ((by rw[hg];exact Nat.ne_of_gt (Qeh (g:=d) (o:=.cells #[.slice (some x) a.length s,.int .i64 l] 81 (0,0)) qq_0):j≠d));clear HO_5 c HB;obtain⟨HO_5,c,HB,n,aq,ar,u,A⟩:=n_;clear hb hbox hg;have aW:=A.out;have aX:=u.out;obtain⟨aE,aF⟩:=qc2 n.out;have aY:=Qej n.out) |((with_reducible refine Qgk (t:=158) (p:=7) rfl ?_);refine Qgi (t:=158) (p:=7) (v:=?vo_w17) (w1:=((aP.setCell ⟨j,0,none⟩ (.int .u64 ((Qkn a b).f0))).setCell ⟨j,1,none⟩ (.int .u8 ((Qkn a b).f1)))) ?hg ?ho ?hn ?hr ?_;(case ho=>rfl);(case hg=>rfl);(case hn=>rfl);(case hr=>exact qq_20);intro L hw;have ay:Aside0 (Kd.R (Kd.int .u8) 5 L w.heap.size (fun _=>True) ab q):=⟨(by rw[hw];exact(by(with_reducible repeat(first|apply Kd.R_alloc|apply Kd.R_drewN|apply Kd.R_drew));exact Kd.R_mono (Kd.R_far (p:=⟨j,1,none⟩) (Kd.R_far (p:=⟨j,0,none⟩) (Kd.R_types HO_5.out n.out (by decide)) (fun _ hk=>hk.2) (.int .u64 ((Qkn a b).f0))) (fun _ hk=>hk.2) (.int .u8 ((Qkn a b).f1))) (fun _ hk=>trivial)))⟩;have az:Aside0 (L.heap[d]? = some (.cells #[.slice (some x) a.length s,.int .i64 l] 81 (0,0))):=⟨(by rw[hw];exact qq_8)⟩;have aA:Aside0 (L.heap[j]? = some (.cells #[.int .u64 ((Qkn a b).f0),.int .u8 ((Qkn a b).f1)] 158 (0,0))):=⟨(by rw[hw];exact qq_x)⟩;have aB:Aside0 (Below w.heap.size w L):=⟨(by rw[hw];exact qq_b)⟩;clear hw HO_5 c n HB;have HO_5:=ay;have c:=az;have n:=aA;have HB:=aB;clear ay az aA aB;obtain⟨aG,aH⟩:=qc2 n.out;have aZ:=Qej n.out;obtain⟨Ao19,co19,eo19⟩:=Kd.R_slice HO_5.out;subst eo19;have ae:0≤(((Qkn a b).f0):Int):=of_decide_eq_true qq_3;have af:(((Qkn a b).f0):Int)<((q.length:Int):Int):=of_decide_eq_true qq_3;obtain⟨go13,co13,eo13,ag,gl13,cl13,HG13⟩:=Kd.R_form HO_5.out (by omega);(first|cases eo13 |(injection eo13 with ea_ en_ ec_;(first|subst ea_ |(injection ea_ with ea_;subst ea_));subst ec_;clear en_));have GB13:=QA ag;have GG13:=QA HG13;clear ag gl13 HG13;obtain⟨aQ,hf13_0⟩:=Kd.R_celln 0 HO_5.out (((Qkn a b).f0):Int) ae af;replace ae:=eq_true ae;replace af:=eq_true af;obtain⟨ba,hz20_⟩:=Kd.R_celln 0 HO_5.out (((Qkn a b).f0):Int) (of_decide_eq_true qq_3) (of_decide_eq_true qq_3);have HP20:=Kd.R_putg HO_5.out (((Qkn a b).f0):Int) ((Qkn a b).f1)) |((with_reducible refine Qgk (t:=5) (p:=28) rfl ?_);refine Qgi (t:=5) (p:=28) (v:=?vo_w21) (w1:=(L.setCell ⟨go13,(((Qkn a b).f0):Int).toNat,none⟩ (.int .u8 ((Qkn a b).f1)))) ?hg ?ho ?hn ?hr ?_;(case ho=>rfl);(case hg=>rfl);(case hn=>rfl);(case hr=>exact qq_20);intro ah hw;have hg:L.grownBy ah (some go13):=(by rw[hw];exact HP20.2);have hp_:Kd.R (Kd.int .u8) 5 ah w.heap.size (fun _=>True) (.slice (some ⟨go13,0,none⟩) q.length co19) W:=(by rw[hw,ap.out];exact HP20.1);clear HP20;have n_:=qn4 (hp_) (Qek (g:=d) (o:=.cells #[.slice (some x) a.length s,.int .i64 l] 81 (0,0)) qq_0 hg (Kd.R_ne HO_5.out c.out (by decide))) (Qek (g:=j) (o:=.cells #[.int .u64 ((Qkn a b).f0),.int .u8 ((Qkn a b).f1)] 158 (0,0)) qq_0 hg (Kd.R_ne HO_5.out n.out (by decide))) ((by rw[hw];exact Qga (HB.out) GB13.out:Below w.heap.size w ah));clear HO_5 c n HB;obtain⟨HO_5,c,n,HB⟩:=n_;clear hg hw hp_))
         go_roundg k1
         case measure=>have:=HK1.out;omega
         case rel=>exact⟨(W),(wrap64 (b+1)),qq_7,H',⟨by have:=HK1.out;omega⟩,⟨by(with_reducible repeat(first|apply Kd.R_alloc|apply Kd.R_drewN|apply Kd.R_drew));exact HO_5.out⟩,⟨by(with_reducible repeat(first|apply Qew|apply Qev|apply Qeu));exact c.out⟩,⟨qq_b⟩⟩
        ·rw[if_neg Z]at H;exact absurd H (by simp)
       ·rw[if_neg Y]at H;exact absurd H (by simp)
      ·rw[if_neg c10]at H;have ao:=decide_eq_false c10;clear c10;have H':=QA H;clear H;have E:0≤(b:Int):=of_decide_eq_true qq_3;have G:b<(a.length:Int):=of_decide_eq_true qq_3;obtain⟨x,X,y,z⟩:=Qko M.out b E G
       cases X
       replace y:=qq_h HB.out y;replace z:=qq_h HB.out z;replace E:=eq_true E;replace G:=eq_true G
       go_wp2_with (first |((with_reducible refine Qgj (N:=7) rfl ?_);refine qq_e 7 #[.int .u64 0,.int .u8 0] 158 ?_;intro j hg bn hbox hb;have n_:=qn8 (Kd.R_below qq_4 hb) (Qex (g:=d) (o:=.cells #[.slice (some x) a.length s,.int .i64 l] 81 (0,0)) qq_0 hb) (Qfy qq_b hb) (hbox) (qq_s hg:w.heap.size≤j) (qq_s hg:w.heap.size≤j) ((by rw[hg];exact Nat.ne_of_lt (Qeh (g:=d) (o:=.cells #[.slice (some x) a.length s,.int .i64 l] 81 (0,0)) qq_0):d≠j)) ((by rw[hg];exact Nat.ne_of_gt (Qeh (g:=d) (o:=.cells #[.slice (some x) a.length s,.int .i64 l] 81 (0,0)) qq_0):j≠d));clear HO_5 c HB;obtain⟨HO_5,c,HB,n,aq,ar,u,A⟩:=n_;clear hb hbox hg;have bb:=A.out;have bc:=u.out;obtain⟨aI,aJ⟩:=qc2 n.out;have bd:=Qej n.out;obtain⟨Ao25,co25,eo25⟩:=Kd.R_slice HO_5.out;subst eo25))
       go_roundg k1
       case measure=>have:=HK1.out;omega
       case rel=>exact⟨(q),(wrap64 (b+1)),qq_7,H',⟨by have:=HK1.out;omega⟩,⟨by(with_reducible repeat(first|apply Kd.R_alloc|apply Kd.R_drewN|apply Kd.R_drew));exact Kd.R_mono (Kd.R_far (p:=⟨j,1,none⟩) (Kd.R_far (p:=⟨j,0,none⟩) (Kd.R_types HO_5.out n.out (by decide)) (fun _ hk=>hk.2) (.int .u64 ((Qkn a b).f0))) (fun _ hk=>hk.2) (.int .u8 ((Qkn a b).f1))) (fun _ hk=>trivial)⟩,⟨by(with_reducible repeat(first|apply Qew|apply Qev|apply Qeu));refine Qeg ?_ u.out _;(with_reducible repeat(first|apply Qew|apply Qev|apply Qeu));refine Qeg ?_ u.out _;(with_reducible repeat(first|apply Qew|apply Qev|apply Qeu));exact c.out⟩,⟨qq_b⟩⟩
     ·rw[if_neg c9]at H;exact absurd H (by simp)
    ·rw[if_neg c8]at H;exact absurd H (by simp)
   ·rw[if_neg c7]at H;have aD:=decide_eq_false c7;clear c7;replace H:=Option.bind_eq_some_iff.mp H;obtain⟨B,ai,H⟩:=H;have aR:=QA ai;clear ai
    by_cases T:0≤B
    ·rw[if_pos T]at H;have be:=eq_true T;have bf:=decide_eq_true T;clear T
     by_cases U:B≤(q.length:Int)
     ·rw[if_pos U]at H;have bg:=eq_true U;have bh:=decide_eq_true U;clear U;obtain⟨aj,J⟩:∃y_:List Int,y_=(q.take (B:Int).toNat):=⟨_,rfl⟩;replace H:(some aj)=some r:=by first |(rw[J];with_reducible exact H) |(have K:=(Option.bind_some _ _).symm.trans H;rw[J];with_reducible exact K) |(have K:=(Option.bind_some _ _).symm.trans H;with_reducible exact K)|with_reducible exact H |(rw[J];exact H)|exact H
      have aa:=QA J;clear J;obtain rfl:=Option.some.inj H;obtain⟨aK,aL⟩:=qc2 c.out;have bi:=Qej c.out;obtain⟨Ao30,co30,eo30⟩:=Kd.R_slice HO_5.out;subst eo30
      go_wp2_with (first |((with_reducible refine Qjh (f:=83) rfl ?_);refine Qhf (some 34) rfl rfl Tryz.func83 qq_6 rfl #[.agg #[.slice D a.length s,.int .i64 l],.int .i64 (q.length:Int)] rfl qq_1 ?_;(with_reducible refine(Qas.calls _ _ a l (q.length:Int) B _ ?side1 ?side2 aR.out).mono ?_);(case side1=>repeat(first|exact(Kd.C_below M.out HB.out) |(with_reducible refine Kd.C_alloc ?_ _) |(with_reducible refine Kd.C_drewN ?_ _) |(with_reducible refine Kd.C_drew ?_)));(case side2=>exact am.out);rintro e bo ⟨rfl,hb⟩;refine⟨_,rfl,?_⟩;have n_:=qn3 (Kd.R_below qq_4 hb) (Qex (g:=d) (o:=.cells #[.slice D a.length s,.int .i64 l] 81 (0,0)) qq_0 hb) (Qfy qq_b hb);clear HO_5 c HB;obtain⟨HO_5,c,HB⟩:=n_;(try clear hb);(try clear hb2);(try clear hk);(try clear hi);have ak:(B:Int)≤((q.length:Int):Int):=of_decide_eq_true qq_3;obtain⟨bl,hi032,_,hsz32,_⟩:=info_parts Qjo;have hcut32:=Qfj (P:=Tryz.prog) 40 5 .i64 Tryz.underlying40 hi032 Ao30 q.length co30 B (of_decide_eq_true qq_3) ak (Kd.R_reads' HO_5.out).2.1;have hr32:=Kd.R_take (m:=(B:Int).toNat) HO_5.out (by omega);have al:aj.length=(B:Int).toNat:=(by rw[aa.out,List.length_take];omega);rw[← aa.out]at hr32;rw[← al]at hr32 hcut32;clear al hi032 hsz32 HO_5;have au:=QA hr32;clear hr32;replace ak:=eq_true ak))
      go_ret
      exact⟨_,by first|rfl |(simp[Qjm,Qjn]<;>rfl) |(simp[*,Qjm,Qjn]<;>rfl),by(with_reducible repeat(first|apply Kd.R_alloc|apply Kd.R_drewN|apply Kd.R_drew));exact au.out,qq_b⟩
     ·rw[if_neg U]at H;exact absurd H (by simp)
    ·rw[if_neg T]at H;exact absurd H (by simp)
end Go.Proofs.YteaocbonofboeaaGreat.C
end
section
namespace Go.Proofs.YteaocbonofboeaaGreat.C
open Go.RowKit Go.Proofs.YteaocbonofboeaaGreatW.PrintWords Go.Proofs.YteaocbonofboeaaGreatW.PrintLast Go.Proofs.YteaocbonofboeaaGreatW.PrintMore
attribute [local go_sem] Qiz Qja Qjb Qjc Qjd Qje Qjf Qjg
attribute [local go_sem high] eqA37
def Qcd.l0:Nat→List (S37)→List (S37)→Int→Int→Option (Bool)
 | 0,_,_,_,_=>none
 | k+1,x0,x1,x12,x13=>if x13<x12 then(if 0≤x13 then(if x13<(x0.length:Int)then(if x13<(x1.length:Int)then(if(!(((Qjw x0 x13).f0) == ((Qjw x1 x13).f0)) ||(!(((Qjw x0 x13).f1) == ((Qjw x1 x13).f1)) ||(!((((Qjw x0 x13).f2).toList) == (((Qjw x1 x13).f2).toList)) ||(!((((Qjw x0 x13).f3).toList) == (((Qjw x1 x13).f3).toList))))))=true then(some false)else(Qcd.l0 k x0 x1 x12 (wrap64 (x13+1))))else(none))else(none))else(none))else(some true)
def Qcd.f(k:Nat)(l0:List (S37))(l1:List (S37)):Option (Bool):=if(l0.length:Int)=(l1.length:Int)then(Qcd.l0 k l0 l1 (l0.length:Int) 0)else(some false)
theorem Qcd.calls (k:Nat) (A0:Option Addr) (c0:Nat) (l0:List (S37)) (A1:Option Addr) (c1:Nat) (l1:List (S37)) (r:Bool) (w:World) (hr0:Kd.C k37 w A0 l0.length l0) (hc0:l0.length≤c0) (hr1:Kd.C k37 w A1 l1.length l1) (hc1:l1.length≤c1) (h:Qcd.f k l0 l1=some r) :
  Calls Tryz.prog 35 #[.slice A0 l0.length c0,.slice A1 l1.length c1] w fun e w'=>e=.returned (.bool r)∧Drawn0 w w':=by
 have hu37:=Tryz.underlying37;have B:=QA hr0;have M:=QA hc0;clear hr0 hc0;have D:=QA hr1;have O:=QA hc1;clear hr1 hc1;have H:(if(l0.length:Int)=(l1.length:Int)then(Qcd.l0 k l0 l1 (l0.length:Int) 0)else(some false))=some r:=h;clear h
 by_cases c3:(l0.length:Int)=(l1.length:Int)
 ·rw [if_pos c3]at H;have v:((l0.length:Int) == (l1.length:Int))=true:=beq_iff_eq.mpr c3;have x:((l0.length:Int) != (l1.length:Int))=false:=bne_eq_false_iff_eq.mpr c3;have y:(l0.length == l1.length)=true:=by first|simpa using c3 |(simp at c3 ⊢;omega)
  clear c3;have H':=QA H;clear H
  go_enter Tryz.func35,Tryz.ntmps35
  go_wp2
  repeat(go_quiet (fail);try go_wp2)
  go_loopg [13] k (fun kq I w'=>∃(a:Int),I=.int .i64 a∧Aside0 (Qcd.l0 kq l0 l1 (l0.length:Int) a=some r)∧Aside0 (kq≤k)∧Drawn0 w w')
  case atStart=>exact⟨(0),qq_7,H',⟨Nat.le_refl _⟩,by repeat(first|exact Drawn0.refl _|apply Drawn0.step)⟩
  case round =>
   clear H'
   try clear c1
   try clear c3
   try clear v
   try clear x
   try clear y
   obtain⟨a,rfl,HA,HK1,⟨m1,rfl⟩⟩:=hrel
   cases gk with
   | zero=>exact absurd HA.out (by simp[Qcd.l0])
   | succ k1 =>
    have H:=HA.out;clear HA;simp only[Qcd.l0]at H
    by_cases c4:a<(l0.length:Int)
    ·rw [if_pos c4]at H;have E:=decide_eq_true c4;clear c4
     by_cases c5:0≤a
     ·rw [if_pos c5]at H;have J:=decide_eq_true c5;clear c5
      by_cases c6:a<(l0.length:Int)
      ·rw[if_pos c6]at H;have K:=decide_eq_true c6;clear c6
       by_cases c7:a<(l1.length:Int)
       ·rw[if_pos c7]at H;have L:=decide_eq_true c7;clear c7
        by_cases c8:(!(((Qjw l0 a).f0) == ((Qjw l1 a).f0)) ||(!(((Qjw l0 a).f1) == ((Qjw l1 a).f1)) ||(!((((Qjw l0 a).f2).toList) == (((Qjw l1 a).f2).toList)) ||(!((((Qjw l0 a).f3).toList) == (((Qjw l1 a).f3).toList))))))=true
        ·rw[if_pos c8]at H;have G:(!(((Qjw l0 a).f0) == ((Qjw l1 a).f0)) ||(!(((Qjw l0 a).f1) == ((Qjw l1 a).f1)) ||(!((((Qjw l0 a).f2).toList) == (((Qjw l1 a).f2).toList)) ||(!((((Qjw l0 a).f3).toList) == (((Qjw l1 a).f3).toList))))))=true:=c8;clear c8;obtain rfl:=Option.some.inj H;have b:0≤(a:Int):=of_decide_eq_true qq_3;have c:a<(l0.length:Int):=of_decide_eq_true qq_3;obtain⟨z,j,m,n,o,p⟩:=Qjx B.out a b c
         cases j
         replace b:=eq_true b;replace c:=eq_true c;have d:0≤(a:Int):=of_decide_eq_true qq_3;have g:a<(l1.length:Int):=of_decide_eq_true qq_3;obtain⟨A,l,q,s,t,u⟩:=Qjx D.out a d g
         cases l
         replace d:=eq_true d;replace g:=eq_true g;go_wp2
         repeat(go_quiet (fail);try go_wp2)
         go_ret
         exact⟨by first|rfl |(simp;done) |(simp[*];done),by repeat(first|exact Drawn0.refl _|apply Drawn0.step)⟩
        ·rw[if_neg c8]at H;have G:(!(((Qjw l0 a).f0) == ((Qjw l1 a).f0)) ||(!(((Qjw l0 a).f1) == ((Qjw l1 a).f1)) ||(!((((Qjw l0 a).f2).toList) == (((Qjw l1 a).f2).toList)) ||(!((((Qjw l0 a).f3).toList) == (((Qjw l1 a).f3).toList))))))=false:=by simpa using c8
         clear c8;have H':=QA H;clear H;have b:0≤(a:Int):=of_decide_eq_true qq_3;have c:a<(l0.length:Int):=of_decide_eq_true qq_3;obtain⟨z,j,m,n,o,p⟩:=Qjx B.out a b c
         cases j
         replace b:=eq_true b;replace c:=eq_true c;have d:0≤(a:Int):=of_decide_eq_true qq_3;have g:a<(l1.length:Int):=of_decide_eq_true qq_3;obtain⟨A,l,q,s,t,u⟩:=Qjx D.out a d g
         cases l
         replace d:=eq_true d;replace g:=eq_true g;go_wp2
         repeat(go_quiet (fail);try go_wp2)
         go_roundg k1
         case measure=>have:=HK1.out;omega
         case rel=>exact⟨(wrap64 (a+1)),qq_7,H',⟨by have:=HK1.out;omega⟩,by repeat(first|exact Drawn0.refl _|apply Drawn0.step)⟩
       ·rw[if_neg c7]at H;exact absurd H (by simp)
      ·rw[if_neg c6]at H;exact absurd H (by simp)
     ·rw[if_neg c5]at H;exact absurd H (by simp)
    ·rw[if_neg c4]at H;have E:=decide_eq_false c4;clear c4;obtain rfl:=Option.some.inj H;go_wp2
     repeat(go_quiet (fail);try go_wp2)
     go_ret
     exact⟨by first|rfl |(simp;done) |(simp[*];done),by repeat(first|exact Drawn0.refl _|apply Drawn0.step)⟩
 ·rw[if_neg c3]at H;have v:((l0.length:Int) == (l1.length:Int))=false:=beq_eq_false_iff_ne.mpr c3;have x:((l0.length:Int) != (l1.length:Int))=true:=bne_iff_ne.mpr c3;have y:(l0.length == l1.length)=false:=by first|simpa using c3 |(simp at c3 ⊢;omega)
  obtain rfl:=Option.some.inj H
  go_enter Tryz.func35,Tryz.ntmps35
  go_wp2
  repeat(go_quiet (fail);try go_wp2)
  go_ret
  exact⟨by first|rfl |(simp;done) |(simp[*];done),by repeat(first|exact Drawn0.refl _|apply Drawn0.step)⟩
def Qaa.l0:Nat→List (S37)→Int→Int→Bool→Int→ByteArray→ByteArray→Option (Int)
 | 0,_,_,_,_,_,_,_=>none
 | k+1,x0,x7,x8,x380000,x380001,x380002,x380003=>if x8<x7 then(if 0≤x8 then(if x8<(x0.length:Int)then(if(x380000 == ((Qjw x0 x8).f0) && (x380001 == ((Qjw x0 x8).f1) && (x380002.toList == (((Qjw x0 x8).f2).toList) && (x380003.toList == (((Qjw x0 x8).f3).toList)))))=true then(some x8)else(Qaa.l0 k x0 x7 (wrap64 (x8+1)) x380000 x380001 x380002 x380003))else(none))else(none))else(some (-1))
def Qaa.f(k:Nat)(l0:List (S37))(a1_0:Bool)(a1_1:Int)(a1_2:ByteArray)(a1_3:ByteArray):Option (Int):=Qaa.l0 k l0 (l0.length:Int) 0 a1_0 a1_1 a1_2 a1_3
theorem Qaa.calls(k:Nat)(A0:Option Addr)(c0:Nat)(l0:List (S37))(b:Bool)(c:Int)(d:ByteArray)(g:ByteArray)(r:Int)(w:World)(hr0:Kd.C k37 w A0 l0.length l0)(hc0:l0.length≤c0)(h:Qaa.f k l0 b c d g=some r) :
  Calls Tryz.prog 86 #[.slice A0 l0.length c0,.agg #[.bool b,.int .u64 c,.string d,.string g]] w fun e w'=>e=.returned (.int .i64 r)∧Below w.heap.size w w':=by
 have hu37:=Tryz.underlying37;have y:=QA hr0;have Y:=QA hc0;clear hr0 hc0;have HB:=QA (Below.refl w.heap.size w);have H:(Qaa.l0 k l0 (l0.length:Int) 0 b c d g)=some r:=h;clear h;have H':=QA H;clear H
 go_enter Tryz.func86,Tryz.ntmps86
 go_wp2_with (first |((with_reducible refine Qgj (N:=3) rfl ?_);refine qq_e 3 #[.bool b,.int .u64 c,.string d,.string g] 37 ?_;intro j hg w3 hbox hb;have n_:=qn4 (Qfy qq_b hb) (hbox) (qq_s hg:w.heap.size≤j) (qq_s hg:w.heap.size≤j);clear HB;obtain⟨HB,l,u,v⟩:=n_;clear hb hbox hg))
 repeat(go_quiet (first |((with_reducible refine Qgj (N:=3) rfl ?_);refine qq_e 3 #[.bool b,.int .u64 c,.string d,.string g] 37 ?_;intro j hg w3 hbox hb;have n_:=qn4 (Qfy qq_b hb) (hbox) (qq_s hg:w.heap.size≤j) (qq_s hg:w.heap.size≤j);clear HB;obtain⟨HB,l,u,v⟩:=n_;clear hb hbox hg));try go_wp2_with (first |((with_reducible refine Qgj (N:=3) rfl ?_);refine qq_e 3 #[.bool b,.int .u64 c,.string d,.string g] 37 ?_;intro j hg w3 hbox hb;have n_:=qn4 (Qfy qq_b hb) (hbox) (qq_s hg:w.heap.size≤j) (qq_s hg:w.heap.size≤j);clear HB;obtain⟨HB,l,u,v⟩:=n_;clear hb hbox hg)))
 go_loopg [8] k (fun kq v8 w'=>∃(a:Int),v8=.int .i64 a∧Aside0 (Qaa.l0 kq l0 (l0.length:Int) a b c d g=some r)∧Aside0 (kq≤k)∧Aside0 (w'.heap[j]? = some (.cells #[.bool b,.int .u64 c,.string d,.string g] 37 (0,0)))∧Aside0 (Below w.heap.size w w'))
 case atStart=>exact⟨(0),qq_7,H',⟨Nat.le_refl _⟩,⟨by(with_reducible repeat(first|apply Qew|apply Qev|apply Qeu));exact l.out⟩,⟨qq_b⟩⟩
 case round =>
  clear H';obtain⟨a,rfl,HA,HK1,l,HB⟩:=hrel
  cases gk with
  | zero=>exact absurd HA.out (by simp[Qaa.l0])
  | succ k1 =>
   have H:=HA.out;clear HA;simp only[Qaa.l0]at H
   by_cases c4:a<(l0.length:Int)
   ·rw [if_pos c4]at H;have z:=decide_eq_true c4;clear c4
    by_cases c5:0≤a
    ·rw[if_pos c5]at H;have P:=decide_eq_true c5;clear c5
     by_cases c6:a<(l0.length:Int)
     ·rw[if_pos c6]at H;have T:=decide_eq_true c6;clear c6
      by_cases c7:(b == ((Qjw l0 a).f0) && (c == ((Qjw l0 a).f1) && (d.toList == (((Qjw l0 a).f2).toList) && (g.toList == (((Qjw l0 a).f3).toList)))))=true
      ·rw[if_pos c7]at H;have A:(b == ((Qjw l0 a).f0) && (c == ((Qjw l0 a).f1) && (d.toList == (((Qjw l0 a).f2).toList) && (g.toList == (((Qjw l0 a).f3).toList)))))=true:=c7
       (try(have B:decide (b=((Qjw l0 a).f0) && (c == ((Qjw l0 a).f1) && (d.toList == (((Qjw l0 a).f2).toList) && (g.toList == (((Qjw l0 a).f3).toList)))))=true:=by simpa using c7))
       (try(have D:(b == ((Qjw l0 a).f0) && (c == ((Qjw l0 a).f1) && (d.toList == (((Qjw l0 a).f2).toList) && (g.toList == (((Qjw l0 a).f3).toList)))))=true:=by simpa using c7))
       clear c7;obtain rfl:=Option.some.inj H;obtain⟨E,G,I,J⟩:=qc4 l.out;have U:=Qej l.out;have q:0≤(a:Int):=of_decide_eq_true qq_3;have s:a<(l0.length:Int):=of_decide_eq_true qq_3;obtain⟨x,t,m,n,o,p⟩:=Qjx y.out a q s
       cases t
       replace m:=qq_h HB.out m;replace n:=qq_h HB.out n;replace o:=qq_h HB.out o;replace p:=qq_h HB.out p;replace q:=eq_true q;replace s:=eq_true s;go_wp2
       repeat(go_quiet (fail);try go_wp2)
       go_ret
       exact⟨qq_5,qq_b⟩
      ·rw[if_neg c7]at H;have A:(b == ((Qjw l0 a).f0) && (c == ((Qjw l0 a).f1) && (d.toList == (((Qjw l0 a).f2).toList) && (g.toList == (((Qjw l0 a).f3).toList)))))=false:=by simpa using c7
       (try(have B:decide (b=((Qjw l0 a).f0) && (c == ((Qjw l0 a).f1) && (d.toList == (((Qjw l0 a).f2).toList) && (g.toList == (((Qjw l0 a).f3).toList)))))=false:=by simpa using c7))
       (try(have D:(b == ((Qjw l0 a).f0) && (c == ((Qjw l0 a).f1) && (d.toList == (((Qjw l0 a).f2).toList) && (g.toList == (((Qjw l0 a).f3).toList)))))=false:=by simpa using c7))
       (try(have W:¬(b=((Qjw l0 a).f0) && (c == ((Qjw l0 a).f1) && (d.toList == (((Qjw l0 a).f2).toList) && (g.toList == (((Qjw l0 a).f3).toList))))):=by simpa using c7))
       clear c7;have H':=QA H;clear H;obtain⟨K,L,M,O⟩:=qc4 l.out;have X:=Qej l.out;have q:0≤(a:Int):=of_decide_eq_true qq_3;have s:a<(l0.length:Int):=of_decide_eq_true qq_3;obtain⟨x,t,m,n,o,p⟩:=Qjx y.out a q s
       cases t
       replace m:=qq_h HB.out m;replace n:=qq_h HB.out n;replace o:=qq_h HB.out o;replace p:=qq_h HB.out p;replace q:=eq_true q;replace s:=eq_true s;go_wp2
       repeat(go_quiet (fail);try go_wp2)
       go_roundg k1
       case measure=>have:=HK1.out;omega
       case rel=>exact⟨(wrap64 (a+1)),qq_7,H',⟨by have:=HK1.out;omega⟩,⟨by(with_reducible repeat(first|apply Qew|apply Qev|apply Qeu));exact l.out⟩,⟨qq_b⟩⟩
     ·rw[if_neg c6]at H;exact absurd H (by simp)
    ·rw[if_neg c5]at H;exact absurd H (by simp)
   ·rw[if_neg c4]at H;have z:=decide_eq_false c4;clear c4;obtain rfl:=Option.some.inj H;go_wp2
    repeat(go_quiet (fail);try go_wp2)
    go_ret
    exact⟨qq_5,qq_b⟩
end Go.Proofs.YteaocbonofboeaaGreat.C
end
