/- Merged texts. -/
import Derived.Test.YteaocbonofboeaaGreatMD02
import Derived.Test.YteaocbonofboeaaGreatMD03
import Derived.Test.YteaocbonofboeaaGreatMD10
import Derived.Test.YteaocbonofboeaaGreatMD13
import Derived.Test.YteaocbonofboeaaGreatMD06
import Derived.Test.YteaocbonofboeaaGreatMD09
import Derived.Test.YteaocbonofboeaaGreatMD11
import Derived.Test.YteaocbonofboeaaGreatMD05
import Derived.Test.YteaocbonofboeaaGreatMD08
import Derived.Test.YteaocbonofboeaaGreatMD04
import Derived.Test.YteaocbonofboeaaGreatMD07
set_option linter.unusedVariables false
set_option linter.unusedSimpArgs false
set_option maxHeartbeats 8000000
set_option maxRecDepth 100000
section
namespace Go.Proofs.YteaocbonofboeaaGreat.C
open Go.RowKit Go.Proofs.YteaocbonofboeaaGreatW.PrintWords Go.Proofs.YteaocbonofboeaaGreatW.PrintLast Go.Proofs.YteaocbonofboeaaGreatW.PrintMore
attribute [local go_sem] Qhl Qhm Qhn Qho Qhp Qhq Qhr Qhs
def Qbl.l0:Nat→List Int→List (S37)→Int→Int→Int→Int→Option (List Int × List Int × Int)
 | 0,_,_,_,_,_,_=>none
 | k+1,x5,x23,x24,x25,x254000,x254001=>if x25<x24 then(if 0≤x25 then(if x25<(x23.length:Int)then((Qbg.f ((Qig x23 x25).f0) ((Qig x23 x25).f1) ((Qig x23 x25).f2) ((Qig x23 x25).f3)).bind fun bt258=>(if x5.length<17592186044416 then(Qbl.l0 k (x5++[(bt258.1.length:Int)]) x23 x24 (wrap64 (x25+1)) x254000 x254001)else(none)))else(none))else(none))else((Qbn.f k x254000 x254001 x5).bind fun bt265=>(some (bt265.1,x5,bt265.2)))
def Qbl.f(k:Nat)(a0_0:Int)(a0_1:Int)(l1:List (S37)):Option (List Int × List Int × Int):=(Qao.f a0_0 a0_1).bind fun t254=>(if t254=0 then((Qbv.f k l1).bind fun t255=>(if t255=0 then(Qbl.l0 k ([]:List Int) l1 (l1.length:Int) 0 a0_0 a0_1)else(some (([]:List Int),([]:List Int),t255))))else(some (([]:List Int),([]:List Int),t254)))
theorem Qbl.calls (k:Nat) (d:Int) (j:Int) (A1:Option Addr) (c1:Nat) (l1:List (S37)) (r1:List Int) (r2:List Int) (r3:Int) (w:World) (hr1:Kd.C k37 w A1 l1.length l1) (hc1:l1.length≤c1) (h:Qbl.f k d j l1=some (r1,r2,r3)) :
  Calls Tryz.prog 80 #[.agg #[.int .u8 d,.int .u32 j],.slice A1 l1.length c1] w fun e w'=>∃am an:Value,e=.returned (.tuple #[am,an,.int .i64 r3])∧Kd.R (Kd.int .u32) 26 w' w.heap.size (fun _=>True) am r1∧Kd.R (Kd.int .i64) 3 w' w.heap.size (fun _=>True) an r2∧Below w.heap.size w w':=by
 have hu28:=Tryz.underlying28;have hu37:=Tryz.underlying37;have T:=QA hr1;have ao:=QA hc1;clear hr1 hc1;have HB:=QA (Below.refl w.heap.size w);have H:((Qao.f d j).bind fun n=>(if n=0 then((Qbv.f k l1).bind fun s=>(if s=0 then(Qbl.l0 k ([]:List Int) l1 (l1.length:Int) 0 d j)else(some (([]:List Int),([]:List Int),s))))else(some (([]:List Int),([]:List Int),n))))=some (r1,r2,r3):=h;clear h;replace H:=Option.bind_eq_some_iff.mp H;obtain⟨n,ap,H⟩:=H;have A3:=QA ap;clear ap
 by_cases c4:n=0
 ·rw [if_pos c4]at H;have U:(n == 0)=true:=beq_iff_eq.mpr c4;have W:(n != 0)=false:=bne_eq_false_iff_eq.mpr c4;clear c4;replace H:=Option.bind_eq_some_iff.mp H;obtain⟨s,aq,H⟩:=H;have A5:=QA aq;clear aq
  by_cases c6:s=0
  ·rw [if_pos c6]at H;have X:(s == 0)=true:=beq_iff_eq.mpr c6;have Y:(s != 0)=false:=bne_eq_false_iff_eq.mpr c6;clear c6;have H':=QA H;clear H
   go_enter Tryz.func80,Tryz.ntmps80
   go_wp2_with (first |((with_reducible refine Qey (N:=2) rfl ?_);refine qq_e 2 #[.int .u8 d,.int .u32 j] 28 ?_;intro l hg w7 hbox hb;have n_:=qn4 (Qeo qq_b hb) (hbox) (qq_s hg:w.heap.size≤l) (qq_s hg:w.heap.size≤l);clear HB;obtain⟨HB,a,K,L⟩:=n_;clear hb hbox hg;obtain⟨Z,aa⟩:=qc2 a.out;have ar:=Qdc a.out) |((with_reducible refine Qht (f:=118) rfl ?_);refine Qft (some 14) rfl rfl Tryz.func118 qq_4 rfl #[.agg #[.int .u8 d,.int .u32 j]] rfl qq_1 ?_;(with_reducible refine(Qao.calls d j n _ A3.out).mono ?_);rintro e w9 ⟨rfl,hb⟩;refine⟨_,rfl,?_⟩;have n_:=qn2 (Qdo (g:=l) (o:=.cells #[.int .u8 d,.int .u32 j] 28 (0,0)) qq_0 hb) (Qeo qq_b hb);clear a HB;obtain⟨a,HB⟩:=n_;(try clear hb);(try clear hb2);(try clear hk);(try clear hi)) |((with_reducible refine Qht (f:=130) rfl ?_);refine Qft (some 19) rfl rfl Tryz.func130 qq_4 rfl #[.slice A1 l1.length c1] rfl qq_1 ?_;(with_reducible refine(Qbv.calls k _ _ l1 s _ ?side1 ?side2 A5.out).mono ?_);(case side1=>repeat(first|exact(Kd.C_below T.out HB.out) |(with_reducible refine Kd.C_alloc ?_ _) |(with_reducible refine Kd.C_drewN ?_ _) |(with_reducible refine Kd.C_drew ?_)));(case side2=>exact ao.out);rintro e bd ⟨rfl,hb⟩;refine⟨_,rfl,?_⟩;have n_:=qn2 (Qdo (g:=l) (o:=.cells #[.int .u8 d,.int .u32 j] 28 (0,0)) qq_0 hb) (Qeo qq_b hb);clear a HB;obtain⟨a,HB⟩:=n_;(try clear hb);(try clear hb2);(try clear hk);(try clear hi)))
   go_loopg [5,25] k (fun kq v5 aI w'=>∃(q:List Int) (c:Int),aI=.int .i64 c∧Aside0 (Qbl.l0 kq q l1 (l1.length:Int) c d j=some (r1,r2,r3))∧Aside0 (kq≤k)∧Aside0 (Kd.R (Kd.int .i64) 3 w' w.heap.size (fun _=>True) v5 q)∧Aside0 (w'.heap[l]? = some (.cells #[.int .u8 d,.int .u32 j] 28 (0,0)))∧Aside0 (Below w.heap.size w w'))
   case atStart=>exact⟨(([]:List Int)),(0),qq_8,H',⟨Nat.le_refl _⟩,⟨by first|exact Kd.R_nil _ _ _ _ _|exact Kd.N_nil _ _ _ _ _|exact Kd.V_nil _ _ _ _ _|exact Kd.Q_nil _ _ _ _ _|exact Kd.S_nil _ _ _ _ _⟩,⟨by(with_reducible repeat(first|apply Qdn|apply Qdm|apply Qdl));exact a.out⟩,⟨qq_b⟩⟩
   case round =>
    clear H'
    try clear c1
    try clear c4
    try clear U
    try clear W
    try clear c6
    try clear X
    try clear Y
    try clear Z
    try clear aa
    try clear ar
    obtain⟨q,c,rfl,HA,HK1,HO_5,a,HB⟩:=hrel
    cases gk with
    | zero=>exact absurd HA.out (by simp[Qbl.l0])
    | succ k1 =>
     have H:=HA.out;clear HA;simp only[Qbl.l0]at H
     by_cases x:c<(l1.length:Int)
     ·rw [if_pos x]at H;have ah:=decide_eq_true x;clear x
      by_cases M:0≤c
      ·rw[if_pos M]at H;have aM:=decide_eq_true M;clear M
       by_cases O:c<(l1.length:Int)
       ·rw[if_pos O]at H;have aN:=decide_eq_true O;clear O;replace H:=Option.bind_eq_some_iff.mp H;obtain⟨⟨v,au⟩,ab,H⟩:=H;replace H:(if q.length<17592186044416 then(Qbl.l0 k1 (q++[(v.length:Int)]) l1 (l1.length:Int) (wrap64 (c+1)) d j)else(none))=some (r1,r2,r3):=H;have aJ:=QA ab;clear ab
        by_cases P:q.length<17592186044416
        ·rw[if_pos P]at H;have ai:=QA P;clear P;obtain⟨ac,t⟩:∃y_:List Int,y_=(q++[(v.length:Int)]):=⟨_,rfl⟩;replace H:(Qbl.l0 k1 ac l1 (l1.length:Int) (wrap64 (c+1)) d j)=some (r1,r2,r3):=by first |(rw[t];with_reducible exact H) |(have ad:=(Option.bind_some _ _).symm.trans H;rw[t];with_reducible exact ad) |(have ad:=(Option.bind_some _ _).symm.trans H;with_reducible exact ad)|with_reducible exact H |(rw[t];exact H)|exact H
         have aj:=QA t;clear t;have H':=QA H;clear H;have I:0≤(c:Int):=of_decide_eq_true qq_2;have J:c<(l1.length:Int):=of_decide_eq_true qq_2;obtain⟨aQ,av,y,z,A,B⟩:=Qih T.out c I J
         cases av
         replace y:=qq_h HB.out y;replace z:=qq_h HB.out z;replace A:=qq_h HB.out A;replace B:=qq_h HB.out B;replace I:=eq_true I;replace J:=eq_true J
         go_wp2_with (first |((with_reducible refine Qey (N:=10) rfl ?_);refine qq_e 10 #[.bool false,.int .u64 0,.string (⟨#[]⟩:ByteArray),.string (⟨#[]⟩:ByteArray)] 37 ?_;intro m hg be hbox hb;have n_:=qn8 (Kd.R_below qq_23 hb) (Qdo (g:=l) (o:=.cells #[.int .u8 d,.int .u32 j] 28 (0,0)) qq_0 hb) (Qeo qq_b hb) (hbox) (qq_s hg:w.heap.size≤m) (qq_s hg:w.heap.size≤m) ((by rw[hg];exact Nat.ne_of_lt (Qda (g:=l) (o:=.cells #[.int .u8 d,.int .u32 j] 28 (0,0)) qq_0):l≠m)) ((by rw[hg];exact Nat.ne_of_gt (Qda (g:=l) (o:=.cells #[.int .u8 d,.int .u32 j] 28 (0,0)) qq_0):m≠l));clear HO_5 a HB;obtain⟨HO_5,a,HB,r,aR,aT,D,E⟩:=n_;clear hb hbox hg;have aU:=E.out;have aV:=D.out;obtain⟨aw,ax,ay,az⟩:=qc4 r.out;have aW:=Qdc r.out) |((with_reducible refine Qht (f:=59) rfl ?_);refine Qft (some 31) rfl rfl Tryz.func59 qq_4 rfl #[.agg #[.bool ((Qig l1 c).f0),.int .u64 ((Qig l1 c).f1),.string ((Qig l1 c).f2),.string ((Qig l1 c).f3)]] rfl qq_1 ?_;(with_reducible refine(Qbg.calls ((Qig l1 c).f0) ((Qig l1 c).f1) ((Qig l1 c).f2) ((Qig l1 c).f3) v au _ aJ.out).mono ?_);rintro e bf ⟨ba,rfl,G,hb⟩;refine⟨_,rfl,?_⟩;have n_:=qn5 (Kd.R_below (by(with_reducible repeat(first|apply Kd.R_alloc|apply Kd.R_drewN|apply Kd.R_drew));exact(Kd.R_mono (Kd.R_far (p:=⟨m,3,none⟩) (Kd.R_far (p:=⟨m,2,none⟩) (Kd.R_far (p:=⟨m,1,none⟩) (Kd.R_far (p:=⟨m,0,none⟩) (Kd.R_types HO_5.out r.out (by decide)) (fun _ hk=>hk.2) (.bool ((Qig l1 c).f0))) (fun _ hk=>hk.2) (.int .u64 ((Qig l1 c).f1))) (fun _ hk=>hk.2) (.string ((Qig l1 c).f2))) (fun _ hk=>hk.2) (.string ((Qig l1 c).f3))) (fun _ h_=>h_.1))) hb) (Kd.R_lower G (Qen qq_b)) (Qdo (g:=l) (o:=.cells #[.int .u8 d,.int .u32 j] 28 (0,0)) qq_7 hb) (Qdo (g:=m) (o:=.cells #[.bool ((Qig l1 c).f0),.int .u64 ((Qig l1 c).f1),.string ((Qig l1 c).f2),.string ((Qig l1 c).f3)] 37 (0,0)) qq_x hb) (Qeo qq_b hb);clear HO_5 a r HB;obtain⟨HO_5,u,a,r,HB⟩:=n_;(try clear hb);(try clear hb2);(try clear hk);(try clear hi);(try clear G);obtain⟨Ao20,co20,eo20⟩:=Kd.R_slice u.out;subst eo20) |((with_reducible refine Qhu (b:=.append) (xs:=#[.tmp 34,.tmp 37]) rfl ?_);at_builtin;refine Kd.R_append (Kd.int .i64) (w0:=w) w.heap.size rfl (.tmp 34) (.tmp 37) 153 3 (.int .i64 0) 8 rfl Tryz.underlying153 info3 rfl (by decide) (by omega) u5 q (v.length:Int) [.int .i64 (v.length:Int)] (fun _=>True) (fun _=>False) rfl rfl ?aP (fun _ hk=>hk.elim) ?aF ?aO ?aB ?aS ?aL ?_;(case aP=>exact rfl);(case aB=>exact qq_b);(case aF=>exact(fun _ _=>trivial));(case aO=>exact qq_23);(case aS=>exact(Qen qq_b));(case aL=>have:=ai.out;omega);intro bb bg ho hb hg hat;rw[← aj.out]at ho;have n_:=qn5 (Qdd (g:=l) (o:=.cells #[.int .u8 d,.int .u32 j] 28 (0,0)) qq_0 hg (Kd.R_ne HO_5.out a.out (by decide))) (Qdd (g:=m) (o:=.cells #[.bool ((Qig l1 c).f0),.int .u64 ((Qig l1 c).f1),.string ((Qig l1 c).f2),.string ((Qig l1 c).f3)] 37 (0,0)) qq_0 hg (Kd.R_ne HO_5.out r.out (by decide))) (Kd.R_over' (by(with_reducible repeat(first|apply Kd.R_alloc|apply Kd.R_drewN|apply Kd.R_drew));exact u.out) (Kd.R_typed qq_23) (by decide) hg) (hb) (ho);clear a r u HB HO_5;obtain⟨a,r,u,HB,ak⟩:=n_;clear ho hb hg hat))
         go_roundg k1
         case measure=>have:=HK1.out;omega
         case rel=>exact⟨(ac),(wrap64 (c+1)),qq_8,H',⟨by have:=HK1.out;omega⟩,⟨by(with_reducible repeat(first|apply Kd.R_alloc|apply Kd.R_drewN|apply Kd.R_drew));exact ak.out⟩,⟨by(with_reducible repeat(first|apply Qdn|apply Qdm|apply Qdl));exact a.out⟩,⟨qq_b⟩⟩
        ·rw[if_neg P]at H;exact absurd H (by simp)
       ·rw[if_neg O]at H;exact absurd H (by simp)
      ·rw[if_neg M]at H;exact absurd H (by simp)
     ·rw[if_neg x]at H;have ah:=decide_eq_false x;clear x;replace H:=Option.bind_eq_some_iff.mp H;obtain⟨⟨ae,af⟩,ag,H⟩:=H;replace H:(some (ae,q,af))=some (r1,r2,r3):=H;have aK:=QA ag;clear ag;simp only[Option.some.injEq,Prod.mk.injEq]at H;obtain⟨rfl,rfl,rfl⟩:=H;obtain⟨aA,aC⟩:=qc2 a.out;have aX:=Qdc a.out;obtain⟨Ao24,co24,eo24⟩:=Kd.R_slice HO_5.out;subst eo24
      go_wp2_with (first |((with_reducible refine Qht (f:=131) rfl ?_);refine Qft (some 43) rfl rfl Tryz.func131 qq_4 rfl #[.agg #[.int .u8 d,.int .u32 j],.slice Ao24 q.length co24] rfl qq_1 ?_;(with_reducible refine(Qbn.calls k1 d j _ _ q ae af _ ?side1 ?side2 aK.out).mono ?_);(case side1=>repeat(first|exact(Kd.R_reads' HO_5.out).2.2 |(with_reducible refine Kd.C_alloc ?_ _) |(with_reducible refine Kd.C_drewN ?_ _) |(with_reducible refine Kd.C_drew ?_)));(case side2=>exact(Kd.R_reads' HO_5.out).2.1);rintro e bh ⟨bc,rfl,G,hb⟩;refine⟨_,rfl,?_⟩;have n_:=qn4 (Kd.R_below qq_23 hb) (Kd.R_lower G (Qen qq_b)) (Qdo (g:=l) (o:=.cells #[.int .u8 d,.int .u32 j] 28 (0,0)) qq_0 hb) (Qeo qq_b hb);clear HO_5 a HB;obtain⟨HO_5,al,a,HB⟩:=n_;(try clear hb);(try clear hb2);(try clear hk);(try clear hi);(try clear G)))
      go_ret3
      exact⟨_,_,by first|rfl |(simp[Qhy,Qhz]<;>rfl) |(simp[*,Qhy,Qhz]<;>rfl),by(with_reducible repeat(first|apply Kd.R_alloc|apply Kd.R_drewN|apply Kd.R_drew));exact al.out,by(with_reducible repeat(first|apply Kd.R_alloc|apply Kd.R_drewN|apply Kd.R_drew));exact HO_5.out,qq_b⟩
  ·rw[if_neg c6]at H;have X:(s == 0)=false:=beq_eq_false_iff_ne.mpr c6;have Y:(s != 0)=true:=bne_iff_ne.mpr c6;simp only[Option.some.injEq,Prod.mk.injEq]at H;obtain⟨rfl,rfl,rfl⟩:=H
   go_enter Tryz.func80,Tryz.ntmps80
   go_wp2_with (first |((with_reducible refine Qey (N:=2) rfl ?_);refine qq_e 2 #[.int .u8 d,.int .u32 j] 28 ?_;intro l hg bi hbox hb;have n_:=qn4 (Qeo qq_b hb) (hbox) (qq_s hg:w.heap.size≤l) (qq_s hg:w.heap.size≤l);clear HB;obtain⟨HB,a,K,L⟩:=n_;clear hb hbox hg;obtain⟨aD,aE⟩:=qc2 a.out;have aY:=Qdc a.out) |((with_reducible refine Qht (f:=118) rfl ?_);refine Qft (some 14) rfl rfl Tryz.func118 qq_4 rfl #[.agg #[.int .u8 d,.int .u32 j]] rfl qq_1 ?_;(with_reducible refine(Qao.calls d j n _ A3.out).mono ?_);rintro e bj ⟨rfl,hb⟩;refine⟨_,rfl,?_⟩;have n_:=qn2 (Qdo (g:=l) (o:=.cells #[.int .u8 d,.int .u32 j] 28 (0,0)) qq_0 hb) (Qeo qq_b hb);clear a HB;obtain⟨a,HB⟩:=n_;(try clear hb);(try clear hb2);(try clear hk);(try clear hi)) |((with_reducible refine Qht (f:=130) rfl ?_);refine Qft (some 19) rfl rfl Tryz.func130 qq_4 rfl #[.slice A1 l1.length c1] rfl qq_1 ?_;(with_reducible refine(Qbv.calls k _ _ l1 s _ ?side1 ?side2 A5.out).mono ?_);(case side1=>repeat(first|exact(Kd.C_below T.out HB.out) |(with_reducible refine Kd.C_alloc ?_ _) |(with_reducible refine Kd.C_drewN ?_ _) |(with_reducible refine Kd.C_drew ?_)));(case side2=>exact ao.out);rintro e bk ⟨rfl,hb⟩;refine⟨_,rfl,?_⟩;have n_:=qn2 (Qdo (g:=l) (o:=.cells #[.int .u8 d,.int .u32 j] 28 (0,0)) qq_0 hb) (Qeo qq_b hb);clear a HB;obtain⟨a,HB⟩:=n_;(try clear hb);(try clear hb2);(try clear hk);(try clear hi)))
   go_ret3
   exact⟨_,_,by first|rfl |(simp[Qhy,Qhz]<;>rfl) |(simp[*,Qhy,Qhz]<;>rfl),by first|exact Kd.R_nil _ _ _ _ _|exact Kd.N_nil _ _ _ _ _|exact Kd.V_nil _ _ _ _ _|exact Kd.Q_nil _ _ _ _ _|exact Kd.S_nil _ _ _ _ _,by first|exact Kd.R_nil _ _ _ _ _|exact Kd.N_nil _ _ _ _ _|exact Kd.V_nil _ _ _ _ _|exact Kd.Q_nil _ _ _ _ _|exact Kd.S_nil _ _ _ _ _,qq_b⟩
 ·rw[if_neg c4]at H;have U:(n == 0)=false:=beq_eq_false_iff_ne.mpr c4;have W:(n != 0)=true:=bne_iff_ne.mpr c4;simp only[Option.some.injEq,Prod.mk.injEq]at H;obtain⟨rfl,rfl,rfl⟩:=H
  go_enter Tryz.func80,Tryz.ntmps80
  go_wp2_with (first |((with_reducible refine Qey (N:=2) rfl ?_);refine qq_e 2 #[.int .u8 d,.int .u32 j] 28 ?_;intro l hg bl hbox hb;have n_:=qn4 (Qeo qq_b hb) (hbox) (qq_s hg:w.heap.size≤l) (qq_s hg:w.heap.size≤l);clear HB;obtain⟨HB,a,K,L⟩:=n_;clear hb hbox hg;obtain⟨aG,aH⟩:=qc2 a.out;have aZ:=Qdc a.out) |((with_reducible refine Qht (f:=118) rfl ?_);refine Qft (some 14) rfl rfl Tryz.func118 qq_4 rfl #[.agg #[.int .u8 d,.int .u32 j]] rfl qq_1 ?_;(with_reducible refine(Qao.calls d j n _ A3.out).mono ?_);rintro e bn ⟨rfl,hb⟩;refine⟨_,rfl,?_⟩;have n_:=qn2 (Qdo (g:=l) (o:=.cells #[.int .u8 d,.int .u32 j] 28 (0,0)) qq_0 hb) (Qeo qq_b hb);clear a HB;obtain⟨a,HB⟩:=n_;(try clear hb);(try clear hb2);(try clear hk);(try clear hi)))
  go_ret3
  exact⟨_,_,by first|rfl |(simp[Qhy,Qhz]<;>rfl) |(simp[*,Qhy,Qhz]<;>rfl),by first|exact Kd.R_nil _ _ _ _ _|exact Kd.N_nil _ _ _ _ _|exact Kd.V_nil _ _ _ _ _|exact Kd.Q_nil _ _ _ _ _|exact Kd.S_nil _ _ _ _ _,by first|exact Kd.R_nil _ _ _ _ _|exact Kd.N_nil _ _ _ _ _|exact Kd.V_nil _ _ _ _ _|exact Kd.Q_nil _ _ _ _ _|exact Kd.S_nil _ _ _ _ _,qq_b⟩
def fascicleref07_Body.T2:Bool × List (List Nat × List Nat):=(true,[([],[]),([0],[0]),([1],[1]),([2],[2]),([],[]),([4],[4]),([5,2],[5]),([3,6],[3,6]),([7,6,0,1,2,3,4,5,6,7],[7])])
def fascicleref07_Body.T3:Bool × List (List Nat × List Nat):=(true,[([],[]),([0],[0]),([1],[1]),([2],[2]),([],[]),([4],[4]),([5,2],[5]),([3,6],[3,6]),([],[]),([8],[8]),([9,6],[9]),([7,10],[7,10]),([11,10,0,1,2,3,4,5,6,7,8,9,10,11],[11])])
def fascicleref09_Head.T1:Bool × List (List Nat × List Nat):=(true,[([],[]),([0],[0]),([1],[1]),([2],[2]),([3],[3]),([],[]),([5],[5]),([6],[6]),([7],[7]),([4,8],[4,8]),([],[]),([10,8],[10]),([9,11],[9,11]),([12,11],[12]),([13,13,0,1,2,3,4,5,6,7,8,9,10,11,12,13],[13])])
def fascicleref09_Head.B1:List Nat:=[0,1,3,7,15,0,32,96,224,511,0,1504,4095,8191,16383]
def fascicleref14_Empty.T1:Bool × List (List Nat × List Nat):=(true,[([],[]),([],[]),([],[]),([],[]),([2,3],[2,3]),([4],[4]),([0,1,5],[0,1,5]),([6,4,0,1,2,3,4,5,6],[6])])
def fascicleref14_Empty.B1:List Nat:=[0,0,0,0,12,28,63,127]
def fascicleref13_Text.T1:Bool × List (List Nat × List Nat):=(true,[([],[]),([0],[0]),([1],[1]),([2],[2]),([3],[3]),([4],[4]),([],[]),([6],[6]),([7],[7]),([8,4],[8]),([5,9],[5,9]),([10,9,0,1,2,3,4,5,6,7,8,9,10],[10])])
def fascicleref13_Text.B1:List Nat:=[0,1,3,7,15,31,0,64,192,479,1023,2047]
def fascicleref13_Text.T2:Bool × List (List Nat × List Nat):=(true,[([],[]),([],[]),([1],[1]),([2],[2]),([0,3],[0,3]),([],[]),([5],[5]),([6,3],[6]),([7,7],[7]),([4,8],[4,8]),([9,8],[9]),([10,10,0,1,2,3,4,5,6,7,8,9,10],[10])])
end Go.Proofs.YteaocbonofboeaaGreat.C
end
section
namespace Go.Proofs.YteaocbonofboeaaGreat.C
open Go.RowKit Go.Proofs.YteaocbonofboeaaGreatW.PrintWords Go.Proofs.YteaocbonofboeaaGreatW.PrintLast Go.Proofs.YteaocbonofboeaaGreatW.PrintMore
abbrev Room5:=Int × Int × Int × Int × Int
def IsBd(W:World)(b g:Nat)(R:Room5)(fr:List Int)(tb:List S129):Prop :=
 ∃fv tv,W.heap[g]? = some (.cells #[.int .u8 R.1,.int .u32 R.2.1,.int .u32 R.2.2.1,.int .i64 R.2.2.2.1,.int .i64 R.2.2.2.2,fv,tv] 122 (0,0))∧R8 W b fv fr∧Kd.R k129 129 W b (fun _=>True) tv tb
theorem IsBd.kept{W W':World}{b g:Nat}{R:Room5}{fr:List Int}{tb:List S129}(h:IsBd W b g R fr tb)(hb:Below W.heap.size W W'):IsBd W' b g R fr tb:=by
 obtain⟨fv,tv,h1,h2,h3⟩:=h;exact⟨fv,tv,Qdo h1 hb,h2.kept hb,Kd.R_below h3 hb⟩
theorem room5{W:World}{B:Nat}{e s n u c:Int}(h:W.heap[B]? = some (.cells #[.int .u8 e,.int .u32 s,.int .u32 n,.int .i64 u,.int .i64 c] 116 (0,0))) :
  W.cell? ⟨B,0,none⟩=some (.int .u8 e)∧W.cell? ⟨B,1,none⟩=some (.int .u32 s)∧W.cell? ⟨B,2,none⟩=some (.int .u32 n)∧W.cell? ⟨B,3,none⟩=some (.int .i64 u)∧W.cell? ⟨B,4,none⟩=some (.int .i64 c) :=
 ⟨(Qdb h 0).trans rfl,(Qdb h 1).trans rfl,(Qdb h 2).trans rfl,(Qdb h 3).trans rfl,(Qdb h 4).trans rfl⟩
theorem Qlm(e s n u c:Int)(hd:List Int)(w:World)(hp:Qbm.f e s n=some (e,s,n,u,c,0))(hh:Qbf.f e s n=some (hd,0)) :
  Calls Tryz.prog 17 #[.agg #[.int .u8 e,.int .u32 s],.int .u32 n] w fun ee w'=>∃g,ee=.returned (.tuple #[.pointer (some ⟨g,0,none⟩),.int .i64 0])∧IsBd w' w.heap.size g (e,s,n,u,c) hd []∧Below w.heap.size w w'∧w.heap.size≤g:=by
 have hu:=Tryz.underlying28;have hu2:=Tryz.underlying116;have hu3:=Tryz.underlying122;have HP:=QA hp;have HH:=QA hh;clear hp hh;have hba:Below w.heap.size w (w.alloc (.cells #[.int .u8 e,.int .u32 s] 28)):=Qce (Below.refl _ _) _;have hbn:=Qdp w (.cells #[.int .u8 e,.int .u32 s] 28)
 go_enter Tryz.func17,Tryz.ntmps17
 go_wp2_with (first
  |(go_at_call 56;refine(Qbm.calls e s n _ _ _ _ _ _ _ HP.out).mono ?_;rintro ee w1 ⟨rfl,hb1⟩;have hk1:=Qdo hbn hb1;have hw1:=QA (Qch hba hba.size hb1);have hs1:=QA (show w.heap.size<w1.heap.size from Qda hk1);have hk1':=Qdl hk1 (.cells #[.int .u8 e,.int .u32 s,.int .u32 n,.int .i64 u,.int .i64 c] 116);obtain⟨c0,c1⟩:=box2 hk1';clear hk1 hb1 hbn hba)
  |(go_at_call 57;refine(Qbf.calls e s n hd 0 _ HH.out).mono ?_;rintro ee w3 ⟨v3,rfl,hR3,hb3⟩;have hk3:=Qdo (Qdp w1 (.cells #[.int .u8 e,.int .u32 s,.int .u32 n,.int .i64 u,.int .i64 c] 116)) hb3;obtain⟨d0,d1,d2,d3,d4⟩:=room5 hk3;obtain⟨A3,n3,c3,rfl⟩:=R8.shape hR3))
 refine bodyPost_ret (results_tmp2 rfl _ _ _) rfl ?_;have hz1:=Nat.le_of_lt hs1.out;have hbr:Below w1.heap.size w1 (w1.alloc (.cells #[.int .u8 e,.int .u32 s,.int .u32 n,.int .i64 u,.int .i64 c] 116)):=Qce (Below.refl _ _) _;have hz3:w.heap.size≤w3.heap.size:=Nat.le_trans (Nat.le_trans hz1 hbr.size) hb3.size;refine⟨w3.heap.size,rfl,⟨_,_,Qdp w3 _,?_,Kd.R_nil _ _ _ _ _⟩,?_,hz3⟩
 ·exact R8.low (R8.kept hR3 (Qce (Below.refl _ _) _)) (Nat.le_trans hz1 hbr.size)
 ·exact((hw1.out.trans (Qis hbr hz1)).trans (Qis hb3 (Nat.le_trans hz1 hbr.size))).trans (Qis (Qce (Below.refl w3.heap.size w3) _) hz3)
theorem Qln(b g:Nat)(R:Room5)(fr:List Int)(tb:List S129)(w:World)(hI:IsBd w b g R fr tb)(hl:fr.length≤140737488355328) :
  Calls Tryz.prog 22 #[.pointer (some ⟨g,0,none⟩)] w fun e w'=>∃v:Value,e=.returned v∧R8 w' w.heap.size v fr∧Below w.heap.size w w':=by
 obtain⟨fv,tv,hv,hR,hT⟩:=hI;obtain⟨A,n,c,rfl,hn,hlc,hC⟩:=R8.reads hR;have hc:w.cell? ⟨g,5,none⟩=some (.slice A n c):=(Qdb hv 5).trans rfl;have hcl:=hC.1;have hu3:=Tryz.underlying122;have hcall:Calls Tryz.prog 72 #[.slice A n c] w fun e w'=>∃v0_:Value,e=.returned (v0_)∧R8 w' w.heap.size v0_ fr∧Below w.heap.size w w':=by
  subst hcl;exact Qit A c fr w hC hl
 clear hcl
 go_enter Tryz.func22,Tryz.ntmps22
 go_wp2_with (go_at_call 72;refine hcall.mono ?_;rintro e w' ⟨v1,rfl,hd,hb⟩)
 go_ret
 exact⟨_,rfl,hd,hb⟩
theorem Qlo(b0 b g:Nat)(R:Room5)(fr:List Int)(tb:List S129)(fs:List Int)(fsv:Value)(sz:Nat)(w:World)(hI:IsBd w b0 g R fr tb)(hF:R8 w b fsv fs)(hbw:b≤w.heap.size)(hsz:Qaq.f R.1 R.2.1=some (sz:Int))(hle:fs.length≤sz)(hs2:sz≤70368744177664) :
  Calls Tryz.prog 63 #[.pointer (some ⟨g,0,none⟩),fsv] w fun e w'=>∃v:Value,e=.returned v∧R8 w' b v (fs++List.replicate (sz-fs.length) 255)∧Below b w w':=by
 obtain⟨fv,tv,hv,hR,hT⟩:=hI;obtain⟨A,n,c,rfl,hn,hlc,hC⟩:=R8.reads hF;have hnf:n=fs.length:=hn.out;have hc0:w.cell? ⟨g,0,none⟩=some (.int .u8 R.1):=(Qdb hv 0).trans rfl;have hc1:w.cell? ⟨g,1,none⟩=some (.int .u32 R.2.1):=(Qdb hv 1).trans rfl;have hu:=Tryz.underlying28;have hu2:=Tryz.underlying116;have hu3:=Tryz.underlying122;have hnsz:n≤sz:=by omega
 have hsub:IntKind.i64.wrap ((sz:Int)-(n:Int))=((sz-n:Nat):Int):=by rw[IntWalk.i64_in _ (by omega)];omega
 have hsub2:(sz:Int)-(n:Int)=((sz-n:Nat):Int):=by omega
 obtain⟨k,hk⟩:∃k,k=sz-n:=⟨_,rfl⟩;rw[← hk]at hsub hsub2;have HK:=QA hk;have HSZ:=QA hsz;have HF:=QA hF;have HNF:=QA hnf;clear hk hsz hF hnf
 go_enter Tryz.func63,Tryz.ntmps63
 go_wp2_with (first
  |(go_at_call 66;refine(Qaq.calls _ _ _ _ HSZ.out).mono ?_;rintro e w1 ⟨rfl,hb1⟩)
  |(go_at_call 108;go_loud (refine(Qll _ _ 255 k _ (by have:=HK.out;omega) ?hrep).mono ?_;(case hrep=>exact Kd.C_of_reads (d:=(0:Int)) ⟨rfl,by omega,fun _=>⟨_,rfl,fun j hj=>by(obtain rfl:j=0:=(by omega));exact(Qdb (Qdp w1 _) 0).trans rfl⟩⟩);rintro e w2 ⟨A2,c2,rfl,hkc2,hC2,hb2⟩))
  |(at_builtin;refine Kd.R_append_rows (Kd.int .u8) (Rr:=fun x cs=>cs=[.int .u8 x]) (w0:=w) b rfl (.tmp 15) (.tmp 18) 40 5 (.int .u8 0) 1 rfl Tryz.underlying40 Qia rfl (by decide) (by omega) (.slice A n c) fs (List.replicate k 255) A2 k c2 (fun _=>True) (fun _=>False) rfl rfl ?bO hC2 (fun _ _ h=>h) (fun _ hk=>hk.elim) (fun _ _=>trivial) ?bB ?bS ?bL ?_;(case bO=>exact R8.kept (R8.kept (R8.kept HF.out hb1) (Qce (Below.refl _ _) _)) hb2);(case bB=>exact((Qis hb1 hbw).trans (Qis (Qce (Below.refl w1.heap.size w1) _) (Nat.le_trans hbw hb1.size))).trans (Qis hb2 (by rw[World.size_alloc];have:=hb1.size;omega)););(case bS=>have h1:=hb1.size;have h2:=hb2.size;rw[World.size_alloc]at h2;omega);(case bL=>have:=HK.out;have:=HNF.out;omega);intro v3 w3 a hb3 l hat3))
 go_ret
 refine⟨v3,rfl,?_,hb3⟩;have e1:k=sz-fs.length:=by rw[HK.out,HNF.out]
 rw[← e1];exact a
theorem Qlp(b g:Nat)(R:Room5)(fr:List Int)(tb:List S129)(sz:Nat)(w:World)(hI:IsBd w b g R fr tb)(hsz:Qaq.f R.1 R.2.1=some (sz:Int))(hle:fr.length≤sz)(hs2:sz≤70368744177664) :
  Calls Tryz.prog 19 #[.pointer (some ⟨g,0,none⟩)] w fun e w'=>∃v:Value,e=.returned v∧R8 w' w.heap.size v (fr++List.replicate (sz-fr.length) 255)∧Below w.heap.size w w':=by
 go_enter Tryz.func19,Tryz.ntmps19
 go_wp2_with (first
  |(go_at_call 22;refine(Qln b g R fr tb w hI (by omega)).mono ?_;rintro e w1 ⟨v1,rfl,hR1,hb1⟩)
  |(go_at_call 63;refine(Qlo b w.heap.size g R fr tb fr v1 sz w1 (hI.kept hb1) hR1 hb1.size hsz hle hs2).mono ?_;rintro e w2 ⟨v2,rfl,hR2,hb2⟩))
 go_ret
 exact⟨v2,rfl,hR2,hb1.trans hb2⟩
def Qlx(W:World)(g:Nat)(R:Room5)(fv tv:Value):Prop:=W.heap[g]? = some (.cells #[.int .u8 R.1,.int .u32 R.2.1,.int .u32 R.2.2.1,.int .i64 R.2.2.2.1,.int .i64 R.2.2.2.2,fv,tv] 122 (0,0))
theorem Qly{W:World}{g:Nat}{R:Room5}{fv tv:Value}(h:Qlx W g R fv tv) :
  W.cell? ⟨g,0,none⟩=some (.int .u8 R.1)∧W.cell? ⟨g,1,none⟩=some (.int .u32 R.2.1)∧W.cell? ⟨g,2,none⟩=some (.int .u32 R.2.2.1)∧W.cell? ⟨g,3,none⟩=some (.int .i64 R.2.2.2.1)∧W.cell? ⟨g,4,none⟩=some (.int .i64 R.2.2.2.2)∧W.cell? ⟨g,5,none⟩=some fv∧W.cell? ⟨g,6,none⟩=some tv :=
 ⟨(Qdb h 0).trans rfl,(Qdb h 1).trans rfl,(Qdb h 2).trans rfl,(Qdb h 3).trans rfl,(Qdb h 4).trans rfl,(Qdb h 5).trans rfl,(Qdb h 6).trans rfl⟩
theorem Qlz:(Tryz.prog.info? 129).map (fun i=>(i.zero,i.size,i.bytes))=some (some (.agg #[.int .u64 0,.int .u32 0]),2,16):=by kernel_rfl
theorem bd_set5{W:World}{b g:Nat}{R:Room5}(R':Room5){fv tv:Value}{fr:List Int}{tb:List S129}(hv:Qlx W g R fv tv)(hR:R8 W b fv fr)(hT:Kd.R k129 129 W b (fun _=>True) tv tb)(hbg:b≤g) :
  ∃W',W'=(((((W.setCell ⟨g,0,none⟩ (.int .u8 R'.1)).setCell ⟨g,1,none⟩ (.int .u32 R'.2.1)).setCell ⟨g,2,none⟩ (.int .u32 R'.2.2.1)).setCell ⟨g,3,none⟩ (.int .i64 R'.2.2.2.1)).setCell ⟨g,4,none⟩ (.int .i64 R'.2.2.2.2)) ∧
   Qlx W' g R' fv tv∧R8 W' b fv fr∧Kd.R k129 129 W' b (fun _=>True) tv tb∧Below b W W'∧∀k,k≠g→W'.heap[k]? = W.heap[k]?:=by
 have ht:∀q,q∈129 :: (k129).E→q≠122:=by decide
 have b1:=Qcy hv 0 (.int .u8 R'.1);have b2:=Qcy b1 1 (.int .u32 R'.2.1);have b3:=Qcy b2 2 (.int .u32 R'.2.2.1);have b4:=Qcy b3 3 (.int .i64 R'.2.2.2.1);have b5:=Qcy b4 4 (.int .i64 R'.2.2.2.2);refine⟨_,rfl,b5,?_,?_,?_,fun k hk=>?_⟩
 ·exact R8.set (R8.set (R8.set (R8.set (R8.set hR hv (by decide) 0 _) b1 (by decide) 1 _) b2 (by decide) 2 _) b3 (by decide) 3 _) b4 (by decide) 4 _
 ·exact Kd.R_set (Kd.R_set (Kd.R_set (Kd.R_set (Kd.R_set hT hv ht 0 _) b1 ht 1 _) b2 ht 2 _) b3 ht 3 _) b4 ht 4 _
 ·exact Qir (Qir (Qir (Qir (Qir (Below.refl _ _) hbg) hbg) hbg) hbg) hbg
 ·rw[Below.heap_setCell _ _ _ k hk,Below.heap_setCell _ _ _ k hk,Below.heap_setCell _ _ _ k hk,Below.heap_setCell _ _ _ k hk,Below.heap_setCell _ _ _ k hk]
def Tb(g:Nat)(w w':World):Prop:=∀k cs t,w.heap[k]? = some (.cells cs t (0,0))→t≠5→t≠129→k≠g→w'.heap[k]? = some (.cells cs t (0,0))
theorem Tb.below{g:Nat}{w w':World}(h:Below w.heap.size w w'):Tb g w w':=fun _ _ _ h1 _ _ _=>Qdo h1 h
theorem Tb.trans{g:Nat}{a b c:World}(h:Tb g a b)(k:Tb g b c):Tb g a c:=fun _ _ _ h1 h2 h3 h4=>k _ _ _ (h _ _ _ h1 h2 h3 h4) h2 h3 h4
theorem Tb.set{g j:Nat}{w W:World}(h:Tb g w W)(v:Value):Tb g w (W.setCell ⟨g,j,none⟩ v):=fun _ _ _ h1 h2 h3 h4=>Qcz (h _ _ _ h1 h2 h3 h4) h4 v
theorem Tb.grown{g q:Nat}{w W W':World}{row:Option Nat}(h:Tb g w W)(hg:W.grownBy W' row)(hty:∀k,row=some k→∃cells,W.heap[k]? = some (.cells cells q (0,0)))(hq:q=5∨q=129):Tb g w W':=fun k cs t h1 h2 h3 h4=>by
 have h5:=h _ _ _ h1 h2 h3 h4;refine Qdd h5 hg (fun e=>?_);obtain⟨cells,hc⟩:=hty k e.symm;rw[hc]at h5
 injection h5 with h5
 injection h5 with _ h5
 rcases hq with hq|hq
 ·exact h2 (h5.symm.trans hq)
 ·exact h3 (h5.symm.trans hq)
theorem bd_Add(b g:Nat)(R R':Room5)(fr F:List Int)(tb:List S129)(d:Bool)(s:Int)(key v:ByteArray)(w:World)(hI:IsBd w b g R fr tb)(hbg:b≤g)(hbw:b≤w.heap.size)
  (hchk:chk d key v=0) (hput:Qbg.f d s key v=some (F,0)) (htl:Qbr.f R.1 R.2.1 F.length=some false) (htk:Qbq.f R.1 R.2.1 R.2.2.1 R.2.2.2.1 R.2.2.2.2 F.length=some (R'.1,R'.2.1,R'.2.2.1,R'.2.2.2.1,R'.2.2.2.2,0))
  (hl:fr.length+F.length≤70368744177664) (hk:key.size≤70368744177664) (ht:tb.length≤1099511627776) :
  Calls Tryz.prog 18 #[.pointer (some ⟨g,0,none⟩),.agg #[.bool d,.int .u64 s,.string key,.string v]] w fun e w'=>e=.returned (.tuple #[.int .u32 ((fr.length:Int)%4294967296),.int .i64 0])∧IsBd w' b g R' (fr++F) (tb++[⟨Qkt 0 (bytesOf key),(fr.length:Int)%4294967296⟩])∧Below b w w'∧Tb g w w':=by
 have hu:=Tryz.underlying37;have hu1:=Tryz.underlying28;have hu2:=Tryz.underlying116;have hu3:=Tryz.underlying122;obtain⟨fv,tv,hv,hR,hT⟩:=hI;obtain⟨AT,nT,cT,rfl⟩:∃A n c,tv=.slice A n c:=by
  obtain⟨A,c,e⟩:=Kd.R_slice hT;exact⟨A,_,c,e⟩
 obtain⟨A,n,c,rfl,hn,hlc,hC⟩:=R8.reads hR;have hv':Qlx w g R (.slice A n c) (.slice AT nT cT):=hv;have hgw:g<w.heap.size:=Qda hv;have hcheck:=Qki d s key v;rw[hchk]at hcheck;have HCK:=QA hcheck;have HPU:=QA hput;have HTL:=QA htl;have HTK:=QA htk;have HR:=QA hR;have HT:=QA hT;have HV:=QA hv';have r:=hn;clear hcheck hput htl htk hchk hR hT hv hC hn hv';have hba:Below w.heap.size w (w.alloc (.cells #[.bool d,.int .u64 s,.string key,.string v] 37)):=Qce (Below.refl _ _) _;have hbn:=Qdp w (.cells #[.bool d,.int .u64 s,.string key,.string v] 37)
 go_enter Tryz.func18,Tryz.ntmps18
 go_upto_region 12 with(first
  |(go_at_call 58;refine(Qbt.calls 1 _ s key v 0 _ HCK.out).mono ?_;rintro e w1 ⟨rfl,hb1⟩;have hB1:=QA (Qch hba hba.size hb1);have hk1:=Qdo hbn hb1;obtain⟨c0,c1,c2,c3⟩:=box4 hk1)
  |(go_at_call 59;refine(Qbg.calls _ s key v F 0 _ HPU.out).mono ?_;rintro e w2 ⟨vF,rfl,hRF,hb2⟩;have hB2:=QA (Qch hB1.out hB1.out.size hb2);have hk2:=Qdo hk1 hb2;obtain⟨AF,nF,cF,rfl,hnF,hlF,hCF⟩:=R8.reads hRF;have hv2:Qlx w2 g R (.slice A n c) (.slice AT nT cT):=Qdo HV.out hB2.out;obtain⟨g0,g1,g2,g3,g4,g5,g6⟩:=Qly hv2;clear c0 c1 c2 c3)
  |(go_at_call 60;refine(Qbr.calls _ _ _ false _ (by rw[hnF.out];exact HTL.out)).mono ?_;rintro e w3 ⟨rfl,hb3⟩;have hB3:=QA (Qch hB2.out hB2.out.size hb3);have hk3:=Qdo hk2 hb3;have hv3:Qlx w3 g R (.slice A n c) (.slice AT nT cT):=Qdo HV.out hB3.out;obtain⟨h0,h1,h2,h3,h4,h5,h6⟩:=Qly hv3;clear g0 g1 g2 g3 g4 g5 g6)
  |(go_at_call 61;refine(Qbq.calls _ _ _ _ _ _ _ _ _ _ _ _ _ (by rw[hnF.out];exact HTK.out)).mono ?_;rintro e w4 ⟨rfl,hb4⟩;have hB4:=QA (Qch hB3.out hB3.out.size hb4);have hk4:=Qdo hk3 hb4;have hv4:Qlx w4 g R (.slice A n c) (.slice AT nT cT):=Qdo HV.out hB4.out;have hv5:Qlx (w4.alloc (.cells #[.int .u8 R'.1,.int .u32 R'.2.1,.int .u32 R'.2.2.1,.int .i64 R'.2.2.2.1,.int .i64 R'.2.2.2.2] 116)) g R (.slice A n c) (.slice AT nT cT):=Qdl hv4 _;obtain⟨i0,i1,i2,i3,i4,i5,i6⟩:=Qly hv5;have f0:=Qdc hv5 0;have f1:=Qdc hv5 1;have f2:=Qdc hv5 2;have f3:=Qdc hv5 3;have f4:=Qdc hv5 4;have f5:=Qdc hv5 5;clear h0 h1 h2 h3 h4 h5 h6))
 have hv5:Qlx (w4.alloc (.cells #[.int .u8 R'.1,.int .u32 R'.2.1,.int .u32 R'.2.2.1,.int .i64 R'.2.2.2.1,.int .i64 R'.2.2.2.2] 116)) g R (.slice A n c) (.slice AT nT cT):=Qdl hv4 _;have hb5:Below w4.heap.size w4 (w4.alloc (.cells #[.int .u8 R'.1,.int .u32 R'.2.1,.int .u32 R'.2.2.1,.int .i64 R'.2.2.2.1,.int .i64 R'.2.2.2.2] 116)):=Qce (Below.refl _ _) _;have hB5:=Qch hB4.out hB4.out.size hb5;obtain⟨W6,hW6,hv6,hR6,hT6,hb6,hk6⟩:=bd_set5 R' hv5 (R8.kept HR.out hB5) (Kd.R_below HT.out hB5) hbg;have K6:Aside0 (Tb g w W6):=⟨fun k cs t h1 _ _ h4=>(hk6 k h4).trans (Qdo h1 hB5)⟩;rw[← hW6];have hs6:w4.heap.size≤W6.heap.size:=Nat.le_trans hb5.size hb6.size;clear hW6 i0 i1 i2 i3 i4 i5 i6 f0 f1 f2 f3 f4 f5;obtain⟨m0,m1,m2,m3,m4,m5,m6⟩:=Qly hv6;have D:g<w1.heap.size:=Nat.lt_of_lt_of_le hgw hB1.out.size;have hRF5:=R8.kept (R8.kept (R8.kept hRF hb3) hb4) hb5;have hRF6:R8 W6 w1.heap.size (.slice AF nF cF) F:=Kd.R_mono (Kd.R_step (Kd.R_bound hRF5) (fun k hk _=>hk6 k (by have:=hk.2.1;omega))) (fun _ _=>trivial);have hCF6:Kd.C (Kd.int .u8) W6 AF nF F:=by
  have h:=Kd.R_reads' hRF6;rw[h.1];exact h.2.2
 have hB6:=QA ((Qis hB5 hbw).trans hb6);have hz6:b≤W6.heap.size:=Nat.le_trans hbw hB6.out.size;clear hRF5 hRF6 hRF
 go_wp2_with (first
  |(at_builtin;go_loud (refine Kd.R_append_rows (Kd.int .u8) (Rr:=fun x cs=>cs=[.int .u8 x]) (w0:=W6) b rfl (.tmp 57) (.tmp 58) 40 5 (.int .u8 0) 1 rfl Tryz.underlying40 Qia rfl (by decide) (by omega) (.slice A n c) fr F AF nF cF (fun _=>True) (fun _=>False) rfl rfl hR6 hCF6 (fun _ _ h=>h) (fun _ hk=>hk.elim) (fun _ _=>trivial) (Below.refl _ _) hz6 ?bL ?_;(case bL=>have:=hnF.out;omega);intro v7 w7 l hb7 j hat7;obtain⟨A7,n7,c7,rfl⟩:=R8.shape l;have hv7:Qlx w7 g R' (.slice A n c) (.slice AT nT cT):=Qdd hv6 j (R8.clean hR6 hv6 (by decide));obtain⟨p0,p1,p2,p3,p4,p5,p6⟩:=Qly hv7;have f5:=Qdc hv7 5;clear m0 m1 m2 m3 m4 m5 m6)))
 have K7:=QA (Tb.grown K6.out j (Kd.R_typed hR6) (.inl rfl));have hgB:w.heap.size≠g:=by omega
 have q5:=Qdl hk4 (.cells #[.int .u8 R'.1,.int .u32 R'.2.1,.int .u32 R'.2.2.1,.int .i64 R'.2.2.2.1,.int .i64 R'.2.2.2.2] 116);have q6:=(hk6 _ hgB).trans q5;have q7:=Qdd q6 j (R8.clean hR6 q6 (by decide));have hT7:=Kd.R_over' hT6 (Kd.R_typed hR6) (by decide) j;have ht:∀q,q∈129 :: (k129).E→q≠122:=by decide
 obtain⟨W8,hW8⟩:∃W8,W8=w7.setCell ⟨g,5,none⟩ (.slice A7 n7 c7):=⟨_,rfl⟩;have q8:W8.heap[w.heap.size]? = some (.cells #[.bool d,.int .u64 s,.string key,.string v] 37 (0,0)):=by rw[hW8];exact Qcz q7 hgB _
 have hv8:Qlx W8 g R' (.slice A7 n7 c7) (.slice AT nT cT):=by rw[hW8];exact Qcy hv7 5 _
 have hR8:R8 W8 b (.slice A7 n7 c7) (fr++F):=by rw[hW8];exact R8.set l hv7 (by decide) 5 _
 have hT8:Kd.R k129 129 W8 b (fun _=>True) (.slice AT nT cT) tb:=by rw[hW8];exact Kd.R_set hT7 hv7 ht 5 _
 have hB8:Aside0 (Below b w W8):=⟨by rw[hW8];exact Qir (hB6.out.trans hb7) hbg⟩;have K8:Aside0 (Tb g w W8):=⟨by rw[hW8];exact K7.out.set _⟩;rw[← hW8];clear hW8;have u:=QA hR8;have HT8:=QA hT8;clear hR8 hT8 hT7 hT6 hR6 l q5 q6 q7 hv7;obtain⟨r0,r1,r2,r3⟩:=box4 q8;obtain⟨s0,s1,s2,s3,s4,s5,s6⟩:=Qly hv8;have hz8:b≤W8.heap.size:=Nat.le_trans hbw hB8.out.size;clear p0 p1 p2 p3 p4 p5 p6;have hnn:n=fr.length:=r.out;have HNN:=QA hnn;clear hnn
 go_region_law (first
  |(go_simp;go_at_call 62;refine(Qkw key W8.drew (by omega)).mono ?_;rintro e w9 ⟨rfl,hb9⟩;have hv9:Qlx w9 g R' (.slice A7 n7 c7) (.slice AT nT cT):=Qdo (w:=W8.drew) hv8 hb9;have hB9:Aside0 (Below b w w9):=⟨(hB8.out.trans (Qcf (Below.refl _ _))).trans (Qis hb9 hz8)⟩;have K9:=QA (K8.out.trans (Tb.below (w:=W8.drew) hb9));have y:=QA (R8.kept (W:=W8.drew) u.out hb9);have HT9:=QA (Kd.R_below (w:=W8.drew) HT8.out hb9);obtain⟨u0,u1,u2,u3,u4,u5,u6⟩:=Qly hv9;have a6:∀o,(w9.alloc o).cell? ⟨g,6,none⟩=some (.slice AT nT cT):=(fun o=>(Qly (Qdl hv9 o)).2.2.2.2.2.2))
  |(refine Kd.R_append_step k129 (w0:=w) b (by rfl) (.tmp 66) (.tmp 72) 120 129 (.agg #[(.int .u64 0),(.int .u32 0)]) 16 rfl Tryz.underlying120 Qlz rfl (by decide) (by omega) (.slice AT nT cT) tb (⟨Qkt 0 (bytesOf key),(n:Int)%4294967296⟩:S129) [.int .u64 (Qkt 0 (bytesOf key)),.int .u32 ((n:Int)%4294967296)] (fun _=>True) (fun _=>False) rfl ?ax ?aP (fun _ hk=>hk.elim) (fun _ _=>trivial) ?aO hB9.out ?aS ?aL ?_;(case ax=>rfl);(case aP=>exact Qik _ _ _ (⟨Qkt 0 (bytesOf key),(n:Int)%4294967296⟩:S129));(case aO=>exact HT9.out);(case aS=>exact Nat.le_trans hbw hB9.out.size);(case aL=>omega);intro z B m hb10 a hat10;obtain⟨G,I,c10,rfl⟩:∃A n c,z=.slice A n c:=(by obtain⟨A,c,e⟩:=Kd.R_slice m;exact⟨A,_,c,e⟩);have hv10:Qlx B g R' (.slice A7 n7 c7) (.slice AT nT cT):=Qdd hv9 a (Kd.R_ne HT9.out hv9 (by decide));have K10:=QA (Tb.grown K9.out a (Kd.R_typed HT9.out) (.inr rfl));have p:=QA (Kd.R_over' y.out (Kd.R_typed HT9.out) (by decide) a);obtain⟨x0,x1,x2,x3,x4,x5,x6⟩:=Qly hv10;have fx:=Qdc hv10 6;clear u0 u1 u2 u3 u4 u5 u6 a6))
 all_goals
  go_wp2;refine bodyPost_ret (results_tmp2 rfl _ _ _) rfl ?_;refine⟨by(rw[← HNN.out];rfl),⟨_,_,Qcy hv10 6 _,R8.set p.out hv10 (by decide) 6 _,?_⟩,Qir hb10 hbg,K10.out.set _⟩;rw[← HNN.out];exact Kd.R_set m hv10 ht 6 _
end Go.Proofs.YteaocbonofboeaaGreat.C
end
