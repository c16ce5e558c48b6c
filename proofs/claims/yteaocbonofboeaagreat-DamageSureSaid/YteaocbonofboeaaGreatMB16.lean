/- Merged texts. -/
import Derived.Test.YteaocbonofboeaaGreatMB02
import Derived.Test.YteaocbonofboeaaGreatMB03
import Derived.Test.YteaocbonofboeaaGreatMB14
import Derived.Test.YteaocbonofboeaaGreatMB15
import Derived.Test.YteaocbonofboeaaGreatMB04
set_option linter.unusedVariables false
set_option linter.unusedSimpArgs false
set_option maxHeartbeats 8000000
set_option maxRecDepth 100000
section
namespace Go.Proofs.YteaocbonofboeaaGreat.C
open Go.RowKit Go.Proofs.YteaocbonofboeaaGreatW.PrintWords Go.Proofs.YteaocbonofboeaaGreatW.PrintLast Go.Proofs.YteaocbonofboeaaGreatW.PrintMore
attribute [local go_sem] Qim Qin Qio Qip Qiq Qir Qis Qit
def Qcf.l0:Nat→List Int→List (S37)→Int→Int→Int→Int→Option (List Int × List Int × Int)
 | 0,_,_,_,_,_,_=>none
 | k+1,x5,x23,x24,x25,x254000,x254001=>if x25<x24 then(if 0≤x25 then(if x25<(x23.length:Int)then((Qby.f ((Qjh x23 x25).f0) ((Qjh x23 x25).f1) ((Qjh x23 x25).f2) ((Qjh x23 x25).f3)).bind fun bt258=>(if x5.length<17592186044416 then(Qcf.l0 k (x5++[(bt258.1.length:Int)]) x23 x24 (wrap64 (x25+1)) x254000 x254001)else(none)))else(none))else(none))else((Qch.f k x254000 x254001 x5).bind fun bt265=>(some (bt265.1,x5,bt265.2)))
def Qcf.f(k:Nat)(a0_0:Int)(a0_1:Int)(l1:List (S37)):Option (List Int × List Int × Int):=(Qap.f a0_0 a0_1).bind fun t254=>(if t254=0 then((Qcp.f k l1).bind fun t255=>(if t255=0 then(Qcf.l0 k ([]:List Int) l1 (l1.length:Int) 0 a0_0 a0_1)else(some (([]:List Int),([]:List Int),t255))))else(some (([]:List Int),([]:List Int),t254)))
theorem Qcf.calls (k:Nat) (d:Int) (j:Int) (A1:Option Addr) (c1:Nat) (l1:List (S37)) (r1:List Int) (r2:List Int) (r3:Int) (w:World) (hr1:Kd.C k37 w A1 l1.length l1) (hc1:l1.length≤c1) (h:Qcf.f k d j l1=some (r1,r2,r3)) :
  Calls Tryz.prog 80 #[.agg #[.int .u8 d,.int .u32 j],.slice A1 l1.length c1] w fun e w'=>∃am an:Value,e=.returned (.tuple #[am,an,.int .i64 r3])∧Kd.R (Kd.int .u32) 26 w' w.heap.size (fun _=>True) am r1∧Kd.R (Kd.int .i64) 3 w' w.heap.size (fun _=>True) an r2∧Below w.heap.size w w':=by
 have hu28:=Tryz.underlying28;have hu37:=Tryz.underlying37;have T:=QA hr1;have ao:=QA hc1;clear hr1 hc1;have HB:=QA (Below.refl w.heap.size w);have H:((Qap.f d j).bind fun n=>(if n=0 then((Qcp.f k l1).bind fun s=>(if s=0 then(Qcf.l0 k ([]:List Int) l1 (l1.length:Int) 0 d j)else(some (([]:List Int),([]:List Int),s))))else(some (([]:List Int),([]:List Int),n))))=some (r1,r2,r3):=h;clear h;replace H:=Option.bind_eq_some_iff.mp H;obtain⟨n,ap,H⟩:=H;have A3:=QA ap;clear ap
 by_cases c4:n=0
 ·rw [if_pos c4]at H;have U:(n == 0)=true:=beq_iff_eq.mpr c4;have W:(n != 0)=false:=bne_eq_false_iff_eq.mpr c4;clear c4;replace H:=Option.bind_eq_some_iff.mp H;obtain⟨s,aq,H⟩:=H;have A5:=QA aq;clear aq
  by_cases c6:s=0
  ·rw [if_pos c6]at H;have X:(s == 0)=true:=beq_iff_eq.mpr c6;have Y:(s != 0)=false:=bne_eq_false_iff_eq.mpr c6;clear c6;have H':=QA H;clear H
   go_enter Tryz.func80,Tryz.ntmps80
   go_wp2_with (first |((with_reducible refine Qfx (N:=2) rfl ?_);refine qq_e 2 #[.int .u8 d,.int .u32 j] 28 ?_;intro l hg w7 hbox hb;have n_:=qn4 (Qfn qq_b hb) (hbox) (qq_s hg:w.heap.size≤l) (qq_s hg:w.heap.size≤l);clear HB;obtain⟨HB,a,K,L⟩:=n_;clear hb hbox hg;obtain⟨Z,aa⟩:=qc2 a.out;have ar:=Qdx a.out) |((with_reducible refine Qiu (f:=118) rfl ?_);refine Qgs (some 14) rfl rfl Tryz.func118 qq_6 rfl #[.agg #[.int .u8 d,.int .u32 j]] rfl qq_1 ?_;(with_reducible refine(Qap.calls d j n _ A3.out).mono ?_);rintro e w9 ⟨rfl,hb⟩;refine⟨_,rfl,?_⟩;have n_:=qn2 (Qel (g:=l) (o:=.cells #[.int .u8 d,.int .u32 j] 28 (0,0)) qq_0 hb) (Qfn qq_b hb);clear a HB;obtain⟨a,HB⟩:=n_;(try clear hb);(try clear hb2);(try clear hk);(try clear hi)) |((with_reducible refine Qiu (f:=130) rfl ?_);refine Qgs (some 19) rfl rfl Tryz.func130 qq_6 rfl #[.slice A1 l1.length c1] rfl qq_1 ?_;(with_reducible refine(Qcp.calls k _ _ l1 s _ ?side1 ?side2 A5.out).mono ?_);(case side1=>repeat(first|exact(Kd.C_below T.out HB.out) |(with_reducible refine Kd.C_alloc ?_ _) |(with_reducible refine Kd.C_drewN ?_ _) |(with_reducible refine Kd.C_drew ?_)));(case side2=>exact ao.out);rintro e bd ⟨rfl,hb⟩;refine⟨_,rfl,?_⟩;have n_:=qn2 (Qel (g:=l) (o:=.cells #[.int .u8 d,.int .u32 j] 28 (0,0)) qq_0 hb) (Qfn qq_b hb);clear a HB;obtain⟨a,HB⟩:=n_;(try clear hb);(try clear hb2);(try clear hk);(try clear hi)))
   go_loopg [5,25] k (fun kq v5 aI w'=>∃(q:List Int) (c:Int),aI=.int .i64 c∧Aside0 (Qcf.l0 kq q l1 (l1.length:Int) c d j=some (r1,r2,r3))∧Aside0 (kq≤k)∧Aside0 (Kd.R (Kd.int .i64) 3 w' w.heap.size (fun _=>True) v5 q)∧Aside0 (w'.heap[l]? = some (.cells #[.int .u8 d,.int .u32 j] 28 (0,0)))∧Aside0 (Below w.heap.size w w'))
   case atStart=>exact⟨(([]:List Int)),(0),qq_4,H',⟨Nat.le_refl _⟩,⟨by first|exact Kd.R_nil _ _ _ _ _|exact Kd.N_nil _ _ _ _ _|exact Kd.V_nil _ _ _ _ _|exact Kd.Q_nil _ _ _ _ _|exact Kd.S_nil _ _ _ _ _⟩,⟨by(with_reducible repeat(first|apply Qek|apply Qej|apply Qei));exact a.out⟩,⟨qq_b⟩⟩
   case round =>
    clear H'
    try clear c1
    try clear c4
    try clear U
    try clear W
    try clear c6
    try clear X
    try clear Y
    try clear Z
    try clear aa
    try clear ar
    obtain⟨q,c,rfl,HA,HK1,HO_5,a,HB⟩:=hrel
    cases gk with
    | zero=>exact absurd HA.out (by simp[Qcf.l0])
    | succ k1 =>
     have H:=HA.out;clear HA;simp only[Qcf.l0]at H
     by_cases x:c<(l1.length:Int)
     ·rw [if_pos x]at H;have ah:=decide_eq_true x;clear x
      by_cases M:0≤c
      ·rw[if_pos M]at H;have aM:=decide_eq_true M;clear M
       by_cases O:c<(l1.length:Int)
       ·rw[if_pos O]at H;have aN:=decide_eq_true O;clear O;replace H:=Option.bind_eq_some_iff.mp H;obtain⟨⟨v,au⟩,ab,H⟩:=H;replace H:(if q.length<17592186044416 then(Qcf.l0 k1 (q++[(v.length:Int)]) l1 (l1.length:Int) (wrap64 (c+1)) d j)else(none))=some (r1,r2,r3):=H;have aJ:=QA ab;clear ab
        by_cases P:q.length<17592186044416
        ·rw[if_pos P]at H;have ai:=QA P;clear P;obtain⟨ac,t⟩:∃y_:List Int,y_=(q++[(v.length:Int)]):=⟨_,rfl⟩;replace H:(Qcf.l0 k1 ac l1 (l1.length:Int) (wrap64 (c+1)) d j)=some (r1,r2,r3):=by first |(rw[t];with_reducible exact H) |(have ad:=(Option.bind_some _ _).symm.trans H;rw[t];with_reducible exact ad) |(have ad:=(Option.bind_some _ _).symm.trans H;with_reducible exact ad)|with_reducible exact H |(rw[t];exact H)|exact H
         have aj:=QA t;clear t;have H':=QA H;clear H;have I:0≤(c:Int):=of_decide_eq_true qq_2;have J:c<(l1.length:Int):=of_decide_eq_true qq_2;obtain⟨aQ,av,y,z,A,B⟩:=Qji T.out c I J
         cases av
         replace y:=qq_h HB.out y;replace z:=qq_h HB.out z;replace A:=qq_h HB.out A;replace B:=qq_h HB.out B;replace I:=eq_true I;replace J:=eq_true J
         go_wp2_with (first |((with_reducible refine Qfx (N:=10) rfl ?_);refine qq_e 10 #[.bool false,.int .u64 0,.string (⟨#[]⟩:ByteArray),.string (⟨#[]⟩:ByteArray)] 37 ?_;intro m hg be hbox hb;have n_:=qn8 (Kd.R_below qq_36 hb) (Qel (g:=l) (o:=.cells #[.int .u8 d,.int .u32 j] 28 (0,0)) qq_0 hb) (Qfn qq_b hb) (hbox) (qq_s hg:w.heap.size≤m) (qq_s hg:w.heap.size≤m) ((by rw[hg];exact Nat.ne_of_lt (Qdv (g:=l) (o:=.cells #[.int .u8 d,.int .u32 j] 28 (0,0)) qq_0):l≠m)) ((by rw[hg];exact Nat.ne_of_gt (Qdv (g:=l) (o:=.cells #[.int .u8 d,.int .u32 j] 28 (0,0)) qq_0):m≠l));clear HO_5 a HB;obtain⟨HO_5,a,HB,r,aR,aT,D,E⟩:=n_;clear hb hbox hg;have aU:=E.out;have aV:=D.out;obtain⟨aw,ax,ay,az⟩:=qc4 r.out;have aW:=Qdx r.out) |((with_reducible refine Qiu (f:=59) rfl ?_);refine Qgs (some 31) rfl rfl Tryz.func59 qq_6 rfl #[.agg #[.bool ((Qjh l1 c).f0),.int .u64 ((Qjh l1 c).f1),.string ((Qjh l1 c).f2),.string ((Qjh l1 c).f3)]] rfl qq_1 ?_;(with_reducible refine(Qby.calls ((Qjh l1 c).f0) ((Qjh l1 c).f1) ((Qjh l1 c).f2) ((Qjh l1 c).f3) v au _ aJ.out).mono ?_);rintro e bf ⟨ba,rfl,G,hb⟩;refine⟨_,rfl,?_⟩;have n_:=qn5 (Kd.R_below (by(with_reducible repeat(first|apply Kd.R_alloc|apply Kd.R_drewN|apply Kd.R_drew));exact(Kd.R_mono (Kd.R_far (p:=⟨m,3,none⟩) (Kd.R_far (p:=⟨m,2,none⟩) (Kd.R_far (p:=⟨m,1,none⟩) (Kd.R_far (p:=⟨m,0,none⟩) (Kd.R_types HO_5.out r.out (by decide)) (fun _ hk=>hk.2) (.bool ((Qjh l1 c).f0))) (fun _ hk=>hk.2) (.int .u64 ((Qjh l1 c).f1))) (fun _ hk=>hk.2) (.string ((Qjh l1 c).f2))) (fun _ hk=>hk.2) (.string ((Qjh l1 c).f3))) (fun _ h_=>h_.1))) hb) (Kd.R_lower G (Qfm qq_b)) (Qel (g:=l) (o:=.cells #[.int .u8 d,.int .u32 j] 28 (0,0)) qq_5 hb) (Qel (g:=m) (o:=.cells #[.bool ((Qjh l1 c).f0),.int .u64 ((Qjh l1 c).f1),.string ((Qjh l1 c).f2),.string ((Qjh l1 c).f3)] 37 (0,0)) qq_x hb) (Qfn qq_b hb);clear HO_5 a r HB;obtain⟨HO_5,u,a,r,HB⟩:=n_;(try clear hb);(try clear hb2);(try clear hk);(try clear hi);(try clear G);obtain⟨Ao20,co20,eo20⟩:=Kd.R_slice u.out;subst eo20) |((with_reducible refine Qiv (b:=.append) (xs:=#[.tmp 34,.tmp 37]) rfl ?_);at_builtin;refine Kd.R_append (Kd.int .i64) (w0:=w) w.heap.size rfl (.tmp 34) (.tmp 37) 153 3 (.int .i64 0) 8 rfl Tryz.underlying153 info3 rfl (by decide) (by omega) u5 q (v.length:Int) [.int .i64 (v.length:Int)] (fun _=>True) (fun _=>False) rfl rfl ?aP (fun _ hk=>hk.elim) ?aF ?aO ?aB ?aS ?aL ?_;(case aP=>exact rfl);(case aB=>exact qq_b);(case aF=>exact(fun _ _=>trivial));(case aO=>exact qq_36);(case aS=>exact(Qfm qq_b));(case aL=>have:=ai.out;omega);intro bb bg ho hb hg hat;rw[← aj.out]at ho;have n_:=qn5 (Qdy (g:=l) (o:=.cells #[.int .u8 d,.int .u32 j] 28 (0,0)) qq_0 hg (Kd.R_ne HO_5.out a.out (by decide))) (Qdy (g:=m) (o:=.cells #[.bool ((Qjh l1 c).f0),.int .u64 ((Qjh l1 c).f1),.string ((Qjh l1 c).f2),.string ((Qjh l1 c).f3)] 37 (0,0)) qq_0 hg (Kd.R_ne HO_5.out r.out (by decide))) (Kd.R_over' (by(with_reducible repeat(first|apply Kd.R_alloc|apply Kd.R_drewN|apply Kd.R_drew));exact u.out) (Kd.R_typed qq_36) (by decide) hg) (hb) (ho);clear a r u HB HO_5;obtain⟨a,r,u,HB,ak⟩:=n_;clear ho hb hg hat))
         go_roundg k1
         case measure=>have:=HK1.out;omega
         case rel=>exact⟨(ac),(wrap64 (c+1)),qq_4,H',⟨by have:=HK1.out;omega⟩,⟨by(with_reducible repeat(first|apply Kd.R_alloc|apply Kd.R_drewN|apply Kd.R_drew));exact ak.out⟩,⟨by(with_reducible repeat(first|apply Qek|apply Qej|apply Qei));exact a.out⟩,⟨qq_b⟩⟩
        ·rw[if_neg P]at H;exact absurd H (by simp)
       ·rw[if_neg O]at H;exact absurd H (by simp)
      ·rw[if_neg M]at H;exact absurd H (by simp)
     ·rw[if_neg x]at H;have ah:=decide_eq_false x;clear x;replace H:=Option.bind_eq_some_iff.mp H;obtain⟨⟨ae,af⟩,ag,H⟩:=H;replace H:(some (ae,q,af))=some (r1,r2,r3):=H;have aK:=QA ag;clear ag;simp only[Option.some.injEq,Prod.mk.injEq]at H;obtain⟨rfl,rfl,rfl⟩:=H;obtain⟨aA,aC⟩:=qc2 a.out;have aX:=Qdx a.out;obtain⟨Ao24,co24,eo24⟩:=Kd.R_slice HO_5.out;subst eo24
      go_wp2_with (first |((with_reducible refine Qiu (f:=131) rfl ?_);refine Qgs (some 43) rfl rfl Tryz.func131 qq_6 rfl #[.agg #[.int .u8 d,.int .u32 j],.slice Ao24 q.length co24] rfl qq_1 ?_;(with_reducible refine(Qch.calls k1 d j _ _ q ae af _ ?side1 ?side2 aK.out).mono ?_);(case side1=>repeat(first|exact(Kd.R_reads' HO_5.out).2.2 |(with_reducible refine Kd.C_alloc ?_ _) |(with_reducible refine Kd.C_drewN ?_ _) |(with_reducible refine Kd.C_drew ?_)));(case side2=>exact(Kd.R_reads' HO_5.out).2.1);rintro e bh ⟨bc,rfl,G,hb⟩;refine⟨_,rfl,?_⟩;have n_:=qn4 (Kd.R_below qq_36 hb) (Kd.R_lower G (Qfm qq_b)) (Qel (g:=l) (o:=.cells #[.int .u8 d,.int .u32 j] 28 (0,0)) qq_0 hb) (Qfn qq_b hb);clear HO_5 a HB;obtain⟨HO_5,al,a,HB⟩:=n_;(try clear hb);(try clear hb2);(try clear hk);(try clear hi);(try clear G)))
      go_ret3
      exact⟨_,_,by first|rfl |(simp[Qiz,Qja]<;>rfl) |(simp[*,Qiz,Qja]<;>rfl),by(with_reducible repeat(first|apply Kd.R_alloc|apply Kd.R_drewN|apply Kd.R_drew));exact al.out,by(with_reducible repeat(first|apply Kd.R_alloc|apply Kd.R_drewN|apply Kd.R_drew));exact HO_5.out,qq_b⟩
  ·rw[if_neg c6]at H;have X:(s == 0)=false:=beq_eq_false_iff_ne.mpr c6;have Y:(s != 0)=true:=bne_iff_ne.mpr c6;simp only[Option.some.injEq,Prod.mk.injEq]at H;obtain⟨rfl,rfl,rfl⟩:=H
   go_enter Tryz.func80,Tryz.ntmps80
   go_wp2_with (first |((with_reducible refine Qfx (N:=2) rfl ?_);refine qq_e 2 #[.int .u8 d,.int .u32 j] 28 ?_;intro l hg bi hbox hb;have n_:=qn4 (Qfn qq_b hb) (hbox) (qq_s hg:w.heap.size≤l) (qq_s hg:w.heap.size≤l);clear HB;obtain⟨HB,a,K,L⟩:=n_;clear hb hbox hg;obtain⟨aD,aE⟩:=qc2 a.out;have aY:=Qdx a.out) |((with_reducible refine Qiu (f:=118) rfl ?_);refine Qgs (some 14) rfl rfl Tryz.func118 qq_6 rfl #[.agg #[.int .u8 d,.int .u32 j]] rfl qq_1 ?_;(with_reducible refine(Qap.calls d j n _ A3.out).mono ?_);rintro e bj ⟨rfl,hb⟩;refine⟨_,rfl,?_⟩;have n_:=qn2 (Qel (g:=l) (o:=.cells #[.int .u8 d,.int .u32 j] 28 (0,0)) qq_0 hb) (Qfn qq_b hb);clear a HB;obtain⟨a,HB⟩:=n_;(try clear hb);(try clear hb2);(try clear hk);(try clear hi)) |((with_reducible refine Qiu (f:=130) rfl ?_);refine Qgs (some 19) rfl rfl Tryz.func130 qq_6 rfl #[.slice A1 l1.length c1] rfl qq_1 ?_;(with_reducible refine(Qcp.calls k _ _ l1 s _ ?side1 ?side2 A5.out).mono ?_);(case side1=>repeat(first|exact(Kd.C_below T.out HB.out) |(with_reducible refine Kd.C_alloc ?_ _) |(with_reducible refine Kd.C_drewN ?_ _) |(with_reducible refine Kd.C_drew ?_)));(case side2=>exact ao.out);rintro e bk ⟨rfl,hb⟩;refine⟨_,rfl,?_⟩;have n_:=qn2 (Qel (g:=l) (o:=.cells #[.int .u8 d,.int .u32 j] 28 (0,0)) qq_0 hb) (Qfn qq_b hb);clear a HB;obtain⟨a,HB⟩:=n_;(try clear hb);(try clear hb2);(try clear hk);(try clear hi)))
   go_ret3
   exact⟨_,_,by first|rfl |(simp[Qiz,Qja]<;>rfl) |(simp[*,Qiz,Qja]<;>rfl),by first|exact Kd.R_nil _ _ _ _ _|exact Kd.N_nil _ _ _ _ _|exact Kd.V_nil _ _ _ _ _|exact Kd.Q_nil _ _ _ _ _|exact Kd.S_nil _ _ _ _ _,by first|exact Kd.R_nil _ _ _ _ _|exact Kd.N_nil _ _ _ _ _|exact Kd.V_nil _ _ _ _ _|exact Kd.Q_nil _ _ _ _ _|exact Kd.S_nil _ _ _ _ _,qq_b⟩
 ·rw[if_neg c4]at H;have U:(n == 0)=false:=beq_eq_false_iff_ne.mpr c4;have W:(n != 0)=true:=bne_iff_ne.mpr c4;simp only[Option.some.injEq,Prod.mk.injEq]at H;obtain⟨rfl,rfl,rfl⟩:=H
  go_enter Tryz.func80,Tryz.ntmps80
  go_wp2_with (first |((with_reducible refine Qfx (N:=2) rfl ?_);refine qq_e 2 #[.int .u8 d,.int .u32 j] 28 ?_;intro l hg bl hbox hb;have n_:=qn4 (Qfn qq_b hb) (hbox) (qq_s hg:w.heap.size≤l) (qq_s hg:w.heap.size≤l);clear HB;obtain⟨HB,a,K,L⟩:=n_;clear hb hbox hg;obtain⟨aG,aH⟩:=qc2 a.out;have aZ:=Qdx a.out) |((with_reducible refine Qiu (f:=118) rfl ?_);refine Qgs (some 14) rfl rfl Tryz.func118 qq_6 rfl #[.agg #[.int .u8 d,.int .u32 j]] rfl qq_1 ?_;(with_reducible refine(Qap.calls d j n _ A3.out).mono ?_);rintro e bn ⟨rfl,hb⟩;refine⟨_,rfl,?_⟩;have n_:=qn2 (Qel (g:=l) (o:=.cells #[.int .u8 d,.int .u32 j] 28 (0,0)) qq_0 hb) (Qfn qq_b hb);clear a HB;obtain⟨a,HB⟩:=n_;(try clear hb);(try clear hb2);(try clear hk);(try clear hi)))
  go_ret3
  exact⟨_,_,by first|rfl |(simp[Qiz,Qja]<;>rfl) |(simp[*,Qiz,Qja]<;>rfl),by first|exact Kd.R_nil _ _ _ _ _|exact Kd.N_nil _ _ _ _ _|exact Kd.V_nil _ _ _ _ _|exact Kd.Q_nil _ _ _ _ _|exact Kd.S_nil _ _ _ _ _,by first|exact Kd.R_nil _ _ _ _ _|exact Kd.N_nil _ _ _ _ _|exact Kd.V_nil _ _ _ _ _|exact Kd.Q_nil _ _ _ _ _|exact Kd.S_nil _ _ _ _ _,qq_b⟩
end Go.Proofs.YteaocbonofboeaaGreat.C
end
