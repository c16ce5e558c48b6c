/- Merged texts. -/
import Derived.Test.YtnnofopfbeklbaaGreatML01
import Derived.Test.YtnnofopfbeklbaaGreatML07
import Derived.Test.YtnnofopfbeklbaaGreatML03
import Derived.Test.YtnnofopfbeklbaaGreatML06
import Derived.Test.YtnnofopfbeklbaaGreatML02
import Derived.Test.YtnnofopfbeklbaaGreatML04
import Derived.WalkLawsBesides
import Derived.Recover
import Derived.Defers
import Derived.Test.YtnnofopfbeklbaaGreatML05
set_option linter.unusedVariables false
set_option linter.unusedSimpArgs false
set_option maxHeartbeats 8000000
set_option maxRecDepth 100000
section
namespace Go.Proofs.YtnnofopfbeklbaaGreat.C
open Go.RowKit Go.Proofs.YtnnofopfbeklbaaGreatW.PrintWords Go.Proofs.YtnnofopfbeklbaaGreatW.PrintLast Go.Proofs.YtnnofopfbeklbaaGreatW.PrintMore
attribute [local go_sem] Qib Qic Qid Qie Qif Qig Qih Qii
def Qcg.l0:Nat→List Int→List Int→Int→Int→Int→Int→Int→Int→Int→Int→Int→Int→Int→Int→Int→Int→Option (List Int × Int)
 | 0,_,_,_,_,_,_,_,_,_,_,_,_,_,_,_,_=>none
 | k+1,x10,x29,x30,x31,x151000,x151001,x158000,x158001,x158002,x158003,x158004,x165000,x165001,x165002,x165003,x165004=>if x31<x30 then(if 0≤x31 then(if x31<(x29.length:Int)then((Qch.f x165000 x165001 x165002 x165003 x165004 (rd x29 x31)).bind fun t166=>(if t166=true then((Qch.f x158000 x158001 x158002 x158003 x158004 (rd x29 x31)).bind fun t167=>(if t167=true then((Qcj.f x158000 x158001 x158002 x158003 x158004 (rd x29 x31)).bind fun bt168=>(if x10.length<35184372088832 then(Qcg.l0 k (x10++[bt168.2.2.1]) x29 x30 (wrap64 (x31+1)) x151000 x151001 bt168.1 bt168.2.1 bt168.2.2.1 bt168.2.2.2.1 bt168.2.2.2.2.1 x165000 x165001 x165002 x165003 x165004)else(none)))else((Qcf.f x151000 x151001 ((x158002+1)%4294967296)).bind fun bt177=>(if bt177.2.2.2.2.2=0 then((Qcj.f bt177.1 bt177.2.1 bt177.2.2.1 bt177.2.2.2.1 bt177.2.2.2.2.1 (rd x29 x31)).bind fun bt183=>(if x10.length<35184372088832 then(Qcg.l0 k (x10++[bt183.2.2.1]) x29 x30 (wrap64 (x31+1)) x151000 x151001 bt183.1 bt183.2.1 bt183.2.2.1 bt183.2.2.2.1 bt183.2.2.2.2.1 x165000 x165001 x165002 x165003 x165004)else(none)))else(some (([]:List Int),7))))))else(some (([]:List Int),6))))else(none))else(none))else(some (x10,0))
def Qcg.f(k:Nat)(a0_0:Int)(a0_1:Int)(l1:List Int):Option (List Int × Int):=(Qcf.f a0_0 a0_1 0).bind fun bt151=>(if bt151.2.2.2.2.2=0 then((Qcf.f a0_0 a0_1 ((a0_1-1)%4294967296)).bind fun bt158=>(Qcg.l0 k ([]:List Int) l1 (l1.length:Int) 0 a0_0 a0_1 bt151.1 bt151.2.1 bt151.2.2.1 bt151.2.2.2.1 bt151.2.2.2.2.1 bt158.1 bt158.2.1 bt158.2.2.1 bt158.2.2.2.1 bt158.2.2.2.2.1))else(some (([]:List Int),bt151.2.2.2.2.2)))
theorem Qcg.calls (k:Nat) (q:Int) (j:Int) (A1:Option Addr) (c1:Nat) (l1:List Int) (r1:List Int) (r2:Int) (w:World) (hr1:Kd.C (Kd.int .i64) w A1 l1.length l1) (hc1:l1.length≤c1) (h:Qcg.f k q j l1=some (r1,r2)) :
  Calls Tryz.prog 125 #[.agg #[.int .u8 q,.int .u32 j],.slice A1 l1.length c1] w fun e w'=>∃bG:Value,e=.returned (.tuple #[bG,.int .i64 r2])∧Kd.R (Kd.int .u32) 22 w' w.heap.size (fun _=>True) bG r1∧Below w.heap.size w w':=by
 have hu27:=Tryz.underlying27;have hu47:=Tryz.underlying47;have aC:=QA hr1;have es:=QA hc1;clear hr1 hc1;have HB:=QA (Below.refl w.heap.size w);have H:((Qcf.f q j 0).bind fun bt151=>(if bt151.2.2.2.2.2=0 then((Qcf.f q j ((j-1)%4294967296)).bind fun bt158=>(Qcg.l0 k ([]:List Int) l1 (l1.length:Int) 0 q j bt151.1 bt151.2.1 bt151.2.2.1 bt151.2.2.2.1 bt151.2.2.2.2.1 bt158.1 bt158.2.1 bt158.2.2.1 bt158.2.2.2.1 bt158.2.2.2.2.1))else(some (([]:List Int),bt151.2.2.2.2.2))))=some (r1,r2):=h;clear h;replace H:=Option.bind_eq_some_iff.mp H;obtain⟨⟨Y,Z,aa,ab,ac,ad⟩,bH,H⟩:=H;replace H:(if ad=0 then((Qcf.f q j ((j-1)%4294967296)).bind fun bt158=>(Qcg.l0 k ([]:List Int) l1 (l1.length:Int) 0 q j Y Z aa ab ac bt158.1 bt158.2.1 bt158.2.2.1 bt158.2.2.2.1 bt158.2.2.2.2.1))else(some (([]:List Int),ad)))=some (r1,r2):=H;have A3:=QA bH;clear bH
 by_cases c4:ad=0
 ·rw [if_pos c4]at H;have bb:(ad == 0)=true:=beq_iff_eq.mpr c4;have bc:(ad != 0)=false:=bne_eq_false_iff_eq.mpr c4;clear c4;replace H:=Option.bind_eq_some_iff.mp H;obtain⟨⟨y,z,A,B,D,bK⟩,bI,H⟩:=H;replace H:(Qcg.l0 k ([]:List Int) l1 (l1.length:Int) 0 q j Y Z aa ab ac y z A B D)=some (r1,r2):=H;have A5:=QA bI;clear bI;have H':=QA H;clear H
  go_enter Tryz.func125,Tryz.ntmps125
  go_wp2_with (first |((with_reducible refine Qft (N:=2) rfl ?_);refine qq_e 2 #[.int .u8 q,.int .u32 j] 27 ?_;intro v hg w6 hbox hb;have n_:=qn4 (Qfj qq_b hb) (hbox) (qq_s hg:w.heap.size≤v) (qq_s hg:w.heap.size≤v);clear HB;obtain⟨HB,c,bo,bp⟩:=n_;clear hb hbox hg;obtain⟨bd,be⟩:=qc2 c.out;have bL:=Qdw c.out) |((with_reducible refine Qij (f:=52) rfl ?_);refine Qgm (some 15) rfl rfl Tryz.func52 qq_7 rfl #[.agg #[.int .u8 q,.int .u32 j],.int .u32 0] rfl qq_1 ?_;(with_reducible refine(Qcf.calls q j 0 Y Z aa ab ac ad _ A3.out).mono ?_);rintro e w8 ⟨rfl,hb⟩;refine⟨_,rfl,?_⟩;have n_:=qn2 (Qei (g:=v) (o:=.cells #[.int .u8 q,.int .u32 j] 27 (0,0)) qq_0 hb) (Qfj qq_b hb);clear c HB;obtain⟨c,HB⟩:=n_;(try clear hb);(try clear hb2);(try clear hk);(try clear hi)) |((with_reducible refine Qft (N:=6) rfl ?_);refine qq_e 6 #[.int .u8 0,.int .u32 0,.int .u32 0,.int .i64 0,.int .i64 0] 47 ?_;intro l hg w9 hbox hb;have n_:=qn7 (Qei (g:=v) (o:=.cells #[.int .u8 q,.int .u32 j] 27 (0,0)) qq_0 hb) (Qfj qq_b hb) (hbox) (qq_s hg:w.heap.size≤l) (qq_s hg:w.heap.size≤l) ((by rw[hg];exact Nat.ne_of_lt (Qdu (g:=v) (o:=.cells #[.int .u8 q,.int .u32 j] 27 (0,0)) qq_0):v≠l)) ((by rw[hg];exact Nat.ne_of_gt (Qdu (g:=v) (o:=.cells #[.int .u8 q,.int .u32 j] 27 (0,0)) qq_0):l≠v));clear c HB;obtain⟨c,HB,a,bq,br,O,P⟩:=n_;clear hb hbox hg;have dq:=P.out;have dr:=O.out;obtain⟨aM,aN,aQ,aR,aT⟩:=qc5 a.out;have bs:=Qdw a.out;obtain⟨aU,aV⟩:=qc2 c.out;have bu:=Qdw c.out) |((with_reducible refine Qij (f:=52) rfl ?_);refine Qgm (some 26) rfl rfl Tryz.func52 qq_7 rfl #[.agg #[.int .u8 q,.int .u32 j],.int .u32 ((j-1)%4294967296)] rfl qq_1 ?_;(with_reducible refine(Qcf.calls q j ((j-1)%4294967296) y z A B D bK _ A5.out).mono ?_);rintro e et ⟨rfl,hb⟩;refine⟨_,rfl,?_⟩;have n_:=qn3 (Qei (g:=v) (o:=.cells #[.int .u8 q,.int .u32 j] 27 (0,0)) qq_9 hb) (Qei (g:=l) (o:=.cells #[.int .u8 Y,.int .u32 Z,.int .u32 aa,.int .i64 ab,.int .i64 ac] 47 (0,0)) qq_x hb) (Qfj qq_b hb);clear c a HB;obtain⟨c,a,HB⟩:=n_;(try clear hb);(try clear hb2);(try clear hk);(try clear hi)) |((with_reducible refine Qft (N:=8) rfl ?_);refine qq_e 8 #[.int .u8 0,.int .u32 0,.int .u32 0,.int .i64 0,.int .i64 0] 47 ?_;intro E hg eu hbox hb;have n_:=qn10 (Qei (g:=v) (o:=.cells #[.int .u8 q,.int .u32 j] 27 (0,0)) qq_0 hb) (Qei (g:=l) (o:=.cells #[.int .u8 Y,.int .u32 Z,.int .u32 aa,.int .i64 ab,.int .i64 ac] 47 (0,0)) qq_0 hb) (Qfj qq_b hb) (hbox) (qq_s hg:w.heap.size≤E) (qq_s hg:w.heap.size≤E) ((by rw[hg];exact Nat.ne_of_lt (Qdu (g:=v) (o:=.cells #[.int .u8 q,.int .u32 j] 27 (0,0)) qq_0):v≠E)) ((by rw[hg];exact Nat.ne_of_gt (Qdu (g:=v) (o:=.cells #[.int .u8 q,.int .u32 j] 27 (0,0)) qq_0):E≠v)) ((by rw[hg];exact Nat.ne_of_lt (Qdu (g:=l) (o:=.cells #[.int .u8 Y,.int .u32 Z,.int .u32 aa,.int .i64 ab,.int .i64 ac] 47 (0,0)) qq_0):l≠E)) ((by rw[hg];exact Nat.ne_of_gt (Qdu (g:=l) (o:=.cells #[.int .u8 Y,.int .u32 Z,.int .u32 aa,.int .i64 ab,.int .i64 ac] 47 (0,0)) qq_0):E≠l));clear c a HB;obtain⟨c,a,HB,n,ds,dt,G,T,I,U⟩:=n_;clear hb hbox hg;have du:=T.out;have dv:=G.out;have dw:=U.out;have dx:=I.out;obtain⟨aW,aX,aY,aZ,ba⟩:=qc5 n.out;have bv:=Qdw n.out))
  go_loopg [10,31] k (fun kq dl dm w'=>∃(K:List Int) (m:Int) (r:Int) (s:Int) (d:Int) (t:Int) (u:Int),dm=.int .i64 m∧Aside0 (Qcg.l0 kq K l1 (l1.length:Int) m q j r s d t u y z A B D=some (r1,r2))∧Aside0 (kq≤k)∧Aside0 (Kd.R (Kd.int .u32) 22 w' w.heap.size (fun _=>True) dl K)∧Aside0 (w'.heap[v]? = some (.cells #[.int .u8 q,.int .u32 j] 27 (0,0)))∧Aside0 (w'.heap[l]? = some (.cells #[.int .u8 r,.int .u32 s,.int .u32 d,.int .i64 t,.int .i64 u] 47 (0,0)))∧Aside0 (w'.heap[E]? = some (.cells #[.int .u8 y,.int .u32 z,.int .u32 A,.int .i64 B,.int .i64 D] 47 (0,0)))∧Aside0 (Below w.heap.size w w'))
  case atStart=>exact⟨(([]:List Int)),(0),(Y),(Z),(aa),(ab),(ac),qq_4,H',⟨Nat.le_refl _⟩,⟨by first|exact Kd.R_nil _ _ _ _ _|exact Kd.N_nil _ _ _ _ _|exact Kd.V_nil _ _ _ _ _|exact Kd.Q_nil _ _ _ _ _|exact Kd.S_nil _ _ _ _ _⟩,⟨by(with_reducible repeat(first|apply Qeh|apply Qeg|apply Qef));refine Qdt ?_ G.out _;(with_reducible repeat(first|apply Qeh|apply Qeg|apply Qef));refine Qdt ?_ G.out _;(with_reducible repeat(first|apply Qeh|apply Qeg|apply Qef));refine Qdt ?_ G.out _;(with_reducible repeat(first|apply Qeh|apply Qeg|apply Qef));refine Qdt ?_ G.out _;(with_reducible repeat(first|apply Qeh|apply Qeg|apply Qef));refine Qdt ?_ G.out _;(with_reducible repeat(first|apply Qeh|apply Qeg|apply Qef));exact c.out⟩,⟨by(with_reducible repeat(first|apply Qeh|apply Qeg|apply Qef));refine Qdt ?_ I.out _;(with_reducible repeat(first|apply Qeh|apply Qeg|apply Qef));refine Qdt ?_ I.out _;(with_reducible repeat(first|apply Qeh|apply Qeg|apply Qef));refine Qdt ?_ I.out _;(with_reducible repeat(first|apply Qeh|apply Qeg|apply Qef));refine Qdt ?_ I.out _;(with_reducible repeat(first|apply Qeh|apply Qeg|apply Qef));refine Qdt ?_ I.out _;(with_reducible repeat(first|apply Qeh|apply Qeg|apply Qef));exact a.out⟩,⟨by(with_reducible repeat(first|apply Qeh|apply Qeg|apply Qef));refine Qfp (cs:=#[.int .u8 y,.int .u32 z,.int .u32 A,.int .i64 B,.int .i64 0]) ?_ 4 _ rfl;(with_reducible repeat(first|apply Qeh|apply Qeg|apply Qef));refine Qfp (cs:=#[.int .u8 y,.int .u32 z,.int .u32 A,.int .i64 0,.int .i64 0]) ?_ 3 _ rfl;(with_reducible repeat(first|apply Qeh|apply Qeg|apply Qef));refine Qfp (cs:=#[.int .u8 y,.int .u32 z,.int .u32 0,.int .i64 0,.int .i64 0]) ?_ 2 _ rfl;(with_reducible repeat(first|apply Qeh|apply Qeg|apply Qef));refine Qfp (cs:=#[.int .u8 y,.int .u32 0,.int .u32 0,.int .i64 0,.int .i64 0]) ?_ 1 _ rfl;(with_reducible repeat(first|apply Qeh|apply Qeg|apply Qef));refine Qfp (cs:=#[.int .u8 0,.int .u32 0,.int .u32 0,.int .i64 0,.int .i64 0]) ?_ 0 _ rfl;(with_reducible repeat(first|apply Qeh|apply Qeg|apply Qef));exact n.out⟩,⟨qq_b⟩⟩
  case round =>
   clear H'
   try clear c1
   try clear c4
   try clear bb
   try clear bc
   try clear aM
   try clear aN
   try clear aQ
   try clear aR
   try clear aT
   try clear aU
   try clear aV
   try clear aW
   try clear aX
   try clear aY
   try clear aZ
   try clear ba
   try clear bd
   try clear be
   try clear bs
   try clear bu
   try clear bv
   try clear bL
   obtain⟨K,m,r,s,d,t,u,rfl,HA,HK1,x,c,a,n,HB⟩:=hrel
   cases gk with
   | zero=>exact absurd HA.out (by simp[Qcg.l0])
   | succ k1 =>
    have H:=HA.out;clear HA;simp only[Qcg.l0]at H
    by_cases az:m<(l1.length:Int)
    ·rw [if_pos az]at H;have bw:=decide_eq_true az;clear az
     by_cases aD:0≤m
     ·rw [if_pos aD]at H;have dy:=decide_eq_true aD;clear aD
      by_cases aE:m<(l1.length:Int)
      ·rw [if_pos aE]at H;have dz:=decide_eq_true aE;clear aE;obtain⟨bM,bf,H⟩:=Option.bind_eq_some_iff.mp H;have aG:=QA bf;clear bf
       by_cases aH:bM=true
       ·subst aH;rw[if_pos rfl]at H;obtain⟨bN,bg,H⟩:=Option.bind_eq_some_iff.mp H;have bh:=QA bg;clear bg
        by_cases aI:bN=true
        ·subst aI;rw[if_pos rfl]at H;replace H:=Option.bind_eq_some_iff.mp H;obtain⟨⟨an,ao,W,ap,aq,bO⟩,bi,H⟩:=H;replace H:(if K.length<35184372088832 then(Qcg.l0 k1 (K++[W]) l1 (l1.length:Int) (wrap64 (m+1)) q j an ao W ap aq y z A B D)else(none))=some (r1,r2):=H;have dn:=QA bi;clear bi
         by_cases aJ:K.length<35184372088832
         ·rw[if_pos aJ]at H;have bx:=QA aJ;clear aJ;obtain⟨bj,al⟩:∃y_:List Int,y_=(K++[W]):=⟨_,rfl⟩;replace H:(Qcg.l0 k1 bj l1 (l1.length:Int) (wrap64 (m+1)) q j an ao W ap aq y z A B D)=some (r1,r2):=by first |(rw[al];with_reducible exact H) |(have ax:=(Option.bind_some _ _).symm.trans H;rw[al];with_reducible exact ax) |(have ax:=(Option.bind_some _ _).symm.trans H;with_reducible exact ax)|with_reducible exact H |(rw[al];exact H)|exact H
          have bz:=QA al;clear al;have H':=QA H;clear H;have L:0≤(m:Int):=of_decide_eq_true qq_3;have M:m<(l1.length:Int):=of_decide_eq_true qq_3;obtain⟨aA,af,J⟩:=Kd.at_int aC.out m L M
          cases af
          replace J:=qq_h HB.out J;replace L:=eq_true L;replace M:=eq_true M;have dA:=T.out;have dB:=G.out;have dC:=U.out;have dD:=I.out;obtain⟨bQ,bR,bS,bT,bU⟩:=qc5 n.out;have dE:=Qdw n.out
          go_wp2_with (first |((with_reducible refine Qij (f:=100) rfl ?_);refine Qgm (some 37) rfl rfl Tryz.func100 qq_7 rfl #[.agg #[.int .u8 y,.int .u32 z,.int .u32 A,.int .i64 B,.int .i64 D],.int .i64 (rd l1 m)] rfl qq_1 ?_;(with_reducible refine(Qch.calls y z A B D (rd l1 m) true _ aG.out).mono ?_);rintro e ev ⟨rfl,hb⟩;refine⟨_,rfl,?_⟩;have n_:=qn5 (Kd.R_below qq_8 hb) (Qei (g:=v) (o:=.cells #[.int .u8 q,.int .u32 j] 27 (0,0)) qq_0 hb) (Qei (g:=l) (o:=.cells #[.int .u8 r,.int .u32 s,.int .u32 d,.int .i64 t,.int .i64 u] 47 (0,0)) qq_0 hb) (Qei (g:=E) (o:=.cells #[.int .u8 y,.int .u32 z,.int .u32 A,.int .i64 B,.int .i64 D] 47 (0,0)) qq_0 hb) (Qfj qq_b hb);clear x c a n HB;obtain⟨x,c,a,n,HB⟩:=n_;(try clear hb);(try clear hb2);(try clear hk);(try clear hi);have dF:=P.out;have dG:=O.out;obtain⟨bV,bW,bX,bY,bZ⟩:=qc5 a.out;have dH:=Qdw a.out) |((with_reducible refine Qij (f:=100) rfl ?_);refine Qgm (some 41) rfl rfl Tryz.func100 qq_7 rfl #[.agg #[.int .u8 r,.int .u32 s,.int .u32 d,.int .i64 t,.int .i64 u],.int .i64 (rd l1 m)] rfl qq_1 ?_;(with_reducible refine(Qch.calls r s d t u (rd l1 m) true _ bh.out).mono ?_);rintro e ew ⟨rfl,hb⟩;refine⟨_,rfl,?_⟩;have n_:=qn5 (Kd.R_below qq_8 hb) (Qei (g:=v) (o:=.cells #[.int .u8 q,.int .u32 j] 27 (0,0)) qq_0 hb) (Qei (g:=l) (o:=.cells #[.int .u8 r,.int .u32 s,.int .u32 d,.int .i64 t,.int .i64 u] 47 (0,0)) qq_0 hb) (Qei (g:=E) (o:=.cells #[.int .u8 y,.int .u32 z,.int .u32 A,.int .i64 B,.int .i64 D] 47 (0,0)) qq_0 hb) (Qfj qq_b hb);clear x c a n HB;obtain⟨x,c,a,n,HB⟩:=n_;(try clear hb);(try clear hb2);(try clear hk);(try clear hi);obtain⟨b0,b1,b2,b3,b4⟩:=qc5 a.out;have dI:=Qdw a.out) |((with_reducible refine Qij (f:=59) rfl ?_);refine Qgm (some 56) rfl rfl Tryz.func59 qq_7 rfl #[.agg #[.int .u8 r,.int .u32 s,.int .u32 d,.int .i64 t,.int .i64 u],.int .i64 (rd l1 m)] rfl qq_1 ?_;(with_reducible refine(Qcj.calls r s d t u (rd l1 m) an ao W ap aq bO _ dn.out).mono ?_);rintro e ex ⟨rfl,hb⟩;refine⟨_,rfl,?_⟩;have n_:=qn5 (Kd.R_below qq_8 hb) (Qei (g:=v) (o:=.cells #[.int .u8 q,.int .u32 j] 27 (0,0)) qq_0 hb) (Qei (g:=l) (o:=.cells #[.int .u8 r,.int .u32 s,.int .u32 d,.int .i64 t,.int .i64 u] 47 (0,0)) qq_0 hb) (Qei (g:=E) (o:=.cells #[.int .u8 y,.int .u32 z,.int .u32 A,.int .i64 B,.int .i64 D] 47 (0,0)) qq_0 hb) (Qfj qq_b hb);clear x c a n HB;obtain⟨x,c,a,n,HB⟩:=n_;(try clear hb);(try clear hb2);(try clear hk);(try clear hi);obtain⟨b5,b6,b7,b8,b9⟩:=qc5 a.out;have dJ:=Qdw a.out) |((with_reducible refine Qik (b:=.append) (xs:=#[.tmp 59,.tmp 62]) rfl ?_);at_builtin;refine Kd.R_append (Kd.int .u32) (w0:=w) w.heap.size rfl (.tmp 59) (.tmp 62) 74 22 (.int .u32 0) 4 rfl Tryz.underlying74 Qir rfl (by decide) (by omega) u10 K W [.int .u32 W] (fun _=>True) (fun _=>False) rfl qq_18 ?aP (fun _ hk=>hk.elim) ?aF ?aO ?aB ?aS ?aL ?_;(case aP=>exact rfl);(case aB=>exact qq_b);(case aF=>exact(fun _ _=>trivial));(case aO=>exact(by(with_reducible repeat(first|apply Kd.R_alloc|apply Kd.R_drewN|apply Kd.R_drew));exact Kd.R_mono (Kd.R_far (p:=⟨l,4,none⟩) (Kd.R_far (p:=⟨l,3,none⟩) (Kd.R_far (p:=⟨l,2,none⟩) (Kd.R_far (p:=⟨l,1,none⟩) (Kd.R_far (p:=⟨l,0,none⟩) (Kd.R_types x.out a.out (by decide)) (fun _ hk=>hk.2) (.int .u8 an)) (fun _ hk=>hk.2) (.int .u32 ao)) (fun _ hk=>hk.2) (.int .u32 W)) (fun _ hk=>hk.2) (.int .i64 ap)) (fun _ hk=>hk.2) (.int .i64 aq)) (fun _ hk=>trivial)));(case aS=>exact(Qfi qq_b));(case aL=>have:=bx.out;omega);intro eq ey ho hb hg hat;rw[← bz.out]at ho;have n_:=qn5 (Qdx (g:=v) (o:=.cells #[.int .u8 q,.int .u32 j] 27 (0,0)) qq_9 hg (Kd.R_ne x.out c.out (by decide))) (Qdx (g:=l) (o:=.cells #[.int .u8 an,.int .u32 ao,.int .u32 W,.int .i64 ap,.int .i64 aq] 47 (0,0)) qq_x hg (Kd.R_ne x.out a.out (by decide))) (Qdx (g:=E) (o:=.cells #[.int .u8 y,.int .u32 z,.int .u32 A,.int .i64 B,.int .i64 D] 47 (0,0)) qq_9 hg (Kd.R_ne x.out n.out (by decide))) (hb) (ho);clear c a n HB x;obtain⟨c,a,n,HB,bA⟩:=n_;clear ho hb hg hat))
          go_roundg k1
          case measure=>have:=HK1.out;omega
          case rel=>exact⟨(bj),(wrap64 (m+1)),(an),(ao),(W),(ap),(aq),qq_4,H',⟨by have:=HK1.out;omega⟩,⟨by(with_reducible repeat(first|apply Kd.R_alloc|apply Kd.R_drewN|apply Kd.R_drew));exact bA.out⟩,⟨by(with_reducible repeat(first|apply Qeh|apply Qeg|apply Qef));exact c.out⟩,⟨by(with_reducible repeat(first|apply Qeh|apply Qeg|apply Qef));exact a.out⟩,⟨by(with_reducible repeat(first|apply Qeh|apply Qeg|apply Qef));exact n.out⟩,⟨qq_b⟩⟩
         ·rw[if_neg aJ]at H;exact absurd H (by simp)
        ·replace aI:=Bool.eq_false_iff.mpr aI;subst aI;rw[if_neg (show ¬(false=true)by decide)]at H;replace H:=Option.bind_eq_some_iff.mp H;obtain⟨⟨ag,ah,ai,aj,ak,ae⟩,bk,H⟩:=H;replace H:(if ae=0 then((Qcj.f ag ah ai aj ak (rd l1 m)).bind fun bt183=>(if K.length<35184372088832 then(Qcg.l0 k1 (K++[bt183.2.2.1]) l1 (l1.length:Int) (wrap64 (m+1)) q j bt183.1 bt183.2.1 bt183.2.2.1 bt183.2.2.2.1 bt183.2.2.2.2.1 y z A B D)else(none)))else(some (([]:List Int),7)))=some (r1,r2):=H;have bJ:=QA bk;clear bk
         by_cases ay:ae=0
         ·rw[if_pos ay]at H;have bB:(ae == 0)=true:=beq_iff_eq.mpr ay;have bC:(ae != 0)=false:=bne_eq_false_iff_eq.mpr ay;clear ay;replace H:=Option.bind_eq_some_iff.mp H;obtain⟨⟨ar,au,X,av,aw,bP⟩,bl,H⟩:=H;replace H:(if K.length<35184372088832 then(Qcg.l0 k1 (K++[X]) l1 (l1.length:Int) (wrap64 (m+1)) q j ar au X av aw y z A B D)else(none))=some (r1,r2):=H;have dp:=QA bl;clear bl
          by_cases aK:K.length<35184372088832
          ·rw[if_pos aK]at H;have bD:=QA aK;clear aK;obtain⟨bn,am⟩:∃y_:List Int,y_=(K++[X]):=⟨_,rfl⟩;replace H:(Qcg.l0 k1 bn l1 (l1.length:Int) (wrap64 (m+1)) q j ar au X av aw y z A B D)=some (r1,r2):=by first |(rw[am];with_reducible exact H) |(have ax:=(Option.bind_some _ _).symm.trans H;rw[am];with_reducible exact ax) |(have ax:=(Option.bind_some _ _).symm.trans H;with_reducible exact ax)|with_reducible exact H |(rw[am];exact H)|exact H
           have bE:=QA am;clear am;have H':=QA H;clear H;have L:0≤(m:Int):=of_decide_eq_true qq_3;have M:m<(l1.length:Int):=of_decide_eq_true qq_3;obtain⟨aA,af,J⟩:=Kd.at_int aC.out m L M
           cases af
           replace J:=qq_h HB.out J;replace L:=eq_true L;replace M:=eq_true M;have dK:=T.out;have dL:=G.out;have dM:=U.out;have dN:=I.out;obtain⟨ca,cb,cc,cd,ce⟩:=qc5 n.out;have dO:=Qdw n.out
           go_wp2_with (first |((with_reducible refine Qij (f:=100) rfl ?_);refine Qgm (some 37) rfl rfl Tryz.func100 qq_7 rfl #[.agg #[.int .u8 y,.int .u32 z,.int .u32 A,.int .i64 B,.int .i64 D],.int .i64 (rd l1 m)] rfl qq_1 ?_;(with_reducible refine(Qch.calls y z A B D (rd l1 m) true _ aG.out).mono ?_);rintro e ez ⟨rfl,hb⟩;refine⟨_,rfl,?_⟩;have n_:=qn5 (Kd.R_below qq_8 hb) (Qei (g:=v) (o:=.cells #[.int .u8 q,.int .u32 j] 27 (0,0)) qq_0 hb) (Qei (g:=l) (o:=.cells #[.int .u8 r,.int .u32 s,.int .u32 d,.int .i64 t,.int .i64 u] 47 (0,0)) qq_0 hb) (Qei (g:=E) (o:=.cells #[.int .u8 y,.int .u32 z,.int .u32 A,.int .i64 B,.int .i64 D] 47 (0,0)) qq_0 hb) (Qfj qq_b hb);clear x c a n HB;obtain⟨x,c,a,n,HB⟩:=n_;(try clear hb);(try clear hb2);(try clear hk);(try clear hi);have dP:=P.out;have dQ:=O.out;obtain⟨cf,cg,ch,cj,ck⟩:=qc5 a.out;have dR:=Qdw a.out) |((with_reducible refine Qij (f:=100) rfl ?_);refine Qgm (some 41) rfl rfl Tryz.func100 qq_7 rfl #[.agg #[.int .u8 r,.int .u32 s,.int .u32 d,.int .i64 t,.int .i64 u],.int .i64 (rd l1 m)] rfl qq_1 ?_;(with_reducible refine(Qch.calls r s d t u (rd l1 m) false _ bh.out).mono ?_);rintro e eA ⟨rfl,hb⟩;refine⟨_,rfl,?_⟩;have n_:=qn5 (Kd.R_below qq_8 hb) (Qei (g:=v) (o:=.cells #[.int .u8 q,.int .u32 j] 27 (0,0)) qq_0 hb) (Qei (g:=l) (o:=.cells #[.int .u8 r,.int .u32 s,.int .u32 d,.int .i64 t,.int .i64 u] 47 (0,0)) qq_0 hb) (Qei (g:=E) (o:=.cells #[.int .u8 y,.int .u32 z,.int .u32 A,.int .i64 B,.int .i64 D] 47 (0,0)) qq_0 hb) (Qfj qq_b hb);clear x c a n HB;obtain⟨x,c,a,n,HB⟩:=n_;(try clear hb);(try clear hb2);(try clear hk);(try clear hi);obtain⟨cl,cm⟩:=qc2 c.out;have dS:=Qdw c.out;obtain⟨cn,co,cp,cq,cr⟩:=qc5 a.out;have dT:=Qdw a.out) |((with_reducible refine Qij (f:=52) rfl ?_);refine Qgm (some 48) rfl rfl Tryz.func52 qq_7 rfl #[.agg #[.int .u8 q,.int .u32 j],.int .u32 ((d+1)%4294967296)] rfl qq_1 ?_;(with_reducible refine(Qcf.calls q j ((d+1)%4294967296) ag ah ai aj ak ae _ bJ.out).mono ?_);rintro e eB ⟨rfl,hb⟩;refine⟨_,rfl,?_⟩;have n_:=qn5 (Kd.R_below qq_8 hb) (Qei (g:=v) (o:=.cells #[.int .u8 q,.int .u32 j] 27 (0,0)) qq_0 hb) (Qei (g:=l) (o:=.cells #[.int .u8 r,.int .u32 s,.int .u32 d,.int .i64 t,.int .i64 u] 47 (0,0)) qq_0 hb) (Qei (g:=E) (o:=.cells #[.int .u8 y,.int .u32 z,.int .u32 A,.int .i64 B,.int .i64 D] 47 (0,0)) qq_0 hb) (Qfj qq_b hb);clear x c a n HB;obtain⟨x,c,a,n,HB⟩:=n_;(try clear hb);(try clear hb2);(try clear hk);(try clear hi);obtain⟨ct,cu,cv,cw,cx⟩:=qc5 a.out;have dU:=Qdw a.out) |((with_reducible refine Qij (f:=59) rfl ?_);refine Qgm (some 56) rfl rfl Tryz.func59 qq_7 rfl #[.agg #[.int .u8 ag,.int .u32 ah,.int .u32 ai,.int .i64 aj,.int .i64 ak],.int .i64 (rd l1 m)] rfl qq_1 ?_;(with_reducible refine(Qcj.calls ag ah ai aj ak (rd l1 m) ar au X av aw bP _ dp.out).mono ?_);rintro e eC ⟨rfl,hb⟩;refine⟨_,rfl,?_⟩;have n_:=qn5 (Kd.R_below (by(with_reducible repeat(first|apply Kd.R_alloc|apply Kd.R_drewN|apply Kd.R_drew));exact(Kd.R_mono (Kd.R_far (p:=⟨l,4,none⟩) (Kd.R_far (p:=⟨l,3,none⟩) (Kd.R_far (p:=⟨l,2,none⟩) (Kd.R_far (p:=⟨l,1,none⟩) (Kd.R_far (p:=⟨l,0,none⟩) (Kd.R_types x.out a.out (by decide)) (fun _ hk=>hk.2) (.int .u8 ag)) (fun _ hk=>hk.2) (.int .u32 ah)) (fun _ hk=>hk.2) (.int .u32 ai)) (fun _ hk=>hk.2) (.int .i64 aj)) (fun _ hk=>hk.2) (.int .i64 ak)) (fun _ h_=>h_.1))) hb) (Qei (g:=v) (o:=.cells #[.int .u8 q,.int .u32 j] 27 (0,0)) qq_9 hb) (Qei (g:=l) (o:=.cells #[.int .u8 ag,.int .u32 ah,.int .u32 ai,.int .i64 aj,.int .i64 ak] 47 (0,0)) qq_x hb) (Qei (g:=E) (o:=.cells #[.int .u8 y,.int .u32 z,.int .u32 A,.int .i64 B,.int .i64 D] 47 (0,0)) qq_9 hb) (Qfj qq_b hb);clear x c a n HB;obtain⟨x,c,a,n,HB⟩:=n_;(try clear hb);(try clear hb2);(try clear hk);(try clear hi);obtain⟨cy,cz,cA,cB,cC⟩:=qc5 a.out;have dV:=Qdw a.out) |((with_reducible refine Qik (b:=.append) (xs:=#[.tmp 59,.tmp 62]) rfl ?_);at_builtin;refine Kd.R_append (Kd.int .u32) (w0:=w) w.heap.size rfl (.tmp 59) (.tmp 62) 74 22 (.int .u32 0) 4 rfl Tryz.underlying74 Qir rfl (by decide) (by omega) u10 K X [.int .u32 X] (fun _=>True) (fun _=>False) rfl qq_18 ?aP (fun _ hk=>hk.elim) ?aF ?aO ?aB ?aS ?aL ?_;(case aP=>exact rfl);(case aB=>exact qq_b);(case aF=>exact(fun _ _=>trivial));(case aO=>exact(by(with_reducible repeat(first|apply Kd.R_alloc|apply Kd.R_drewN|apply Kd.R_drew));exact Kd.R_mono (Kd.R_far (p:=⟨l,4,none⟩) (Kd.R_far (p:=⟨l,3,none⟩) (Kd.R_far (p:=⟨l,2,none⟩) (Kd.R_far (p:=⟨l,1,none⟩) (Kd.R_far (p:=⟨l,0,none⟩) (Kd.R_types x.out a.out (by decide)) (fun _ hk=>hk.2) (.int .u8 ar)) (fun _ hk=>hk.2) (.int .u32 au)) (fun _ hk=>hk.2) (.int .u32 X)) (fun _ hk=>hk.2) (.int .i64 av)) (fun _ hk=>hk.2) (.int .i64 aw)) (fun _ hk=>trivial)));(case aS=>exact(Qfi qq_b));(case aL=>have:=bD.out;omega);intro er eD ho hb hg hat;rw[← bE.out]at ho;have n_:=qn5 (Qdx (g:=v) (o:=.cells #[.int .u8 q,.int .u32 j] 27 (0,0)) qq_9 hg (Kd.R_ne x.out c.out (by decide))) (Qdx (g:=l) (o:=.cells #[.int .u8 ar,.int .u32 au,.int .u32 X,.int .i64 av,.int .i64 aw] 47 (0,0)) qq_x hg (Kd.R_ne x.out a.out (by decide))) (Qdx (g:=E) (o:=.cells #[.int .u8 y,.int .u32 z,.int .u32 A,.int .i64 B,.int .i64 D] 47 (0,0)) qq_9 hg (Kd.R_ne x.out n.out (by decide))) (hb) (ho);clear c a n HB x;obtain⟨c,a,n,HB,bF⟩:=n_;clear ho hb hg hat))
           go_roundg k1
           case measure=>have:=HK1.out;omega
           case rel=>exact⟨(bn),(wrap64 (m+1)),(ar),(au),(X),(av),(aw),qq_4,H',⟨by have:=HK1.out;omega⟩,⟨by(with_reducible repeat(first|apply Kd.R_alloc|apply Kd.R_drewN|apply Kd.R_drew));exact bF.out⟩,⟨by(with_reducible repeat(first|apply Qeh|apply Qeg|apply Qef));exact c.out⟩,⟨by(with_reducible repeat(first|apply Qeh|apply Qeg|apply Qef));exact a.out⟩,⟨by(with_reducible repeat(first|apply Qeh|apply Qeg|apply Qef));exact n.out⟩,⟨qq_b⟩⟩
          ·rw[if_neg aK]at H;exact absurd H (by simp)
         ·rw[if_neg ay]at H;have bB:(ae == 0)=false:=beq_eq_false_iff_ne.mpr ay;have bC:(ae != 0)=true:=bne_iff_ne.mpr ay;simp only[Option.some.injEq,Prod.mk.injEq]at H;obtain⟨rfl,rfl⟩:=H;have L:0≤(m:Int):=of_decide_eq_true qq_3;have M:m<(l1.length:Int):=of_decide_eq_true qq_3;obtain⟨aA,af,J⟩:=Kd.at_int aC.out m L M
          cases af
          replace J:=qq_h HB.out J;replace L:=eq_true L;replace M:=eq_true M;have dW:=T.out;have dX:=G.out;have dY:=U.out;have dZ:=I.out;obtain⟨cD,cE,cF,cG,cH⟩:=qc5 n.out;have ea:=Qdw n.out
          go_wp2_with (first |((with_reducible refine Qij (f:=100) rfl ?_);refine Qgm (some 37) rfl rfl Tryz.func100 qq_7 rfl #[.agg #[.int .u8 y,.int .u32 z,.int .u32 A,.int .i64 B,.int .i64 D],.int .i64 (rd l1 m)] rfl qq_1 ?_;(with_reducible refine(Qch.calls y z A B D (rd l1 m) true _ aG.out).mono ?_);rintro e eE ⟨rfl,hb⟩;refine⟨_,rfl,?_⟩;have n_:=qn5 (Kd.R_below qq_8 hb) (Qei (g:=v) (o:=.cells #[.int .u8 q,.int .u32 j] 27 (0,0)) qq_0 hb) (Qei (g:=l) (o:=.cells #[.int .u8 r,.int .u32 s,.int .u32 d,.int .i64 t,.int .i64 u] 47 (0,0)) qq_0 hb) (Qei (g:=E) (o:=.cells #[.int .u8 y,.int .u32 z,.int .u32 A,.int .i64 B,.int .i64 D] 47 (0,0)) qq_0 hb) (Qfj qq_b hb);clear x c a n HB;obtain⟨x,c,a,n,HB⟩:=n_;(try clear hb);(try clear hb2);(try clear hk);(try clear hi);have eb:=P.out;have ec:=O.out;obtain⟨cI,cJ,cK,cL,cM⟩:=qc5 a.out;have ed:=Qdw a.out) |((with_reducible refine Qij (f:=100) rfl ?_);refine Qgm (some 41) rfl rfl Tryz.func100 qq_7 rfl #[.agg #[.int .u8 r,.int .u32 s,.int .u32 d,.int .i64 t,.int .i64 u],.int .i64 (rd l1 m)] rfl qq_1 ?_;(with_reducible refine(Qch.calls r s d t u (rd l1 m) false _ bh.out).mono ?_);rintro e eF ⟨rfl,hb⟩;refine⟨_,rfl,?_⟩;have n_:=qn5 (Kd.R_below qq_8 hb) (Qei (g:=v) (o:=.cells #[.int .u8 q,.int .u32 j] 27 (0,0)) qq_0 hb) (Qei (g:=l) (o:=.cells #[.int .u8 r,.int .u32 s,.int .u32 d,.int .i64 t,.int .i64 u] 47 (0,0)) qq_0 hb) (Qei (g:=E) (o:=.cells #[.int .u8 y,.int .u32 z,.int .u32 A,.int .i64 B,.int .i64 D] 47 (0,0)) qq_0 hb) (Qfj qq_b hb);clear x c a n HB;obtain⟨x,c,a,n,HB⟩:=n_;(try clear hb);(try clear hb2);(try clear hk);(try clear hi);obtain⟨cN,cO⟩:=qc2 c.out;have ee:=Qdw c.out;obtain⟨cP,cQ,cR,cS,cT⟩:=qc5 a.out;have ef:=Qdw a.out) |((with_reducible refine Qij (f:=52) rfl ?_);refine Qgm (some 48) rfl rfl Tryz.func52 qq_7 rfl #[.agg #[.int .u8 q,.int .u32 j],.int .u32 ((d+1)%4294967296)] rfl qq_1 ?_;(with_reducible refine(Qcf.calls q j ((d+1)%4294967296) ag ah ai aj ak ae _ bJ.out).mono ?_);rintro e eG ⟨rfl,hb⟩;refine⟨_,rfl,?_⟩;have n_:=qn5 (Kd.R_below qq_8 hb) (Qei (g:=v) (o:=.cells #[.int .u8 q,.int .u32 j] 27 (0,0)) qq_0 hb) (Qei (g:=l) (o:=.cells #[.int .u8 r,.int .u32 s,.int .u32 d,.int .i64 t,.int .i64 u] 47 (0,0)) qq_0 hb) (Qei (g:=E) (o:=.cells #[.int .u8 y,.int .u32 z,.int .u32 A,.int .i64 B,.int .i64 D] 47 (0,0)) qq_0 hb) (Qfj qq_b hb);clear x c a n HB;obtain⟨x,c,a,n,HB⟩:=n_;(try clear hb);(try clear hb2);(try clear hk);(try clear hi);obtain⟨cU,cV,cW,cX,cY⟩:=qc5 a.out;have eg:=Qdw a.out))
          go_ret2
          exact⟨_,by first|rfl |(simp[Qio,Qip]<;>rfl) |(simp[*,Qio,Qip]<;>rfl),by first|exact Kd.R_nil _ _ _ _ _|exact Kd.N_nil _ _ _ _ _|exact Kd.V_nil _ _ _ _ _|exact Kd.Q_nil _ _ _ _ _|exact Kd.S_nil _ _ _ _ _,qq_b⟩
       ·replace aH:=Bool.eq_false_iff.mpr aH;subst aH;rw[if_neg (show ¬(false=true)by decide)]at H;simp only[Option.some.injEq,Prod.mk.injEq]at H;obtain⟨rfl,rfl⟩:=H;have L:0≤(m:Int):=of_decide_eq_true qq_3;have M:m<(l1.length:Int):=of_decide_eq_true qq_3;obtain⟨aA,af,J⟩:=Kd.at_int aC.out m L M
        cases af
        replace J:=qq_h HB.out J;replace L:=eq_true L;replace M:=eq_true M;have eh:=T.out;have ei:=G.out;have ej:=U.out;have ek:=I.out;obtain⟨cZ,da,db,dc,dd⟩:=qc5 n.out;have el:=Qdw n.out
        go_wp2_with (first |((with_reducible refine Qij (f:=100) rfl ?_);refine Qgm (some 37) rfl rfl Tryz.func100 qq_7 rfl #[.agg #[.int .u8 y,.int .u32 z,.int .u32 A,.int .i64 B,.int .i64 D],.int .i64 (rd l1 m)] rfl qq_1 ?_;(with_reducible refine(Qch.calls y z A B D (rd l1 m) false _ aG.out).mono ?_);rintro e eH ⟨rfl,hb⟩;refine⟨_,rfl,?_⟩;have n_:=qn5 (Kd.R_below qq_8 hb) (Qei (g:=v) (o:=.cells #[.int .u8 q,.int .u32 j] 27 (0,0)) qq_0 hb) (Qei (g:=l) (o:=.cells #[.int .u8 r,.int .u32 s,.int .u32 d,.int .i64 t,.int .i64 u] 47 (0,0)) qq_0 hb) (Qei (g:=E) (o:=.cells #[.int .u8 y,.int .u32 z,.int .u32 A,.int .i64 B,.int .i64 D] 47 (0,0)) qq_0 hb) (Qfj qq_b hb);clear x c a n HB;obtain⟨x,c,a,n,HB⟩:=n_;(try clear hb);(try clear hb2);(try clear hk);(try clear hi)))
        go_ret2
        exact⟨_,by first|rfl |(simp[Qio,Qip]<;>rfl) |(simp[*,Qio,Qip]<;>rfl),by first|exact Kd.R_nil _ _ _ _ _|exact Kd.N_nil _ _ _ _ _|exact Kd.V_nil _ _ _ _ _|exact Kd.Q_nil _ _ _ _ _|exact Kd.S_nil _ _ _ _ _,qq_b⟩
      ·rw[if_neg aE]at H;exact absurd H (by simp)
     ·rw[if_neg aD]at H;exact absurd H (by simp)
    ·rw[if_neg az]at H;have bw:=decide_eq_false az;clear az;simp only[Option.some.injEq,Prod.mk.injEq]at H;obtain⟨rfl,rfl⟩:=H;go_wp2
     go_ret2
     exact⟨_,by first|rfl |(simp[Qio,Qip]<;>rfl) |(simp[*,Qio,Qip]<;>rfl),by(with_reducible repeat(first|apply Kd.R_alloc|apply Kd.R_drewN|apply Kd.R_drew));exact x.out,qq_b⟩
 ·rw[if_neg c4]at H;have bb:(ad == 0)=false:=beq_eq_false_iff_ne.mpr c4;have bc:(ad != 0)=true:=bne_iff_ne.mpr c4;simp only[Option.some.injEq,Prod.mk.injEq]at H;obtain⟨rfl,rfl⟩:=H
  go_enter Tryz.func125,Tryz.ntmps125
  go_wp2_with (first |((with_reducible refine Qft (N:=2) rfl ?_);refine qq_e 2 #[.int .u8 q,.int .u32 j] 27 ?_;intro v hg eI hbox hb;have n_:=qn4 (Qfj qq_b hb) (hbox) (qq_s hg:w.heap.size≤v) (qq_s hg:w.heap.size≤v);clear HB;obtain⟨HB,c,bo,bp⟩:=n_;clear hb hbox hg;obtain⟨de,df⟩:=qc2 c.out;have em:=Qdw c.out) |((with_reducible refine Qij (f:=52) rfl ?_);refine Qgm (some 15) rfl rfl Tryz.func52 qq_7 rfl #[.agg #[.int .u8 q,.int .u32 j],.int .u32 0] rfl qq_1 ?_;(with_reducible refine(Qcf.calls q j 0 Y Z aa ab ac ad _ A3.out).mono ?_);rintro e eJ ⟨rfl,hb⟩;refine⟨_,rfl,?_⟩;have n_:=qn2 (Qei (g:=v) (o:=.cells #[.int .u8 q,.int .u32 j] 27 (0,0)) qq_0 hb) (Qfj qq_b hb);clear c HB;obtain⟨c,HB⟩:=n_;(try clear hb);(try clear hb2);(try clear hk);(try clear hi)) |((with_reducible refine Qft (N:=6) rfl ?_);refine qq_e 6 #[.int .u8 0,.int .u32 0,.int .u32 0,.int .i64 0,.int .i64 0] 47 ?_;intro l hg eK hbox hb;have n_:=qn7 (Qei (g:=v) (o:=.cells #[.int .u8 q,.int .u32 j] 27 (0,0)) qq_0 hb) (Qfj qq_b hb) (hbox) (qq_s hg:w.heap.size≤l) (qq_s hg:w.heap.size≤l) ((by rw[hg];exact Nat.ne_of_lt (Qdu (g:=v) (o:=.cells #[.int .u8 q,.int .u32 j] 27 (0,0)) qq_0):v≠l)) ((by rw[hg];exact Nat.ne_of_gt (Qdu (g:=v) (o:=.cells #[.int .u8 q,.int .u32 j] 27 (0,0)) qq_0):l≠v));clear c HB;obtain⟨c,HB,a,bq,br,O,P⟩:=n_;clear hb hbox hg;have en:=P.out;have eo:=O.out;obtain⟨dg,dh,di,dj,dk⟩:=qc5 a.out;have ep:=Qdw a.out))
  go_ret2
  exact⟨_,by first|rfl |(simp[Qio,Qip]<;>rfl) |(simp[*,Qio,Qip]<;>rfl),by first|exact Kd.R_nil _ _ _ _ _|exact Kd.N_nil _ _ _ _ _|exact Kd.V_nil _ _ _ _ _|exact Kd.Q_nil _ _ _ _ _|exact Kd.S_nil _ _ _ _ _,qq_b⟩
def Qbz.f(a0_0:Bool)(a0_1:Int)(a0_2:ByteArray)(a0_3:ByteArray):Option (List Int × Int):=(Qcl.f a0_0 a0_1 a0_2 a0_3).bind fun bt118=>(if bt118.2=0 then((Qca.f bt118.1).bind fun t122=>(some (t122,0)))else(some (([]:List Int),bt118.2)))
theorem Qbz.calls(b:Bool)(c:Int)(d:ByteArray)(j:ByteArray)(r1:List Int)(r2:Int)(w:World)(h:Qbz.f b c d j=some (r1,r2)) :
  Calls Tryz.prog 57 #[.agg #[.bool b,.int .u64 c,.string d,.string j]] w fun e w'=>∃u:Value,e=.returned (.tuple #[u,.int .i64 r2])∧Kd.R (Kd.int .u8) 5 w' w.heap.size (fun _=>True) u r1∧Below w.heap.size w w':=by
 have hu39:=Tryz.underlying39;have HB:=QA (Below.refl w.heap.size w);have H:((Qcl.f b c d j).bind fun bt118=>(if bt118.2=0 then((Qca.f bt118.1).bind fun p=>(some (p,0)))else(some (([]:List Int),bt118.2))))=some (r1,r2):=h;clear h;replace H:=Option.bind_eq_some_iff.mp H;obtain⟨⟨q,l⟩,v,H⟩:=H;replace H:(if l=0 then((Qca.f q).bind fun p=>(some (p,0)))else(some (([]:List Int),l)))=some (r1,r2):=H;have A2:=QA v;clear v
 by_cases c3:l=0
 ·rw[if_pos c3]at H;have y:(l == 0)=true:=beq_iff_eq.mpr c3;have z:(l != 0)=false:=bne_eq_false_iff_eq.mpr c3;clear c3;obtain⟨p,x,H⟩:=Option.bind_eq_some_iff.mp H;have A4:=QA x;clear x;simp only[Option.some.injEq,Prod.mk.injEq]at H;obtain⟨rfl,rfl⟩:=H
  go_enter Tryz.func57,Tryz.ntmps57
  go_wp2_with (first |((with_reducible refine Qft (N:=1) rfl ?_);refine qq_e 1 #[.bool b,.int .u64 c,.string d,.string j] 39 ?_;intro k hg w5 hbox hb;have n_:=qn4 (Qfj qq_b hb) (hbox) (qq_s hg:w.heap.size≤k) (qq_s hg:w.heap.size≤k);clear HB;obtain⟨HB,a,r,s⟩:=n_;clear hb hbox hg;obtain⟨I,J,K,L⟩:=qc4 a.out;have O:=Qdw a.out) |((with_reducible refine Qij (f:=99) rfl ?_);refine Qgm (some 8) rfl rfl Tryz.func99 qq_7 rfl #[.agg #[.bool b,.int .u64 c,.string d,.string j]] rfl qq_1 ?_;(with_reducible refine(Qcl.calls b c d j q l _ A2.out).mono ?_);rintro e w7 ⟨A,rfl,n,hb⟩;refine⟨_,rfl,?_⟩;have n_:=qn3 (Kd.R_lower n (Qfi qq_b)) (Qei (g:=k) (o:=.cells #[.bool b,.int .u64 c,.string d,.string j] 39 (0,0)) qq_0 hb) (Qfj qq_b hb);clear a HB;obtain⟨m,a,HB⟩:=n_;(try clear hb);(try clear hb2);(try clear hk);(try clear hi);(try clear n);obtain⟨Ao8,co8,eo8⟩:=Kd.R_slice m.out;subst eo8) |((with_reducible refine Qij (f:=96) rfl ?_);refine Qgm (some 15) rfl rfl Tryz.func96 qq_7 rfl #[.slice Ao8 q.length co8] rfl qq_1 ?_;(with_reducible refine(Qca.calls _ _ q p _ ?side1 ?side2 A4.out).mono ?_);(case side1=>repeat(first|exact(Kd.R_reads' m.out).2.2 |(with_reducible refine Kd.C_alloc ?_ _) |(with_reducible refine Kd.C_drewN ?_ _) |(with_reducible refine Kd.C_drew ?_)));(case side2=>exact(Kd.R_reads' m.out).2.1);rintro e w9 ⟨P,rfl,n,hb⟩;refine⟨_,rfl,?_⟩;have n_:=qn4 (Kd.R_elder' qq_8 (Kd.R_base n) hb) (Kd.R_lower (Kd.R_new' n (Kd.R_lt qq_8)) (Qfi qq_b)) (Qei (g:=k) (o:=.cells #[.bool b,.int .u64 c,.string d,.string j] 39 (0,0)) qq_0 hb) (Qfj qq_b hb);clear m a HB;obtain⟨m,t,a,HB⟩:=n_;(try clear hb);(try clear hb2);(try clear hk);(try clear hi);(try clear n)))
  go_ret2
  exact⟨_,by first|rfl |(simp[Qio,Qip]<;>rfl) |(simp[*,Qio,Qip]<;>rfl),by(with_reducible repeat(first|apply Kd.R_alloc|apply Kd.R_drewN|apply Kd.R_drew));exact Kd.R_mono t.out (fun _ hk=>trivial),qq_b⟩
 ·rw[if_neg c3]at H;have y:(l == 0)=false:=beq_eq_false_iff_ne.mpr c3;have z:(l != 0)=true:=bne_iff_ne.mpr c3;simp only[Option.some.injEq,Prod.mk.injEq]at H;obtain⟨rfl,rfl⟩:=H
  go_enter Tryz.func57,Tryz.ntmps57
  go_wp2_with (first |((with_reducible refine Qft (N:=1) rfl ?_);refine qq_e 1 #[.bool b,.int .u64 c,.string d,.string j] 39 ?_;intro k hg T hbox hb;have n_:=qn4 (Qfj qq_b hb) (hbox) (qq_s hg:w.heap.size≤k) (qq_s hg:w.heap.size≤k);clear HB;obtain⟨HB,a,r,s⟩:=n_;clear hb hbox hg;obtain⟨B,D,E,G⟩:=qc4 a.out;have M:=Qdw a.out) |((with_reducible refine Qij (f:=99) rfl ?_);refine Qgm (some 8) rfl rfl Tryz.func99 qq_7 rfl #[.agg #[.bool b,.int .u64 c,.string d,.string j]] rfl qq_1 ?_;(with_reducible refine(Qcl.calls b c d j q l _ A2.out).mono ?_);rintro e U ⟨A,rfl,n,hb⟩;refine⟨_,rfl,?_⟩;have n_:=qn3 (Kd.R_lower n (Qfi qq_b)) (Qei (g:=k) (o:=.cells #[.bool b,.int .u64 c,.string d,.string j] 39 (0,0)) qq_0 hb) (Qfj qq_b hb);clear a HB;obtain⟨m,a,HB⟩:=n_;(try clear hb);(try clear hb2);(try clear hk);(try clear hi);(try clear n)))
  go_ret2
  exact⟨_,by first|rfl |(simp[Qio,Qip]<;>rfl) |(simp[*,Qio,Qip]<;>rfl),by first|exact Kd.R_nil _ _ _ _ _|exact Kd.N_nil _ _ _ _ _|exact Kd.V_nil _ _ _ _ _|exact Kd.Q_nil _ _ _ _ _|exact Kd.S_nil _ _ _ _ _,qq_b⟩
def Qce.l0:Nat→List Int→List (S39)→Int→Int→Int→Int→Option (List Int × List Int × Int)
 | 0,_,_,_,_,_,_=>none
 | k+1,x5,x23,x24,x25,x193000,x193001=>if x25<x24 then(if 0≤x25 then(if x25<(x23.length:Int)then((Qbz.f ((Qiu x23 x25).f0) ((Qiu x23 x25).f1) ((Qiu x23 x25).f2) ((Qiu x23 x25).f3)).bind fun bt197=>(if x5.length<17592186044416 then(Qce.l0 k (x5++[(bt197.1.length:Int)]) x23 x24 (wrap64 (x25+1)) x193000 x193001)else(none)))else(none))else(none))else((Qcg.f k x193000 x193001 x5).bind fun bt204=>(some (bt204.1,x5,bt204.2)))
def Qce.f(k:Nat)(a0_0:Int)(a0_1:Int)(l1:List (S39)):Option (List Int × List Int × Int):=(Qan.f a0_0 a0_1).bind fun t193=>(if t193=0 then((Qco.f k l1).bind fun t194=>(if t194=0 then(Qce.l0 k ([]:List Int) l1 (l1.length:Int) 0 a0_0 a0_1)else(some (([]:List Int),([]:List Int),t194))))else(some (([]:List Int),([]:List Int),t193)))
theorem Qce.calls (k:Nat) (d:Int) (j:Int) (A1:Option Addr) (c1:Nat) (l1:List (S39)) (r1:List Int) (r2:List Int) (r3:Int) (w:World) (hr1:Kd.C k39 w A1 l1.length l1) (hc1:l1.length≤c1) (h:Qce.f k d j l1=some (r1,r2,r3)) :
  Calls Tryz.prog 73 #[.agg #[.int .u8 d,.int .u32 j],.slice A1 l1.length c1] w fun e w'=>∃am an:Value,e=.returned (.tuple #[am,an,.int .i64 r3])∧Kd.R (Kd.int .u32) 22 w' w.heap.size (fun _=>True) am r1∧Kd.R (Kd.int .i64) 3 w' w.heap.size (fun _=>True) an r2∧Below w.heap.size w w':=by
 have hu27:=Tryz.underlying27;have hu39:=Tryz.underlying39;have T:=QA hr1;have ao:=QA hc1;clear hr1 hc1;have HB:=QA (Below.refl w.heap.size w);have H:((Qan.f d j).bind fun n=>(if n=0 then((Qco.f k l1).bind fun s=>(if s=0 then(Qce.l0 k ([]:List Int) l1 (l1.length:Int) 0 d j)else(some (([]:List Int),([]:List Int),s))))else(some (([]:List Int),([]:List Int),n))))=some (r1,r2,r3):=h;clear h;obtain⟨n,ap,H⟩:=Option.bind_eq_some_iff.mp H;have A3:=QA ap;clear ap
 by_cases c4:n=0
 ·rw [if_pos c4]at H;have U:(n == 0)=true:=beq_iff_eq.mpr c4;have W:(n != 0)=false:=bne_eq_false_iff_eq.mpr c4;clear c4;obtain⟨s,aq,H⟩:=Option.bind_eq_some_iff.mp H;have A5:=QA aq;clear aq
  by_cases c6:s=0
  ·rw [if_pos c6]at H;have X:(s == 0)=true:=beq_iff_eq.mpr c6;have Y:(s != 0)=false:=bne_eq_false_iff_eq.mpr c6;clear c6;have H':=QA H;clear H
   go_enter Tryz.func73,Tryz.ntmps73
   go_wp2_with (first |((with_reducible refine Qft (N:=2) rfl ?_);refine qq_e 2 #[.int .u8 d,.int .u32 j] 27 ?_;intro l hg w7 hbox hb;have n_:=qn4 (Qfj qq_b hb) (hbox) (qq_s hg:w.heap.size≤l) (qq_s hg:w.heap.size≤l);clear HB;obtain⟨HB,a,K,L⟩:=n_;clear hb hbox hg;obtain⟨Z,aa⟩:=qc2 a.out;have ar:=Qdw a.out) |((with_reducible refine Qij (f:=85) rfl ?_);refine Qgm (some 14) rfl rfl Tryz.func85 qq_7 rfl #[.agg #[.int .u8 d,.int .u32 j]] rfl qq_1 ?_;(with_reducible refine(Qan.calls d j n _ A3.out).mono ?_);rintro e w9 ⟨rfl,hb⟩;refine⟨_,rfl,?_⟩;have n_:=qn2 (Qei (g:=l) (o:=.cells #[.int .u8 d,.int .u32 j] 27 (0,0)) qq_0 hb) (Qfj qq_b hb);clear a HB;obtain⟨a,HB⟩:=n_;(try clear hb);(try clear hb2);(try clear hk);(try clear hi)) |((with_reducible refine Qij (f:=124) rfl ?_);refine Qgm (some 19) rfl rfl Tryz.func124 qq_7 rfl #[.slice A1 l1.length c1] rfl qq_1 ?_;(with_reducible refine(Qco.calls k _ _ l1 s _ ?side1 ?side2 A5.out).mono ?_);(case side1=>repeat(first|exact(Kd.C_below T.out HB.out) |(with_reducible refine Kd.C_alloc ?_ _) |(with_reducible refine Kd.C_drewN ?_ _) |(with_reducible refine Kd.C_drew ?_)));(case side2=>exact ao.out);rintro e bd ⟨rfl,hb⟩;refine⟨_,rfl,?_⟩;have n_:=qn2 (Qei (g:=l) (o:=.cells #[.int .u8 d,.int .u32 j] 27 (0,0)) qq_0 hb) (Qfj qq_b hb);clear a HB;obtain⟨a,HB⟩:=n_;(try clear hb);(try clear hb2);(try clear hk);(try clear hi)))
   go_loopg [5,25] k (fun kq v5 aI w'=>∃(q:List Int) (c:Int),aI=.int .i64 c∧Aside0 (Qce.l0 kq q l1 (l1.length:Int) c d j=some (r1,r2,r3))∧Aside0 (kq≤k)∧Aside0 (Kd.R (Kd.int .i64) 3 w' w.heap.size (fun _=>True) v5 q)∧Aside0 (w'.heap[l]? = some (.cells #[.int .u8 d,.int .u32 j] 27 (0,0)))∧Aside0 (Below w.heap.size w w'))
   case atStart=>exact⟨(([]:List Int)),(0),qq_4,H',⟨Nat.le_refl _⟩,⟨by first|exact Kd.R_nil _ _ _ _ _|exact Kd.N_nil _ _ _ _ _|exact Kd.V_nil _ _ _ _ _|exact Kd.Q_nil _ _ _ _ _|exact Kd.S_nil _ _ _ _ _⟩,⟨by(with_reducible repeat(first|apply Qeh|apply Qeg|apply Qef));exact a.out⟩,⟨qq_b⟩⟩
   case round =>
    clear H'
    try clear c1
    try clear c4
    try clear U
    try clear W
    try clear c6
    try clear X
    try clear Y
    try clear Z
    try clear aa
    try clear ar
    obtain⟨q,c,rfl,HA,HK1,HO_5,a,HB⟩:=hrel
    cases gk with
    | zero=>exact absurd HA.out (by simp[Qce.l0])
    | succ k1 =>
     have H:=HA.out;clear HA;simp only[Qce.l0]at H
     by_cases x:c<(l1.length:Int)
     ·rw [if_pos x]at H;have ah:=decide_eq_true x;clear x
      by_cases M:0≤c
      ·rw[if_pos M]at H;have aM:=decide_eq_true M;clear M
       by_cases O:c<(l1.length:Int)
       ·rw[if_pos O]at H;have aN:=decide_eq_true O;clear O;replace H:=Option.bind_eq_some_iff.mp H;obtain⟨⟨v,au⟩,ab,H⟩:=H;replace H:(if q.length<17592186044416 then(Qce.l0 k1 (q++[(v.length:Int)]) l1 (l1.length:Int) (wrap64 (c+1)) d j)else(none))=some (r1,r2,r3):=H;have aJ:=QA ab;clear ab
        by_cases P:q.length<17592186044416
        ·rw[if_pos P]at H;have ai:=QA P;clear P;obtain⟨ac,t⟩:∃y_:List Int,y_=(q++[(v.length:Int)]):=⟨_,rfl⟩;replace H:(Qce.l0 k1 ac l1 (l1.length:Int) (wrap64 (c+1)) d j)=some (r1,r2,r3):=by first |(rw[t];with_reducible exact H) |(have ad:=(Option.bind_some _ _).symm.trans H;rw[t];with_reducible exact ad) |(have ad:=(Option.bind_some _ _).symm.trans H;with_reducible exact ad)|with_reducible exact H |(rw[t];exact H)|exact H
         have aj:=QA t;clear t;have H':=QA H;clear H;have I:0≤(c:Int):=of_decide_eq_true qq_3;have J:c<(l1.length:Int):=of_decide_eq_true qq_3;obtain⟨aQ,av,y,z,A,B⟩:=Qiv T.out c I J
         cases av
         replace y:=qq_h HB.out y;replace z:=qq_h HB.out z;replace A:=qq_h HB.out A;replace B:=qq_h HB.out B;replace I:=eq_true I;replace J:=eq_true J
         go_wp2_with (first |((with_reducible refine Qft (N:=10) rfl ?_);refine qq_e 10 #[.bool false,.int .u64 0,.string (⟨#[]⟩:ByteArray),.string (⟨#[]⟩:ByteArray)] 39 ?_;intro m hg be hbox hb;have n_:=qn8 (Kd.R_below qq_11 hb) (Qei (g:=l) (o:=.cells #[.int .u8 d,.int .u32 j] 27 (0,0)) qq_0 hb) (Qfj qq_b hb) (hbox) (qq_s hg:w.heap.size≤m) (qq_s hg:w.heap.size≤m) ((by rw[hg];exact Nat.ne_of_lt (Qdu (g:=l) (o:=.cells #[.int .u8 d,.int .u32 j] 27 (0,0)) qq_0):l≠m)) ((by rw[hg];exact Nat.ne_of_gt (Qdu (g:=l) (o:=.cells #[.int .u8 d,.int .u32 j] 27 (0,0)) qq_0):m≠l));clear HO_5 a HB;obtain⟨HO_5,a,HB,r,aR,aT,D,E⟩:=n_;clear hb hbox hg;have aU:=E.out;have aV:=D.out;obtain⟨aw,ax,ay,az⟩:=qc4 r.out;have aW:=Qdw r.out) |((with_reducible refine Qij (f:=57) rfl ?_);refine Qgm (some 31) rfl rfl Tryz.func57 qq_7 rfl #[.agg #[.bool ((Qiu l1 c).f0),.int .u64 ((Qiu l1 c).f1),.string ((Qiu l1 c).f2),.string ((Qiu l1 c).f3)]] rfl qq_1 ?_;(with_reducible refine(Qbz.calls ((Qiu l1 c).f0) ((Qiu l1 c).f1) ((Qiu l1 c).f2) ((Qiu l1 c).f3) v au _ aJ.out).mono ?_);rintro e bf ⟨ba,rfl,G,hb⟩;refine⟨_,rfl,?_⟩;have n_:=qn5 (Kd.R_below (by(with_reducible repeat(first|apply Kd.R_alloc|apply Kd.R_drewN|apply Kd.R_drew));exact(Kd.R_mono (Kd.R_far (p:=⟨m,3,none⟩) (Kd.R_far (p:=⟨m,2,none⟩) (Kd.R_far (p:=⟨m,1,none⟩) (Kd.R_far (p:=⟨m,0,none⟩) (Kd.R_types HO_5.out r.out (by decide)) (fun _ hk=>hk.2) (.bool ((Qiu l1 c).f0))) (fun _ hk=>hk.2) (.int .u64 ((Qiu l1 c).f1))) (fun _ hk=>hk.2) (.string ((Qiu l1 c).f2))) (fun _ hk=>hk.2) (.string ((Qiu l1 c).f3))) (fun _ h_=>h_.1))) hb) (Kd.R_lower G (Qfi qq_b)) (Qei (g:=l) (o:=.cells #[.int .u8 d,.int .u32 j] 27 (0,0)) qq_9 hb) (Qei (g:=m) (o:=.cells #[.bool ((Qiu l1 c).f0),.int .u64 ((Qiu l1 c).f1),.string ((Qiu l1 c).f2),.string ((Qiu l1 c).f3)] 39 (0,0)) qq_x hb) (Qfj qq_b hb);clear HO_5 a r HB;obtain⟨HO_5,u,a,r,HB⟩:=n_;(try clear hb);(try clear hb2);(try clear hk);(try clear hi);(try clear G);obtain⟨Ao20,co20,eo20⟩:=Kd.R_slice u.out;subst eo20) |((with_reducible refine Qik (b:=.append) (xs:=#[.tmp 34,.tmp 37]) rfl ?_);at_builtin;refine Kd.R_append (Kd.int .i64) (w0:=w) w.heap.size rfl (.tmp 34) (.tmp 37) 133 3 (.int .i64 0) 8 rfl Tryz.underlying133 info3 rfl (by decide) (by omega) u5 q (v.length:Int) [.int .i64 (v.length:Int)] (fun _=>True) (fun _=>False) rfl rfl ?aP (fun _ hk=>hk.elim) ?aF ?aO ?aB ?aS ?aL ?_;(case aP=>exact rfl);(case aB=>exact qq_b);(case aF=>exact(fun _ _=>trivial));(case aO=>exact qq_11);(case aS=>exact(Qfi qq_b));(case aL=>have:=ai.out;omega);intro bb bg ho hb hg hat;rw[← aj.out]at ho;have n_:=qn5 (Qdx (g:=l) (o:=.cells #[.int .u8 d,.int .u32 j] 27 (0,0)) qq_0 hg (Kd.R_ne HO_5.out a.out (by decide))) (Qdx (g:=m) (o:=.cells #[.bool ((Qiu l1 c).f0),.int .u64 ((Qiu l1 c).f1),.string ((Qiu l1 c).f2),.string ((Qiu l1 c).f3)] 39 (0,0)) qq_0 hg (Kd.R_ne HO_5.out r.out (by decide))) (Kd.R_over' (by(with_reducible repeat(first|apply Kd.R_alloc|apply Kd.R_drewN|apply Kd.R_drew));exact u.out) (Kd.R_typed qq_11) (by decide) hg) (hb) (ho);clear a r u HB HO_5;obtain⟨a,r,u,HB,ak⟩:=n_;clear ho hb hg hat))
         go_roundg k1
         case measure=>have:=HK1.out;omega
         case rel=>exact⟨(ac),(wrap64 (c+1)),qq_4,H',⟨by have:=HK1.out;omega⟩,⟨by(with_reducible repeat(first|apply Kd.R_alloc|apply Kd.R_drewN|apply Kd.R_drew));exact ak.out⟩,⟨by(with_reducible repeat(first|apply Qeh|apply Qeg|apply Qef));exact a.out⟩,⟨qq_b⟩⟩
        ·rw[if_neg P]at H;exact absurd H (by simp)
       ·rw[if_neg O]at H;exact absurd H (by simp)
      ·rw[if_neg M]at H;exact absurd H (by simp)
     ·rw[if_neg x]at H;have ah:=decide_eq_false x;clear x;replace H:=Option.bind_eq_some_iff.mp H;obtain⟨⟨ae,af⟩,ag,H⟩:=H;replace H:(some (ae,q,af))=some (r1,r2,r3):=H;have aK:=QA ag;clear ag;simp only[Option.some.injEq,Prod.mk.injEq]at H;obtain⟨rfl,rfl,rfl⟩:=H;obtain⟨aA,aC⟩:=qc2 a.out;have aX:=Qdw a.out;obtain⟨Ao24,co24,eo24⟩:=Kd.R_slice HO_5.out;subst eo24
      go_wp2_with (first |((with_reducible refine Qij (f:=125) rfl ?_);refine Qgm (some 43) rfl rfl Tryz.func125 qq_7 rfl #[.agg #[.int .u8 d,.int .u32 j],.slice Ao24 q.length co24] rfl qq_1 ?_;(with_reducible refine(Qcg.calls k1 d j _ _ q ae af _ ?side1 ?side2 aK.out).mono ?_);(case side1=>repeat(first|exact(Kd.R_reads' HO_5.out).2.2 |(with_reducible refine Kd.C_alloc ?_ _) |(with_reducible refine Kd.C_drewN ?_ _) |(with_reducible refine Kd.C_drew ?_)));(case side2=>exact(Kd.R_reads' HO_5.out).2.1);rintro e bh ⟨bc,rfl,G,hb⟩;refine⟨_,rfl,?_⟩;have n_:=qn4 (Kd.R_below qq_8 hb) (Kd.R_lower G (Qfi qq_b)) (Qei (g:=l) (o:=.cells #[.int .u8 d,.int .u32 j] 27 (0,0)) qq_0 hb) (Qfj qq_b hb);clear HO_5 a HB;obtain⟨HO_5,al,a,HB⟩:=n_;(try clear hb);(try clear hb2);(try clear hk);(try clear hi);(try clear G)))
      go_ret3
      exact⟨_,_,by first|rfl |(simp[Qio,Qip]<;>rfl) |(simp[*,Qio,Qip]<;>rfl),by(with_reducible repeat(first|apply Kd.R_alloc|apply Kd.R_drewN|apply Kd.R_drew));exact al.out,by(with_reducible repeat(first|apply Kd.R_alloc|apply Kd.R_drewN|apply Kd.R_drew));exact HO_5.out,qq_b⟩
  ·rw[if_neg c6]at H;have X:(s == 0)=false:=beq_eq_false_iff_ne.mpr c6;have Y:(s != 0)=true:=bne_iff_ne.mpr c6;simp only[Option.some.injEq,Prod.mk.injEq]at H;obtain⟨rfl,rfl,rfl⟩:=H
   go_enter Tryz.func73,Tryz.ntmps73
   go_wp2_with (first |((with_reducible refine Qft (N:=2) rfl ?_);refine qq_e 2 #[.int .u8 d,.int .u32 j] 27 ?_;intro l hg bi hbox hb;have n_:=qn4 (Qfj qq_b hb) (hbox) (qq_s hg:w.heap.size≤l) (qq_s hg:w.heap.size≤l);clear HB;obtain⟨HB,a,K,L⟩:=n_;clear hb hbox hg;obtain⟨aD,aE⟩:=qc2 a.out;have aY:=Qdw a.out) |((with_reducible refine Qij (f:=85) rfl ?_);refine Qgm (some 14) rfl rfl Tryz.func85 qq_7 rfl #[.agg #[.int .u8 d,.int .u32 j]] rfl qq_1 ?_;(with_reducible refine(Qan.calls d j n _ A3.out).mono ?_);rintro e bj ⟨rfl,hb⟩;refine⟨_,rfl,?_⟩;have n_:=qn2 (Qei (g:=l) (o:=.cells #[.int .u8 d,.int .u32 j] 27 (0,0)) qq_0 hb) (Qfj qq_b hb);clear a HB;obtain⟨a,HB⟩:=n_;(try clear hb);(try clear hb2);(try clear hk);(try clear hi)) |((with_reducible refine Qij (f:=124) rfl ?_);refine Qgm (some 19) rfl rfl Tryz.func124 qq_7 rfl #[.slice A1 l1.length c1] rfl qq_1 ?_;(with_reducible refine(Qco.calls k _ _ l1 s _ ?side1 ?side2 A5.out).mono ?_);(case side1=>repeat(first|exact(Kd.C_below T.out HB.out) |(with_reducible refine Kd.C_alloc ?_ _) |(with_reducible refine Kd.C_drewN ?_ _) |(with_reducible refine Kd.C_drew ?_)));(case side2=>exact ao.out);rintro e bk ⟨rfl,hb⟩;refine⟨_,rfl,?_⟩;have n_:=qn2 (Qei (g:=l) (o:=.cells #[.int .u8 d,.int .u32 j] 27 (0,0)) qq_0 hb) (Qfj qq_b hb);clear a HB;obtain⟨a,HB⟩:=n_;(try clear hb);(try clear hb2);(try clear hk);(try clear hi)))
   go_ret3
   exact⟨_,_,by first|rfl |(simp[Qio,Qip]<;>rfl) |(simp[*,Qio,Qip]<;>rfl),by first|exact Kd.R_nil _ _ _ _ _|exact Kd.N_nil _ _ _ _ _|exact Kd.V_nil _ _ _ _ _|exact Kd.Q_nil _ _ _ _ _|exact Kd.S_nil _ _ _ _ _,by first|exact Kd.R_nil _ _ _ _ _|exact Kd.N_nil _ _ _ _ _|exact Kd.V_nil _ _ _ _ _|exact Kd.Q_nil _ _ _ _ _|exact Kd.S_nil _ _ _ _ _,qq_b⟩
 ·rw[if_neg c4]at H;have U:(n == 0)=false:=beq_eq_false_iff_ne.mpr c4;have W:(n != 0)=true:=bne_iff_ne.mpr c4;simp only[Option.some.injEq,Prod.mk.injEq]at H;obtain⟨rfl,rfl,rfl⟩:=H
  go_enter Tryz.func73,Tryz.ntmps73
  go_wp2_with (first |((with_reducible refine Qft (N:=2) rfl ?_);refine qq_e 2 #[.int .u8 d,.int .u32 j] 27 ?_;intro l hg bl hbox hb;have n_:=qn4 (Qfj qq_b hb) (hbox) (qq_s hg:w.heap.size≤l) (qq_s hg:w.heap.size≤l);clear HB;obtain⟨HB,a,K,L⟩:=n_;clear hb hbox hg;obtain⟨aG,aH⟩:=qc2 a.out;have aZ:=Qdw a.out) |((with_reducible refine Qij (f:=85) rfl ?_);refine Qgm (some 14) rfl rfl Tryz.func85 qq_7 rfl #[.agg #[.int .u8 d,.int .u32 j]] rfl qq_1 ?_;(with_reducible refine(Qan.calls d j n _ A3.out).mono ?_);rintro e bn ⟨rfl,hb⟩;refine⟨_,rfl,?_⟩;have n_:=qn2 (Qei (g:=l) (o:=.cells #[.int .u8 d,.int .u32 j] 27 (0,0)) qq_0 hb) (Qfj qq_b hb);clear a HB;obtain⟨a,HB⟩:=n_;(try clear hb);(try clear hb2);(try clear hk);(try clear hi)))
  go_ret3
  exact⟨_,_,by first|rfl |(simp[Qio,Qip]<;>rfl) |(simp[*,Qio,Qip]<;>rfl),by first|exact Kd.R_nil _ _ _ _ _|exact Kd.N_nil _ _ _ _ _|exact Kd.V_nil _ _ _ _ _|exact Kd.Q_nil _ _ _ _ _|exact Kd.S_nil _ _ _ _ _,by first|exact Kd.R_nil _ _ _ _ _|exact Kd.N_nil _ _ _ _ _|exact Kd.V_nil _ _ _ _ _|exact Kd.Q_nil _ _ _ _ _|exact Kd.S_nil _ _ _ _ _,qq_b⟩
def Qck.f(a0_0:Int)(a0_1:Int)(a1:Int):Option (Bool):=(Qcf.f a0_0 a0_1 ((a0_1-1)%4294967296)).bind fun bt134=>(if bt134.2.2.2.2.2=0 then((Qch.f bt134.1 bt134.2.1 bt134.2.2.1 bt134.2.2.2.1 bt134.2.2.2.2.1 a1).bind fun t141=>(some (!t141)))else(some true))
theorem Qck.calls(d:Int)(a:Int)(a1:Int)(r:Bool)(w:World)(h:Qck.f d a a1=some r) :
  Calls Tryz.prog 58 #[.agg #[.int .u8 d,.int .u32 a],.int .i64 a1] w fun e w'=>e=.returned (.bool r)∧Below w.heap.size w w':=by
 have hu27:=Tryz.underlying27;have hu47:=Tryz.underlying47;have HB:=QA (Below.refl w.heap.size w);have H:((Qcf.f d a ((a-1)%4294967296)).bind fun bt134=>(if bt134.2.2.2.2.2=0 then((Qch.f bt134.1 bt134.2.1 bt134.2.2.1 bt134.2.2.2.1 bt134.2.2.2.2.1 a1).bind fun p=>(some (!p)))else(some true)))=some r:=h;clear h;replace H:=Option.bind_eq_some_iff.mp H;obtain⟨⟨q,s,t,u,v,l⟩,B,H⟩:=H;replace H:(if l=0 then((Qch.f q s t u v a1).bind fun p=>(some (!p)))else(some true))=some r:=H;have A3:=QA B;clear B
 by_cases c4:l=0
 ·rw[if_pos c4]at H;have E:(l == 0)=true:=beq_iff_eq.mpr c4;have G:(l != 0)=false:=bne_eq_false_iff_eq.mpr c4;clear c4;obtain⟨p,D,H⟩:=Option.bind_eq_some_iff.mp H;have A5:=QA D;clear D;obtain rfl:=Option.some.inj H
  go_enter Tryz.func58,Tryz.ntmps58
  go_wp2_with (first |((with_reducible refine Qft (N:=2) rfl ?_);refine qq_e 2 #[.int .u8 d,.int .u32 a] 27 ?_;intro b hg w6 hbox hb;have n_:=qn4 (Qfj qq_b hb) (hbox) (qq_s hg:w.heap.size≤b) (qq_s hg:w.heap.size≤b);clear HB;obtain⟨HB,c,x,y⟩:=n_;clear hb hbox hg;obtain⟨Z,aa⟩:=qc2 c.out;have ai:=Qdw c.out) |((with_reducible refine Qij (f:=52) rfl ?_);refine Qgm (some 12) rfl rfl Tryz.func52 qq_7 rfl #[.agg #[.int .u8 d,.int .u32 a],.int .u32 ((a-1)%4294967296)] rfl qq_1 ?_;(with_reducible refine(Qcf.calls d a ((a-1)%4294967296) q s t u v l _ A3.out).mono ?_);rintro e w8 ⟨rfl,hb⟩;refine⟨_,rfl,?_⟩;have n_:=qn2 (Qei (g:=b) (o:=.cells #[.int .u8 d,.int .u32 a] 27 (0,0)) qq_0 hb) (Qfj qq_b hb);clear c HB;obtain⟨c,HB⟩:=n_;(try clear hb);(try clear hb2);(try clear hk);(try clear hi)) |((with_reducible refine Qft (N:=5) rfl ?_);refine qq_e 5 #[.int .u8 0,.int .u32 0,.int .u32 0,.int .i64 0,.int .i64 0] 47 ?_;intro j hg w9 hbox hb;have n_:=qn7 (Qei (g:=b) (o:=.cells #[.int .u8 d,.int .u32 a] 27 (0,0)) qq_0 hb) (Qfj qq_b hb) (hbox) (qq_s hg:w.heap.size≤j) (qq_s hg:w.heap.size≤j) ((by rw[hg];exact Nat.ne_of_lt (Qdu (g:=b) (o:=.cells #[.int .u8 d,.int .u32 a] 27 (0,0)) qq_0):b≠j)) ((by rw[hg];exact Nat.ne_of_gt (Qdu (g:=b) (o:=.cells #[.int .u8 d,.int .u32 a] 27 (0,0)) qq_0):j≠b));clear c HB;obtain⟨c,HB,k,z,A,m,n⟩:=n_;clear hb hbox hg;have ab:=n.out;have ac:=m.out;obtain⟨I,J,K,L,M⟩:=qc5 k.out;have ad:=Qdw k.out) |(go_at_call 100;(with_reducible refine(Qch.calls q s t u v a1 p _ A5.out).mono ?_);rintro e aj ⟨rfl,hb⟩;have n_:=qn3 (Qei (g:=b) (o:=.cells #[.int .u8 d,.int .u32 a] 27 (0,0)) qq_9 hb) (Qei (g:=j) (o:=.cells #[.int .u8 q,.int .u32 s,.int .u32 t,.int .i64 u,.int .i64 v] 47 (0,0)) qq_x hb) (Qfj qq_b hb);clear c k HB;obtain⟨c,k,HB⟩:=n_;(try clear hb);(try clear hb2);(try clear hk);(try clear hi)))
  go_ret
  exact⟨qq_2,qq_b⟩
 ·rw[if_neg c4]at H;have E:(l == 0)=false:=beq_eq_false_iff_ne.mpr c4;have G:(l != 0)=true:=bne_iff_ne.mpr c4;obtain rfl:=Option.some.inj H
  go_enter Tryz.func58,Tryz.ntmps58
  go_wp2_with (first |((with_reducible refine Qft (N:=2) rfl ?_);refine qq_e 2 #[.int .u8 d,.int .u32 a] 27 ?_;intro b hg ak hbox hb;have n_:=qn4 (Qfj qq_b hb) (hbox) (qq_s hg:w.heap.size≤b) (qq_s hg:w.heap.size≤b);clear HB;obtain⟨HB,c,x,y⟩:=n_;clear hb hbox hg;obtain⟨O,P⟩:=qc2 c.out;have ae:=Qdw c.out) |((with_reducible refine Qij (f:=52) rfl ?_);refine Qgm (some 12) rfl rfl Tryz.func52 qq_7 rfl #[.agg #[.int .u8 d,.int .u32 a],.int .u32 ((a-1)%4294967296)] rfl qq_1 ?_;(with_reducible refine(Qcf.calls d a ((a-1)%4294967296) q s t u v l _ A3.out).mono ?_);rintro e al ⟨rfl,hb⟩;refine⟨_,rfl,?_⟩;have n_:=qn2 (Qei (g:=b) (o:=.cells #[.int .u8 d,.int .u32 a] 27 (0,0)) qq_0 hb) (Qfj qq_b hb);clear c HB;obtain⟨c,HB⟩:=n_;(try clear hb);(try clear hb2);(try clear hk);(try clear hi)) |((with_reducible refine Qft (N:=5) rfl ?_);refine qq_e 5 #[.int .u8 0,.int .u32 0,.int .u32 0,.int .i64 0,.int .i64 0] 47 ?_;intro j hg am hbox hb;have n_:=qn7 (Qei (g:=b) (o:=.cells #[.int .u8 d,.int .u32 a] 27 (0,0)) qq_0 hb) (Qfj qq_b hb) (hbox) (qq_s hg:w.heap.size≤j) (qq_s hg:w.heap.size≤j) ((by rw[hg];exact Nat.ne_of_lt (Qdu (g:=b) (o:=.cells #[.int .u8 d,.int .u32 a] 27 (0,0)) qq_0):b≠j)) ((by rw[hg];exact Nat.ne_of_gt (Qdu (g:=b) (o:=.cells #[.int .u8 d,.int .u32 a] 27 (0,0)) qq_0):j≠b));clear c HB;obtain⟨c,HB,k,z,A,m,n⟩:=n_;clear hb hbox hg;have af:=n.out;have ag:=m.out;obtain⟨T,U,W,X,Y⟩:=qc5 k.out;have ah:=Qdw k.out))
  go_ret
  exact⟨qq_2,qq_b⟩
end Go.Proofs.YtnnofopfbeklbaaGreat.C
end
section
namespace Go.Proofs.YtnnofopfbeklbaaGreat.C
open Go.RowKit Go.Proofs.YtnnofopfbeklbaaGreatW.PrintWords Go.Proofs.YtnnofopfbeklbaaGreatW.PrintLast Go.Proofs.YtnnofopfbeklbaaGreatW.PrintMore
theorem f_of_C{W:World}{A:Option Addr}{n:Nat}{xs:List Int}(h:Kd.C (Kd.int .u8) W A n xs):Kd.F (Kd.int .u8) W (fun _=>True) A n xs:=by
 intro W' hW;obtain⟨g,hg⟩:∃g,g=W.heap.size+(match A with|some ad=>ad.block+1|none=>0):=⟨_,rfl⟩;refine Kd.C_keep (g:=g) (0:Int) h ⟨?_,fun i hi _ _=>hW i trivial hi⟩ ?_
 ·rcases Nat.eq_zero_or_pos W.heap.size with h0|h0
  ·omega
  ·have:=Qhv (hW (W.heap.size-1) trivial (by omega)) (by omega);omega
 ·rintro ad rfl _;rw[hg];dsimp only;omega
theorem Qqb{w W:World}{tb:Nat}{x:Int}(hk:W.heap[tb]? = some (.cells #[.int .u64 x] 34 (0,0))):W.frozen? ⟨tb,0,none⟩=false∧W.cell? ⟨tb,0,none⟩=some (.int .u64 x):=⟨Qdw hk 0,(Qdv hk 0).trans rfl⟩
theorem Qqc(as_:Array Value)(W:World):(callFunc 171 as_).run Tryz.prog W=.ok (.enter 171 as_) W:=by
 simp[callFunc,Tryz.func171,Tryz.f171]
theorem IsCur.far64{W:World}{b g tb j:Nat}{bs:List Int}{i:Int}{u:Value}{cs:Array Value}(h:IsCur W b g bs i)(hr:W.heap[tb]? = some (.cells cs 34 (0,0))):IsCur (W.setCell ⟨tb,j,none⟩ u) b g bs i:=by
 obtain⟨v,h1,h2⟩:=h;exact⟨v,Qdt h1 (p:=⟨tb,j,none⟩) (Qdy h1 hr (by decide)) u,h2.set hr (by decide) j u⟩
theorem Qqd(tb lo g:Nat)(bs:List Int)(x y:Int)(hb:CodecP.Bytes bs)(hl8:bs.length=8)(hlg:lo≤g)(htb:tb<lo)(hx:CodecP.leI bs=x)(w:World)(hI:IsCur w lo g bs 0)
  (hk:w.heap[tb]? = some (.cells #[.int .u64 y] 34 (0,0))) :
  Calls Tryz.prog 171 #[.pointer (some ⟨g,0,none⟩),.pointer (some ⟨tb,0,none⟩)] w fun e W'=>e=.returned (.tuple #[])∧IsCur W' lo g bs (0+8)∧Tl lo g w W'∧Below tb w W'∧W'.heap[tb]? = some (.cells #[.int .u64 x] 34 (0,0)):=by
 have HI:=QA hI;have HK:=QA hk;have hlw:lo≤w.heap.size:=Nat.le_of_lt (Nat.lt_of_le_of_lt hlg hI.lt);have HE:=QA (Qpp (bs.length+1) lo g bs bs 0 x (by rw[Int.toNat_zero,List.drop_zero,← hl8,List.take_length]) (Int.le_refl _) (by omega) (by omega) hlg (by rw[CodecP.num_key bs hb (by omega),hx]) w hlw hI);clear hI hk
 go_enter Tryz.func171,Tryz.ntmps171
 go_wp2_with (go_at_call 172;refine HE.out.mono ?_;rintro ee w1 ⟨rfl,hI1,hB1⟩;have k1:=(hB1.1.block tb htb).trans HK.out;obtain⟨t0,t1⟩:=Qqb (w:=w) k1)
 go_end0
 obtain⟨h1,h2⟩:=hB1;exact⟨rfl,hI1.far64 k1,fun k cs t q1 q2 q3 q4=>Qdt (h2 _ _ _ q2 q3 q4) (p:=⟨tb,0,none⟩) (by show k≠tb;omega) _,Qjo (Qjp h1 (Nat.le_of_lt htb)) (Nat.le_refl _),Qds k1 0 _⟩
theorem Qqe(A0:Option Addr)(c0:Nat)(l0:List Int)(x:Int)(tb:Nat)(w:World)(hb:CodecP.Bytes l0)(hl:l0.length=8)(hx:CodecP.leI l0=x)(hr0:Kd.C (Kd.int .u8) w A0 l0.length l0)
  (hk:w.heap[tb]? = some (.cells #[.int .u64 0] 34 (0,0))) :
  Calls Tryz.prog 137 #[.slice A0 l0.length c0,.func (.func 171) #[] #[.pointer (some ⟨tb,0,none⟩)]] w fun e w'=>∃er i,e=.returned (.tuple #[.int .i64 i,.int .i64 er])∧Below tb w w' ∧
   w'.heap[tb]? = some (.cells #[.int .u64 x] 34 (0,0)):=by
 have hlt:=Qdu hk;refine Qqa 171 #[.pointer (some ⟨tb,0,none⟩)] A0 c0 l0 w hr0 (by omega) Qqc (fun er _ W'=>Below tb w W'∧W'.heap[tb]? = some (.cells #[.int .u64 x] 34 (0,0))) ?_ ?_
 ·rintro er i W W' ⟨h1,h2⟩ h3;exact⟨h1.trans (Qjp h3 (Nat.le_of_lt hlt)),(h3.block tb hlt).trans h2⟩
 ·intro W g hg hB hI;refine(Qqd tb w.heap.size g l0 x 0 hb hl hg hlt hx W hI ((hB.block tb hlt).trans hk)).mono ?_;rintro e W' ⟨h1,h2,h3,h4,h5⟩;exact⟨_,h2,h3,.inl ⟨h1,(Qjp hB (Nat.le_of_lt hlt)).trans h4,h5⟩⟩
theorem Qqf{P:Program}(t e:TypeId)(k:IntKind){i:TypeInfo}(ht:P.underlying t=some (.slice e))(hi:P.info? e=some i)(A:Option Addr)(n c:Nat)(j:Int)(h0:0≤j)(hm:j≤n)(hc:n≤c) :
  ∀W:World,(Instr.slice t (.slice A n c) none (some (.int k j)) (some (.int k j))).run P W=.ok (.slice A j.toNat j.toNat) W:=by
 intro W;have hel:P.elem t=e:=by simp[Program.elem,ht]
 have hu:P.underlying t=some (.slice (P.elem t)):=by rw[hel];exact ht
 have ha:(A.map fun x=>x.add 0)=A:=by cases A<;>simp[Addr.add]
 rw[run_slice_hm W t A n c hu k k j j h0 (Int.le_refl _) (by omega),hel];simp[sizeOf,typeInfo,hi,sliced,Result.andThen,ha]
def Qqg(t:List Int):List Int × Int:=if t.length<8 then([],2)else if CodecP.leI (t.drop (t.length-8))=Qmn 0 (t.take (t.length-8))then(t.take (t.length-8),0)else([],5)
noncomputable def Qbx.f(k:Nat)(l0:List Int):Option (List Int × Int):=(Qam.f k l0).bind fun t=>if t.2=0 then @ite _ (CodecP.Bytes t.1∧t.1.length≤35184372088824) (Classical.propDecidable _) (some (Qqg t.1)) none else some ([],t.2)
theorem Qbx.calls(k:Nat)(A0:Option Addr)(c0:Nat)(l0:List Int)(r1:List Int)(r2:Int)(w:World)(hr0:Kd.C (Kd.int .u8) w A0 l0.length l0)(hc0:l0.length≤c0)(h:Qbx.f k l0=some (r1,r2)) :
  Calls Tryz.prog 128 #[.slice A0 l0.length c0] w fun e w'=>∃A c,e=.returned (.tuple #[.slice A r1.length c,.int .i64 r2])∧Kd.C (Kd.int .u8) w' A r1.length r1∧r1.length≤c∧Below w.heap.size w w':=by
 unfold Qbx.f at h;obtain⟨⟨out,e0⟩,hU,h⟩:=Option.bind_eq_some_iff.mp h;dsimp only at h;have HU:=QA (Qam.calls k (fun _=>True) A0 c0 l0 out e0 w (Kd.V_mk hc0 (f_of_C hr0)) hU);clear hU hr0 hc0
 by_cases he:e0=0
 ·subst he;rw[if_pos rfl]at h
  by_cases hg:CodecP.Bytes out∧out.length≤35184372088824
  ·rw [if_pos hg]at h;have h2:=Option.some.inj h;unfold Qqg at h2;clear h
   by_cases h8:out.length<8
   ·rw[if_pos h8]at h2;obtain⟨rfl,rfl⟩:=Prod.mk.inj h2;have hw1:IntKind.i64.wrap ((out.length:Int)-8)=(out.length:Int)-8:=IntWalk.i64_in _ (by omega);have hb1:decide ((out.length:Int)-8<0)=true:=decide_eq_true (by omega);clear h2
    go_enter Tryz.func128,Tryz.ntmps128
    go_wp2_with (go_at_call 170;refine HU.out.mono ?_;rintro ee w1 ⟨v1,rfl,hR1,hb1⟩;obtain⟨A1,c1,rfl⟩:=Kd.R_slice hR1)
    refine bodyPost_ret (results_tmp2 rfl _ _ _) rfl ?_;exact⟨none,0,rfl,Kd.C_nil _ _,Nat.le_refl _,hb1⟩
   ·rw[if_neg h8]at h2;obtain⟨m,hm⟩:∃m,m=out.length-8:=⟨_,rfl⟩;rw[← hm]at h2;obtain⟨xs,hxs⟩:∃xs,xs=out.drop m:=⟨_,rfl⟩;rw[← hxs]at h2;have hxl:xs.length=8:=by rw[hxs,List.length_drop];omega
    obtain⟨ys,hys⟩:∃ys,ys=out.take m:=⟨_,rfl⟩;rw[← hys]at h2;have hyl:ys.length=m:=by rw[hys,List.length_take];omega
    obtain⟨j,hj⟩:∃j:Int,j=(out.length:Int)-8:=⟨_,rfl⟩;have hw1:IntKind.i64.wrap ((out.length:Int)-8)=j:=by rw[hj];exact IntWalk.i64_in _ (by omega)
    have hj0:0≤j:=by omega
    have hjm:j.toNat=m:=by omega
    have hb1:decide (j<0)=false:=decide_eq_false (by omega);have HXB:Aside0 (CodecP.Bytes xs):=⟨by rw[hxs];exact hg.1.drop _⟩;have HF:=QA (And.intro hm (And.intro hxs (And.intro hys hj)));have HG:=QA hg;obtain⟨i0,hii,_,hsz,_⟩:=info_parts Qiq;have hlen64:IntKind.i64.wrap (out.length:Int)=(out.length:Int):=IntWalk.i64_in _ (by omega);obtain⟨x,hx⟩:∃x,x=CodecP.leI xs:=⟨_,rfl⟩;rw[← hx]at h2;have HX:=QA hx.symm;have HJL:Aside0 (j≤(out.length:Int)):=⟨by omega⟩;clear hx hm hxs hys hj hg;have UP:∀(P:Ending→World→Prop),(∀ee w1 A1 c1,ee=.returned (.tuple #[.slice A1 out.length c1,.int .i64 0])→R8 w1 w.heap.size (.slice A1 out.length c1) out→Below w.heap.size w w1 →
      (∀W:World,(Instr.slice 52 (.slice A1 out.length c1) none (some (.int .i64 j)) none).run Tryz.prog W=.ok (.slice A1 ys.length c1) W) →
      (∀W:World,(Instr.slice 52 (.slice A1 out.length c1) none (some (.int .i64 j)) (some (.int .i64 j))).run Tryz.prog W=.ok (.slice A1 ys.length ys.length) W) →
      (∃A2 c2,(∀W:World,(Instr.slice 52 (.slice A1 out.length c1) (some (.int .i64 j)) none none).run Tryz.prog W=.ok (.slice A2 xs.length c2) W)∧Kd.C (Kd.int .u8) w1 A2 xs.length xs)→Kd.C (Kd.int .u8) w1 A1 ys.length ys→P ee w1) →
      Calls Tryz.prog 170 #[.slice A0 l0.length c0] w P:=by
     intro P hP;refine HU.out.mono ?_;rintro ee w1 ⟨v1,rfl,hR1,hb1⟩;obtain⟨A1,c1,rfl⟩:=Kd.R_slice hR1;obtain⟨_,hlc,hC1⟩:=Kd.R_reads' hR1;have e1:=Qeu (P:=Tryz.prog) 52 5 .i64 Tryz.underlying52 hii A1 out.length c1 j hj0 HJL.out hlc;have e2:=Qqf (P:=Tryz.prog) 52 5 .i64 Tryz.underlying52 hii A1 out.length c1 j hj0 HJL.out hlc;have e3:=Qev (P:=Tryz.prog) 52 5 .i64 Tryz.underlying52 hii 1 hsz A1 out.length c1 j hj0 HJL.out;have hml:m≤out.length:=by have:=HJL.out;omega
     have hC2:=Kd.C_drop (m:=m) hC1 hml hlc;have hC3:=Kd.C_take (m:=m) hC1 hml;rw[hjm,← hyl]at e1 e2;rw[← HF.out.2.2.1]at hC3;rw[← HF.out.2.1]at hC2;rw[hjm,show out.length-m=xs.length by rw[HF.out.2.1,List.length_drop]]at e3;exact hP _ w1 A1 c1 rfl (Kd.R_mono hR1 (fun _ _=>trivial)) hb1 e1 e2 ⟨_,_,e3,hC2⟩ hC3
    have UPA:=QA UP;have hyl2:ys.length≤140737488355328:=by have:=HG.out.2;have:=HJL.out;omega
    have HL:=QA (And.intro hyl (And.intro hjm (And.intro hxl hyl2)));have H2:=QA h2;clear UP HU HG HF hlen64 hyl hjm hxl hyl2 hii hsz h2;have stp:∀(P:Ending→World→Prop),(∀w' A c,Below w.heap.size w w'→Kd.C (Kd.int .u8) w' A ys.length ys→ys.length≤c→x=Qmn 0 ys→P (.returned (.tuple #[.slice A ys.length c,.int .i64 0])) w') →
      (∀w',Below w.heap.size w w'→x≠Qmn 0 ys→P (.returned (.tuple #[.slice none 0 0,.int .i64 5])) w')→Calls Tryz.prog 128 #[.slice A0 l0.length c0] w P:=by
     intro P hP1 hP2
     by_cases hh:x=Qmn 0 ys
     ·have hne:(x != Qmn 0 ys)=false:=bne_eq_false_iff_eq.2 hh
      go_enter Tryz.func128,Tryz.ntmps128
      go_upto_region 7 with(go_at_call 170;refine UPA.out _ ?_;rintro ee w1 A1 c1 rfl hR1 hb1 e1 e2 ⟨A2,c2,e3,hC2⟩ hC3;have n:=QA hR1;have a:=QA hb1;have d:=QA hC2;have b:=QA hC3;clear hR1 hb1 hC2 hC3)
      have kt:=Qej w1 (.cells #[.int .u64 0] 34 (0,0));have RUN:=QA (Qqe A2 c2 xs x w1.heap.size _ HXB.out HL.out.2.2.1 HX.out (Kd.C_below d.out (Qcw (Below.refl _ _) _)) kt)
      go_upto_region 9 with(go_at_call 137;refine RUN.out.mono ?_;rintro ee w3 ⟨er,i,rfl,hb3,hk3⟩)
      have t3:=(Qqb (w:=w) hk3).2;have g:=(Qqb (w:=w) (show w3.drew.heap[w1.heap.size]? = some (.cells #[.int .u64 x] 34 (0,0)) from hk3)).2;have b13:Below w1.heap.size w1 w3:=(Qcw (Below.refl _ _) _).trans hb3;have l:=QA (Kd.C_below b.out (b13.trans (Qjp (Qcx (Below.refl _ _)) b13.size)));have B13:=QA (b13.trans (Qjp (Qcx (Below.refl w3.heap.size w3)) b13.size))
      go_region_held3 (fun w'=>w'.cell? ⟨w1.heap.size,0,none⟩=some (.int .u64 x)) (first|exact g|exact t4) (first |(go_at_call 101;refine(Qmp 0 A1 c1 ys _ l.out HL.out.2.2.2).mono ?_;rintro e w4 ⟨rfl,hb4⟩;have B14:=QA (B13.out.trans (Qjp hb4 B13.out.size));have t4:=(Qqb (w:=w) ((hb4.block w1.heap.size (Qdu (show w3.drew.heap[w1.heap.size]? = some (.cells #[.int .u64 x] 34 (0,0)) from hk3))).trans (show w3.drew.heap[w1.heap.size]? = some (.cells #[.int .u64 x] 34 (0,0)) from hk3))).2))
      go_wp2_with fail
      have BB:=a.out.trans (Qjp B14.out a.out.size);exact hP1 _ _ _ BB (Kd.C_below b.out B14.out) (Nat.le_refl _) hh
     ·have hne:(x != Qmn 0 ys)=true:=bne_iff_ne.2 hh
      go_enter Tryz.func128,Tryz.ntmps128
      go_upto_region 7 with(go_at_call 170;refine UPA.out _ ?_;rintro ee w1 A1 c1 rfl hR1 hb1 e1 e2 ⟨A2,c2,e3,hC2⟩ hC3;have n:=QA hR1;have a:=QA hb1;have d:=QA hC2;have b:=QA hC3;clear hR1 hb1 hC2 hC3)
      have kt:=Qej w1 (.cells #[.int .u64 0] 34 (0,0));have RUN:=QA (Qqe A2 c2 xs x w1.heap.size _ HXB.out HL.out.2.2.1 HX.out (Kd.C_below d.out (Qcw (Below.refl _ _) _)) kt)
      go_upto_region 9 with(go_at_call 137;refine RUN.out.mono ?_;rintro ee w3 ⟨er,i,rfl,hb3,hk3⟩)
      have t3:=(Qqb (w:=w) hk3).2;have g:=(Qqb (w:=w) (show w3.drew.heap[w1.heap.size]? = some (.cells #[.int .u64 x] 34 (0,0)) from hk3)).2;have b13:Below w1.heap.size w1 w3:=(Qcw (Below.refl _ _) _).trans hb3;have l:=QA (Kd.C_below b.out (b13.trans (Qjp (Qcx (Below.refl _ _)) b13.size)));have B13:=QA (b13.trans (Qjp (Qcx (Below.refl w3.heap.size w3)) b13.size))
      go_region_held3 (fun w'=>w'.cell? ⟨w1.heap.size,0,none⟩=some (.int .u64 x)) (first|exact g|exact t4) (first |(go_at_call 101;refine(Qmp 0 A1 c1 ys _ l.out HL.out.2.2.2).mono ?_;rintro e w4 ⟨rfl,hb4⟩;have B14:=QA (B13.out.trans (Qjp hb4 B13.out.size));have t4:=(Qqb (w:=w) ((hb4.block w1.heap.size (Qdu (show w3.drew.heap[w1.heap.size]? = some (.cells #[.int .u64 x] 34 (0,0)) from hk3))).trans (show w3.drew.heap[w1.heap.size]? = some (.cells #[.int .u64 x] 34 (0,0)) from hk3))).2))
      go_wp2_with fail
      have BB:=a.out.trans (Qjp B14.out a.out.size);exact hP2 _ BB hh
    refine stp _ ?_ ?_
    ·intro w' A c h1 h3 h4 h5;have h6:=H2.out;rw[if_pos h5]at h6;obtain⟨rfl,rfl⟩:=Prod.mk.inj h6;exact⟨A,c,rfl,h3,h4,h1⟩
    ·intro w' h1 h5;have h6:=H2.out;rw[if_neg h5]at h6;obtain⟨rfl,rfl⟩:=Prod.mk.inj h6;exact⟨none,0,rfl,Kd.C_nil _ _,Nat.le_refl _,h1⟩
  ·rw[if_neg hg]at h;cases h
 ·rw[if_neg he]at h;simp only[Option.some.injEq,Prod.mk.injEq]at h;obtain⟨rfl,rfl⟩:=h;have hne:(e0 != 0)=true:=bne_iff_ne.2 he
  go_enter Tryz.func128,Tryz.ntmps128
  go_wp2_with (go_at_call 170;refine HU.out.mono ?_;rintro ee w1 ⟨v1,rfl,hR1,hb1⟩;obtain⟨A1,c1,rfl⟩:=Kd.R_slice hR1)
  refine bodyPost_ret (results_tmp2 rfl _ _ _) rfl ?_;exact⟨none,0,rfl,Kd.C_nil _ _,Nat.le_refl _,hb1⟩
abbrev Room5:=Int × Int × Int × Int × Int
def IsBd(W:World)(b g:Nat)(R:Room5)(fr:List Int)(tb:List S117):Prop :=
 ∃fv tv,W.heap[g]? = some (.cells #[.int .u8 R.1,.int .u32 R.2.1,.int .u32 R.2.2.1,.int .i64 R.2.2.2.1,.int .i64 R.2.2.2.2,fv,tv] 108 (0,0))∧R8 W b fv fr∧Kd.R k117 117 W b (fun _=>True) tv tb
theorem IsBd.kept{W W':World}{b g:Nat}{R:Room5}{fr:List Int}{tb:List S117}(h:IsBd W b g R fr tb)(hb:Below W.heap.size W W'):IsBd W' b g R fr tb:=by
 obtain⟨fv,tv,h1,h2,h3⟩:=h;exact⟨fv,tv,Qei h1 hb,h2.kept hb,Kd.R_below h3 hb⟩
theorem room5{W:World}{B:Nat}{e s n u c:Int}(h:W.heap[B]? = some (.cells #[.int .u8 e,.int .u32 s,.int .u32 n,.int .i64 u,.int .i64 c] 47 (0,0))) :
  W.cell? ⟨B,0,none⟩=some (.int .u8 e)∧W.cell? ⟨B,1,none⟩=some (.int .u32 s)∧W.cell? ⟨B,2,none⟩=some (.int .u32 n)∧W.cell? ⟨B,3,none⟩=some (.int .i64 u)∧W.cell? ⟨B,4,none⟩=some (.int .i64 c) :=
 ⟨(Qdv h 0).trans rfl,(Qdv h 1).trans rfl,(Qdv h 2).trans rfl,(Qdv h 3).trans rfl,(Qdv h 4).trans rfl⟩
theorem Qrz(e s n u c:Int)(hd:List Int)(w:World)(hp:Qcf.f e s n=some (e,s,n,u,c,0))(hh:Qby.f e s n=some (hd,0)) :
  Calls Tryz.prog 18 #[.agg #[.int .u8 e,.int .u32 s],.int .u32 n] w fun ee w'=>∃g,ee=.returned (.tuple #[.pointer (some ⟨g,0,none⟩),.int .i64 0])∧IsBd w' w.heap.size g (e,s,n,u,c) hd []∧Below w.heap.size w w'∧w.heap.size≤g:=by
 have hu:=Tryz.underlying27;have hu2:=Tryz.underlying47;have hu3:=Tryz.underlying108;have HP:=QA hp;have HH:=QA hh;clear hp hh;have hba:Below w.heap.size w (w.alloc (.cells #[.int .u8 e,.int .u32 s] 27)):=Qcw (Below.refl _ _) _;have hbn:=Qej w (.cells #[.int .u8 e,.int .u32 s] 27)
 go_enter Tryz.func18,Tryz.ntmps18
 go_wp2_with (first
  |(go_at_call 52;refine(Qcf.calls e s n _ _ _ _ _ _ _ HP.out).mono ?_;rintro ee w1 ⟨rfl,hb1⟩;have hk1:=Qei hbn hb1;have hw1:=QA (Qcz hba hba.size hb1);have hs1:=QA (show w.heap.size<w1.heap.size from Qdu hk1);have hk1':=Qef hk1 (.cells #[.int .u8 e,.int .u32 s,.int .u32 n,.int .i64 u,.int .i64 c] 47);obtain⟨c0,c1⟩:=box2 hk1';clear hk1 hb1 hbn hba)
  |(go_at_call 53;refine(Qby.calls e s n hd 0 _ HH.out).mono ?_;rintro ee w3 ⟨v3,rfl,hR3,hb3⟩;have hk3:=Qei (Qej w1 (.cells #[.int .u8 e,.int .u32 s,.int .u32 n,.int .i64 u,.int .i64 c] 47)) hb3;obtain⟨d0,d1,d2,d3,d4⟩:=room5 hk3;obtain⟨A3,n3,c3,rfl⟩:=R8.shape hR3))
 refine bodyPost_ret (results_tmp2 rfl _ _ _) rfl ?_;have hz1:=Nat.le_of_lt hs1.out;have hbr:Below w1.heap.size w1 (w1.alloc (.cells #[.int .u8 e,.int .u32 s,.int .u32 n,.int .i64 u,.int .i64 c] 47)):=Qcw (Below.refl _ _) _;have hz3:w.heap.size≤w3.heap.size:=Nat.le_trans (Nat.le_trans hz1 hbr.size) hb3.size;refine⟨w3.heap.size,rfl,⟨_,_,Qej w3 _,?_,Kd.R_nil _ _ _ _ _⟩,?_,hz3⟩
 ·exact R8.low (R8.kept hR3 (Qcw (Below.refl _ _) _)) (Nat.le_trans hz1 hbr.size)
 ·exact((hw1.out.trans (Qjp hbr hz1)).trans (Qjp hb3 (Nat.le_trans hz1 hbr.size))).trans (Qjp (Qcw (Below.refl w3.heap.size w3) _) hz3)
theorem Qsa(b g:Nat)(R:Room5)(fr:List Int)(tb:List S117)(w:World)(hI:IsBd w b g R fr tb)(hl:fr.length≤140737488355328) :
  Calls Tryz.prog 29 #[.pointer (some ⟨g,0,none⟩)] w fun e w'=>∃v:Value,e=.returned v∧R8 w' w.heap.size v fr∧Below w.heap.size w w':=by
 obtain⟨fv,tv,hv,hR,hT⟩:=hI;obtain⟨A,n,c,rfl,hn,hlc,hC⟩:=R8.reads hR;have hc:w.cell? ⟨g,5,none⟩=some (.slice A n c):=(Qdv hv 5).trans rfl;have hcl:=hC.1;have hu3:=Tryz.underlying108;have hcall:Calls Tryz.prog 70 #[.slice A n c] w fun e w'=>∃v0_:Value,e=.returned (v0_)∧R8 w' w.heap.size v0_ fr∧Below w.heap.size w w':=by
  subst hcl;exact Qjq A c fr w hC hl
 clear hcl
 go_enter Tryz.func29,Tryz.ntmps29
 go_wp2_with (go_at_call 70;refine hcall.mono ?_;rintro e w' ⟨v1,rfl,hd,hb⟩)
 go_ret
 exact⟨_,rfl,hd,hb⟩
theorem Qsb(b0 b g:Nat)(R:Room5)(fr:List Int)(tb:List S117)(fs:List Int)(fsv:Value)(sz:Nat)(w:World)(hI:IsBd w b0 g R fr tb)(hF:R8 w b fsv fs)(hbw:b≤w.heap.size)(hsz:Qao.f R.1 R.2.1=some (sz:Int))(hle:fs.length≤sz)(hs2:sz≤70368744177664) :
  Calls Tryz.prog 69 #[.pointer (some ⟨g,0,none⟩),fsv] w fun e w'=>∃v:Value,e=.returned v∧R8 w' b v (fs++List.replicate (sz-fs.length) 255)∧Below b w w':=by
 obtain⟨fv,tv,hv,hR,hT⟩:=hI;obtain⟨A,n,c,rfl,hn,hlc,hC⟩:=R8.reads hF;have hnf:n=fs.length:=hn.out;have hc0:w.cell? ⟨g,0,none⟩=some (.int .u8 R.1):=(Qdv hv 0).trans rfl;have hc1:w.cell? ⟨g,1,none⟩=some (.int .u32 R.2.1):=(Qdv hv 1).trans rfl;have hu:=Tryz.underlying27;have hu2:=Tryz.underlying47;have hu3:=Tryz.underlying108;have hnsz:n≤sz:=by omega
 have hsub:IntKind.i64.wrap ((sz:Int)-(n:Int))=((sz-n:Nat):Int):=by rw[IntWalk.i64_in _ (by omega)];omega
 have hsub2:(sz:Int)-(n:Int)=((sz-n:Nat):Int):=by omega
 obtain⟨k,hk⟩:∃k,k=sz-n:=⟨_,rfl⟩;rw[← hk]at hsub hsub2;have HK:=QA hk;have HSZ:=QA hsz;have HF:=QA hF;have HNF:=QA hnf;clear hk hsz hF hnf
 go_enter Tryz.func69,Tryz.ntmps69
 go_wp2_with (first
  |(go_at_call 78;refine(Qao.calls _ _ _ _ HSZ.out).mono ?_;rintro e w1 ⟨rfl,hb1⟩)
  |(go_at_call 120;go_loud (refine(Qry _ _ 255 k _ (by have:=HK.out;omega) ?hrep).mono ?_;(case hrep=>exact Kd.C_of_reads (d:=(0:Int)) ⟨rfl,by omega,fun _=>⟨_,rfl,fun j hj=>by(obtain rfl:j=0:=(by omega));exact(Qdv (Qej w1 _) 0).trans rfl⟩⟩);rintro e w2 ⟨A2,c2,rfl,hkc2,hC2,hb2⟩))
  |(at_builtin;refine Kd.R_append_rows (Kd.int .u8) (Rr:=fun x cs=>cs=[.int .u8 x]) (w0:=w) b rfl (.tmp 15) (.tmp 18) 52 5 (.int .u8 0) 1 rfl Tryz.underlying52 Qiq rfl (by decide) (by omega) (.slice A n c) fs (List.replicate k 255) A2 k c2 (fun _=>True) (fun _=>False) rfl rfl ?bO hC2 (fun _ _ h=>h) (fun _ hk=>hk.elim) (fun _ _=>trivial) ?bB ?bS ?bL ?_;(case bO=>exact R8.kept (R8.kept (R8.kept HF.out hb1) (Qcw (Below.refl _ _) _)) hb2);(case bB=>exact((Qjp hb1 hbw).trans (Qjp (Qcw (Below.refl w1.heap.size w1) _) (Nat.le_trans hbw hb1.size))).trans (Qjp hb2 (by rw[World.size_alloc];have:=hb1.size;omega)););(case bS=>have h1:=hb1.size;have h2:=hb2.size;rw[World.size_alloc]at h2;omega);(case bL=>have:=HK.out;have:=HNF.out;omega);intro v3 w3 a hb3 l hat3))
 go_ret
 refine⟨v3,rfl,?_,hb3⟩;have e1:k=sz-fs.length:=by rw[HK.out,HNF.out]
 rw[← e1];exact a
theorem Qsc(b g:Nat)(R:Room5)(fr:List Int)(tb:List S117)(sz:Nat)(w:World)(hI:IsBd w b g R fr tb)(hsz:Qao.f R.1 R.2.1=some (sz:Int))(hle:fr.length≤sz)(hs2:sz≤70368744177664) :
  Calls Tryz.prog 30 #[.pointer (some ⟨g,0,none⟩)] w fun e w'=>∃v:Value,e=.returned v∧R8 w' w.heap.size v (fr++List.replicate (sz-fr.length) 255)∧Below w.heap.size w w':=by
 go_enter Tryz.func30,Tryz.ntmps30
 go_wp2_with (first
  |(go_at_call 29;refine(Qsa b g R fr tb w hI (by omega)).mono ?_;rintro e w1 ⟨v1,rfl,hR1,hb1⟩)
  |(go_at_call 69;refine(Qsb b w.heap.size g R fr tb fr v1 sz w1 (hI.kept hb1) hR1 hb1.size hsz hle hs2).mono ?_;rintro e w2 ⟨v2,rfl,hR2,hb2⟩))
 go_ret
 exact⟨v2,rfl,hR2,hb1.trans hb2⟩
def Qsd(W:World)(g:Nat)(R:Room5)(fv tv:Value):Prop:=W.heap[g]? = some (.cells #[.int .u8 R.1,.int .u32 R.2.1,.int .u32 R.2.2.1,.int .i64 R.2.2.2.1,.int .i64 R.2.2.2.2,fv,tv] 108 (0,0))
theorem Qse{W:World}{g:Nat}{R:Room5}{fv tv:Value}(h:Qsd W g R fv tv) :
  W.cell? ⟨g,0,none⟩=some (.int .u8 R.1)∧W.cell? ⟨g,1,none⟩=some (.int .u32 R.2.1)∧W.cell? ⟨g,2,none⟩=some (.int .u32 R.2.2.1)∧W.cell? ⟨g,3,none⟩=some (.int .i64 R.2.2.2.1)∧W.cell? ⟨g,4,none⟩=some (.int .i64 R.2.2.2.2)∧W.cell? ⟨g,5,none⟩=some fv∧W.cell? ⟨g,6,none⟩=some tv :=
 ⟨(Qdv h 0).trans rfl,(Qdv h 1).trans rfl,(Qdv h 2).trans rfl,(Qdv h 3).trans rfl,(Qdv h 4).trans rfl,(Qdv h 5).trans rfl,(Qdv h 6).trans rfl⟩
theorem Qsf:(Tryz.prog.info? 117).map (fun i=>(i.zero,i.size,i.bytes))=some (some (.agg #[.int .u64 0,.int .u32 0]),2,16):=by kernel_rfl
theorem bd_set5{W:World}{b g:Nat}{R:Room5}(R':Room5){fv tv:Value}{fr:List Int}{tb:List S117}(hv:Qsd W g R fv tv)(hR:R8 W b fv fr)(hT:Kd.R k117 117 W b (fun _=>True) tv tb)(hbg:b≤g) :
  ∃W',W'=(((((W.setCell ⟨g,0,none⟩ (.int .u8 R'.1)).setCell ⟨g,1,none⟩ (.int .u32 R'.2.1)).setCell ⟨g,2,none⟩ (.int .u32 R'.2.2.1)).setCell ⟨g,3,none⟩ (.int .i64 R'.2.2.2.1)).setCell ⟨g,4,none⟩ (.int .i64 R'.2.2.2.2)) ∧
   Qsd W' g R' fv tv∧R8 W' b fv fr∧Kd.R k117 117 W' b (fun _=>True) tv tb∧Below b W W'∧∀k,k≠g→W'.heap[k]? = W.heap[k]?:=by
 have ht:∀q,q∈117 :: (k117).E→q≠108:=by decide
 have b1:=Qds hv 0 (.int .u8 R'.1);have b2:=Qds b1 1 (.int .u32 R'.2.1);have b3:=Qds b2 2 (.int .u32 R'.2.2.1);have b4:=Qds b3 3 (.int .i64 R'.2.2.2.1);have b5:=Qds b4 4 (.int .i64 R'.2.2.2.2);refine⟨_,rfl,b5,?_,?_,?_,fun k hk=>?_⟩
 ·exact R8.set (R8.set (R8.set (R8.set (R8.set hR hv (by decide) 0 _) b1 (by decide) 1 _) b2 (by decide) 2 _) b3 (by decide) 3 _) b4 (by decide) 4 _
 ·exact Kd.R_set (Kd.R_set (Kd.R_set (Kd.R_set (Kd.R_set hT hv ht 0 _) b1 ht 1 _) b2 ht 2 _) b3 ht 3 _) b4 ht 4 _
 ·exact Qjo (Qjo (Qjo (Qjo (Qjo (Below.refl _ _) hbg) hbg) hbg) hbg) hbg
 ·rw[Below.heap_setCell _ _ _ k hk,Below.heap_setCell _ _ _ k hk,Below.heap_setCell _ _ _ k hk,Below.heap_setCell _ _ _ k hk,Below.heap_setCell _ _ _ k hk]
def Tb(g:Nat)(w w':World):Prop:=∀k cs t,w.heap[k]? = some (.cells cs t (0,0))→t≠5→t≠117→k≠g→w'.heap[k]? = some (.cells cs t (0,0))
theorem Tb.below{g:Nat}{w w':World}(h:Below w.heap.size w w'):Tb g w w':=fun _ _ _ h1 _ _ _=>Qei h1 h
theorem Tb.trans{g:Nat}{a b c:World}(h:Tb g a b)(k:Tb g b c):Tb g a c:=fun _ _ _ h1 h2 h3 h4=>k _ _ _ (h _ _ _ h1 h2 h3 h4) h2 h3 h4
theorem Tb.set{g j:Nat}{w W:World}(h:Tb g w W)(v:Value):Tb g w (W.setCell ⟨g,j,none⟩ v):=fun _ _ _ h1 h2 h3 h4=>Qdt (h _ _ _ h1 h2 h3 h4) h4 v
theorem Tb.grown{g q:Nat}{w W W':World}{row:Option Nat}(h:Tb g w W)(hg:W.grownBy W' row)(hty:∀k,row=some k→∃cells,W.heap[k]? = some (.cells cells q (0,0)))(hq:q=5∨q=117):Tb g w W':=fun k cs t h1 h2 h3 h4=>by
 have h5:=h _ _ _ h1 h2 h3 h4;refine Qdx h5 hg (fun e=>?_);obtain⟨cells,hc⟩:=hty k e.symm;rw[hc]at h5
 injection h5 with h5
 injection h5 with _ h5
 rcases hq with hq|hq
 ·exact h2 (h5.symm.trans hq)
 ·exact h3 (h5.symm.trans hq)
theorem bd_Add(b g:Nat)(R R':Room5)(fr F:List Int)(tb:List S117)(d:Bool)(s:Int)(key v:ByteArray)(w:World)(hI:IsBd w b g R fr tb)(hbg:b≤g)(hbw:b≤w.heap.size)
  (hchk:chk d key v=0) (hput:Qbz.f d s key v=some (F,0)) (htl:Qck.f R.1 R.2.1 F.length=some false) (htk:Qcj.f R.1 R.2.1 R.2.2.1 R.2.2.2.1 R.2.2.2.2 F.length=some (R'.1,R'.2.1,R'.2.2.1,R'.2.2.2.1,R'.2.2.2.2,0))
  (hl:fr.length+F.length≤70368744177664) (hk:key.size≤70368744177664) (ht:tb.length≤1099511627776) :
  Calls Tryz.prog 21 #[.pointer (some ⟨g,0,none⟩),.agg #[.bool d,.int .u64 s,.string key,.string v]] w fun e w'=>e=.returned (.tuple #[.int .u32 ((fr.length:Int)%4294967296),.int .i64 0])∧IsBd w' b g R' (fr++F) (tb++[⟨Qmn 0 (bytesOf key),(fr.length:Int)%4294967296⟩])∧Below b w w'∧Tb g w w':=by
 have hu:=Tryz.underlying39;have hu1:=Tryz.underlying27;have hu2:=Tryz.underlying47;have hu3:=Tryz.underlying108;obtain⟨fv,tv,hv,hR,hT⟩:=hI;obtain⟨AT,nT,cT,rfl⟩:∃A n c,tv=.slice A n c:=by
  obtain⟨A,c,e⟩:=Kd.R_slice hT;exact⟨A,_,c,e⟩
 obtain⟨A,n,c,rfl,hn,hlc,hC⟩:=R8.reads hR;have hv':Qsd w g R (.slice A n c) (.slice AT nT cT):=hv;have hgw:g<w.heap.size:=Qdu hv;have hcheck:=Qnt d s key v;rw[hchk]at hcheck;have HCK:=QA hcheck;have HPU:=QA hput;have HTL:=QA htl;have HTK:=QA htk;have HR:=QA hR;have HT:=QA hT;have HV:=QA hv';have r:=hn;clear hcheck hput htl htk hchk hR hT hv hC hn hv';have hba:Below w.heap.size w (w.alloc (.cells #[.bool d,.int .u64 s,.string key,.string v] 39)):=Qcw (Below.refl _ _) _;have hbn:=Qej w (.cells #[.bool d,.int .u64 s,.string key,.string v] 39)
 go_enter Tryz.func21,Tryz.ntmps21
 go_upto_region 12 with(first
  |(go_at_call 56;refine(Qcm.calls 1 _ s key v 0 _ HCK.out).mono ?_;rintro e w1 ⟨rfl,hb1⟩;have hB1:=QA (Qcz hba hba.size hb1);have hk1:=Qei hbn hb1;obtain⟨c0,c1,c2,c3⟩:=box4 hk1)
  |(go_at_call 57;refine(Qbz.calls _ s key v F 0 _ HPU.out).mono ?_;rintro e w2 ⟨vF,rfl,hRF,hb2⟩;have hB2:=QA (Qcz hB1.out hB1.out.size hb2);have hk2:=Qei hk1 hb2;obtain⟨AF,nF,cF,rfl,hnF,hlF,hCF⟩:=R8.reads hRF;have hv2:Qsd w2 g R (.slice A n c) (.slice AT nT cT):=Qei HV.out hB2.out;obtain⟨g0,g1,g2,g3,g4,g5,g6⟩:=Qse hv2;clear c0 c1 c2 c3)
  |(go_at_call 58;refine(Qck.calls _ _ _ false _ (by rw[hnF.out];exact HTL.out)).mono ?_;rintro e w3 ⟨rfl,hb3⟩;have hB3:=QA (Qcz hB2.out hB2.out.size hb3);have hk3:=Qei hk2 hb3;have hv3:Qsd w3 g R (.slice A n c) (.slice AT nT cT):=Qei HV.out hB3.out;obtain⟨h0,h1,h2,h3,h4,h5,h6⟩:=Qse hv3;clear g0 g1 g2 g3 g4 g5 g6)
  |(go_at_call 59;refine(Qcj.calls _ _ _ _ _ _ _ _ _ _ _ _ _ (by rw[hnF.out];exact HTK.out)).mono ?_;rintro e w4 ⟨rfl,hb4⟩;have hB4:=QA (Qcz hB3.out hB3.out.size hb4);have hk4:=Qei hk3 hb4;have hv4:Qsd w4 g R (.slice A n c) (.slice AT nT cT):=Qei HV.out hB4.out;have hv5:Qsd (w4.alloc (.cells #[.int .u8 R'.1,.int .u32 R'.2.1,.int .u32 R'.2.2.1,.int .i64 R'.2.2.2.1,.int .i64 R'.2.2.2.2] 47)) g R (.slice A n c) (.slice AT nT cT):=Qef hv4 _;obtain⟨i0,i1,i2,i3,i4,i5,i6⟩:=Qse hv5;have f0:=Qdw hv5 0;have f1:=Qdw hv5 1;have f2:=Qdw hv5 2;have f3:=Qdw hv5 3;have f4:=Qdw hv5 4;have f5:=Qdw hv5 5;clear h0 h1 h2 h3 h4 h5 h6))
 have hv5:Qsd (w4.alloc (.cells #[.int .u8 R'.1,.int .u32 R'.2.1,.int .u32 R'.2.2.1,.int .i64 R'.2.2.2.1,.int .i64 R'.2.2.2.2] 47)) g R (.slice A n c) (.slice AT nT cT):=Qef hv4 _;have hb5:Below w4.heap.size w4 (w4.alloc (.cells #[.int .u8 R'.1,.int .u32 R'.2.1,.int .u32 R'.2.2.1,.int .i64 R'.2.2.2.1,.int .i64 R'.2.2.2.2] 47)):=Qcw (Below.refl _ _) _;have hB5:=Qcz hB4.out hB4.out.size hb5;obtain⟨W6,hW6,hv6,hR6,hT6,hb6,hk6⟩:=bd_set5 R' hv5 (R8.kept HR.out hB5) (Kd.R_below HT.out hB5) hbg;have K6:Aside0 (Tb g w W6):=⟨fun k cs t h1 _ _ h4=>(hk6 k h4).trans (Qei h1 hB5)⟩;rw[← hW6];have hs6:w4.heap.size≤W6.heap.size:=Nat.le_trans hb5.size hb6.size;clear hW6 i0 i1 i2 i3 i4 i5 i6 f0 f1 f2 f3 f4 f5;obtain⟨m0,m1,m2,m3,m4,m5,m6⟩:=Qse hv6;have D:g<w1.heap.size:=Nat.lt_of_lt_of_le hgw hB1.out.size;have hRF5:=R8.kept (R8.kept (R8.kept hRF hb3) hb4) hb5;have hRF6:R8 W6 w1.heap.size (.slice AF nF cF) F:=Kd.R_mono (Kd.R_step (Kd.R_bound hRF5) (fun k hk _=>hk6 k (by have:=hk.2.1;omega))) (fun _ _=>trivial);have hCF6:Kd.C (Kd.int .u8) W6 AF nF F:=by
  have h:=Kd.R_reads' hRF6;rw[h.1];exact h.2.2
 have hB6:=QA ((Qjp hB5 hbw).trans hb6);have hz6:b≤W6.heap.size:=Nat.le_trans hbw hB6.out.size;clear hRF5 hRF6 hRF
 go_wp2_with (first
  |(at_builtin;go_loud (refine Kd.R_append_rows (Kd.int .u8) (Rr:=fun x cs=>cs=[.int .u8 x]) (w0:=W6) b rfl (.tmp 57) (.tmp 58) 52 5 (.int .u8 0) 1 rfl Tryz.underlying52 Qiq rfl (by decide) (by omega) (.slice A n c) fr F AF nF cF (fun _=>True) (fun _=>False) rfl rfl hR6 hCF6 (fun _ _ h=>h) (fun _ hk=>hk.elim) (fun _ _=>trivial) (Below.refl _ _) hz6 ?bL ?_;(case bL=>have:=hnF.out;omega);intro v7 w7 l hb7 j hat7;obtain⟨A7,n7,c7,rfl⟩:=R8.shape l;have hv7:Qsd w7 g R' (.slice A n c) (.slice AT nT cT):=Qdx hv6 j (R8.clean hR6 hv6 (by decide));obtain⟨p0,p1,p2,p3,p4,p5,p6⟩:=Qse hv7;have f5:=Qdw hv7 5;clear m0 m1 m2 m3 m4 m5 m6)))
 have K7:=QA (Tb.grown K6.out j (Kd.R_typed hR6) (.inl rfl));have hgB:w.heap.size≠g:=by omega
 have q5:=Qef hk4 (.cells #[.int .u8 R'.1,.int .u32 R'.2.1,.int .u32 R'.2.2.1,.int .i64 R'.2.2.2.1,.int .i64 R'.2.2.2.2] 47);have q6:=(hk6 _ hgB).trans q5;have q7:=Qdx q6 j (R8.clean hR6 q6 (by decide));have hT7:=Kd.R_over' hT6 (Kd.R_typed hR6) (by decide) j;have ht:∀q,q∈117 :: (k117).E→q≠108:=by decide
 obtain⟨W8,hW8⟩:∃W8,W8=w7.setCell ⟨g,5,none⟩ (.slice A7 n7 c7):=⟨_,rfl⟩;have q8:W8.heap[w.heap.size]? = some (.cells #[.bool d,.int .u64 s,.string key,.string v] 39 (0,0)):=by rw[hW8];exact Qdt q7 hgB _
 have hv8:Qsd W8 g R' (.slice A7 n7 c7) (.slice AT nT cT):=by rw[hW8];exact Qds hv7 5 _
 have hR8:R8 W8 b (.slice A7 n7 c7) (fr++F):=by rw[hW8];exact R8.set l hv7 (by decide) 5 _
 have hT8:Kd.R k117 117 W8 b (fun _=>True) (.slice AT nT cT) tb:=by rw[hW8];exact Kd.R_set hT7 hv7 ht 5 _
 have hB8:Aside0 (Below b w W8):=⟨by rw[hW8];exact Qjo (hB6.out.trans hb7) hbg⟩;have K8:Aside0 (Tb g w W8):=⟨by rw[hW8];exact K7.out.set _⟩;rw[← hW8];clear hW8;have u:=QA hR8;have HT8:=QA hT8;clear hR8 hT8 hT7 hT6 hR6 l q5 q6 q7 hv7;obtain⟨r0,r1,r2,r3⟩:=box4 q8;obtain⟨s0,s1,s2,s3,s4,s5,s6⟩:=Qse hv8;have hz8:b≤W8.heap.size:=Nat.le_trans hbw hB8.out.size;clear p0 p1 p2 p3 p4 p5 p6;have hnn:n=fr.length:=r.out;have HNN:=QA hnn;clear hnn
 go_region_law (first
  |(go_simp;go_at_call 60;refine(hash_of key W8.drew (by omega)).mono ?_;rintro e w9 ⟨rfl,hb9⟩;have hv9:Qsd w9 g R' (.slice A7 n7 c7) (.slice AT nT cT):=Qei (w:=W8.drew) hv8 hb9;have hB9:Aside0 (Below b w w9):=⟨(hB8.out.trans (Qcx (Below.refl _ _))).trans (Qjp hb9 hz8)⟩;have K9:=QA (K8.out.trans (Tb.below (w:=W8.drew) hb9));have y:=QA (R8.kept (W:=W8.drew) u.out hb9);have HT9:=QA (Kd.R_below (w:=W8.drew) HT8.out hb9);obtain⟨u0,u1,u2,u3,u4,u5,u6⟩:=Qse hv9;have a6:∀o,(w9.alloc o).cell? ⟨g,6,none⟩=some (.slice AT nT cT):=(fun o=>(Qse (Qef hv9 o)).2.2.2.2.2.2))
  |(refine Kd.R_append_step k117 (w0:=w) b (by rfl) (.tmp 66) (.tmp 72) 106 117 (.agg #[(.int .u64 0),(.int .u32 0)]) 16 rfl Tryz.underlying106 Qsf rfl (by decide) (by omega) (.slice AT nT cT) tb (⟨Qmn 0 (bytesOf key),(n:Int)%4294967296⟩:S117) [.int .u64 (Qmn 0 (bytesOf key)),.int .u32 ((n:Int)%4294967296)] (fun _=>True) (fun _=>False) rfl ?ax ?aP (fun _ hk=>hk.elim) (fun _ _=>trivial) ?aO hB9.out ?aS ?aL ?_;(case ax=>rfl);(case aP=>exact Qiy _ _ _ (⟨Qmn 0 (bytesOf key),(n:Int)%4294967296⟩:S117));(case aO=>exact HT9.out);(case aS=>exact Nat.le_trans hbw hB9.out.size);(case aL=>omega);intro z B m hb10 a hat10;obtain⟨G,I,c10,rfl⟩:∃A n c,z=.slice A n c:=(by obtain⟨A,c,e⟩:=Kd.R_slice m;exact⟨A,_,c,e⟩);have hv10:Qsd B g R' (.slice A7 n7 c7) (.slice AT nT cT):=Qdx hv9 a (Kd.R_ne HT9.out hv9 (by decide));have K10:=QA (Tb.grown K9.out a (Kd.R_typed HT9.out) (.inr rfl));have p:=QA (Kd.R_over' y.out (Kd.R_typed HT9.out) (by decide) a);obtain⟨x0,x1,x2,x3,x4,x5,x6⟩:=Qse hv10;have fx:=Qdw hv10 6;clear u0 u1 u2 u3 u4 u5 u6 a6))
 all_goals
  go_wp2;refine bodyPost_ret (results_tmp2 rfl _ _ _) rfl ?_;refine⟨by(rw[← HNN.out];rfl),⟨_,_,Qds hv10 6 _,R8.set p.out hv10 (by decide) 6 _,?_⟩,Qjo hb10 hbg,K10.out.set _⟩;rw[← HNN.out];exact Kd.R_set m hv10 ht 6 _
def h12:List Int:=[5,1,2,12,1,9,239,228,35,222,95,189,149,23,0]
theorem head12:Qby.f 12 1 0=some (h12,0):=by kernel_rfl
theorem empty12:Qcf.f 12 1 0=some (12,1,0,15,0,0):=by kernel_rfl
theorem size12:Qao.f 12 1=some ((4096:Nat):Int):=by kernel_rfl
def o12:List Int:=h12++List.replicate (4096-h12.length) 255
theorem o12_at:o12.length=4096∧rd o12 14=0∧rd o12 15=255∧rd o12 4095=255:=⟨by kernel_rfl,by kernel_rfl,by kernel_rfl,by kernel_rfl⟩
def Qap.f:Option Bool:=some true
theorem Qap.calls(r:Bool)(w:World)(h:Qap.f=some r) :
  Calls Tryz.prog 15 #[] w fun e w'=>e=.returned (.bool r)∧Below w.heap.size w w':=by
 obtain rfl:=Option.some.inj h;have hu:=Tryz.underlying27
 go_enter Tryz.func15,Tryz.ntmps15
 go_wp2_with (first
  |(go_at_call 18;refine(Qrz 12 1 0 15 0 h12 w empty12 head12).mono ?_;rintro e w1 ⟨g,rfl,hI1,hb1,hg1⟩)
  |(go_at_call 30;go_loud (refine(Qsc w.heap.size g (12,1,0,15,0) h12 [] 4096 w1 hI1 size12 (by decide) (by decide)).mono ?_;rintro e w2 ⟨v2,rfl,hR2,hb2⟩;obtain⟨A2,n2,c2,rfl,hn2,hlc2,hC2⟩:=R8.reads hR2;have hn2':n2=4096:=hn2.out.trans o12_at.1;subst hn2';obtain⟨ad,rfl,x14⟩:=Kd.at_int hC2 14 (by decide) (by decide);obtain⟨ad',hh,x15⟩:=Kd.at_int hC2 15 (by decide) (by decide);cases hh;obtain⟨ad',hh,x4095⟩:=Kd.at_int hC2 4095 (by decide) (by decide);cases hh;have y14:w2.cell? ⟨ad.block,ad.off+14,none⟩=some (.int .u8 0):=x14.trans (congrArg (fun z=>some (Value.int .u8 z)) o12_at.2.1);have y15:w2.cell? ⟨ad.block,ad.off+15,none⟩=some (.int .u8 255):=x15.trans (congrArg (fun z=>some (Value.int .u8 z)) o12_at.2.2.1);have y4095:w2.cell? ⟨ad.block,ad.off+4095,none⟩=some (.int .u8 255):=x4095.trans (congrArg (fun z=>some (Value.int .u8 z)) o12_at.2.2.2);clear x14 x15 x4095)))
 go_ret
 exact⟨rfl,hb1.trans (Qjp hb2 hb1.size)⟩
end Go.Proofs.YtnnofopfbeklbaaGreat.C
end
section
namespace Go.Proofs.YtnnofopfbeklbaaGreat.C
open Go.RowKit Go.Proofs.YtnnofopfbeklbaaGreatW.PrintWords Go.Proofs.YtnnofopfbeklbaaGreatW.PrintLast Go.Proofs.YtnnofopfbeklbaaGreatW.PrintMore
attribute [local go_sem] Qib Qic Qid Qie
theorem Qqk(bs:List Int):∀(f:Nat) (j i x:Int),0≤i→i≤(bs.length:Int)→0≤x→x<18446744073709551616 →
  match Qqi bs f j i x with
  | .ok (n,i1)=>0≤n∧n<18446744073709551616∧i≤i1∧i1≤(bs.length:Int)
  | .error (_,i1)=>i≤i1∧i1≤(bs.length:Int)
 | 0,_,i,x=>fun h0 h1 h2 h3=>⟨h2,h3,Int.le_refl _,h1⟩
 | f + 1,j,i,x=>fun h0 h1 h2 h3=>by
  obtain⟨y,hy⟩:∃y,y=Go.bits .or .u64 x (shl .u64 (IntKind.u64.wrap (Go.bits .andNot .u8 (YtnnofopfbeklbaaGreatW.PrintWords.rd bs i) 128)) (7*j)):=⟨_,rfl⟩;have hr:0≤y∧y<18446744073709551616:=by
   have e:∀z:Int,0≤IntKind.u64.wrap z∧IntKind.u64.wrap z<18446744073709551616:=fun z=>by rw[IntKind.wrap_u64];omega
   rw[hy];exact e _
  unfold Qqi;rw[← hy]
  by_cases hlt:i<(bs.length:Int)
  ·rw[if_pos hlt]
   by_cases c1:j=9∧1<YtnnofopfbeklbaaGreatW.PrintWords.rd bs i
   ·rw[if_pos c1];exact⟨by omega,by omega⟩
   ·rw[if_neg c1]
    by_cases c2:128≤YtnnofopfbeklbaaGreatW.PrintWords.rd bs i
    ·rw[if_pos c2];have h:=Qqk bs f (j+1) (i+1) y (by omega) (by omega) hr.1 hr.2
     revert h
     cases Qqi bs f (j+1) (i+1) y with
     | ok p=>exact fun h=>⟨h.1,h.2.1,by have:=h.2.2.1;omega,h.2.2.2⟩
     | error p=>exact fun h=>⟨by have:=h.1;omega,h.2⟩
    ·rw[if_neg c2]
     by_cases c3:YtnnofopfbeklbaaGreatW.PrintWords.rd bs i=0∧0<j
     ·rw[if_pos c3];exact⟨by omega,by omega⟩
     ·rw[if_neg c3];exact⟨hr.1,hr.2,by omega,by omega⟩
  ·rw[if_neg hlt];exact⟨Int.le_refl _,h1⟩
def Qql(bs:List Int)(least most i:Int):Except (Int × Int) (List Int × Int) :=
 match Qqi bs 10 0 i 0 with
 | .error p=>.error p
 | .ok (n,i1)=>if most<n then .error (3,i1)else if n<least then .error (4,i1)else if i1+n≤(bs.length:Int)then .ok ((bs.drop i1.toNat).take n.toNat,i1+n)else .error (2,i1)
theorem Qqm(b g:Nat)(bs:List Int)(i least most:Int)(hle:0≤least∧least≤4611686018427387904)(hmo:0≤most∧most≤4611686018427387904)(hb:CodecP.Bytes bs)(hi:0≤i∧i≤(bs.length:Int))(hl:bs.length≤140737488355328)(hbg:b≤g)(w:World)(hbw:b≤w.heap.size)(hI:IsCur w b g bs i)(R:Except (Int × Int) (Value × Int))(hR:(Qql bs least most i).map (fun p=>(Value.string (strOfNums p.1),p.2))=R) :
  Calls Tryz.prog 177 #[.pointer (some ⟨g,0,none⟩),.int .i64 least,.int .i64 most] w (Ends b g bs w R):=by
 have HI:=QA hI;have HW:=QA hbw;have hrg:=Qqk bs 10 0 i 0 hi.1 hi.2 (by decide) (by decide);have hwl:IntKind.u64.wrap least=least:=IntWalk.u64_in _ (by omega);have hwm:IntKind.u64.wrap most=most:=IntWalk.u64_in _ (by omega);have hm1:max 0 most=most:=by omega
 have hm2:max 0 least=least:=by omega
 have d:∀W:World,(convert 52 9 (.slice none 0 0)).run Tryz.prog W=.ok (.string (strOfNums [])) W:=fun W=>Qdg (P:=Tryz.prog) Tryz.underlying52 Tryz.underlying5 Tryz.underlying9 (Kd.own_of_R (Kd.R_nil (Kd.int .u8) 5 W b (fun _=>True)))
 unfold Qql at hR;clear hI hbw
 cases hv:Qqi bs 10 0 i 0 with
 | error p =>
  obtain⟨er,i1⟩:=p;rw[hv]at hR hrg;simp only[Except.map]at hR;have HV:=QA hv;clear hv;subst hR
  go_enter Tryz.func177,Tryz.ntmps177
  go_wp2_with (go_at_call 176;refine(Qqj b g bs i hb hi hl hbg _ HW.out HI.out (.error (er,i1)) (by rw[HV.out];rfl)).mono ?_;rintro ee w1 ⟨rfl,hI1,hB1⟩)
  all_goals first|exact⟨rfl,rfl,hI1,hB1⟩ |(exfalso;omega)
 | ok p =>
  obtain⟨n,i1⟩:=p;rw[hv]at hR hrg;obtain⟨h,j,hi0,hi1⟩:=hrg;dsimp only at hR;have HV:=QA hv;clear hv;have GET:Aside0 (Calls Tryz.prog 176 #[.pointer (some ⟨g,0,none⟩)] w (Ends b g bs w (.ok (.int .u64 n,i1)))):=⟨Qqj b g bs i hb hi hl hbg _ HW.out HI.out (.ok (.int .u64 n,i1)) (by rw[HV.out];rfl)⟩
  by_cases c1:most<n
  ·rw[if_pos c1]at hR;simp only[Except.map]at hR;subst hR;have a:decide (most<n)=true:=decide_eq_true c1
   go_enter Tryz.func177,Tryz.ntmps177
   go_wp2_with (first
    |(go_at_call 176;refine GET.out.mono ?_;rintro ee w1 ⟨rfl,hI1,hB1⟩)
    |(go_at_call 175;refine(Qpe b g bs i1 3 (by decide) _ hI1).mono ?_;rintro ee w2 ⟨rfl,rfl⟩))
   all_goals first|exact⟨rfl,rfl,hI1,hB1⟩ |(exfalso;omega)
  ·rw [if_neg c1]at hR;have a:decide (most<n)=false:=decide_eq_false c1;have hwn:IntKind.i64.wrap n=n:=IntWalk.i64_in _ (by omega)
   by_cases c2:n<least
   ·rw[if_pos c2]at hR;simp only[Except.map]at hR;subst hR;have c:decide (n<least)=true:=decide_eq_true c2
    go_enter Tryz.func177,Tryz.ntmps177
    go_wp2_with (first
     |(go_at_call 176;refine GET.out.mono ?_;rintro ee w1 ⟨rfl,hI1,hB1⟩)
     |(go_at_call 175;refine(Qpe b g bs i1 4 (by decide) _ hI1).mono ?_;rintro ee w2 ⟨rfl,rfl⟩))
    all_goals first|exact⟨rfl,rfl,hI1,hB1⟩ |(exfalso;omega)
   ·rw [if_neg c2]at hR;have c:decide (n<least)=false:=decide_eq_false c2
    by_cases c3:i1+n≤(bs.length:Int)
    ·rw[if_pos c3]at hR;simp only[Except.map]at hR;subst hR
     by_cases c4:n≤0
     ·obtain rfl:n=0:=by omega
      go_enter Tryz.func177,Tryz.ntmps177
      go_wp2_with (first
       |(go_at_call 176;refine GET.out.mono ?_;rintro ee w1 ⟨rfl,hI1,hB1⟩)
       |(go_at_call 193;refine(Qpg b g bs i1 0 (by decide) _ hI1).mono ?_;rintro ee w2 ⟨rfl,rfl⟩))
      all_goals go_ret
      all_goals exact⟨rfl,hI1,hB1⟩
     ·obtain⟨xs,hxs⟩:∃xs,xs=(bs.drop i1.toNat).take n.toNat:=⟨_,rfl⟩;rw[← hxs];have HX:=QA hxs;clear hxs
      go_enter Tryz.func177,Tryz.ntmps177
      go_wp2_with (first
       |(go_at_call 176;refine GET.out.mono ?_;rintro ee w1 ⟨rfl,hI1,hB1⟩)
       |(go_at_call 193;refine(Qpi b g bs xs i1 n HX.out (by omega) (by omega) hl c3 hbg _ (Nat.le_trans HW.out hB1.size) hI1).mono ?_;rintro ee w2 ⟨v,rfl,hRv,hI2,hB2⟩;have cv:=Qdg (P:=Tryz.prog) Tryz.underlying52 Tryz.underlying5 Tryz.underlying9 (Kd.own_of_R hRv)))
      all_goals first |(go_ret;exact⟨rfl,hI2,hB1.trans hB2⟩) |(exfalso;omega)
    ·rw[if_neg c3]at hR;simp only[Except.map]at hR;subst hR
     go_enter Tryz.func177,Tryz.ntmps177
     go_wp2_with (first
      |(go_at_call 176;refine GET.out.mono ?_;rintro ee w1 ⟨rfl,hI1,hB1⟩)
      |(go_at_call 193;refine(Qpf b g bs i1 n (by omega) ⟨by omega,hi1⟩ hl (by omega) _ hI1).mono ?_;rintro ee w2 ⟨rfl,hb2⟩))
     all_goals first|exact⟨rfl,rfl,hI1.kept hb2,hB1.trans (Bw.below hb2 (Nat.le_trans HW.out hB1.size))⟩ |(exfalso;omega)
end Go.Proofs.YtnnofopfbeklbaaGreat.C
end
