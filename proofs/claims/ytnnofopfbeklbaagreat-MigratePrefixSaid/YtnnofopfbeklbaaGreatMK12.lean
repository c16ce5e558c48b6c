/- Merged texts. -/
import Derived.Test.YtnnofopfbeklbaaGreatMK02
import Derived.Test.YtnnofopfbeklbaaGreatMK11
import Derived.Test.YtnnofopfbeklbaaGreatMK03
import Derived.Test.YtnnofopfbeklbaaGreatMK04
import Derived.Test.YtnnofopfbeklbaaGreatMK05
set_option linter.unusedVariables false
set_option linter.unusedSimpArgs false
set_option maxHeartbeats 8000000
set_option maxRecDepth 100000
section
namespace Go.Proofs.YtnnofopfbeklbaaGreat.C
open Go.RowKit Go.Proofs.YtnnofopfbeklbaaGreatW.PrintWords Go.Proofs.YtnnofopfbeklbaaGreatW.PrintLast Go.Proofs.YtnnofopfbeklbaaGreatW.PrintMore
attribute [local go_sem] Qjm Qjn Qjo Qjp Qjq Qjr Qjs Qjt
def Qda.l0:Nat→List Int→List Int→Int→Int→Int→Int→Int→Int→Int→Int→Int→Int→Int→Int→Int→Int→Option (List Int × Int)
 | 0,_,_,_,_,_,_,_,_,_,_,_,_,_,_,_,_=>none
 | k+1,x10,x29,x30,x31,x151000,x151001,x158000,x158001,x158002,x158003,x158004,x165000,x165001,x165002,x165003,x165004=>if x31<x30 then(if 0≤x31 then(if x31<(x29.length:Int)then((Qdb.f x165000 x165001 x165002 x165003 x165004 (rd x29 x31)).bind fun t166=>(if t166=true then((Qdb.f x158000 x158001 x158002 x158003 x158004 (rd x29 x31)).bind fun t167=>(if t167=true then((Qdd.f x158000 x158001 x158002 x158003 x158004 (rd x29 x31)).bind fun bt168=>(if x10.length<35184372088832 then(Qda.l0 k (x10++[bt168.2.2.1]) x29 x30 (wrap64 (x31+1)) x151000 x151001 bt168.1 bt168.2.1 bt168.2.2.1 bt168.2.2.2.1 bt168.2.2.2.2.1 x165000 x165001 x165002 x165003 x165004)else(none)))else((Qcz.f x151000 x151001 ((x158002+1)%4294967296)).bind fun bt177=>(if bt177.2.2.2.2.2=0 then((Qdd.f bt177.1 bt177.2.1 bt177.2.2.1 bt177.2.2.2.1 bt177.2.2.2.2.1 (rd x29 x31)).bind fun bt183=>(if x10.length<35184372088832 then(Qda.l0 k (x10++[bt183.2.2.1]) x29 x30 (wrap64 (x31+1)) x151000 x151001 bt183.1 bt183.2.1 bt183.2.2.1 bt183.2.2.2.1 bt183.2.2.2.2.1 x165000 x165001 x165002 x165003 x165004)else(none)))else(some (([]:List Int),7))))))else(some (([]:List Int),6))))else(none))else(none))else(some (x10,0))
def Qda.f(k:Nat)(a0_0:Int)(a0_1:Int)(l1:List Int):Option (List Int × Int):=(Qcz.f a0_0 a0_1 0).bind fun bt151=>(if bt151.2.2.2.2.2=0 then((Qcz.f a0_0 a0_1 ((a0_1-1)%4294967296)).bind fun bt158=>(Qda.l0 k ([]:List Int) l1 (l1.length:Int) 0 a0_0 a0_1 bt151.1 bt151.2.1 bt151.2.2.1 bt151.2.2.2.1 bt151.2.2.2.2.1 bt158.1 bt158.2.1 bt158.2.2.1 bt158.2.2.2.1 bt158.2.2.2.2.1))else(some (([]:List Int),bt151.2.2.2.2.2)))
theorem Qda.mono_l:∀k,(∀y0 y1 y2 y3 y4 y5 y6 y7 y8 y9 y10 y11 y12 y13 y14 y15,LeO (Qda.l0 k y0 y1 y2 y3 y4 y5 y6 y7 y8 y9 y10 y11 y12 y13 y14 y15) (Qda.l0 (k+1) y0 y1 y2 y3 y4 y5 y6 y7 y8 y9 y10 y11 y12 y13 y14 y15))
 | 0=>fun _ _ _ _ _ _ _ _ _ _ _ _ _ _ _ _ r h=>by simp[Qda.l0]at h
 | k+1=>by
  have ih0:=Qda.mono_l k
  ·intro y0 y1 y2 y3 y4 y5 y6 y7 y8 y9 y10 y11 y12 y13 y14 y15;unfold Qda.l0
   repeat' first
   |(with_reducible exact ih0 _ _ _ _ _ _ _ _ _ _ _ _ _ _ _ _)
   |(with_reducible exact LeO.refl _)
   |(with_reducible exact LeO.none _)
   |(with_reducible refine LeO.ite ?_ ?_)
   |(with_reducible refine LeO.bind ?_ (fun _=>?_))
   | exact ih0 _ _ _ _ _ _ _ _ _ _ _ _ _ _ _ _
   | exact LeO.none _
   | refine LeO.ite ?_ ?_
   | refine LeO.bind ?_ (fun _=>?_)
theorem Qda.mono:∀a0 a1 a2 k,LeO (Qda.f k a0 a1 a2) (Qda.f (k+1) a0 a1 a2):=by
 intro a0 a1 a2 k;have ih0:=Qda.mono_l k;unfold Qda.f
 repeat' first
   |(with_reducible exact ih0 _ _ _ _ _ _ _ _ _ _ _ _ _ _ _ _)
   |(with_reducible exact LeO.refl _)
   |(with_reducible exact LeO.none _)
   |(with_reducible refine LeO.ite ?_ ?_)
   |(with_reducible refine LeO.bind ?_ (fun _=>?_))
   | exact ih0 _ _ _ _ _ _ _ _ _ _ _ _ _ _ _ _
   | exact LeO.none _
   | refine LeO.ite ?_ ?_
   | refine LeO.bind ?_ (fun _=>?_)
theorem Qda.calls (k:Nat) (q:Int) (j:Int) (A1:Option Addr) (c1:Nat) (l1:List Int) (r1:List Int) (r2:Int) (w:World) (hr1:Kd.C (Kd.int .i64) w A1 l1.length l1) (hc1:l1.length≤c1) (h:Qda.f k q j l1=some (r1,r2)) :
  Calls Tryz.prog 125 #[.agg #[.int .u8 q,.int .u32 j],.slice A1 l1.length c1] w fun e w'=>∃bF:Value,e=.returned (.tuple #[bF,.int .i64 r2])∧Kd.R (Kd.int .u32) 22 w' w.heap.size (fun _=>True) bF r1∧Below w.heap.size w w':=by
 have hu27:=Tryz.underlying27;have hu47:=Tryz.underlying47;have aA:=QA hr1;have er:=QA hc1;clear hr1 hc1;have HB:=QA (Below.refl w.heap.size w);have H:((Qcz.f q j 0).bind fun bt151=>(if bt151.2.2.2.2.2=0 then((Qcz.f q j ((j-1)%4294967296)).bind fun bt158=>(Qda.l0 k ([]:List Int) l1 (l1.length:Int) 0 q j bt151.1 bt151.2.1 bt151.2.2.1 bt151.2.2.2.1 bt151.2.2.2.2.1 bt158.1 bt158.2.1 bt158.2.2.1 bt158.2.2.2.1 bt158.2.2.2.2.1))else(some (([]:List Int),bt151.2.2.2.2.2))))=some (r1,r2):=h;clear h;replace H:=Option.bind_eq_some_iff.mp H;obtain⟨⟨X,Y,Z,aa,ab,ac⟩,bG,H⟩:=H;replace H:(if ac=0 then((Qcz.f q j ((j-1)%4294967296)).bind fun bt158=>(Qda.l0 k ([]:List Int) l1 (l1.length:Int) 0 q j X Y Z aa ab bt158.1 bt158.2.1 bt158.2.2.1 bt158.2.2.2.1 bt158.2.2.2.2.1))else(some (([]:List Int),ac)))=some (r1,r2):=H;have A3:=QA bG;clear bG
 by_cases c4:ac=0
 ·rw [if_pos c4]at H;have ba:(ac == 0)=true:=beq_iff_eq.mpr c4;have bb:(ac != 0)=false:=bne_eq_false_iff_eq.mpr c4;clear c4;replace H:=Option.bind_eq_some_iff.mp H;obtain⟨⟨y,z,A,B,D,bJ⟩,bH,H⟩:=H;replace H:(Qda.l0 k ([]:List Int) l1 (l1.length:Int) 0 q j X Y Z aa ab y z A B D)=some (r1,r2):=H;have A5:=QA bH;clear bH;have H':=QA H;clear H
  go_enter Tryz.func125,Tryz.ntmps125
  go_wp2_with (first |((with_reducible refine Qgv (N:=2) rfl ?_);refine qq_e 2 #[.int .u8 q,.int .u32 j] 27 ?_;intro v hg w6 hbox hb;have n_:=qn4 (Qgk qq_b hb) (hbox) (qq_s hg:w.heap.size≤v) (qq_s hg:w.heap.size≤v);clear HB;obtain⟨HB,c,bn,bo⟩:=n_;clear hb hbox hg;obtain⟨bc,bd⟩:=qc2 c.out;have bK:=Qeq c.out) |((with_reducible refine Qju (f:=52) rfl ?_);refine Qhu (some 15) rfl rfl Tryz.func52 qq_6 rfl #[.agg #[.int .u8 q,.int .u32 j],.int .u32 0] rfl qq_1 ?_;(with_reducible refine(Qcz.calls q j 0 X Y Z aa ab ac _ A3.out).mono ?_);rintro e w8 ⟨rfl,hb⟩;refine⟨_,rfl,?_⟩;have n_:=qn2 (Qfe (g:=v) (o:=.cells #[.int .u8 q,.int .u32 j] 27 (0,0)) qq_0 hb) (Qgk qq_b hb);clear c HB;obtain⟨c,HB⟩:=n_;(try clear hb);(try clear hb2);(try clear hk);(try clear hi)) |((with_reducible refine Qgv (N:=6) rfl ?_);refine qq_e 6 #[.int .u8 0,.int .u32 0,.int .u32 0,.int .i64 0,.int .i64 0] 47 ?_;intro l hg w9 hbox hb;have n_:=qn7 (Qfe (g:=v) (o:=.cells #[.int .u8 q,.int .u32 j] 27 (0,0)) qq_0 hb) (Qgk qq_b hb) (hbox) (qq_s hg:w.heap.size≤l) (qq_s hg:w.heap.size≤l) ((by rw[hg];exact Nat.ne_of_lt (Qeo (g:=v) (o:=.cells #[.int .u8 q,.int .u32 j] 27 (0,0)) qq_0):v≠l)) ((by rw[hg];exact Nat.ne_of_gt (Qeo (g:=v) (o:=.cells #[.int .u8 q,.int .u32 j] 27 (0,0)) qq_0):l≠v));clear c HB;obtain⟨c,HB,a,bp,bq,M,O⟩:=n_;clear hb hbox hg;have dp:=O.out;have dq:=M.out;obtain⟨aK,aM,aN,aQ,aR⟩:=qc5 a.out;have br:=Qeq a.out;obtain⟨aT,aU⟩:=qc2 c.out;have bs:=Qeq c.out) |((with_reducible refine Qju (f:=52) rfl ?_);refine Qhu (some 26) rfl rfl Tryz.func52 qq_6 rfl #[.agg #[.int .u8 q,.int .u32 j],.int .u32 ((j-1)%4294967296)] rfl qq_1 ?_;(with_reducible refine(Qcz.calls q j ((j-1)%4294967296) y z A B D bJ _ A5.out).mono ?_);rintro e es ⟨rfl,hb⟩;refine⟨_,rfl,?_⟩;have n_:=qn3 (Qfe (g:=v) (o:=.cells #[.int .u8 q,.int .u32 j] 27 (0,0)) qq_9 hb) (Qfe (g:=l) (o:=.cells #[.int .u8 X,.int .u32 Y,.int .u32 Z,.int .i64 aa,.int .i64 ab] 47 (0,0)) qq_x hb) (Qgk qq_b hb);clear c a HB;obtain⟨c,a,HB⟩:=n_;(try clear hb);(try clear hb2);(try clear hk);(try clear hi)) |((with_reducible refine Qgv (N:=8) rfl ?_);refine qq_e 8 #[.int .u8 0,.int .u32 0,.int .u32 0,.int .i64 0,.int .i64 0] 47 ?_;intro E hg et hbox hb;have n_:=qn10 (Qfe (g:=v) (o:=.cells #[.int .u8 q,.int .u32 j] 27 (0,0)) qq_0 hb) (Qfe (g:=l) (o:=.cells #[.int .u8 X,.int .u32 Y,.int .u32 Z,.int .i64 aa,.int .i64 ab] 47 (0,0)) qq_0 hb) (Qgk qq_b hb) (hbox) (qq_s hg:w.heap.size≤E) (qq_s hg:w.heap.size≤E) ((by rw[hg];exact Nat.ne_of_lt (Qeo (g:=v) (o:=.cells #[.int .u8 q,.int .u32 j] 27 (0,0)) qq_0):v≠E)) ((by rw[hg];exact Nat.ne_of_gt (Qeo (g:=v) (o:=.cells #[.int .u8 q,.int .u32 j] 27 (0,0)) qq_0):E≠v)) ((by rw[hg];exact Nat.ne_of_lt (Qeo (g:=l) (o:=.cells #[.int .u8 X,.int .u32 Y,.int .u32 Z,.int .i64 aa,.int .i64 ab] 47 (0,0)) qq_0):l≠E)) ((by rw[hg];exact Nat.ne_of_gt (Qeo (g:=l) (o:=.cells #[.int .u8 X,.int .u32 Y,.int .u32 Z,.int .i64 aa,.int .i64 ab] 47 (0,0)) qq_0):E≠l));clear c a HB;obtain⟨c,a,HB,n,dr,ds,G,P,I,T⟩:=n_;clear hb hbox hg;have dt:=P.out;have du:=G.out;have dv:=T.out;have dw:=I.out;obtain⟨aV,aW,aX,aY,aZ⟩:=qc5 n.out;have bu:=Qeq n.out))
  go_loopg [10,31] k (fun kq dk dl w'=>∃(x10_1:List Int) (m:Int) (r:Int) (s:Int) (d:Int) (t:Int) (u:Int),dl=.int .i64 m∧Aside0 (Qda.l0 kq x10_1 l1 (l1.length:Int) m q j r s d t u y z A B D=some (r1,r2))∧Aside0 (kq≤k)∧Aside0 (Kd.R (Kd.int .u32) 22 w' w.heap.size (fun _=>True) dk x10_1)∧Aside0 (w'.heap[v]? = some (.cells #[.int .u8 q,.int .u32 j] 27 (0,0)))∧Aside0 (w'.heap[l]? = some (.cells #[.int .u8 r,.int .u32 s,.int .u32 d,.int .i64 t,.int .i64 u] 47 (0,0)))∧Aside0 (w'.heap[E]? = some (.cells #[.int .u8 y,.int .u32 z,.int .u32 A,.int .i64 B,.int .i64 D] 47 (0,0)))∧Aside0 (Below w.heap.size w w'))
  case atStart=>exact⟨(([]:List Int)),(0),(X),(Y),(Z),(aa),(ab),qq_8,H',⟨Nat.le_refl _⟩,⟨by first|exact Kd.R_nil _ _ _ _ _|exact Kd.N_nil _ _ _ _ _|exact Kd.V_nil _ _ _ _ _|exact Kd.Q_nil _ _ _ _ _|exact Kd.S_nil _ _ _ _ _⟩,⟨by(with_reducible repeat(first|apply Qfd|apply Qfc|apply Qfb));refine Qen ?_ G.out _;(with_reducible repeat(first|apply Qfd|apply Qfc|apply Qfb));refine Qen ?_ G.out _;(with_reducible repeat(first|apply Qfd|apply Qfc|apply Qfb));refine Qen ?_ G.out _;(with_reducible repeat(first|apply Qfd|apply Qfc|apply Qfb));refine Qen ?_ G.out _;(with_reducible repeat(first|apply Qfd|apply Qfc|apply Qfb));refine Qen ?_ G.out _;(with_reducible repeat(first|apply Qfd|apply Qfc|apply Qfb));exact c.out⟩,⟨by(with_reducible repeat(first|apply Qfd|apply Qfc|apply Qfb));refine Qen ?_ I.out _;(with_reducible repeat(first|apply Qfd|apply Qfc|apply Qfb));refine Qen ?_ I.out _;(with_reducible repeat(first|apply Qfd|apply Qfc|apply Qfb));refine Qen ?_ I.out _;(with_reducible repeat(first|apply Qfd|apply Qfc|apply Qfb));refine Qen ?_ I.out _;(with_reducible repeat(first|apply Qfd|apply Qfc|apply Qfb));refine Qen ?_ I.out _;(with_reducible repeat(first|apply Qfd|apply Qfc|apply Qfb));exact a.out⟩,⟨by(with_reducible repeat(first|apply Qfd|apply Qfc|apply Qfb));refine Qgq (cs:=#[.int .u8 y,.int .u32 z,.int .u32 A,.int .i64 B,.int .i64 0]) ?_ 4 _ rfl;(with_reducible repeat(first|apply Qfd|apply Qfc|apply Qfb));refine Qgq (cs:=#[.int .u8 y,.int .u32 z,.int .u32 A,.int .i64 0,.int .i64 0]) ?_ 3 _ rfl;(with_reducible repeat(first|apply Qfd|apply Qfc|apply Qfb));refine Qgq (cs:=#[.int .u8 y,.int .u32 z,.int .u32 0,.int .i64 0,.int .i64 0]) ?_ 2 _ rfl;(with_reducible repeat(first|apply Qfd|apply Qfc|apply Qfb));refine Qgq (cs:=#[.int .u8 y,.int .u32 0,.int .u32 0,.int .i64 0,.int .i64 0]) ?_ 1 _ rfl;(with_reducible repeat(first|apply Qfd|apply Qfc|apply Qfb));refine Qgq (cs:=#[.int .u8 0,.int .u32 0,.int .u32 0,.int .i64 0,.int .i64 0]) ?_ 0 _ rfl;(with_reducible repeat(first|apply Qfd|apply Qfc|apply Qfb));exact n.out⟩,⟨qq_b⟩⟩
  case round =>
   clear H'
   try clear c1
   try clear c4
   try clear ba
   try clear bb
   try clear aK
   try clear aM
   try clear aN
   try clear aQ
   try clear aR
   try clear aT
   try clear aU
   try clear aV
   try clear aW
   try clear aX
   try clear aY
   try clear aZ
   try clear bc
   try clear bd
   try clear br
   try clear bs
   try clear bu
   try clear bK
   obtain⟨x10_1,m,r,s,d,t,u,rfl,HA,HK1,x,c,a,n,HB⟩:=hrel
   cases gk with
   | zero=>exact absurd HA.out (by simp[Qda.l0])
   | succ k1 =>
    have H:=HA.out;clear HA;simp only[Qda.l0]at H
    by_cases ay:m<(l1.length:Int)
    ·rw [if_pos ay]at H;have bv:=decide_eq_true ay;clear ay
     by_cases aC:0≤m
     ·rw [if_pos aC]at H;have dx:=decide_eq_true aC;clear aC
      by_cases aD:m<(l1.length:Int)
      ·rw [if_pos aD]at H;have dy:=decide_eq_true aD;clear aD;replace H:=Option.bind_eq_some_iff.mp H;obtain⟨bL,be,H⟩:=H;have aE:=QA be;clear be
       by_cases aG:bL=true
       ·subst aG;rw[if_pos rfl]at H;replace H:=Option.bind_eq_some_iff.mp H;obtain⟨bM,bf,H⟩:=H;have bg:=QA bf;clear bf
        by_cases aH:bM=true
        ·subst aH;rw[if_pos rfl]at H;replace H:=Option.bind_eq_some_iff.mp H;obtain⟨⟨am,an,U,ao,ap,bN⟩,bh,H⟩:=H;replace H:(if x10_1.length<35184372088832 then(Qda.l0 k1 (x10_1++[U]) l1 (l1.length:Int) (wrap64 (m+1)) q j am an U ao ap y z A B D)else(none))=some (r1,r2):=H;have dm:=QA bh;clear bh
         by_cases aI:x10_1.length<35184372088832
         ·rw[if_pos aI]at H;have bw:=QA aI;clear aI;obtain⟨bi,ak⟩:∃y_:List Int,y_=(x10_1++[U]):=⟨_,rfl⟩;replace H:(Qda.l0 k1 bi l1 (l1.length:Int) (wrap64 (m+1)) q j am an U ao ap y z A B D)=some (r1,r2):=by first |(rw[ak];with_reducible exact H) |(have aw:=(Option.bind_some _ _).symm.trans H;rw[ak];with_reducible exact aw) |(have aw:=(Option.bind_some _ _).symm.trans H;with_reducible exact aw)|with_reducible exact H |(rw[ak];exact H)|exact H
          have bx:=QA ak;clear ak;have H':=QA H;clear H;have K:0≤(m:Int):=of_decide_eq_true qq_5;have L:m<(l1.length:Int):=of_decide_eq_true qq_5;obtain⟨az,ae,J⟩:=Kd.at_int aA.out m K L
          cases ae
          replace J:=qq_h HB.out J;replace K:=eq_true K;replace L:=eq_true L;have dz:=P.out;have dA:=G.out;have dB:=T.out;have dC:=I.out;obtain⟨bP,bQ,bR,bS,bT⟩:=qc5 n.out;have dD:=Qeq n.out
          go_wp2_with (first |((with_reducible refine Qju (f:=100) rfl ?_);refine Qhu (some 37) rfl rfl Tryz.func100 qq_6 rfl #[.agg #[.int .u8 y,.int .u32 z,.int .u32 A,.int .i64 B,.int .i64 D],.int .i64 (rd l1 m)] rfl qq_1 ?_;(with_reducible refine(Qdb.calls y z A B D (rd l1 m) true _ aE.out).mono ?_);rintro e eu ⟨rfl,hb⟩;refine⟨_,rfl,?_⟩;have n_:=qn5 (Kd.R_below qq_2 hb) (Qfe (g:=v) (o:=.cells #[.int .u8 q,.int .u32 j] 27 (0,0)) qq_0 hb) (Qfe (g:=l) (o:=.cells #[.int .u8 r,.int .u32 s,.int .u32 d,.int .i64 t,.int .i64 u] 47 (0,0)) qq_0 hb) (Qfe (g:=E) (o:=.cells #[.int .u8 y,.int .u32 z,.int .u32 A,.int .i64 B,.int .i64 D] 47 (0,0)) qq_0 hb) (Qgk qq_b hb);clear x c a n HB;obtain⟨x,c,a,n,HB⟩:=n_;(try clear hb);(try clear hb2);(try clear hk);(try clear hi);have dE:=O.out;have dF:=M.out;obtain⟨bU,bV,bW,bX,bY⟩:=qc5 a.out;have dG:=Qeq a.out) |((with_reducible refine Qju (f:=100) rfl ?_);refine Qhu (some 41) rfl rfl Tryz.func100 qq_6 rfl #[.agg #[.int .u8 r,.int .u32 s,.int .u32 d,.int .i64 t,.int .i64 u],.int .i64 (rd l1 m)] rfl qq_1 ?_;(with_reducible refine(Qdb.calls r s d t u (rd l1 m) true _ bg.out).mono ?_);rintro e ev ⟨rfl,hb⟩;refine⟨_,rfl,?_⟩;have n_:=qn5 (Kd.R_below qq_2 hb) (Qfe (g:=v) (o:=.cells #[.int .u8 q,.int .u32 j] 27 (0,0)) qq_0 hb) (Qfe (g:=l) (o:=.cells #[.int .u8 r,.int .u32 s,.int .u32 d,.int .i64 t,.int .i64 u] 47 (0,0)) qq_0 hb) (Qfe (g:=E) (o:=.cells #[.int .u8 y,.int .u32 z,.int .u32 A,.int .i64 B,.int .i64 D] 47 (0,0)) qq_0 hb) (Qgk qq_b hb);clear x c a n HB;obtain⟨x,c,a,n,HB⟩:=n_;(try clear hb);(try clear hb2);(try clear hk);(try clear hi);obtain⟨bZ,b0,b1,b2,b3⟩:=qc5 a.out;have dH:=Qeq a.out) |((with_reducible refine Qju (f:=59) rfl ?_);refine Qhu (some 56) rfl rfl Tryz.func59 qq_6 rfl #[.agg #[.int .u8 r,.int .u32 s,.int .u32 d,.int .i64 t,.int .i64 u],.int .i64 (rd l1 m)] rfl qq_1 ?_;(with_reducible refine(Qdd.calls r s d t u (rd l1 m) am an U ao ap bN _ dm.out).mono ?_);rintro e ew ⟨rfl,hb⟩;refine⟨_,rfl,?_⟩;have n_:=qn5 (Kd.R_below qq_2 hb) (Qfe (g:=v) (o:=.cells #[.int .u8 q,.int .u32 j] 27 (0,0)) qq_0 hb) (Qfe (g:=l) (o:=.cells #[.int .u8 r,.int .u32 s,.int .u32 d,.int .i64 t,.int .i64 u] 47 (0,0)) qq_0 hb) (Qfe (g:=E) (o:=.cells #[.int .u8 y,.int .u32 z,.int .u32 A,.int .i64 B,.int .i64 D] 47 (0,0)) qq_0 hb) (Qgk qq_b hb);clear x c a n HB;obtain⟨x,c,a,n,HB⟩:=n_;(try clear hb);(try clear hb2);(try clear hk);(try clear hi);obtain⟨b4,b5,b6,b7,b8⟩:=qc5 a.out;have dI:=Qeq a.out) |((with_reducible refine Qjv (b:=.append) (xs:=#[.tmp 59,.tmp 62]) rfl ?_);at_builtin;refine Kd.R_append (Kd.int .u32) (w0:=w) w.heap.size rfl (.tmp 59) (.tmp 62) 74 22 (.int .u32 0) 4 rfl Tryz.underlying74 Qke rfl (by decide) (by omega) u10 x10_1 U [.int .u32 U] (fun _=>True) (fun _=>False) rfl qq_14 ?aP (fun _ hk=>hk.elim) ?aF ?aO ?aB ?aS ?aL ?_;(case aP=>exact rfl);(case aB=>exact qq_b);(case aF=>exact(fun _ _=>trivial));(case aO=>exact(by(with_reducible repeat(first|apply Kd.R_alloc|apply Kd.R_drewN|apply Kd.R_drew));exact Kd.R_mono (Kd.R_far (p:=⟨l,4,none⟩) (Kd.R_far (p:=⟨l,3,none⟩) (Kd.R_far (p:=⟨l,2,none⟩) (Kd.R_far (p:=⟨l,1,none⟩) (Kd.R_far (p:=⟨l,0,none⟩) (Kd.R_types x.out a.out (by decide)) (fun _ hk=>hk.2) (.int .u8 am)) (fun _ hk=>hk.2) (.int .u32 an)) (fun _ hk=>hk.2) (.int .u32 U)) (fun _ hk=>hk.2) (.int .i64 ao)) (fun _ hk=>hk.2) (.int .i64 ap)) (fun _ hk=>trivial)));(case aS=>exact(Qgj qq_b));(case aL=>have:=bw.out;omega);intro ep ex ho hb hg hat;rw[← bx.out]at ho;have n_:=qn5 (Qer (g:=v) (o:=.cells #[.int .u8 q,.int .u32 j] 27 (0,0)) qq_9 hg (Kd.R_ne x.out c.out (by decide))) (Qer (g:=l) (o:=.cells #[.int .u8 am,.int .u32 an,.int .u32 U,.int .i64 ao,.int .i64 ap] 47 (0,0)) qq_x hg (Kd.R_ne x.out a.out (by decide))) (Qer (g:=E) (o:=.cells #[.int .u8 y,.int .u32 z,.int .u32 A,.int .i64 B,.int .i64 D] 47 (0,0)) qq_9 hg (Kd.R_ne x.out n.out (by decide))) (hb) (ho);clear c a n HB x;obtain⟨c,a,n,HB,bz⟩:=n_;clear ho hb hg hat))
          go_roundg k1
          case measure=>have:=HK1.out;omega
          case rel=>exact⟨(bi),(wrap64 (m+1)),(am),(an),(U),(ao),(ap),qq_8,H',⟨by have:=HK1.out;omega⟩,⟨by(with_reducible repeat(first|apply Kd.R_alloc|apply Kd.R_drewN|apply Kd.R_drew));exact bz.out⟩,⟨by(with_reducible repeat(first|apply Qfd|apply Qfc|apply Qfb));exact c.out⟩,⟨by(with_reducible repeat(first|apply Qfd|apply Qfc|apply Qfb));exact a.out⟩,⟨by(with_reducible repeat(first|apply Qfd|apply Qfc|apply Qfb));exact n.out⟩,⟨qq_b⟩⟩
         ·rw[if_neg aI]at H;exact absurd H (by simp)
        ·replace aH:=Bool.eq_false_iff.mpr aH;subst aH;rw[if_neg (show ¬(false=true)by decide)]at H;replace H:=Option.bind_eq_some_iff.mp H;obtain⟨⟨af,ag,ah,ai,aj,ad⟩,bj,H⟩:=H;replace H:(if ad=0 then((Qdd.f af ag ah ai aj (rd l1 m)).bind fun bt183=>(if x10_1.length<35184372088832 then(Qda.l0 k1 (x10_1++[bt183.2.2.1]) l1 (l1.length:Int) (wrap64 (m+1)) q j bt183.1 bt183.2.1 bt183.2.2.1 bt183.2.2.2.1 bt183.2.2.2.2.1 y z A B D)else(none)))else(some (([]:List Int),7)))=some (r1,r2):=H;have bI:=QA bj;clear bj
         by_cases ax:ad=0
         ·rw[if_pos ax]at H;have bA:(ad == 0)=true:=beq_iff_eq.mpr ax;have bB:(ad != 0)=false:=bne_eq_false_iff_eq.mpr ax;clear ax;replace H:=Option.bind_eq_some_iff.mp H;obtain⟨⟨aq,ar,W,au,av,bO⟩,bk,H⟩:=H;replace H:(if x10_1.length<35184372088832 then(Qda.l0 k1 (x10_1++[W]) l1 (l1.length:Int) (wrap64 (m+1)) q j aq ar W au av y z A B D)else(none))=some (r1,r2):=H;have dn:=QA bk;clear bk
          by_cases aJ:x10_1.length<35184372088832
          ·rw[if_pos aJ]at H;have bC:=QA aJ;clear aJ;obtain⟨bl,al⟩:∃y_:List Int,y_=(x10_1++[W]):=⟨_,rfl⟩;replace H:(Qda.l0 k1 bl l1 (l1.length:Int) (wrap64 (m+1)) q j aq ar W au av y z A B D)=some (r1,r2):=by first |(rw[al];with_reducible exact H) |(have aw:=(Option.bind_some _ _).symm.trans H;rw[al];with_reducible exact aw) |(have aw:=(Option.bind_some _ _).symm.trans H;with_reducible exact aw)|with_reducible exact H |(rw[al];exact H)|exact H
           have bD:=QA al;clear al;have H':=QA H;clear H;have K:0≤(m:Int):=of_decide_eq_true qq_5;have L:m<(l1.length:Int):=of_decide_eq_true qq_5;obtain⟨az,ae,J⟩:=Kd.at_int aA.out m K L
           cases ae
           replace J:=qq_h HB.out J;replace K:=eq_true K;replace L:=eq_true L;have dJ:=P.out;have dK:=G.out;have dL:=T.out;have dM:=I.out;obtain⟨b9,ca,cb,cc,cd⟩:=qc5 n.out;have dN:=Qeq n.out
           go_wp2_with (first |((with_reducible refine Qju (f:=100) rfl ?_);refine Qhu (some 37) rfl rfl Tryz.func100 qq_6 rfl #[.agg #[.int .u8 y,.int .u32 z,.int .u32 A,.int .i64 B,.int .i64 D],.int .i64 (rd l1 m)] rfl qq_1 ?_;(with_reducible refine(Qdb.calls y z A B D (rd l1 m) true _ aE.out).mono ?_);rintro e ey ⟨rfl,hb⟩;refine⟨_,rfl,?_⟩;have n_:=qn5 (Kd.R_below qq_2 hb) (Qfe (g:=v) (o:=.cells #[.int .u8 q,.int .u32 j] 27 (0,0)) qq_0 hb) (Qfe (g:=l) (o:=.cells #[.int .u8 r,.int .u32 s,.int .u32 d,.int .i64 t,.int .i64 u] 47 (0,0)) qq_0 hb) (Qfe (g:=E) (o:=.cells #[.int .u8 y,.int .u32 z,.int .u32 A,.int .i64 B,.int .i64 D] 47 (0,0)) qq_0 hb) (Qgk qq_b hb);clear x c a n HB;obtain⟨x,c,a,n,HB⟩:=n_;(try clear hb);(try clear hb2);(try clear hk);(try clear hi);have dO:=O.out;have dP:=M.out;obtain⟨ce,cf,cg,ch,cj⟩:=qc5 a.out;have dQ:=Qeq a.out) |((with_reducible refine Qju (f:=100) rfl ?_);refine Qhu (some 41) rfl rfl Tryz.func100 qq_6 rfl #[.agg #[.int .u8 r,.int .u32 s,.int .u32 d,.int .i64 t,.int .i64 u],.int .i64 (rd l1 m)] rfl qq_1 ?_;(with_reducible refine(Qdb.calls r s d t u (rd l1 m) false _ bg.out).mono ?_);rintro e ez ⟨rfl,hb⟩;refine⟨_,rfl,?_⟩;have n_:=qn5 (Kd.R_below qq_2 hb) (Qfe (g:=v) (o:=.cells #[.int .u8 q,.int .u32 j] 27 (0,0)) qq_0 hb) (Qfe (g:=l) (o:=.cells #[.int .u8 r,.int .u32 s,.int .u32 d,.int .i64 t,.int .i64 u] 47 (0,0)) qq_0 hb) (Qfe (g:=E) (o:=.cells #[.int .u8 y,.int .u32 z,.int .u32 A,.int .i64 B,.int .i64 D] 47 (0,0)) qq_0 hb) (Qgk qq_b hb);clear x c a n HB;obtain⟨x,c,a,n,HB⟩:=n_;(try clear hb);(try clear hb2);(try clear hk);(try clear hi);obtain⟨ck,cl⟩:=qc2 c.out;have dR:=Qeq c.out;obtain⟨cm,cn,co,cp,cq⟩:=qc5 a.out;have dS:=Qeq a.out) |((with_reducible refine Qju (f:=52) rfl ?_);refine Qhu (some 48) rfl rfl Tryz.func52 qq_6 rfl #[.agg #[.int .u8 q,.int .u32 j],.int .u32 ((d+1)%4294967296)] rfl qq_1 ?_;(with_reducible refine(Qcz.calls q j ((d+1)%4294967296) af ag ah ai aj ad _ bI.out).mono ?_);rintro e eA ⟨rfl,hb⟩;refine⟨_,rfl,?_⟩;have n_:=qn5 (Kd.R_below qq_2 hb) (Qfe (g:=v) (o:=.cells #[.int .u8 q,.int .u32 j] 27 (0,0)) qq_0 hb) (Qfe (g:=l) (o:=.cells #[.int .u8 r,.int .u32 s,.int .u32 d,.int .i64 t,.int .i64 u] 47 (0,0)) qq_0 hb) (Qfe (g:=E) (o:=.cells #[.int .u8 y,.int .u32 z,.int .u32 A,.int .i64 B,.int .i64 D] 47 (0,0)) qq_0 hb) (Qgk qq_b hb);clear x c a n HB;obtain⟨x,c,a,n,HB⟩:=n_;(try clear hb);(try clear hb2);(try clear hk);(try clear hi);obtain⟨cr,ct,cu,cv,cw⟩:=qc5 a.out;have dT:=Qeq a.out) |((with_reducible refine Qju (f:=59) rfl ?_);refine Qhu (some 56) rfl rfl Tryz.func59 qq_6 rfl #[.agg #[.int .u8 af,.int .u32 ag,.int .u32 ah,.int .i64 ai,.int .i64 aj],.int .i64 (rd l1 m)] rfl qq_1 ?_;(with_reducible refine(Qdd.calls af ag ah ai aj (rd l1 m) aq ar W au av bO _ dn.out).mono ?_);rintro e eB ⟨rfl,hb⟩;refine⟨_,rfl,?_⟩;have n_:=qn5 (Kd.R_below (by(with_reducible repeat(first|apply Kd.R_alloc|apply Kd.R_drewN|apply Kd.R_drew));exact(Kd.R_mono (Kd.R_far (p:=⟨l,4,none⟩) (Kd.R_far (p:=⟨l,3,none⟩) (Kd.R_far (p:=⟨l,2,none⟩) (Kd.R_far (p:=⟨l,1,none⟩) (Kd.R_far (p:=⟨l,0,none⟩) (Kd.R_types x.out a.out (by decide)) (fun _ hk=>hk.2) (.int .u8 af)) (fun _ hk=>hk.2) (.int .u32 ag)) (fun _ hk=>hk.2) (.int .u32 ah)) (fun _ hk=>hk.2) (.int .i64 ai)) (fun _ hk=>hk.2) (.int .i64 aj)) (fun _ h_=>h_.1))) hb) (Qfe (g:=v) (o:=.cells #[.int .u8 q,.int .u32 j] 27 (0,0)) qq_9 hb) (Qfe (g:=l) (o:=.cells #[.int .u8 af,.int .u32 ag,.int .u32 ah,.int .i64 ai,.int .i64 aj] 47 (0,0)) qq_x hb) (Qfe (g:=E) (o:=.cells #[.int .u8 y,.int .u32 z,.int .u32 A,.int .i64 B,.int .i64 D] 47 (0,0)) qq_9 hb) (Qgk qq_b hb);clear x c a n HB;obtain⟨x,c,a,n,HB⟩:=n_;(try clear hb);(try clear hb2);(try clear hk);(try clear hi);obtain⟨cx,cy,cz,cA,cB⟩:=qc5 a.out;have dU:=Qeq a.out) |((with_reducible refine Qjv (b:=.append) (xs:=#[.tmp 59,.tmp 62]) rfl ?_);at_builtin;refine Kd.R_append (Kd.int .u32) (w0:=w) w.heap.size rfl (.tmp 59) (.tmp 62) 74 22 (.int .u32 0) 4 rfl Tryz.underlying74 Qke rfl (by decide) (by omega) u10 x10_1 W [.int .u32 W] (fun _=>True) (fun _=>False) rfl qq_14 ?aP (fun _ hk=>hk.elim) ?aF ?aO ?aB ?aS ?aL ?_;(case aP=>exact rfl);(case aB=>exact qq_b);(case aF=>exact(fun _ _=>trivial));(case aO=>exact(by(with_reducible repeat(first|apply Kd.R_alloc|apply Kd.R_drewN|apply Kd.R_drew));exact Kd.R_mono (Kd.R_far (p:=⟨l,4,none⟩) (Kd.R_far (p:=⟨l,3,none⟩) (Kd.R_far (p:=⟨l,2,none⟩) (Kd.R_far (p:=⟨l,1,none⟩) (Kd.R_far (p:=⟨l,0,none⟩) (Kd.R_types x.out a.out (by decide)) (fun _ hk=>hk.2) (.int .u8 aq)) (fun _ hk=>hk.2) (.int .u32 ar)) (fun _ hk=>hk.2) (.int .u32 W)) (fun _ hk=>hk.2) (.int .i64 au)) (fun _ hk=>hk.2) (.int .i64 av)) (fun _ hk=>trivial)));(case aS=>exact(Qgj qq_b));(case aL=>have:=bC.out;omega);intro eq eC ho hb hg hat;rw[← bD.out]at ho;have n_:=qn5 (Qer (g:=v) (o:=.cells #[.int .u8 q,.int .u32 j] 27 (0,0)) qq_9 hg (Kd.R_ne x.out c.out (by decide))) (Qer (g:=l) (o:=.cells #[.int .u8 aq,.int .u32 ar,.int .u32 W,.int .i64 au,.int .i64 av] 47 (0,0)) qq_x hg (Kd.R_ne x.out a.out (by decide))) (Qer (g:=E) (o:=.cells #[.int .u8 y,.int .u32 z,.int .u32 A,.int .i64 B,.int .i64 D] 47 (0,0)) qq_9 hg (Kd.R_ne x.out n.out (by decide))) (hb) (ho);clear c a n HB x;obtain⟨c,a,n,HB,bE⟩:=n_;clear ho hb hg hat))
           go_roundg k1
           case measure=>have:=HK1.out;omega
           case rel=>exact⟨(bl),(wrap64 (m+1)),(aq),(ar),(W),(au),(av),qq_8,H',⟨by have:=HK1.out;omega⟩,⟨by(with_reducible repeat(first|apply Kd.R_alloc|apply Kd.R_drewN|apply Kd.R_drew));exact bE.out⟩,⟨by(with_reducible repeat(first|apply Qfd|apply Qfc|apply Qfb));exact c.out⟩,⟨by(with_reducible repeat(first|apply Qfd|apply Qfc|apply Qfb));exact a.out⟩,⟨by(with_reducible repeat(first|apply Qfd|apply Qfc|apply Qfb));exact n.out⟩,⟨qq_b⟩⟩
          ·rw[if_neg aJ]at H;exact absurd H (by simp)
         ·rw[if_neg ax]at H;have bA:(ad == 0)=false:=beq_eq_false_iff_ne.mpr ax;have bB:(ad != 0)=true:=bne_iff_ne.mpr ax;simp only[Option.some.injEq,Prod.mk.injEq]at H;obtain⟨rfl,rfl⟩:=H;have K:0≤(m:Int):=of_decide_eq_true qq_5;have L:m<(l1.length:Int):=of_decide_eq_true qq_5;obtain⟨az,ae,J⟩:=Kd.at_int aA.out m K L
          cases ae
          replace J:=qq_h HB.out J;replace K:=eq_true K;replace L:=eq_true L;have dV:=P.out;have dW:=G.out;have dX:=T.out;have dY:=I.out;obtain⟨cC,cD,cE,cF,cG⟩:=qc5 n.out;have dZ:=Qeq n.out
          go_wp2_with (first |((with_reducible refine Qju (f:=100) rfl ?_);refine Qhu (some 37) rfl rfl Tryz.func100 qq_6 rfl #[.agg #[.int .u8 y,.int .u32 z,.int .u32 A,.int .i64 B,.int .i64 D],.int .i64 (rd l1 m)] rfl qq_1 ?_;(with_reducible refine(Qdb.calls y z A B D (rd l1 m) true _ aE.out).mono ?_);rintro e eD ⟨rfl,hb⟩;refine⟨_,rfl,?_⟩;have n_:=qn5 (Kd.R_below qq_2 hb) (Qfe (g:=v) (o:=.cells #[.int .u8 q,.int .u32 j] 27 (0,0)) qq_0 hb) (Qfe (g:=l) (o:=.cells #[.int .u8 r,.int .u32 s,.int .u32 d,.int .i64 t,.int .i64 u] 47 (0,0)) qq_0 hb) (Qfe (g:=E) (o:=.cells #[.int .u8 y,.int .u32 z,.int .u32 A,.int .i64 B,.int .i64 D] 47 (0,0)) qq_0 hb) (Qgk qq_b hb);clear x c a n HB;obtain⟨x,c,a,n,HB⟩:=n_;(try clear hb);(try clear hb2);(try clear hk);(try clear hi);have ea:=O.out;have eb:=M.out;obtain⟨cH,cI,cJ,cK,cL⟩:=qc5 a.out;have ec:=Qeq a.out) |((with_reducible refine Qju (f:=100) rfl ?_);refine Qhu (some 41) rfl rfl Tryz.func100 qq_6 rfl #[.agg #[.int .u8 r,.int .u32 s,.int .u32 d,.int .i64 t,.int .i64 u],.int .i64 (rd l1 m)] rfl qq_1 ?_;(with_reducible refine(Qdb.calls r s d t u (rd l1 m) false _ bg.out).mono ?_);rintro e eE ⟨rfl,hb⟩;refine⟨_,rfl,?_⟩;have n_:=qn5 (Kd.R_below qq_2 hb) (Qfe (g:=v) (o:=.cells #[.int .u8 q,.int .u32 j] 27 (0,0)) qq_0 hb) (Qfe (g:=l) (o:=.cells #[.int .u8 r,.int .u32 s,.int .u32 d,.int .i64 t,.int .i64 u] 47 (0,0)) qq_0 hb) (Qfe (g:=E) (o:=.cells #[.int .u8 y,.int .u32 z,.int .u32 A,.int .i64 B,.int .i64 D] 47 (0,0)) qq_0 hb) (Qgk qq_b hb);clear x c a n HB;obtain⟨x,c,a,n,HB⟩:=n_;(try clear hb);(try clear hb2);(try clear hk);(try clear hi);obtain⟨cM,cN⟩:=qc2 c.out;have ed:=Qeq c.out;obtain⟨cO,cP,cQ,cR,cS⟩:=qc5 a.out;have ee:=Qeq a.out) |((with_reducible refine Qju (f:=52) rfl ?_);refine Qhu (some 48) rfl rfl Tryz.func52 qq_6 rfl #[.agg #[.int .u8 q,.int .u32 j],.int .u32 ((d+1)%4294967296)] rfl qq_1 ?_;(with_reducible refine(Qcz.calls q j ((d+1)%4294967296) af ag ah ai aj ad _ bI.out).mono ?_);rintro e eF ⟨rfl,hb⟩;refine⟨_,rfl,?_⟩;have n_:=qn5 (Kd.R_below qq_2 hb) (Qfe (g:=v) (o:=.cells #[.int .u8 q,.int .u32 j] 27 (0,0)) qq_0 hb) (Qfe (g:=l) (o:=.cells #[.int .u8 r,.int .u32 s,.int .u32 d,.int .i64 t,.int .i64 u] 47 (0,0)) qq_0 hb) (Qfe (g:=E) (o:=.cells #[.int .u8 y,.int .u32 z,.int .u32 A,.int .i64 B,.int .i64 D] 47 (0,0)) qq_0 hb) (Qgk qq_b hb);clear x c a n HB;obtain⟨x,c,a,n,HB⟩:=n_;(try clear hb);(try clear hb2);(try clear hk);(try clear hi);obtain⟨cT,cU,cV,cW,cX⟩:=qc5 a.out;have ef:=Qeq a.out))
          go_ret2
          exact⟨_,by first|rfl |(simp[Qkb,Qkc]<;>rfl) |(simp[*,Qkb,Qkc]<;>rfl),by first|exact Kd.R_nil _ _ _ _ _|exact Kd.N_nil _ _ _ _ _|exact Kd.V_nil _ _ _ _ _|exact Kd.Q_nil _ _ _ _ _|exact Kd.S_nil _ _ _ _ _,qq_b⟩
       ·replace aG:=Bool.eq_false_iff.mpr aG;subst aG;rw[if_neg (show ¬(false=true)by decide)]at H;simp only[Option.some.injEq,Prod.mk.injEq]at H;obtain⟨rfl,rfl⟩:=H;have K:0≤(m:Int):=of_decide_eq_true qq_5;have L:m<(l1.length:Int):=of_decide_eq_true qq_5;obtain⟨az,ae,J⟩:=Kd.at_int aA.out m K L
        cases ae
        replace J:=qq_h HB.out J;replace K:=eq_true K;replace L:=eq_true L;have eg:=P.out;have eh:=G.out;have ei:=T.out;have ej:=I.out;obtain⟨cY,cZ,da,db,dc⟩:=qc5 n.out;have ek:=Qeq n.out
        go_wp2_with (first |((with_reducible refine Qju (f:=100) rfl ?_);refine Qhu (some 37) rfl rfl Tryz.func100 qq_6 rfl #[.agg #[.int .u8 y,.int .u32 z,.int .u32 A,.int .i64 B,.int .i64 D],.int .i64 (rd l1 m)] rfl qq_1 ?_;(with_reducible refine(Qdb.calls y z A B D (rd l1 m) false _ aE.out).mono ?_);rintro e eG ⟨rfl,hb⟩;refine⟨_,rfl,?_⟩;have n_:=qn5 (Kd.R_below qq_2 hb) (Qfe (g:=v) (o:=.cells #[.int .u8 q,.int .u32 j] 27 (0,0)) qq_0 hb) (Qfe (g:=l) (o:=.cells #[.int .u8 r,.int .u32 s,.int .u32 d,.int .i64 t,.int .i64 u] 47 (0,0)) qq_0 hb) (Qfe (g:=E) (o:=.cells #[.int .u8 y,.int .u32 z,.int .u32 A,.int .i64 B,.int .i64 D] 47 (0,0)) qq_0 hb) (Qgk qq_b hb);clear x c a n HB;obtain⟨x,c,a,n,HB⟩:=n_;(try clear hb);(try clear hb2);(try clear hk);(try clear hi)))
        go_ret2
        exact⟨_,by first|rfl |(simp[Qkb,Qkc]<;>rfl) |(simp[*,Qkb,Qkc]<;>rfl),by first|exact Kd.R_nil _ _ _ _ _|exact Kd.N_nil _ _ _ _ _|exact Kd.V_nil _ _ _ _ _|exact Kd.Q_nil _ _ _ _ _|exact Kd.S_nil _ _ _ _ _,qq_b⟩
      ·rw[if_neg aD]at H;exact absurd H (by simp)
     ·rw[if_neg aC]at H;exact absurd H (by simp)
    ·rw[if_neg ay]at H;have bv:=decide_eq_false ay;clear ay;simp only[Option.some.injEq,Prod.mk.injEq]at H;obtain⟨rfl,rfl⟩:=H;go_wp2
     go_ret2
     exact⟨_,by first|rfl |(simp[Qkb,Qkc]<;>rfl) |(simp[*,Qkb,Qkc]<;>rfl),by(with_reducible repeat(first|apply Kd.R_alloc|apply Kd.R_drewN|apply Kd.R_drew));exact x.out,qq_b⟩
 ·rw[if_neg c4]at H;have ba:(ac == 0)=false:=beq_eq_false_iff_ne.mpr c4;have bb:(ac != 0)=true:=bne_iff_ne.mpr c4;simp only[Option.some.injEq,Prod.mk.injEq]at H;obtain⟨rfl,rfl⟩:=H
  go_enter Tryz.func125,Tryz.ntmps125
  go_wp2_with (first |((with_reducible refine Qgv (N:=2) rfl ?_);refine qq_e 2 #[.int .u8 q,.int .u32 j] 27 ?_;intro v hg eH hbox hb;have n_:=qn4 (Qgk qq_b hb) (hbox) (qq_s hg:w.heap.size≤v) (qq_s hg:w.heap.size≤v);clear HB;obtain⟨HB,c,bn,bo⟩:=n_;clear hb hbox hg;obtain⟨dd,de⟩:=qc2 c.out;have el:=Qeq c.out) |((with_reducible refine Qju (f:=52) rfl ?_);refine Qhu (some 15) rfl rfl Tryz.func52 qq_6 rfl #[.agg #[.int .u8 q,.int .u32 j],.int .u32 0] rfl qq_1 ?_;(with_reducible refine(Qcz.calls q j 0 X Y Z aa ab ac _ A3.out).mono ?_);rintro e eI ⟨rfl,hb⟩;refine⟨_,rfl,?_⟩;have n_:=qn2 (Qfe (g:=v) (o:=.cells #[.int .u8 q,.int .u32 j] 27 (0,0)) qq_0 hb) (Qgk qq_b hb);clear c HB;obtain⟨c,HB⟩:=n_;(try clear hb);(try clear hb2);(try clear hk);(try clear hi)) |((with_reducible refine Qgv (N:=6) rfl ?_);refine qq_e 6 #[.int .u8 0,.int .u32 0,.int .u32 0,.int .i64 0,.int .i64 0] 47 ?_;intro l hg eJ hbox hb;have n_:=qn7 (Qfe (g:=v) (o:=.cells #[.int .u8 q,.int .u32 j] 27 (0,0)) qq_0 hb) (Qgk qq_b hb) (hbox) (qq_s hg:w.heap.size≤l) (qq_s hg:w.heap.size≤l) ((by rw[hg];exact Nat.ne_of_lt (Qeo (g:=v) (o:=.cells #[.int .u8 q,.int .u32 j] 27 (0,0)) qq_0):v≠l)) ((by rw[hg];exact Nat.ne_of_gt (Qeo (g:=v) (o:=.cells #[.int .u8 q,.int .u32 j] 27 (0,0)) qq_0):l≠v));clear c HB;obtain⟨c,HB,a,bp,bq,M,O⟩:=n_;clear hb hbox hg;have em:=O.out;have en:=M.out;obtain⟨df,dg,dh,di,dj⟩:=qc5 a.out;have eo:=Qeq a.out))
  go_ret2
  exact⟨_,by first|rfl |(simp[Qkb,Qkc]<;>rfl) |(simp[*,Qkb,Qkc]<;>rfl),by first|exact Kd.R_nil _ _ _ _ _|exact Kd.N_nil _ _ _ _ _|exact Kd.V_nil _ _ _ _ _|exact Kd.Q_nil _ _ _ _ _|exact Kd.S_nil _ _ _ _ _,qq_b⟩
def Qcv.l0:Nat→List Int→List (S39)→Int→Int→Int→Int→Option (List Int × List Int × Int)
 | 0,_,_,_,_,_,_=>none
 | k+1,x5,x23,x24,x25,x193000,x193001=>if x25<x24 then(if 0≤x25 then(if x25<(x23.length:Int)then((Qcq.f ((Qkk x23 x25).f0) ((Qkk x23 x25).f1) ((Qkk x23 x25).f2) ((Qkk x23 x25).f3)).bind fun bt197=>(if x5.length<17592186044416 then(Qcv.l0 k (x5++[(bt197.1.length:Int)]) x23 x24 (wrap64 (x25+1)) x193000 x193001)else(none)))else(none))else(none))else((Qda.f k x193000 x193001 x5).bind fun bt204=>(some (bt204.1,x5,bt204.2)))
def Qcv.f(k:Nat)(a0_0:Int)(a0_1:Int)(l1:List (S39)):Option (List Int × List Int × Int):=(Qal.f a0_0 a0_1).bind fun t193=>(if t193=0 then((Qdh.f k l1).bind fun t194=>(if t194=0 then(Qcv.l0 k ([]:List Int) l1 (l1.length:Int) 0 a0_0 a0_1)else(some (([]:List Int),([]:List Int),t194))))else(some (([]:List Int),([]:List Int),t193)))
theorem Qcv.mono_l:∀k,(∀y0 y1 y2 y3 y4 y5,LeO (Qcv.l0 k y0 y1 y2 y3 y4 y5) (Qcv.l0 (k+1) y0 y1 y2 y3 y4 y5))
 | 0=>fun _ _ _ _ _ _ r h=>by simp[Qcv.l0]at h
 | k+1=>by
  have ih0:=Qcv.mono_l k
  ·intro y0 y1 y2 y3 y4 y5;unfold Qcv.l0
   repeat' first
   |(with_reducible exact ih0 _ _ _ _ _ _)
   |(with_reducible exact Qda.mono _ _ _ _)
   |(with_reducible exact Qdh.mono _ _)
   |(with_reducible exact LeO.refl _)
   |(with_reducible exact LeO.none _)
   |(with_reducible refine LeO.ite ?_ ?_)
   |(with_reducible refine LeO.bind ?_ (fun _=>?_))
   | exact ih0 _ _ _ _ _ _
   | exact Qda.mono _ _ _ _
   | exact Qdh.mono _ _
   | exact LeO.none _
   | refine LeO.ite ?_ ?_
   | refine LeO.bind ?_ (fun _=>?_)
theorem Qcv.mono:∀a0 a1 a2 k,LeO (Qcv.f k a0 a1 a2) (Qcv.f (k+1) a0 a1 a2):=by
 intro a0 a1 a2 k;have ih0:=Qcv.mono_l k;unfold Qcv.f
 repeat' first
   |(with_reducible exact ih0 _ _ _ _ _ _)
   |(with_reducible exact Qda.mono _ _ _ _)
   |(with_reducible exact Qdh.mono _ _)
   |(with_reducible exact LeO.refl _)
   |(with_reducible exact LeO.none _)
   |(with_reducible refine LeO.ite ?_ ?_)
   |(with_reducible refine LeO.bind ?_ (fun _=>?_))
   | exact ih0 _ _ _ _ _ _
   | exact Qda.mono _ _ _ _
   | exact Qdh.mono _ _
   | exact LeO.none _
   | refine LeO.ite ?_ ?_
   | refine LeO.bind ?_ (fun _=>?_)
theorem Qcv.calls (k:Nat) (d:Int) (j:Int) (A1:Option Addr) (c1:Nat) (l1:List (S39)) (r1:List Int) (r2:List Int) (r3:Int) (w:World) (hr1:Kd.C k39 w A1 l1.length l1) (hc1:l1.length≤c1) (h:Qcv.f k d j l1=some (r1,r2,r3)) :
  Calls Tryz.prog 73 #[.agg #[.int .u8 d,.int .u32 j],.slice A1 l1.length c1] w fun e w'=>∃al am:Value,e=.returned (.tuple #[al,am,.int .i64 r3])∧Kd.R (Kd.int .u32) 22 w' w.heap.size (fun _=>True) al r1∧Kd.R (Kd.int .i64) 3 w' w.heap.size (fun _=>True) am r2∧Below w.heap.size w w':=by
 have hu27:=Tryz.underlying27;have hu39:=Tryz.underlying39;have P:=QA hr1;have an:=QA hc1;clear hr1 hc1;have HB:=QA (Below.refl w.heap.size w);have H:((Qal.f d j).bind fun n=>(if n=0 then((Qdh.f k l1).bind fun r=>(if r=0 then(Qcv.l0 k ([]:List Int) l1 (l1.length:Int) 0 d j)else(some (([]:List Int),([]:List Int),r))))else(some (([]:List Int),([]:List Int),n))))=some (r1,r2,r3):=h;clear h;replace H:=Option.bind_eq_some_iff.mp H;obtain⟨n,ao,H⟩:=H;have A3:=QA ao;clear ao
 by_cases c4:n=0
 ·rw [if_pos c4]at H;have T:(n == 0)=true:=beq_iff_eq.mpr c4;have U:(n != 0)=false:=bne_eq_false_iff_eq.mpr c4;clear c4;replace H:=Option.bind_eq_some_iff.mp H;obtain⟨r,ap,H⟩:=H;have A5:=QA ap;clear ap
  by_cases c6:r=0
  ·rw [if_pos c6]at H;have W:(r == 0)=true:=beq_iff_eq.mpr c6;have X:(r != 0)=false:=bne_eq_false_iff_eq.mpr c6;clear c6;have H':=QA H;clear H
   go_enter Tryz.func73,Tryz.ntmps73
   go_wp2_with (first |((with_reducible refine Qgv (N:=2) rfl ?_);refine qq_e 2 #[.int .u8 d,.int .u32 j] 27 ?_;intro l hg w7 hbox hb;have n_:=qn4 (Qgk qq_b hb) (hbox) (qq_s hg:w.heap.size≤l) (qq_s hg:w.heap.size≤l);clear HB;obtain⟨HB,a,J,K⟩:=n_;clear hb hbox hg;obtain⟨Y,Z⟩:=qc2 a.out;have aq:=Qeq a.out) |((with_reducible refine Qju (f:=85) rfl ?_);refine Qhu (some 14) rfl rfl Tryz.func85 qq_6 rfl #[.agg #[.int .u8 d,.int .u32 j]] rfl qq_1 ?_;(with_reducible refine(Qal.calls d j n _ A3.out).mono ?_);rintro e w9 ⟨rfl,hb⟩;refine⟨_,rfl,?_⟩;have n_:=qn2 (Qfe (g:=l) (o:=.cells #[.int .u8 d,.int .u32 j] 27 (0,0)) qq_0 hb) (Qgk qq_b hb);clear a HB;obtain⟨a,HB⟩:=n_;(try clear hb);(try clear hb2);(try clear hk);(try clear hi)) |((with_reducible refine Qju (f:=124) rfl ?_);refine Qhu (some 19) rfl rfl Tryz.func124 qq_6 rfl #[.slice A1 l1.length c1] rfl qq_1 ?_;(with_reducible refine(Qdh.calls k _ _ l1 r _ ?side1 ?side2 A5.out).mono ?_);(case side1=>repeat(first|exact(Kd.C_below P.out HB.out) |(with_reducible refine Kd.C_alloc ?_ _) |(with_reducible refine Kd.C_drewN ?_ _) |(with_reducible refine Kd.C_drew ?_)));(case side2=>exact an.out);rintro e bc ⟨rfl,hb⟩;refine⟨_,rfl,?_⟩;have n_:=qn2 (Qfe (g:=l) (o:=.cells #[.int .u8 d,.int .u32 j] 27 (0,0)) qq_0 hb) (Qgk qq_b hb);clear a HB;obtain⟨a,HB⟩:=n_;(try clear hb);(try clear hb2);(try clear hk);(try clear hi)))
   go_loopg [5,25] k (fun kq v5 aH w'=>∃(x5_1:List Int) (c:Int),aH=.int .i64 c∧Aside0 (Qcv.l0 kq x5_1 l1 (l1.length:Int) c d j=some (r1,r2,r3))∧Aside0 (kq≤k)∧Aside0 (Kd.R (Kd.int .i64) 3 w' w.heap.size (fun _=>True) v5 x5_1)∧Aside0 (w'.heap[l]? = some (.cells #[.int .u8 d,.int .u32 j] 27 (0,0)))∧Aside0 (Below w.heap.size w w'))
   case atStart=>exact⟨(([]:List Int)),(0),qq_8,H',⟨Nat.le_refl _⟩,⟨by first|exact Kd.R_nil _ _ _ _ _|exact Kd.N_nil _ _ _ _ _|exact Kd.V_nil _ _ _ _ _|exact Kd.Q_nil _ _ _ _ _|exact Kd.S_nil _ _ _ _ _⟩,⟨by(with_reducible repeat(first|apply Qfd|apply Qfc|apply Qfb));exact a.out⟩,⟨qq_b⟩⟩
   case round =>
    clear H'
    try clear c1
    try clear c4
    try clear T
    try clear U
    try clear c6
    try clear W
    try clear X
    try clear Y
    try clear Z
    try clear aq
    obtain⟨x5_1,c,rfl,HA,HK1,HO_5,a,HB⟩:=hrel
    cases gk with
    | zero=>exact absurd HA.out (by simp[Qcv.l0])
    | succ k1 =>
     have H:=HA.out;clear HA;simp only[Qcv.l0]at H
     by_cases v:c<(l1.length:Int)
     ·rw [if_pos v]at H;have ag:=decide_eq_true v;clear v
      by_cases L:0≤c
      ·rw[if_pos L]at H;have aK:=decide_eq_true L;clear L
       by_cases M:c<(l1.length:Int)
       ·rw[if_pos M]at H;have aM:=decide_eq_true M;clear M;replace H:=Option.bind_eq_some_iff.mp H;obtain⟨⟨u,ar⟩,aa,H⟩:=H;replace H:(if x5_1.length<17592186044416 then(Qcv.l0 k1 (x5_1++[(u.length:Int)]) l1 (l1.length:Int) (wrap64 (c+1)) d j)else(none))=some (r1,r2,r3):=H;have aI:=QA aa;clear aa
        by_cases O:x5_1.length<17592186044416
        ·rw[if_pos O]at H;have ah:=QA O;clear O;obtain⟨ab,s⟩:∃y_:List Int,y_=(x5_1++[(u.length:Int)]):=⟨_,rfl⟩;replace H:(Qcv.l0 k1 ab l1 (l1.length:Int) (wrap64 (c+1)) d j)=some (r1,r2,r3):=by first |(rw[s];with_reducible exact H) |(have ac:=(Option.bind_some _ _).symm.trans H;rw[s];with_reducible exact ac) |(have ac:=(Option.bind_some _ _).symm.trans H;with_reducible exact ac)|with_reducible exact H |(rw[s];exact H)|exact H
         have ai:=QA s;clear s;have H':=QA H;clear H;have G:0≤(c:Int):=of_decide_eq_true qq_5;have I:c<(l1.length:Int):=of_decide_eq_true qq_5;obtain⟨aN,au,x,y,z,A⟩:=Qkl P.out c G I
         cases au
         replace x:=qq_h HB.out x;replace y:=qq_h HB.out y;replace z:=qq_h HB.out z;replace A:=qq_h HB.out A;replace G:=eq_true G;replace I:=eq_true I
         go_wp2_with (first |((with_reducible refine Qgv (N:=10) rfl ?_);refine qq_e 10 #[.bool false,.int .u64 0,.string (⟨#[]⟩:ByteArray),.string (⟨#[]⟩:ByteArray)] 39 ?_;intro m hg bd hbox hb;have n_:=qn8 (Kd.R_below qq_18 hb) (Qfe (g:=l) (o:=.cells #[.int .u8 d,.int .u32 j] 27 (0,0)) qq_0 hb) (Qgk qq_b hb) (hbox) (qq_s hg:w.heap.size≤m) (qq_s hg:w.heap.size≤m) ((by rw[hg];exact Nat.ne_of_lt (Qeo (g:=l) (o:=.cells #[.int .u8 d,.int .u32 j] 27 (0,0)) qq_0):l≠m)) ((by rw[hg];exact Nat.ne_of_gt (Qeo (g:=l) (o:=.cells #[.int .u8 d,.int .u32 j] 27 (0,0)) qq_0):m≠l));clear HO_5 a HB;obtain⟨HO_5,a,HB,q,aQ,aR,B,D⟩:=n_;clear hb hbox hg;have aT:=D.out;have aU:=B.out;obtain⟨av,aw,ax,ay⟩:=qc4 q.out;have aV:=Qeq q.out) |((with_reducible refine Qju (f:=57) rfl ?_);refine Qhu (some 31) rfl rfl Tryz.func57 qq_6 rfl #[.agg #[.bool ((Qkk l1 c).f0),.int .u64 ((Qkk l1 c).f1),.string ((Qkk l1 c).f2),.string ((Qkk l1 c).f3)]] rfl qq_1 ?_;(with_reducible refine(Qcq.calls ((Qkk l1 c).f0) ((Qkk l1 c).f1) ((Qkk l1 c).f2) ((Qkk l1 c).f3) u ar _ aI.out).mono ?_);rintro e be ⟨aZ,rfl,E,hb⟩;refine⟨_,rfl,?_⟩;have n_:=qn5 (Kd.R_below (by(with_reducible repeat(first|apply Kd.R_alloc|apply Kd.R_drewN|apply Kd.R_drew));exact(Kd.R_mono (Kd.R_far (p:=⟨m,3,none⟩) (Kd.R_far (p:=⟨m,2,none⟩) (Kd.R_far (p:=⟨m,1,none⟩) (Kd.R_far (p:=⟨m,0,none⟩) (Kd.R_types HO_5.out q.out (by decide)) (fun _ hk=>hk.2) (.bool ((Qkk l1 c).f0))) (fun _ hk=>hk.2) (.int .u64 ((Qkk l1 c).f1))) (fun _ hk=>hk.2) (.string ((Qkk l1 c).f2))) (fun _ hk=>hk.2) (.string ((Qkk l1 c).f3))) (fun _ h_=>h_.1))) hb) (Kd.R_lower E (Qgj qq_b)) (Qfe (g:=l) (o:=.cells #[.int .u8 d,.int .u32 j] 27 (0,0)) qq_9 hb) (Qfe (g:=m) (o:=.cells #[.bool ((Qkk l1 c).f0),.int .u64 ((Qkk l1 c).f1),.string ((Qkk l1 c).f2),.string ((Qkk l1 c).f3)] 39 (0,0)) qq_x hb) (Qgk qq_b hb);clear HO_5 a q HB;obtain⟨HO_5,t,a,q,HB⟩:=n_;(try clear hb);(try clear hb2);(try clear hk);(try clear hi);(try clear E);obtain⟨Ao20,co20,eo20⟩:=Kd.R_slice t.out;subst eo20) |((with_reducible refine Qjv (b:=.append) (xs:=#[.tmp 34,.tmp 37]) rfl ?_);at_builtin;refine Kd.R_append (Kd.int .i64) (w0:=w) w.heap.size rfl (.tmp 34) (.tmp 37) 133 3 (.int .i64 0) 8 rfl Tryz.underlying133 info3 rfl (by decide) (by omega) u5 x5_1 (u.length:Int) [.int .i64 (u.length:Int)] (fun _=>True) (fun _=>False) rfl rfl ?aP (fun _ hk=>hk.elim) ?aF ?aO ?aB ?aS ?aL ?_;(case aP=>exact rfl);(case aB=>exact qq_b);(case aF=>exact(fun _ _=>trivial));(case aO=>exact qq_18);(case aS=>exact(Qgj qq_b));(case aL=>have:=ah.out;omega);intro ba bf ho hb hg hat;rw[← ai.out]at ho;have n_:=qn5 (Qer (g:=l) (o:=.cells #[.int .u8 d,.int .u32 j] 27 (0,0)) qq_0 hg (Kd.R_ne HO_5.out a.out (by decide))) (Qer (g:=m) (o:=.cells #[.bool ((Qkk l1 c).f0),.int .u64 ((Qkk l1 c).f1),.string ((Qkk l1 c).f2),.string ((Qkk l1 c).f3)] 39 (0,0)) qq_0 hg (Kd.R_ne HO_5.out q.out (by decide))) (Kd.R_over' (by(with_reducible repeat(first|apply Kd.R_alloc|apply Kd.R_drewN|apply Kd.R_drew));exact t.out) (Kd.R_typed qq_18) (by decide) hg) (hb) (ho);clear a q t HB HO_5;obtain⟨a,q,t,HB,aj⟩:=n_;clear ho hb hg hat))
         go_roundg k1
         case measure=>have:=HK1.out;omega
         case rel=>exact⟨(ab),(wrap64 (c+1)),qq_8,H',⟨by have:=HK1.out;omega⟩,⟨by(with_reducible repeat(first|apply Kd.R_alloc|apply Kd.R_drewN|apply Kd.R_drew));exact aj.out⟩,⟨by(with_reducible repeat(first|apply Qfd|apply Qfc|apply Qfb));exact a.out⟩,⟨qq_b⟩⟩
        ·rw[if_neg O]at H;exact absurd H (by simp)
       ·rw[if_neg M]at H;exact absurd H (by simp)
      ·rw[if_neg L]at H;exact absurd H (by simp)
     ·rw[if_neg v]at H;have ag:=decide_eq_false v;clear v;replace H:=Option.bind_eq_some_iff.mp H;obtain⟨⟨ad,ae⟩,af,H⟩:=H;replace H:(some (ad,x5_1,ae))=some (r1,r2,r3):=H;have aJ:=QA af;clear af;simp only[Option.some.injEq,Prod.mk.injEq]at H;obtain⟨rfl,rfl,rfl⟩:=H;obtain⟨az,aA⟩:=qc2 a.out;have aW:=Qeq a.out;obtain⟨Ao24,co24,eo24⟩:=Kd.R_slice HO_5.out;subst eo24
      go_wp2_with (first |((with_reducible refine Qju (f:=125) rfl ?_);refine Qhu (some 43) rfl rfl Tryz.func125 qq_6 rfl #[.agg #[.int .u8 d,.int .u32 j],.slice Ao24 x5_1.length co24] rfl qq_1 ?_;(with_reducible refine(Qda.calls k1 d j _ _ x5_1 ad ae _ ?side1 ?side2 aJ.out).mono ?_);(case side1=>repeat(first|exact(Kd.R_reads' HO_5.out).2.2 |(with_reducible refine Kd.C_alloc ?_ _) |(with_reducible refine Kd.C_drewN ?_ _) |(with_reducible refine Kd.C_drew ?_)));(case side2=>exact(Kd.R_reads' HO_5.out).2.1);rintro e bg ⟨bb,rfl,E,hb⟩;refine⟨_,rfl,?_⟩;have n_:=qn4 (Kd.R_below qq_2 hb) (Kd.R_lower E (Qgj qq_b)) (Qfe (g:=l) (o:=.cells #[.int .u8 d,.int .u32 j] 27 (0,0)) qq_0 hb) (Qgk qq_b hb);clear HO_5 a HB;obtain⟨HO_5,ak,a,HB⟩:=n_;(try clear hb);(try clear hb2);(try clear hk);(try clear hi);(try clear E)))
      go_ret3
      exact⟨_,_,by first|rfl |(simp[Qkb,Qkc]<;>rfl) |(simp[*,Qkb,Qkc]<;>rfl),by(with_reducible repeat(first|apply Kd.R_alloc|apply Kd.R_drewN|apply Kd.R_drew));exact ak.out,by(with_reducible repeat(first|apply Kd.R_alloc|apply Kd.R_drewN|apply Kd.R_drew));exact HO_5.out,qq_b⟩
  ·rw[if_neg c6]at H;have W:(r == 0)=false:=beq_eq_false_iff_ne.mpr c6;have X:(r != 0)=true:=bne_iff_ne.mpr c6;simp only[Option.some.injEq,Prod.mk.injEq]at H;obtain⟨rfl,rfl,rfl⟩:=H
   go_enter Tryz.func73,Tryz.ntmps73
   go_wp2_with (first |((with_reducible refine Qgv (N:=2) rfl ?_);refine qq_e 2 #[.int .u8 d,.int .u32 j] 27 ?_;intro l hg bh hbox hb;have n_:=qn4 (Qgk qq_b hb) (hbox) (qq_s hg:w.heap.size≤l) (qq_s hg:w.heap.size≤l);clear HB;obtain⟨HB,a,J,K⟩:=n_;clear hb hbox hg;obtain⟨aC,aD⟩:=qc2 a.out;have aX:=Qeq a.out) |((with_reducible refine Qju (f:=85) rfl ?_);refine Qhu (some 14) rfl rfl Tryz.func85 qq_6 rfl #[.agg #[.int .u8 d,.int .u32 j]] rfl qq_1 ?_;(with_reducible refine(Qal.calls d j n _ A3.out).mono ?_);rintro e bi ⟨rfl,hb⟩;refine⟨_,rfl,?_⟩;have n_:=qn2 (Qfe (g:=l) (o:=.cells #[.int .u8 d,.int .u32 j] 27 (0,0)) qq_0 hb) (Qgk qq_b hb);clear a HB;obtain⟨a,HB⟩:=n_;(try clear hb);(try clear hb2);(try clear hk);(try clear hi)) |((with_reducible refine Qju (f:=124) rfl ?_);refine Qhu (some 19) rfl rfl Tryz.func124 qq_6 rfl #[.slice A1 l1.length c1] rfl qq_1 ?_;(with_reducible refine(Qdh.calls k _ _ l1 r _ ?side1 ?side2 A5.out).mono ?_);(case side1=>repeat(first|exact(Kd.C_below P.out HB.out) |(with_reducible refine Kd.C_alloc ?_ _) |(with_reducible refine Kd.C_drewN ?_ _) |(with_reducible refine Kd.C_drew ?_)));(case side2=>exact an.out);rintro e bj ⟨rfl,hb⟩;refine⟨_,rfl,?_⟩;have n_:=qn2 (Qfe (g:=l) (o:=.cells #[.int .u8 d,.int .u32 j] 27 (0,0)) qq_0 hb) (Qgk qq_b hb);clear a HB;obtain⟨a,HB⟩:=n_;(try clear hb);(try clear hb2);(try clear hk);(try clear hi)))
   go_ret3
   exact⟨_,_,by first|rfl |(simp[Qkb,Qkc]<;>rfl) |(simp[*,Qkb,Qkc]<;>rfl),by first|exact Kd.R_nil _ _ _ _ _|exact Kd.N_nil _ _ _ _ _|exact Kd.V_nil _ _ _ _ _|exact Kd.Q_nil _ _ _ _ _|exact Kd.S_nil _ _ _ _ _,by first|exact Kd.R_nil _ _ _ _ _|exact Kd.N_nil _ _ _ _ _|exact Kd.V_nil _ _ _ _ _|exact Kd.Q_nil _ _ _ _ _|exact Kd.S_nil _ _ _ _ _,qq_b⟩
 ·rw[if_neg c4]at H;have T:(n == 0)=false:=beq_eq_false_iff_ne.mpr c4;have U:(n != 0)=true:=bne_iff_ne.mpr c4;simp only[Option.some.injEq,Prod.mk.injEq]at H;obtain⟨rfl,rfl,rfl⟩:=H
  go_enter Tryz.func73,Tryz.ntmps73
  go_wp2_with (first |((with_reducible refine Qgv (N:=2) rfl ?_);refine qq_e 2 #[.int .u8 d,.int .u32 j] 27 ?_;intro l hg bk hbox hb;have n_:=qn4 (Qgk qq_b hb) (hbox) (qq_s hg:w.heap.size≤l) (qq_s hg:w.heap.size≤l);clear HB;obtain⟨HB,a,J,K⟩:=n_;clear hb hbox hg;obtain⟨aE,aG⟩:=qc2 a.out;have aY:=Qeq a.out) |((with_reducible refine Qju (f:=85) rfl ?_);refine Qhu (some 14) rfl rfl Tryz.func85 qq_6 rfl #[.agg #[.int .u8 d,.int .u32 j]] rfl qq_1 ?_;(with_reducible refine(Qal.calls d j n _ A3.out).mono ?_);rintro e bl ⟨rfl,hb⟩;refine⟨_,rfl,?_⟩;have n_:=qn2 (Qfe (g:=l) (o:=.cells #[.int .u8 d,.int .u32 j] 27 (0,0)) qq_0 hb) (Qgk qq_b hb);clear a HB;obtain⟨a,HB⟩:=n_;(try clear hb);(try clear hb2);(try clear hk);(try clear hi)))
  go_ret3
  exact⟨_,_,by first|rfl |(simp[Qkb,Qkc]<;>rfl) |(simp[*,Qkb,Qkc]<;>rfl),by first|exact Kd.R_nil _ _ _ _ _|exact Kd.N_nil _ _ _ _ _|exact Kd.V_nil _ _ _ _ _|exact Kd.Q_nil _ _ _ _ _|exact Kd.S_nil _ _ _ _ _,by first|exact Kd.R_nil _ _ _ _ _|exact Kd.N_nil _ _ _ _ _|exact Kd.V_nil _ _ _ _ _|exact Kd.Q_nil _ _ _ _ _|exact Kd.S_nil _ _ _ _ _,qq_b⟩
def Qbp.f(k:Nat)(a0:ByteArray):Option (ByteArray):=(Qbc.f k 0 a0).bind fun t289=>((Qau.f k t289 8).bind fun t290=>(if a0.size+t290.size≤9223372036854775807 then((Qbh.f k (a0++t290)).bind fun t291=>(if t291.size+1≤9223372036854775807 then(some (t291++(⟨#[0]⟩:ByteArray)))else(none)))else(none)))
theorem Qbp.calls(k:Nat)(a0:ByteArray)(r:ByteArray)(w:World)(h:Qbp.f k a0=some r) :
  Calls Tryz.prog 61 #[.string a0] w fun e w'=>e=.returned (.string r)∧Below w.heap.size w w':=by
 have HB:=QA (Below.refl w.heap.size w);have H:((Qbc.f k 0 a0).bind fun c=>((Qau.f k c 8).bind fun a=>(if a0.size+a.size≤9223372036854775807 then((Qbh.f k (a0++a)).bind fun b=>(if b.size+1≤9223372036854775807 then(some (b++(⟨#[0]⟩:ByteArray)))else(none)))else(none))))=some r:=h;clear h;replace H:=Option.bind_eq_some_iff.mp H;obtain⟨c,d,H⟩:=H;have A2:=QA d;clear d;replace H:=Option.bind_eq_some_iff.mp H;obtain⟨a,g,H⟩:=H;have A3:=QA g;clear g
 by_cases c4:a0.size+a.size≤9223372036854775807
 ·rw[if_pos c4]at H;have l:=eq_true c4;have m:=decide_eq_true c4
  try have n:(9223372036854775807<a0.size+a.size)=False:=eq_false (Nat.not_lt.2 c4)
  replace H:=Option.bind_eq_some_iff.mp H;obtain⟨b,j,H⟩:=H;have A5:=QA j;clear j
  by_cases c6:b.size+1≤9223372036854775807
  ·rw[if_pos c6]at H;have o:=eq_true c6;have p:=decide_eq_true c6
   try have q:(9223372036854775807<b.size+1)=False:=eq_false (Nat.not_lt.2 c6)
   obtain rfl:=Option.some.inj H
   go_enter Tryz.func61,Tryz.ntmps61
   go_wp2_with (first |((with_reducible refine Qju (f:=65) rfl ?_);refine Qhu (some 5) rfl rfl Tryz.func65 qq_6 rfl #[.int .u64 0,.string a0] rfl qq_1 ?_;(with_reducible refine(Qbc.calls k 0 a0 c _ A2.out).mono ?_);rintro e w7 ⟨rfl,hb⟩;refine⟨_,rfl,?_⟩;have n_:=qn1 (Qgk qq_b hb);clear HB;have HB:=n_;clear n_;(try clear hb);(try clear hb2);(try clear hk);(try clear hi)) |((with_reducible refine Qju (f:=103) rfl ?_);refine Qhu (some 6) rfl rfl Tryz.func103 qq_6 rfl #[.int .u64 c,.int .i64 8] rfl qq_1 ?_;(with_reducible refine(Qau.calls k c 8 a _ A3.out).mono ?_);rintro e w8 ⟨rfl,hb⟩;refine⟨_,rfl,?_⟩;have n_:=qn1 (Qgk qq_b hb);clear HB;have HB:=n_;clear n_;(try clear hb);(try clear hb2);(try clear hk);(try clear hi)) |((with_reducible refine Qju (f:=102) rfl ?_);refine Qhu (some 8) rfl rfl Tryz.func102 qq_6 rfl #[.string (a0++a)] rfl qq_1 ?_;(with_reducible refine(Qbh.calls k (a0++a) b _ A5.out).mono ?_);rintro e w9 ⟨rfl,hb⟩;refine⟨_,rfl,?_⟩;have n_:=qn1 (Qgk qq_b hb);clear HB;have HB:=n_;clear n_;(try clear hb);(try clear hb2);(try clear hk);(try clear hi)))
   go_ret
   exact⟨qq_7,qq_b⟩
  ·rw[if_neg c6]at H;exact absurd H (by simp)
 ·rw[if_neg c4]at H;exact absurd H (by simp)
end Go.Proofs.YtnnofopfbeklbaaGreat.C
end
