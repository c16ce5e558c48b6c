/- Merged texts. -/
import Derived.Test.YtnnofopfbeklbaaGreatMJ01
import Derived.Test.YtnnofopfbeklbaaGreatMJ03
import Derived.Test.YtnnofopfbeklbaaGreatMJ08
import Derived.Test.YtnnofopfbeklbaaGreatMJ04
import Derived.Test.YtnnofopfbeklbaaGreatMJ07
import Derived.Test.YtnnofopfbeklbaaGreatMJ05
import Derived.Test.YtnnofopfbeklbaaGreatMJ06
import Derived.Laws.Bits64b
set_option linter.unusedVariables false
set_option linter.unusedSimpArgs false
set_option maxHeartbeats 8000000
set_option maxRecDepth 100000
section
namespace Go.Proofs.YtnnofopfbeklbaaGreat.C
open Go.RowKit Go.Proofs.YtnnofopfbeklbaaGreatW.PrintWords Go.Proofs.YtnnofopfbeklbaaGreatW.PrintLast Go.Proofs.YtnnofopfbeklbaaGreatW.PrintMore
attribute [local go_sem] Qjk Qjl Qjm Qjn Qjo Qjp Qjq Qjr
def Qcd.l0:Nat→List Int→List Int→Int→Int→Int→Int→Int→Int→Int→Int→Int→Int→Int→Int→Int→Int→Option (List Int × Int)
 | 0,_,_,_,_,_,_,_,_,_,_,_,_,_,_,_,_=>none
 | k+1,x8,x22,x23,x24,x334000,x334001,x341000,x341001,x341002,x341003,x341004,x347000,x347001,x347002,x347003,x347004=>if x24<x23 then(if 0≤x24 then(if x24<(x22.length:Int)then((Qcc.f k x347000 x347001 x347002 x347003 x347004 (rd x22 x24)).bind fun t348=>(if t348=true then((Qcc.f k x341000 x341001 x341002 x341003 x341004 (rd x22 x24)).bind fun t349=>(if t349=true then((Qce.f x341000 x341001 x341002 x341003 x341004 (rd x22 x24)).bind fun bt350=>(if x8.length<17592186044416 then(Qcd.l0 k (x8++[bt350.2.2.1]) x22 x23 (wrap64 (x24+1)) x334000 x334001 bt350.1 bt350.2.1 bt350.2.2.1 bt350.2.2.2.1 bt350.2.2.2.2 x347000 x347001 x347002 x347003 x347004)else(none)))else(if(IntKind.u64.wrap (x341002+1))≥(IntKind.u64.wrap (x334001))then(some (([]:List Int),7))else((Qcb.f k x334000 x334001 (IntKind.u64.wrap (x341002+1))).bind fun bt358=>((Qce.f bt358.1 bt358.2.1 bt358.2.2.1 bt358.2.2.2.1 bt358.2.2.2.2 (rd x22 x24)).bind fun bt363=>(if x8.length<17592186044416 then(Qcd.l0 k (x8++[bt363.2.2.1]) x22 x23 (wrap64 (x24+1)) x334000 x334001 bt363.1 bt363.2.1 bt363.2.2.1 bt363.2.2.2.1 bt363.2.2.2.2 x347000 x347001 x347002 x347003 x347004)else(none)))))))else(some (([]:List Int),6))))else(none))else(none))else(some (x8,0))
def Qcd.f(k:Nat)(a0_0:Int)(a0_1:Int)(l1:List Int):Option (List Int × Int):=(Qbl.f a0_0 a0_1).bind fun t334=>(if t334=true then((Qcb.f k a0_0 a0_1 0).bind fun bt335=>((Qcb.f k a0_0 a0_1 (IntKind.u64.wrap ((IntKind.u64.wrap (a0_1))-1))).bind fun bt341=>(Qcd.l0 k ([]:List Int) l1 (l1.length:Int) 0 a0_0 a0_1 bt335.1 bt335.2.1 bt335.2.2.1 bt335.2.2.2.1 bt335.2.2.2.2 bt341.1 bt341.2.1 bt341.2.2.1 bt341.2.2.2.1 bt341.2.2.2.2)))else(some (([]:List Int),1)))
theorem Qcd.calls (k:Nat) (m:Int) (d:Int) (A1:Option Addr) (c1:Nat) (l1:List Int) (r1:List Int) (r2:Int) (w:World) (hr1:Kd.C (Kd.int .i64) w A1 l1.length l1) (hc1:l1.length≤c1) (h:Qcd.f k m d l1=some (r1,r2)) :
  Calls Tryz.prog 77 #[.agg #[.int .u8 m,.int .u32 d],.slice A1 l1.length c1] w fun e w'=>∃bE:Value,e=.returned (.tuple #[bE,.int .i64 r2])∧Kd.R (Kd.int .u64) 34 w' w.heap.size (fun _=>True) bE r1∧Below w.heap.size w w':=by
 have hu27:=Tryz.underlying27;have hu36:=Tryz.underlying36;have aA:=QA hr1;have dZ:=QA hc1;clear hr1 hc1;have HB:=QA (Below.refl w.heap.size w);have H:((Qbl.f m d).bind fun ay=>(if ay=true then((Qcb.f k m d 0).bind fun bt335=>((Qcb.f k m d (IntKind.u64.wrap ((IntKind.u64.wrap (d))-1))).bind fun bt341=>(Qcd.l0 k ([]:List Int) l1 (l1.length:Int) 0 m d bt335.1 bt335.2.1 bt335.2.2.1 bt335.2.2.2.1 bt335.2.2.2.2 bt341.1 bt341.2.1 bt341.2.2.1 bt341.2.2.2.1 bt341.2.2.2.2)))else(some (([]:List Int),1))))=some (r1,r2):=h;clear h;replace H:=Option.bind_eq_some_iff.mp H;obtain⟨ay,bF,H⟩:=H;replace H:(if ay=true then((Qcb.f k m d 0).bind fun bt335=>((Qcb.f k m d (IntKind.u64.wrap ((IntKind.u64.wrap (d))-1))).bind fun bt341=>(Qcd.l0 k ([]:List Int) l1 (l1.length:Int) 0 m d bt335.1 bt335.2.1 bt335.2.2.1 bt335.2.2.2.1 bt335.2.2.2.2 bt341.1 bt341.2.1 bt341.2.2.1 bt341.2.2.2.1 bt341.2.2.2.2)))else(some (([]:List Int),1)))=some (r1,r2):=H;have A3:=QA bF;clear bF
 by_cases c4:ay=true
 ·subst c4;have H1:((Qcb.f k m d 0).bind fun bt335=>((Qcb.f k m d (IntKind.u64.wrap ((IntKind.u64.wrap (d))-1))).bind fun bt341=>(Qcd.l0 k ([]:List Int) l1 (l1.length:Int) 0 m d bt335.1 bt335.2.1 bt335.2.2.1 bt335.2.2.2.1 bt335.2.2.2.2 bt341.1 bt341.2.1 bt341.2.2.1 bt341.2.2.2.1 bt341.2.2.2.2)))=some (r1,r2):=by rw[if_pos rfl]at H;exact H
  clear H;have H:=H1;clear H1;replace H:=Option.bind_eq_some_iff.mp H;obtain⟨⟨X,Y,Z,aa,ab⟩,bG,H⟩:=H;replace H:((Qcb.f k m d (IntKind.u64.wrap ((IntKind.u64.wrap (d))-1))).bind fun bt341=>(Qcd.l0 k ([]:List Int) l1 (l1.length:Int) 0 m d X Y Z aa ab bt341.1 bt341.2.1 bt341.2.2.1 bt341.2.2.2.1 bt341.2.2.2.2))=some (r1,r2):=H;have A5:=QA bG;clear bG;replace H:=Option.bind_eq_some_iff.mp H;obtain⟨⟨v,y,z,A,B⟩,bH,H⟩:=H;replace H:(Qcd.l0 k ([]:List Int) l1 (l1.length:Int) 0 m d X Y Z aa ab v y z A B)=some (r1,r2):=H;have A6:=QA bH;clear bH;have H':=QA H;clear H
  go_enter Tryz.func77,Tryz.ntmps77
  go_wp2_with (first |((with_reducible refine Qgt (N:=2) rfl ?_);refine qq_e 2 #[.int .u8 m,.int .u32 d] 27 ?_;intro x hg w7 hbox hb;have n_:=qn4 (Qgi qq_b hb) (hbox) (qq_s hg:w.heap.size≤x) (qq_s hg:w.heap.size≤x);clear HB;obtain⟨HB,l,bo,bp⟩:=n_;clear hb hbox hg;obtain⟨bc,bd⟩:=qc2 l.out;have bI:=Qep l.out) |((with_reducible refine Qjs (f:=54) rfl ?_);refine Qhs (some 12) rfl rfl Tryz.func54 qq_7 rfl #[.agg #[.int .u8 m,.int .u32 d]] rfl qq_1 ?_;(with_reducible refine(Qbl.calls m d true _ A3.out).mono ?_);rintro e w9 ⟨rfl,hb⟩;refine⟨_,rfl,?_⟩;have n_:=qn2 (Qfd (g:=x) (o:=.cells #[.int .u8 m,.int .u32 d] 27 (0,0)) qq_0 hb) (Qgi qq_b hb);clear l HB;obtain⟨l,HB⟩:=n_;(try clear hb);(try clear hb2);(try clear hk);(try clear hi);obtain⟨aK,aM⟩:=qc2 l.out;have bq:=Qep l.out) |((with_reducible refine Qjs (f:=20) rfl ?_);refine Qhs (some 15) rfl rfl Tryz.func20 qq_7 rfl #[.agg #[.int .u8 m,.int .u32 d],.int .u64 0] rfl qq_1 ?_;(with_reducible refine(Qcb.calls k m d 0 X Y Z aa ab _ A5.out).mono ?_);rintro e ea ⟨rfl,hb⟩;refine⟨_,rfl,?_⟩;have n_:=qn2 (Qfd (g:=x) (o:=.cells #[.int .u8 m,.int .u32 d] 27 (0,0)) qq_0 hb) (Qgi qq_b hb);clear l HB;obtain⟨l,HB⟩:=n_;(try clear hb);(try clear hb2);(try clear hk);(try clear hi)) |((with_reducible refine Qgt (N:=6) rfl ?_);refine qq_e 6 #[.int .u8 0,.int .u32 0,.int .u64 0,.int .i64 0,.int .i64 0] 36 ?_;intro u hg eb hbox hb;have n_:=qn7 (Qfd (g:=x) (o:=.cells #[.int .u8 m,.int .u32 d] 27 (0,0)) qq_0 hb) (Qgi qq_b hb) (hbox) (qq_s hg:w.heap.size≤u) (qq_s hg:w.heap.size≤u) ((by rw[hg];exact Nat.ne_of_lt (Qen (g:=x) (o:=.cells #[.int .u8 m,.int .u32 d] 27 (0,0)) qq_0):x≠u)) ((by rw[hg];exact Nat.ne_of_gt (Qen (g:=x) (o:=.cells #[.int .u8 m,.int .u32 d] 27 (0,0)) qq_0):u≠x));clear l HB;obtain⟨l,HB,j,cY,cZ,P,T⟩:=n_;clear hb hbox hg;have da:=T.out;have db:=P.out;obtain⟨aN,aQ,aR,aT,aU⟩:=qc5 j.out;have br:=Qep j.out;obtain⟨aV,aW⟩:=qc2 l.out;have bs:=Qep l.out) |((with_reducible refine Qjs (f:=20) rfl ?_);refine Qhs (some 21) rfl rfl Tryz.func20 qq_7 rfl #[.agg #[.int .u8 m,.int .u32 d],.int .u64 (IntKind.u64.wrap ((IntKind.u64.wrap (d))-1))] rfl qq_1 ?_;(with_reducible refine(Qcb.calls k m d (IntKind.u64.wrap ((IntKind.u64.wrap (d))-1)) v y z A B _ A6.out).mono ?_);rintro e ec ⟨rfl,hb⟩;refine⟨_,rfl,?_⟩;have n_:=qn3 (Qfd (g:=x) (o:=.cells #[.int .u8 m,.int .u32 d] 27 (0,0)) qq_9 hb) (Qfd (g:=u) (o:=.cells #[.int .u8 X,.int .u32 Y,.int .u64 Z,.int .i64 aa,.int .i64 ab] 36 (0,0)) qq_x hb) (Qgi qq_b hb);clear l j HB;obtain⟨l,j,HB⟩:=n_;(try clear hb);(try clear hb2);(try clear hk);(try clear hi)) |((with_reducible refine Qgt (N:=7) rfl ?_);refine qq_e 7 #[.int .u8 0,.int .u32 0,.int .u64 0,.int .i64 0,.int .i64 0] 36 ?_;intro E hg ed hbox hb;have n_:=qn10 (Qfd (g:=x) (o:=.cells #[.int .u8 m,.int .u32 d] 27 (0,0)) qq_0 hb) (Qfd (g:=u) (o:=.cells #[.int .u8 X,.int .u32 Y,.int .u64 Z,.int .i64 aa,.int .i64 ab] 36 (0,0)) qq_0 hb) (Qgi qq_b hb) (hbox) (qq_s hg:w.heap.size≤E) (qq_s hg:w.heap.size≤E) ((by rw[hg];exact Nat.ne_of_lt (Qen (g:=x) (o:=.cells #[.int .u8 m,.int .u32 d] 27 (0,0)) qq_0):x≠E)) ((by rw[hg];exact Nat.ne_of_gt (Qen (g:=x) (o:=.cells #[.int .u8 m,.int .u32 d] 27 (0,0)) qq_0):E≠x)) ((by rw[hg];exact Nat.ne_of_lt (Qen (g:=u) (o:=.cells #[.int .u8 X,.int .u32 Y,.int .u64 Z,.int .i64 aa,.int .i64 ab] 36 (0,0)) qq_0):u≠E)) ((by rw[hg];exact Nat.ne_of_gt (Qen (g:=u) (o:=.cells #[.int .u8 X,.int .u32 Y,.int .u64 Z,.int .i64 aa,.int .i64 ab] 36 (0,0)) qq_0):E≠u));clear l j HB;obtain⟨l,j,HB,t,dc,dd,G,M,I,O⟩:=n_;clear hb hbox hg;have de:=M.out;have df:=G.out;have dg:=O.out;have dh:=I.out;obtain⟨aX,aY,aZ,ba,bb⟩:=qc5 t.out;have bu:=Qep t.out))
  go_loopg [8,24] k (fun kq v8 cU w'=>∃(x8_1:List Int) (c:Int) (n:Int) (q:Int) (a:Int) (r:Int) (s:Int),cU=.int .i64 c∧Aside0 (Qcd.l0 kq x8_1 l1 (l1.length:Int) c m d n q a r s v y z A B=some (r1,r2))∧Aside0 (kq≤k)∧Aside0 (Kd.R (Kd.int .u64) 34 w' w.heap.size (fun _=>True) v8 x8_1)∧Aside0 (w'.heap[x]? = some (.cells #[.int .u8 m,.int .u32 d] 27 (0,0)))∧Aside0 (w'.heap[u]? = some (.cells #[.int .u8 n,.int .u32 q,.int .u64 a,.int .i64 r,.int .i64 s] 36 (0,0)))∧Aside0 (w'.heap[E]? = some (.cells #[.int .u8 v,.int .u32 y,.int .u64 z,.int .i64 A,.int .i64 B] 36 (0,0)))∧Aside0 (Below w.heap.size w w'))
  case atStart=>exact⟨(([]:List Int)),(0),(X),(Y),(Z),(aa),(ab),qq_8,H',⟨Nat.le_refl _⟩,⟨by first|exact Kd.R_nil _ _ _ _ _|exact Kd.N_nil _ _ _ _ _|exact Kd.V_nil _ _ _ _ _|exact Kd.Q_nil _ _ _ _ _|exact Kd.S_nil _ _ _ _ _⟩,⟨by(with_reducible repeat(first|apply Qfc|apply Qfb|apply Qfa));refine Qem ?_ G.out _;(with_reducible repeat(first|apply Qfc|apply Qfb|apply Qfa));refine Qem ?_ G.out _;(with_reducible repeat(first|apply Qfc|apply Qfb|apply Qfa));refine Qem ?_ G.out _;(with_reducible repeat(first|apply Qfc|apply Qfb|apply Qfa));refine Qem ?_ G.out _;(with_reducible repeat(first|apply Qfc|apply Qfb|apply Qfa));refine Qem ?_ G.out _;(with_reducible repeat(first|apply Qfc|apply Qfb|apply Qfa));exact l.out⟩,⟨by(with_reducible repeat(first|apply Qfc|apply Qfb|apply Qfa));refine Qem ?_ I.out _;(with_reducible repeat(first|apply Qfc|apply Qfb|apply Qfa));refine Qem ?_ I.out _;(with_reducible repeat(first|apply Qfc|apply Qfb|apply Qfa));refine Qem ?_ I.out _;(with_reducible repeat(first|apply Qfc|apply Qfb|apply Qfa));refine Qem ?_ I.out _;(with_reducible repeat(first|apply Qfc|apply Qfb|apply Qfa));refine Qem ?_ I.out _;(with_reducible repeat(first|apply Qfc|apply Qfb|apply Qfa));exact j.out⟩,⟨by(with_reducible repeat(first|apply Qfc|apply Qfb|apply Qfa));refine Qgo (cs:=#[.int .u8 v,.int .u32 y,.int .u64 z,.int .i64 A,.int .i64 0]) ?_ 4 _ rfl;(with_reducible repeat(first|apply Qfc|apply Qfb|apply Qfa));refine Qgo (cs:=#[.int .u8 v,.int .u32 y,.int .u64 z,.int .i64 0,.int .i64 0]) ?_ 3 _ rfl;(with_reducible repeat(first|apply Qfc|apply Qfb|apply Qfa));refine Qgo (cs:=#[.int .u8 v,.int .u32 y,.int .u64 0,.int .i64 0,.int .i64 0]) ?_ 2 _ rfl;(with_reducible repeat(first|apply Qfc|apply Qfb|apply Qfa));refine Qgo (cs:=#[.int .u8 v,.int .u32 0,.int .u64 0,.int .i64 0,.int .i64 0]) ?_ 1 _ rfl;(with_reducible repeat(first|apply Qfc|apply Qfb|apply Qfa));refine Qgo (cs:=#[.int .u8 0,.int .u32 0,.int .u64 0,.int .i64 0,.int .i64 0]) ?_ 0 _ rfl;(with_reducible repeat(first|apply Qfc|apply Qfb|apply Qfa));exact t.out⟩,⟨qq_b⟩⟩
  case round =>
   clear H'
   try clear c1
   try clear c4
   try clear aK
   try clear aM
   try clear aN
   try clear aQ
   try clear aR
   try clear aT
   try clear aU
   try clear aV
   try clear aW
   try clear aX
   try clear aY
   try clear aZ
   try clear ba
   try clear bb
   try clear bc
   try clear bd
   try clear bq
   try clear br
   try clear bs
   try clear bu
   try clear bI
   obtain⟨x8_1,c,n,q,a,r,s,rfl,HA,HK1,D,l,j,t,HB⟩:=hrel
   cases gk with
   | zero=>exact absurd HA.out (by simp[Qcd.l0])
   | succ k1 =>
    have H:=HA.out;clear HA;simp only[Qcd.l0]at H
    by_cases aw:c<(l1.length:Int)
    ·rw [if_pos aw]at H;have bv:decide (c<(l1.length:Int))=true:=decide_eq_true aw;clear aw
     by_cases aC:0≤c
     ·rw [if_pos aC]at H;have di:decide (0≤c)=true:=decide_eq_true aC;clear aC
      by_cases aD:c<(l1.length:Int)
      ·rw [if_pos aD]at H;have dj:decide (c<(l1.length:Int))=true:=decide_eq_true aD;clear aD;replace H:=Option.bind_eq_some_iff.mp H;obtain⟨be,bf,H⟩:=H;replace H:(if be=true then((Qcc.f k1 n q a r s (rd l1 c)).bind fun af=>(if af=true then((Qce.f n q a r s (rd l1 c)).bind fun bt350=>(if x8_1.length<17592186044416 then(Qcd.l0 k1 (x8_1++[bt350.2.2.1]) l1 (l1.length:Int) (wrap64 (c+1)) m d bt350.1 bt350.2.1 bt350.2.2.1 bt350.2.2.2.1 bt350.2.2.2.2 v y z A B)else(none)))else(if(IntKind.u64.wrap (a+1))≥(IntKind.u64.wrap (d))then(some (([]:List Int),7))else((Qcb.f k1 m d (IntKind.u64.wrap (a+1))).bind fun bt358=>((Qce.f bt358.1 bt358.2.1 bt358.2.2.1 bt358.2.2.2.1 bt358.2.2.2.2 (rd l1 c)).bind fun bt363=>(if x8_1.length<17592186044416 then(Qcd.l0 k1 (x8_1++[bt363.2.2.1]) l1 (l1.length:Int) (wrap64 (c+1)) m d bt363.1 bt363.2.1 bt363.2.2.1 bt363.2.2.2.1 bt363.2.2.2.2 v y z A B)else(none)))))))else(some (([]:List Int),6)))=some (r1,r2):=H;have aE:=QA bf;clear bf
       by_cases aG:be=true
       ·subst aG;have H1:((Qcc.f k1 n q a r s (rd l1 c)).bind fun af=>(if af=true then((Qce.f n q a r s (rd l1 c)).bind fun bt350=>(if x8_1.length<17592186044416 then(Qcd.l0 k1 (x8_1++[bt350.2.2.1]) l1 (l1.length:Int) (wrap64 (c+1)) m d bt350.1 bt350.2.1 bt350.2.2.1 bt350.2.2.2.1 bt350.2.2.2.2 v y z A B)else(none)))else(if(IntKind.u64.wrap (a+1))≥(IntKind.u64.wrap (d))then(some (([]:List Int),7))else((Qcb.f k1 m d (IntKind.u64.wrap (a+1))).bind fun bt358=>((Qce.f bt358.1 bt358.2.1 bt358.2.2.1 bt358.2.2.2.1 bt358.2.2.2.2 (rd l1 c)).bind fun bt363=>(if x8_1.length<17592186044416 then(Qcd.l0 k1 (x8_1++[bt363.2.2.1]) l1 (l1.length:Int) (wrap64 (c+1)) m d bt363.1 bt363.2.1 bt363.2.2.1 bt363.2.2.2.1 bt363.2.2.2.2 v y z A B)else(none)))))))=some (r1,r2):=by rw[if_pos rfl]at H;exact H
        clear H;have H:=H1;clear H1;replace H:=Option.bind_eq_some_iff.mp H;obtain⟨af,bg,H⟩:=H;replace H:(if af=true then((Qce.f n q a r s (rd l1 c)).bind fun bt350=>(if x8_1.length<17592186044416 then(Qcd.l0 k1 (x8_1++[bt350.2.2.1]) l1 (l1.length:Int) (wrap64 (c+1)) m d bt350.1 bt350.2.1 bt350.2.2.1 bt350.2.2.2.1 bt350.2.2.2.2 v y z A B)else(none)))else(if(IntKind.u64.wrap (a+1))≥(IntKind.u64.wrap (d))then(some (([]:List Int),7))else((Qcb.f k1 m d (IntKind.u64.wrap (a+1))).bind fun bt358=>((Qce.f bt358.1 bt358.2.1 bt358.2.2.1 bt358.2.2.2.1 bt358.2.2.2.2 (rd l1 c)).bind fun bt363=>(if x8_1.length<17592186044416 then(Qcd.l0 k1 (x8_1++[bt363.2.2.1]) l1 (l1.length:Int) (wrap64 (c+1)) m d bt363.1 bt363.2.1 bt363.2.2.1 bt363.2.2.2.1 bt363.2.2.2.2 v y z A B)else(none))))))=some (r1,r2):=H;have bh:=QA bg;clear bg
        by_cases aH:af=true
        ·subst aH;have H1:((Qce.f n q a r s (rd l1 c)).bind fun bt350=>(if x8_1.length<17592186044416 then(Qcd.l0 k1 (x8_1++[bt350.2.2.1]) l1 (l1.length:Int) (wrap64 (c+1)) m d bt350.1 bt350.2.1 bt350.2.2.1 bt350.2.2.2.1 bt350.2.2.2.2 v y z A B)else(none)))=some (r1,r2):=by rw[if_pos rfl]at H;exact H
         clear H;have H:=H1;clear H1;replace H:=Option.bind_eq_some_iff.mp H;obtain⟨⟨ag,ah,U,ai,aj⟩,bi,H⟩:=H;replace H:(if x8_1.length<17592186044416 then(Qcd.l0 k1 (x8_1++[U]) l1 (l1.length:Int) (wrap64 (c+1)) m d ag ah U ai aj v y z A B)else(none))=some (r1,r2):=H;have cV:=QA bi;clear bi
         by_cases aI:x8_1.length<17592186044416
         ·rw[if_pos aI]at H;have bw:=QA aI;clear aI;obtain⟨bj,ad⟩:∃y_:List Int,y_=(x8_1++[U]):=⟨_,rfl⟩;replace H:(Qcd.l0 k1 bj l1 (l1.length:Int) (wrap64 (c+1)) m d ag ah U ai aj v y z A B)=some (r1,r2):=by first |(rw[ad];with_reducible exact H) |(have av:=(Option.bind_some _ _).symm.trans H;rw[ad];with_reducible exact av) |(have av:=(Option.bind_some _ _).symm.trans H;with_reducible exact av)|with_reducible exact H |(rw[ad];exact H)|exact H
          have bx:=QA ad;clear ad;have H':=QA H;clear H;have K:0≤(c:Int):=of_decide_eq_true qq_6;have L:c<(l1.length:Int):=of_decide_eq_true qq_6;obtain⟨az,ac,J⟩:=Kd.at_int aA.out c K L
          cases ac
          replace J:=qq_h HB.out J;replace K:=eq_true K;replace L:=eq_true L;have dk:=M.out;have dl:=G.out;have dm:=O.out;have dn:=I.out;obtain⟨bJ,bK,bL,bM,bN⟩:=qc5 t.out;have dp:=Qep t.out
          go_wp2_with (first |((with_reducible refine Qjs (f:=24) rfl ?_);refine Qhs (some 30) rfl rfl Tryz.func24 qq_7 rfl #[.agg #[.int .u8 v,.int .u32 y,.int .u64 z,.int .i64 A,.int .i64 B],.int .i64 (rd l1 c)] rfl qq_1 ?_;(with_reducible refine(Qcc.calls k1 v y z A B (rd l1 c) true _ aE.out).mono ?_);rintro e ee ⟨rfl,hb⟩;refine⟨_,rfl,?_⟩;have n_:=qn5 (Kd.R_below qq_5 hb) (Qfd (g:=x) (o:=.cells #[.int .u8 m,.int .u32 d] 27 (0,0)) qq_0 hb) (Qfd (g:=u) (o:=.cells #[.int .u8 n,.int .u32 q,.int .u64 a,.int .i64 r,.int .i64 s] 36 (0,0)) qq_0 hb) (Qfd (g:=E) (o:=.cells #[.int .u8 v,.int .u32 y,.int .u64 z,.int .i64 A,.int .i64 B] 36 (0,0)) qq_0 hb) (Qgi qq_b hb);clear D l j t HB;obtain⟨D,l,j,t,HB⟩:=n_;(try clear hb);(try clear hb2);(try clear hk);(try clear hi);have dq:=T.out;have dr:=P.out;obtain⟨bO,bP,bQ,bR,bS⟩:=qc5 j.out;have ds:=Qep j.out) |((with_reducible refine Qjs (f:=24) rfl ?_);refine Qhs (some 34) rfl rfl Tryz.func24 qq_7 rfl #[.agg #[.int .u8 n,.int .u32 q,.int .u64 a,.int .i64 r,.int .i64 s],.int .i64 (rd l1 c)] rfl qq_1 ?_;(with_reducible refine(Qcc.calls k1 n q a r s (rd l1 c) true _ bh.out).mono ?_);rintro e ef ⟨rfl,hb⟩;refine⟨_,rfl,?_⟩;have n_:=qn5 (Kd.R_below qq_5 hb) (Qfd (g:=x) (o:=.cells #[.int .u8 m,.int .u32 d] 27 (0,0)) qq_0 hb) (Qfd (g:=u) (o:=.cells #[.int .u8 n,.int .u32 q,.int .u64 a,.int .i64 r,.int .i64 s] 36 (0,0)) qq_0 hb) (Qfd (g:=E) (o:=.cells #[.int .u8 v,.int .u32 y,.int .u64 z,.int .i64 A,.int .i64 B] 36 (0,0)) qq_0 hb) (Qgi qq_b hb);clear D l j t HB;obtain⟨D,l,j,t,HB⟩:=n_;(try clear hb);(try clear hb2);(try clear hk);(try clear hi);obtain⟨bT,bU,bV,bW,bX⟩:=qc5 j.out;have dt:=Qep j.out) |((with_reducible refine Qjs (f:=25) rfl ?_);refine Qhs (some 50) rfl rfl Tryz.func25 qq_7 rfl #[.agg #[.int .u8 n,.int .u32 q,.int .u64 a,.int .i64 r,.int .i64 s],.int .i64 (rd l1 c)] rfl qq_1 ?_;(with_reducible refine(Qce.calls n q a r s (rd l1 c) ag ah U ai aj _ cV.out).mono ?_);rintro e eg ⟨rfl,hb⟩;refine⟨_,rfl,?_⟩;have n_:=qn5 (Kd.R_below qq_5 hb) (Qfd (g:=x) (o:=.cells #[.int .u8 m,.int .u32 d] 27 (0,0)) qq_0 hb) (Qfd (g:=u) (o:=.cells #[.int .u8 n,.int .u32 q,.int .u64 a,.int .i64 r,.int .i64 s] 36 (0,0)) qq_0 hb) (Qfd (g:=E) (o:=.cells #[.int .u8 v,.int .u32 y,.int .u64 z,.int .i64 A,.int .i64 B] 36 (0,0)) qq_0 hb) (Qgi qq_b hb);clear D l j t HB;obtain⟨D,l,j,t,HB⟩:=n_;(try clear hb);(try clear hb2);(try clear hk);(try clear hi);obtain⟨bY,bZ,b0,b1,b2⟩:=qc5 j.out;have du:=Qep j.out) |((with_reducible refine Qjt (b:=.append) (xs:=#[.tmp 51,.tmp 54]) rfl ?_);at_builtin;refine Kd.R_append (Kd.int .u64) (w0:=w) w.heap.size rfl (.tmp 51) (.tmp 54) 70 34 (.int .u64 0) 8 rfl Tryz.underlying70 Qkd rfl (by decide) (by omega) u8 x8_1 U [.int .u64 U] (fun _=>True) (fun _=>False) rfl qq_13 ?aP (fun _ hk=>hk.elim) ?aF ?aO ?aB ?aS ?aL ?_;(case aP=>exact rfl);(case aB=>exact qq_b);(case aF=>exact(fun _ _=>trivial));(case aO=>exact(by(with_reducible repeat(first|apply Kd.R_alloc|apply Kd.R_drewN|apply Kd.R_drew));exact Kd.R_mono (Kd.R_far (p:=⟨u,4,none⟩) (Kd.R_far (p:=⟨u,3,none⟩) (Kd.R_far (p:=⟨u,2,none⟩) (Kd.R_far (p:=⟨u,1,none⟩) (Kd.R_far (p:=⟨u,0,none⟩) (Kd.R_types D.out j.out (by decide)) (fun _ hk=>hk.2) (.int .u8 ag)) (fun _ hk=>hk.2) (.int .u32 ah)) (fun _ hk=>hk.2) (.int .u64 U)) (fun _ hk=>hk.2) (.int .i64 ai)) (fun _ hk=>hk.2) (.int .i64 aj)) (fun _ hk=>trivial)));(case aS=>exact(Qgh qq_b));(case aL=>have:=bw.out;omega);intro dX eh ho hb hg hat;rw[← bx.out]at ho;have n_:=qn5 (Qeq (g:=x) (o:=.cells #[.int .u8 m,.int .u32 d] 27 (0,0)) qq_9 hg (Kd.R_ne D.out l.out (by decide))) (Qeq (g:=u) (o:=.cells #[.int .u8 ag,.int .u32 ah,.int .u64 U,.int .i64 ai,.int .i64 aj] 36 (0,0)) qq_x hg (Kd.R_ne D.out j.out (by decide))) (Qeq (g:=E) (o:=.cells #[.int .u8 v,.int .u32 y,.int .u64 z,.int .i64 A,.int .i64 B] 36 (0,0)) qq_9 hg (Kd.R_ne D.out t.out (by decide))) (hb) (ho);clear l j t HB D;obtain⟨l,j,t,HB,bz⟩:=n_;clear ho hb hg hat))
          go_roundg k1
          case measure=>have:=HK1.out;omega
          case rel=>exact⟨(bj),(wrap64 (c+1)),(ag),(ah),(U),(ai),(aj),qq_8,H',⟨by have:=HK1.out;omega⟩,⟨by(with_reducible repeat(first|apply Kd.R_alloc|apply Kd.R_drewN|apply Kd.R_drew));exact bz.out⟩,⟨by(with_reducible repeat(first|apply Qfc|apply Qfb|apply Qfa));exact l.out⟩,⟨by(with_reducible repeat(first|apply Qfc|apply Qfb|apply Qfa));exact j.out⟩,⟨by(with_reducible repeat(first|apply Qfc|apply Qfb|apply Qfa));exact t.out⟩,⟨qq_b⟩⟩
         ·rw[if_neg aI]at H;exact absurd H (by simp)
        ·replace aH:=Bool.eq_false_iff.mpr aH;subst aH;have H1:(if(IntKind.u64.wrap (a+1))≥(IntKind.u64.wrap (d))then(some (([]:List Int),7))else((Qcb.f k1 m d (IntKind.u64.wrap (a+1))).bind fun bt358=>((Qce.f bt358.1 bt358.2.1 bt358.2.2.1 bt358.2.2.2.1 bt358.2.2.2.2 (rd l1 c)).bind fun bt363=>(if x8_1.length<17592186044416 then(Qcd.l0 k1 (x8_1++[bt363.2.2.1]) l1 (l1.length:Int) (wrap64 (c+1)) m d bt363.1 bt363.2.1 bt363.2.2.1 bt363.2.2.2.1 bt363.2.2.2.2 v y z A B)else(none)))))=some (r1,r2):=by rw[if_neg (show ¬(false=true)by decide)]at H;exact H
         clear H;have H:=H1;clear H1
         by_cases ax:(IntKind.u64.wrap (a+1))≥(IntKind.u64.wrap (d))
         ·rw[if_pos ax]at H;have bA:decide ((IntKind.u64.wrap (d))≤(IntKind.u64.wrap (a+1)))=true:=decide_eq_true ax;clear ax;simp only[Option.some.injEq,Prod.mk.injEq]at H;obtain⟨rfl,rfl⟩:=H;have K:0≤(c:Int):=of_decide_eq_true qq_6;have L:c<(l1.length:Int):=of_decide_eq_true qq_6;obtain⟨az,ac,J⟩:=Kd.at_int aA.out c K L
          cases ac
          replace J:=qq_h HB.out J;replace K:=eq_true K;replace L:=eq_true L;have dv:=M.out;have dw:=G.out;have dx:=O.out;have dy:=I.out;obtain⟨b3,b4,b5,b6,b7⟩:=qc5 t.out;have dz:=Qep t.out
          go_wp2_with (first |((with_reducible refine Qjs (f:=24) rfl ?_);refine Qhs (some 30) rfl rfl Tryz.func24 qq_7 rfl #[.agg #[.int .u8 v,.int .u32 y,.int .u64 z,.int .i64 A,.int .i64 B],.int .i64 (rd l1 c)] rfl qq_1 ?_;(with_reducible refine(Qcc.calls k1 v y z A B (rd l1 c) true _ aE.out).mono ?_);rintro e ei ⟨rfl,hb⟩;refine⟨_,rfl,?_⟩;have n_:=qn5 (Kd.R_below qq_5 hb) (Qfd (g:=x) (o:=.cells #[.int .u8 m,.int .u32 d] 27 (0,0)) qq_0 hb) (Qfd (g:=u) (o:=.cells #[.int .u8 n,.int .u32 q,.int .u64 a,.int .i64 r,.int .i64 s] 36 (0,0)) qq_0 hb) (Qfd (g:=E) (o:=.cells #[.int .u8 v,.int .u32 y,.int .u64 z,.int .i64 A,.int .i64 B] 36 (0,0)) qq_0 hb) (Qgi qq_b hb);clear D l j t HB;obtain⟨D,l,j,t,HB⟩:=n_;(try clear hb);(try clear hb2);(try clear hk);(try clear hi);have dA:=T.out;have dB:=P.out;obtain⟨b8,b9,ca,cb,cc⟩:=qc5 j.out;have dC:=Qep j.out) |((with_reducible refine Qjs (f:=24) rfl ?_);refine Qhs (some 34) rfl rfl Tryz.func24 qq_7 rfl #[.agg #[.int .u8 n,.int .u32 q,.int .u64 a,.int .i64 r,.int .i64 s],.int .i64 (rd l1 c)] rfl qq_1 ?_;(with_reducible refine(Qcc.calls k1 n q a r s (rd l1 c) false _ bh.out).mono ?_);rintro e ej ⟨rfl,hb⟩;refine⟨_,rfl,?_⟩;have n_:=qn5 (Kd.R_below qq_5 hb) (Qfd (g:=x) (o:=.cells #[.int .u8 m,.int .u32 d] 27 (0,0)) qq_0 hb) (Qfd (g:=u) (o:=.cells #[.int .u8 n,.int .u32 q,.int .u64 a,.int .i64 r,.int .i64 s] 36 (0,0)) qq_0 hb) (Qfd (g:=E) (o:=.cells #[.int .u8 v,.int .u32 y,.int .u64 z,.int .i64 A,.int .i64 B] 36 (0,0)) qq_0 hb) (Qgi qq_b hb);clear D l j t HB;obtain⟨D,l,j,t,HB⟩:=n_;(try clear hb);(try clear hb2);(try clear hk);(try clear hi);obtain⟨cd,ce,cf,cg,ch⟩:=qc5 j.out;have dD:=Qep j.out;obtain⟨cj,ck⟩:=qc2 l.out;have dE:=Qep l.out))
          go_ret2
          exact⟨_,by first|rfl |(simp[Qjz,Qka]<;>rfl) |(simp[*,Qjz,Qka]<;>rfl),by first|exact Kd.R_nil _ _ _ _ _|exact Kd.N_nil _ _ _ _ _|exact Kd.V_nil _ _ _ _ _|exact Kd.Q_nil _ _ _ _ _|exact Kd.S_nil _ _ _ _ _,qq_b⟩
         ·rw[if_neg ax]at H;have bA:decide ((IntKind.u64.wrap (d))≤(IntKind.u64.wrap (a+1)))=false:=decide_eq_false ax;clear ax;replace H:=Option.bind_eq_some_iff.mp H;obtain⟨⟨ak,al,am,an,ao⟩,bk,H⟩:=H;replace H:((Qce.f ak al am an ao (rd l1 c)).bind fun bt363=>(if x8_1.length<17592186044416 then(Qcd.l0 k1 (x8_1++[bt363.2.2.1]) l1 (l1.length:Int) (wrap64 (c+1)) m d bt363.1 bt363.2.1 bt363.2.2.1 bt363.2.2.2.1 bt363.2.2.2.2 v y z A B)else(none)))=some (r1,r2):=H;have cW:=QA bk;clear bk;replace H:=Option.bind_eq_some_iff.mp H;obtain⟨⟨ap,aq,W,ar,au⟩,bl,H⟩:=H;replace H:(if x8_1.length<17592186044416 then(Qcd.l0 k1 (x8_1++[W]) l1 (l1.length:Int) (wrap64 (c+1)) m d ap aq W ar au v y z A B)else(none))=some (r1,r2):=H;have cX:=QA bl;clear bl
          by_cases aJ:x8_1.length<17592186044416
          ·rw[if_pos aJ]at H;have bB:=QA aJ;clear aJ;obtain⟨bn,ae⟩:∃y_:List Int,y_=(x8_1++[W]):=⟨_,rfl⟩;replace H:(Qcd.l0 k1 bn l1 (l1.length:Int) (wrap64 (c+1)) m d ap aq W ar au v y z A B)=some (r1,r2):=by first |(rw[ae];with_reducible exact H) |(have av:=(Option.bind_some _ _).symm.trans H;rw[ae];with_reducible exact av) |(have av:=(Option.bind_some _ _).symm.trans H;with_reducible exact av)|with_reducible exact H |(rw[ae];exact H)|exact H
           have bC:=QA ae;clear ae;have H':=QA H;clear H;have K:0≤(c:Int):=of_decide_eq_true qq_6;have L:c<(l1.length:Int):=of_decide_eq_true qq_6;obtain⟨az,ac,J⟩:=Kd.at_int aA.out c K L
           cases ac
           replace J:=qq_h HB.out J;replace K:=eq_true K;replace L:=eq_true L;have dF:=M.out;have dG:=G.out;have dH:=O.out;have dI:=I.out;obtain⟨cl,cm,cn,co,cp⟩:=qc5 t.out;have dJ:=Qep t.out
           go_wp2_with (first |((with_reducible refine Qjs (f:=24) rfl ?_);refine Qhs (some 30) rfl rfl Tryz.func24 qq_7 rfl #[.agg #[.int .u8 v,.int .u32 y,.int .u64 z,.int .i64 A,.int .i64 B],.int .i64 (rd l1 c)] rfl qq_1 ?_;(with_reducible refine(Qcc.calls k1 v y z A B (rd l1 c) true _ aE.out).mono ?_);rintro e ek ⟨rfl,hb⟩;refine⟨_,rfl,?_⟩;have n_:=qn5 (Kd.R_below qq_5 hb) (Qfd (g:=x) (o:=.cells #[.int .u8 m,.int .u32 d] 27 (0,0)) qq_0 hb) (Qfd (g:=u) (o:=.cells #[.int .u8 n,.int .u32 q,.int .u64 a,.int .i64 r,.int .i64 s] 36 (0,0)) qq_0 hb) (Qfd (g:=E) (o:=.cells #[.int .u8 v,.int .u32 y,.int .u64 z,.int .i64 A,.int .i64 B] 36 (0,0)) qq_0 hb) (Qgi qq_b hb);clear D l j t HB;obtain⟨D,l,j,t,HB⟩:=n_;(try clear hb);(try clear hb2);(try clear hk);(try clear hi);have dK:=T.out;have dL:=P.out;obtain⟨cq,cr,ct,cu,cv⟩:=qc5 j.out;have dM:=Qep j.out) |((with_reducible refine Qjs (f:=24) rfl ?_);refine Qhs (some 34) rfl rfl Tryz.func24 qq_7 rfl #[.agg #[.int .u8 n,.int .u32 q,.int .u64 a,.int .i64 r,.int .i64 s],.int .i64 (rd l1 c)] rfl qq_1 ?_;(with_reducible refine(Qcc.calls k1 n q a r s (rd l1 c) false _ bh.out).mono ?_);rintro e el ⟨rfl,hb⟩;refine⟨_,rfl,?_⟩;have n_:=qn5 (Kd.R_below qq_5 hb) (Qfd (g:=x) (o:=.cells #[.int .u8 m,.int .u32 d] 27 (0,0)) qq_0 hb) (Qfd (g:=u) (o:=.cells #[.int .u8 n,.int .u32 q,.int .u64 a,.int .i64 r,.int .i64 s] 36 (0,0)) qq_0 hb) (Qfd (g:=E) (o:=.cells #[.int .u8 v,.int .u32 y,.int .u64 z,.int .i64 A,.int .i64 B] 36 (0,0)) qq_0 hb) (Qgi qq_b hb);clear D l j t HB;obtain⟨D,l,j,t,HB⟩:=n_;(try clear hb);(try clear hb2);(try clear hk);(try clear hi);obtain⟨cw,cx,cy,cz,cA⟩:=qc5 j.out;have dN:=Qep j.out;obtain⟨cB,cC⟩:=qc2 l.out;have dO:=Qep l.out) |((with_reducible refine Qjs (f:=20) rfl ?_);refine Qhs (some 47) rfl rfl Tryz.func20 qq_7 rfl #[.agg #[.int .u8 m,.int .u32 d],.int .u64 (IntKind.u64.wrap (a+1))] rfl qq_1 ?_;(with_reducible refine(Qcb.calls k1 m d (IntKind.u64.wrap (a+1)) ak al am an ao _ cW.out).mono ?_);rintro e em ⟨rfl,hb⟩;refine⟨_,rfl,?_⟩;have n_:=qn5 (Kd.R_below qq_5 hb) (Qfd (g:=x) (o:=.cells #[.int .u8 m,.int .u32 d] 27 (0,0)) qq_0 hb) (Qfd (g:=u) (o:=.cells #[.int .u8 n,.int .u32 q,.int .u64 a,.int .i64 r,.int .i64 s] 36 (0,0)) qq_0 hb) (Qfd (g:=E) (o:=.cells #[.int .u8 v,.int .u32 y,.int .u64 z,.int .i64 A,.int .i64 B] 36 (0,0)) qq_0 hb) (Qgi qq_b hb);clear D l j t HB;obtain⟨D,l,j,t,HB⟩:=n_;(try clear hb);(try clear hb2);(try clear hk);(try clear hi);obtain⟨cD,cE,cF,cG,cH⟩:=qc5 j.out;have dP:=Qep j.out) |((with_reducible refine Qjs (f:=25) rfl ?_);refine Qhs (some 50) rfl rfl Tryz.func25 qq_7 rfl #[.agg #[.int .u8 ak,.int .u32 al,.int .u64 am,.int .i64 an,.int .i64 ao],.int .i64 (rd l1 c)] rfl qq_1 ?_;(with_reducible refine(Qce.calls ak al am an ao (rd l1 c) ap aq W ar au _ cX.out).mono ?_);rintro e en ⟨rfl,hb⟩;refine⟨_,rfl,?_⟩;have n_:=qn5 (Kd.R_below (by(with_reducible repeat(first|apply Kd.R_alloc|apply Kd.R_drewN|apply Kd.R_drew));exact(Kd.R_mono (Kd.R_far (p:=⟨u,4,none⟩) (Kd.R_far (p:=⟨u,3,none⟩) (Kd.R_far (p:=⟨u,2,none⟩) (Kd.R_far (p:=⟨u,1,none⟩) (Kd.R_far (p:=⟨u,0,none⟩) (Kd.R_types D.out j.out (by decide)) (fun _ hk=>hk.2) (.int .u8 ak)) (fun _ hk=>hk.2) (.int .u32 al)) (fun _ hk=>hk.2) (.int .u64 am)) (fun _ hk=>hk.2) (.int .i64 an)) (fun _ hk=>hk.2) (.int .i64 ao)) (fun _ h_=>h_.1))) hb) (Qfd (g:=x) (o:=.cells #[.int .u8 m,.int .u32 d] 27 (0,0)) qq_9 hb) (Qfd (g:=u) (o:=.cells #[.int .u8 ak,.int .u32 al,.int .u64 am,.int .i64 an,.int .i64 ao] 36 (0,0)) qq_x hb) (Qfd (g:=E) (o:=.cells #[.int .u8 v,.int .u32 y,.int .u64 z,.int .i64 A,.int .i64 B] 36 (0,0)) qq_9 hb) (Qgi qq_b hb);clear D l j t HB;obtain⟨D,l,j,t,HB⟩:=n_;(try clear hb);(try clear hb2);(try clear hk);(try clear hi);obtain⟨cI,cJ,cK,cL,cM⟩:=qc5 j.out;have dQ:=Qep j.out) |((with_reducible refine Qjt (b:=.append) (xs:=#[.tmp 51,.tmp 54]) rfl ?_);at_builtin;refine Kd.R_append (Kd.int .u64) (w0:=w) w.heap.size rfl (.tmp 51) (.tmp 54) 70 34 (.int .u64 0) 8 rfl Tryz.underlying70 Qkd rfl (by decide) (by omega) u8 x8_1 W [.int .u64 W] (fun _=>True) (fun _=>False) rfl qq_13 ?aP (fun _ hk=>hk.elim) ?aF ?aO ?aB ?aS ?aL ?_;(case aP=>exact rfl);(case aB=>exact qq_b);(case aF=>exact(fun _ _=>trivial));(case aO=>exact(by(with_reducible repeat(first|apply Kd.R_alloc|apply Kd.R_drewN|apply Kd.R_drew));exact Kd.R_mono (Kd.R_far (p:=⟨u,4,none⟩) (Kd.R_far (p:=⟨u,3,none⟩) (Kd.R_far (p:=⟨u,2,none⟩) (Kd.R_far (p:=⟨u,1,none⟩) (Kd.R_far (p:=⟨u,0,none⟩) (Kd.R_types D.out j.out (by decide)) (fun _ hk=>hk.2) (.int .u8 ap)) (fun _ hk=>hk.2) (.int .u32 aq)) (fun _ hk=>hk.2) (.int .u64 W)) (fun _ hk=>hk.2) (.int .i64 ar)) (fun _ hk=>hk.2) (.int .i64 au)) (fun _ hk=>trivial)));(case aS=>exact(Qgh qq_b));(case aL=>have:=bB.out;omega);intro dY eo ho hb hg hat;rw[← bC.out]at ho;have n_:=qn5 (Qeq (g:=x) (o:=.cells #[.int .u8 m,.int .u32 d] 27 (0,0)) qq_9 hg (Kd.R_ne D.out l.out (by decide))) (Qeq (g:=u) (o:=.cells #[.int .u8 ap,.int .u32 aq,.int .u64 W,.int .i64 ar,.int .i64 au] 36 (0,0)) qq_x hg (Kd.R_ne D.out j.out (by decide))) (Qeq (g:=E) (o:=.cells #[.int .u8 v,.int .u32 y,.int .u64 z,.int .i64 A,.int .i64 B] 36 (0,0)) qq_9 hg (Kd.R_ne D.out t.out (by decide))) (hb) (ho);clear l j t HB D;obtain⟨l,j,t,HB,bD⟩:=n_;clear ho hb hg hat))
           go_roundg k1
           case measure=>have:=HK1.out;omega
           case rel=>exact⟨(bn),(wrap64 (c+1)),(ap),(aq),(W),(ar),(au),qq_8,H',⟨by have:=HK1.out;omega⟩,⟨by(with_reducible repeat(first|apply Kd.R_alloc|apply Kd.R_drewN|apply Kd.R_drew));exact bD.out⟩,⟨by(with_reducible repeat(first|apply Qfc|apply Qfb|apply Qfa));exact l.out⟩,⟨by(with_reducible repeat(first|apply Qfc|apply Qfb|apply Qfa));exact j.out⟩,⟨by(with_reducible repeat(first|apply Qfc|apply Qfb|apply Qfa));exact t.out⟩,⟨qq_b⟩⟩
          ·rw[if_neg aJ]at H;exact absurd H (by simp)
       ·replace aG:=Bool.eq_false_iff.mpr aG;subst aG;have H1:(some (([]:List Int),6))=some (r1,r2):=by rw[if_neg (show ¬(false=true)by decide)]at H;exact H
        clear H;have H:=H1;clear H1;simp only[Option.some.injEq,Prod.mk.injEq]at H;obtain⟨rfl,rfl⟩:=H;have K:0≤(c:Int):=of_decide_eq_true qq_6;have L:c<(l1.length:Int):=of_decide_eq_true qq_6;obtain⟨az,ac,J⟩:=Kd.at_int aA.out c K L
        cases ac
        replace J:=qq_h HB.out J;replace K:=eq_true K;replace L:=eq_true L;have dR:=M.out;have dS:=G.out;have dT:=O.out;have dU:=I.out;obtain⟨cN,cO,cP,cQ,cR⟩:=qc5 t.out;have dV:=Qep t.out
        go_wp2_with (first |((with_reducible refine Qjs (f:=24) rfl ?_);refine Qhs (some 30) rfl rfl Tryz.func24 qq_7 rfl #[.agg #[.int .u8 v,.int .u32 y,.int .u64 z,.int .i64 A,.int .i64 B],.int .i64 (rd l1 c)] rfl qq_1 ?_;(with_reducible refine(Qcc.calls k1 v y z A B (rd l1 c) false _ aE.out).mono ?_);rintro e ep ⟨rfl,hb⟩;refine⟨_,rfl,?_⟩;have n_:=qn5 (Kd.R_below qq_5 hb) (Qfd (g:=x) (o:=.cells #[.int .u8 m,.int .u32 d] 27 (0,0)) qq_0 hb) (Qfd (g:=u) (o:=.cells #[.int .u8 n,.int .u32 q,.int .u64 a,.int .i64 r,.int .i64 s] 36 (0,0)) qq_0 hb) (Qfd (g:=E) (o:=.cells #[.int .u8 v,.int .u32 y,.int .u64 z,.int .i64 A,.int .i64 B] 36 (0,0)) qq_0 hb) (Qgi qq_b hb);clear D l j t HB;obtain⟨D,l,j,t,HB⟩:=n_;(try clear hb);(try clear hb2);(try clear hk);(try clear hi)))
        go_ret2
        exact⟨_,by first|rfl |(simp[Qjz,Qka]<;>rfl) |(simp[*,Qjz,Qka]<;>rfl),by first|exact Kd.R_nil _ _ _ _ _|exact Kd.N_nil _ _ _ _ _|exact Kd.V_nil _ _ _ _ _|exact Kd.Q_nil _ _ _ _ _|exact Kd.S_nil _ _ _ _ _,qq_b⟩
      ·rw[if_neg aD]at H;exact absurd H (by simp)
     ·rw[if_neg aC]at H;exact absurd H (by simp)
    ·rw[if_neg aw]at H;have bv:decide (c<(l1.length:Int))=false:=decide_eq_false aw;clear aw;simp only[Option.some.injEq,Prod.mk.injEq]at H;obtain⟨rfl,rfl⟩:=H;go_wp2
     go_ret2
     exact⟨_,by first|rfl |(simp[Qjz,Qka]<;>rfl) |(simp[*,Qjz,Qka]<;>rfl),by(with_reducible repeat(first|apply Kd.R_alloc|apply Kd.R_drewN|apply Kd.R_drew));exact D.out,qq_b⟩
 ·replace c4:=Bool.eq_false_iff.mpr c4;subst c4;have H1:(some (([]:List Int),1))=some (r1,r2):=by rw[if_neg (show ¬(false=true)by decide)]at H;exact H
  clear H;have H:=H1;clear H1;simp only[Option.some.injEq,Prod.mk.injEq]at H;obtain⟨rfl,rfl⟩:=H
  go_enter Tryz.func77,Tryz.ntmps77
  go_wp2_with (first |((with_reducible refine Qgt (N:=2) rfl ?_);refine qq_e 2 #[.int .u8 m,.int .u32 d] 27 ?_;intro x hg eq hbox hb;have n_:=qn4 (Qgi qq_b hb) (hbox) (qq_s hg:w.heap.size≤x) (qq_s hg:w.heap.size≤x);clear HB;obtain⟨HB,l,bo,bp⟩:=n_;clear hb hbox hg;obtain⟨cS,cT⟩:=qc2 l.out;have dW:=Qep l.out) |((with_reducible refine Qjs (f:=54) rfl ?_);refine Qhs (some 12) rfl rfl Tryz.func54 qq_7 rfl #[.agg #[.int .u8 m,.int .u32 d]] rfl qq_1 ?_;(with_reducible refine(Qbl.calls m d false _ A3.out).mono ?_);rintro e er ⟨rfl,hb⟩;refine⟨_,rfl,?_⟩;have n_:=qn2 (Qfd (g:=x) (o:=.cells #[.int .u8 m,.int .u32 d] 27 (0,0)) qq_0 hb) (Qgi qq_b hb);clear l HB;obtain⟨l,HB⟩:=n_;(try clear hb);(try clear hb2);(try clear hk);(try clear hi)))
  go_ret2
  exact⟨_,by first|rfl |(simp[Qjz,Qka]<;>rfl) |(simp[*,Qjz,Qka]<;>rfl),by first|exact Kd.R_nil _ _ _ _ _|exact Kd.N_nil _ _ _ _ _|exact Kd.V_nil _ _ _ _ _|exact Kd.Q_nil _ _ _ _ _|exact Kd.S_nil _ _ _ _ _,qq_b⟩
def Qck.l0:Nat→List Int→List (S39)→Int→Int→Int→Int→Option (List Int × Int)
 | 0,_,_,_,_,_,_=>none
 | k+1,x7,x18,x19,x20,x372000,x372001=>if x20<x19 then(if 0≤x20 then(if x20<(x18.length:Int)then((Qbo.f k ((Qki x18 x20).f0) ((Qki x18 x20).f1) ((Qki x18 x20).f2) ((Qki x18 x20).f3)).bind fun t376=>(if x7.length<17592186044416 then(Qck.l0 k (x7++[(t376.size:Int)]) x18 x19 (wrap64 (x20+1)) x372000 x372001)else(none)))else(none))else(none))else((Qcd.f k x372000 x372001 x7).bind fun bt380=>(some (bt380.1,bt380.2)))
def Qck.f(k:Nat)(a0_0:Int)(a0_1:Int)(l1:List (S39)):Option (List Int × Int):=(Qbl.f a0_0 a0_1).bind fun t372=>(if t372=true then((Qbk.f k l1).bind fun t373=>(if t373=0 then(Qck.l0 k ([]:List Int) l1 (l1.length:Int) 0 a0_0 a0_1)else(some (([]:List Int),t373))))else(some (([]:List Int),1)))
theorem Qck.calls (k:Nat) (d:Int) (j:Int) (A1:Option Addr) (c1:Nat) (l1:List (S39)) (r1:List Int) (r2:Int) (w:World) (hr1:Kd.C k39 w A1 l1.length l1) (hc1:l1.length≤c1) (h:Qck.f k d j l1=some (r1,r2)) :
  Calls Tryz.prog 39 #[.agg #[.int .u8 d,.int .u32 j],.slice A1 l1.length c1] w fun e w'=>∃aj:Value,e=.returned (.tuple #[aj,.int .i64 r2])∧Kd.R (Kd.int .u64) 34 w' w.heap.size (fun _=>True) aj r1∧Below w.heap.size w w':=by
 have hu27:=Tryz.underlying27;have hu39:=Tryz.underlying39;have P:=QA hr1;have ak:=QA hc1;clear hr1 hc1;have HB:=QA (Below.refl w.heap.size w);have H:((Qbl.f d j).bind fun B=>(if B=true then((Qbk.f k l1).bind fun m=>(if m=0 then(Qck.l0 k ([]:List Int) l1 (l1.length:Int) 0 d j)else(some (([]:List Int),m))))else(some (([]:List Int),1))))=some (r1,r2):=h;clear h;replace H:=Option.bind_eq_some_iff.mp H;obtain⟨B,al,H⟩:=H;replace H:(if B=true then((Qbk.f k l1).bind fun m=>(if m=0 then(Qck.l0 k ([]:List Int) l1 (l1.length:Int) 0 d j)else(some (([]:List Int),m))))else(some (([]:List Int),1)))=some (r1,r2):=H;have A3:=QA al;clear al
 by_cases c4:B=true
 ·subst c4;have H1:((Qbk.f k l1).bind fun m=>(if m=0 then(Qck.l0 k ([]:List Int) l1 (l1.length:Int) 0 d j)else(some (([]:List Int),m))))=some (r1,r2):=by rw[if_pos rfl]at H;exact H
  clear H;have H:=H1;clear H1;replace H:=Option.bind_eq_some_iff.mp H;obtain⟨m,am,H⟩:=H;replace H:(if m=0 then(Qck.l0 k ([]:List Int) l1 (l1.length:Int) 0 d j)else(some (([]:List Int),m)))=some (r1,r2):=H;have A5:=QA am;clear am
  by_cases c6:m=0
  ·rw [if_pos c6]at H;have T:(m == 0)=true:=beq_iff_eq.mpr c6;have U:(m != 0)=false:=bne_eq_false_iff_eq.mpr c6;clear c6;have H':=QA H;clear H
   go_enter Tryz.func39,Tryz.ntmps39
   go_wp2_with (first |((with_reducible refine Qgt (N:=2) rfl ?_);refine qq_e 2 #[.int .u8 d,.int .u32 j] 27 ?_;intro l hg w7 hbox hb;have n_:=qn4 (Qgi qq_b hb) (hbox) (qq_s hg:w.heap.size≤l) (qq_s hg:w.heap.size≤l);clear HB;obtain⟨HB,c,J,K⟩:=n_;clear hb hbox hg;obtain⟨W,X⟩:=qc2 c.out;have ao:=Qep c.out) |((with_reducible refine Qjs (f:=54) rfl ?_);refine Qhs (some 11) rfl rfl Tryz.func54 qq_7 rfl #[.agg #[.int .u8 d,.int .u32 j]] rfl qq_1 ?_;(with_reducible refine(Qbl.calls d j true _ A3.out).mono ?_);rintro e w9 ⟨rfl,hb⟩;refine⟨_,rfl,?_⟩;have n_:=qn2 (Qfd (g:=l) (o:=.cells #[.int .u8 d,.int .u32 j] 27 (0,0)) qq_0 hb) (Qgi qq_b hb);clear c HB;obtain⟨c,HB⟩:=n_;(try clear hb);(try clear hb2);(try clear hk);(try clear hi)) |((with_reducible refine Qjs (f:=76) rfl ?_);refine Qhs (some 14) rfl rfl Tryz.func76 qq_7 rfl #[.slice A1 l1.length c1] rfl qq_1 ?_;(with_reducible refine(Qbk.calls k _ _ l1 m _ ?side1 ?side2 A5.out).mono ?_);(case side1=>repeat(first|exact(Kd.C_below P.out HB.out) |(with_reducible refine Kd.C_alloc ?_ _) |(with_reducible refine Kd.C_drewN ?_ _) |(with_reducible refine Kd.C_drew ?_)));(case side2=>exact ak.out);rintro e aY ⟨rfl,hb⟩;refine⟨_,rfl,?_⟩;have n_:=qn2 (Qfd (g:=l) (o:=.cells #[.int .u8 d,.int .u32 j] 27 (0,0)) qq_0 hb) (Qgi qq_b hb);clear c HB;obtain⟨c,HB⟩:=n_;(try clear hb);(try clear hb2);(try clear hk);(try clear hi)))
   go_loopg [7,20] k (fun kq v7 aD w'=>∃(s:List Int) (a:Int),aD=.int .i64 a∧Aside0 (Qck.l0 kq s l1 (l1.length:Int) a d j=some (r1,r2))∧Aside0 (kq≤k)∧Aside0 (Kd.R (Kd.int .i64) 3 w' w.heap.size (fun _=>True) v7 s)∧Aside0 (w'.heap[l]? = some (.cells #[.int .u8 d,.int .u32 j] 27 (0,0)))∧Aside0 (Below w.heap.size w w'))
   case atStart=>exact⟨(([]:List Int)),(0),qq_8,H',⟨Nat.le_refl _⟩,⟨by first|exact Kd.R_nil _ _ _ _ _|exact Kd.N_nil _ _ _ _ _|exact Kd.V_nil _ _ _ _ _|exact Kd.Q_nil _ _ _ _ _|exact Kd.S_nil _ _ _ _ _⟩,⟨by(with_reducible repeat(first|apply Qfc|apply Qfb|apply Qfa));exact c.out⟩,⟨qq_b⟩⟩
   case round =>
    clear H'
    try clear c1
    try clear c4
    try clear c6
    try clear T
    try clear U
    try clear W
    try clear X
    try clear ao
    obtain⟨s,a,rfl,HA,HK1,n,c,HB⟩:=hrel
    cases gk with
    | zero=>exact absurd HA.out (by simp[Qck.l0])
    | succ k1 =>
     have H:=HA.out;clear HA;simp only[Qck.l0]at H
     by_cases v:a<(l1.length:Int)
     ·rw [if_pos v]at H;have ae:decide (a<(l1.length:Int))=true:=decide_eq_true v;clear v
      by_cases L:0≤a
      ·rw[if_pos L]at H;have aH:decide (0≤a)=true:=decide_eq_true L;clear L
       by_cases M:a<(l1.length:Int)
       ·rw[if_pos M]at H;have aI:decide (a<(l1.length:Int))=true:=decide_eq_true M;clear M;replace H:=Option.bind_eq_some_iff.mp H;obtain⟨u,Y,H⟩:=H;replace H:(if s.length<17592186044416 then(Qck.l0 k1 (s++[(u.size:Int)]) l1 (l1.length:Int) (wrap64 (a+1)) d j)else(none))=some (r1,r2):=H;have aE:=QA Y;clear Y
        by_cases O:s.length<17592186044416
        ·rw[if_pos O]at H;have af:=QA O;clear O;obtain⟨Z,t⟩:∃y_:List Int,y_=(s++[(u.size:Int)]):=⟨_,rfl⟩;replace H:(Qck.l0 k1 Z l1 (l1.length:Int) (wrap64 (a+1)) d j)=some (r1,r2):=by first |(rw[t];with_reducible exact H) |(have aa:=(Option.bind_some _ _).symm.trans H;rw[t];with_reducible exact aa) |(have aa:=(Option.bind_some _ _).symm.trans H;with_reducible exact aa)|with_reducible exact H |(rw[t];exact H)|exact H
         have ag:=QA t;clear t;have H':=QA H;clear H;have G:0≤(a:Int):=of_decide_eq_true qq_6;have I:a<(l1.length:Int):=of_decide_eq_true qq_6;obtain⟨aJ,ap,x,y,z,A⟩:=Qkj P.out a G I
         cases ap
         replace x:=qq_h HB.out x;replace y:=qq_h HB.out y;replace z:=qq_h HB.out z;replace A:=qq_h HB.out A;replace G:=eq_true G;replace I:=eq_true I
         go_wp2_with (first |((with_reducible refine Qgt (N:=9) rfl ?_);refine qq_e 9 #[.bool false,.int .u64 0,.string (⟨#[]⟩:ByteArray),.string (⟨#[]⟩:ByteArray)] 39 ?_;intro q hg aZ hbox hb;have n_:=qn8 (Kd.R_below qq_5 hb) (Qfd (g:=l) (o:=.cells #[.int .u8 d,.int .u32 j] 27 (0,0)) qq_0 hb) (Qgi qq_b hb) (hbox) (qq_s hg:w.heap.size≤q) (qq_s hg:w.heap.size≤q) ((by rw[hg];exact Nat.ne_of_lt (Qen (g:=l) (o:=.cells #[.int .u8 d,.int .u32 j] 27 (0,0)) qq_0):l≠q)) ((by rw[hg];exact Nat.ne_of_gt (Qen (g:=l) (o:=.cells #[.int .u8 d,.int .u32 j] 27 (0,0)) qq_0):q≠l));clear n c HB;obtain⟨n,c,HB,r,aK,aM,D,E⟩:=n_;clear hb hbox hg;have aN:=E.out;have aQ:=D.out;obtain⟨aq,ar,au,av⟩:=qc4 r.out;have aR:=Qep r.out) |((with_reducible refine Qjs (f:=22) rfl ?_);refine Qhs (some 26) rfl rfl Tryz.func22 qq_7 rfl #[.agg #[.bool ((Qki l1 a).f0),.int .u64 ((Qki l1 a).f1),.string ((Qki l1 a).f2),.string ((Qki l1 a).f3)]] rfl qq_1 ?_;(with_reducible refine(Qbo.calls k1 ((Qki l1 a).f0) ((Qki l1 a).f1) ((Qki l1 a).f2) ((Qki l1 a).f3) u _ aE.out).mono ?_);rintro e ba ⟨rfl,hb⟩;refine⟨_,rfl,?_⟩;have n_:=qn4 (Kd.R_below (by(with_reducible repeat(first|apply Kd.R_alloc|apply Kd.R_drewN|apply Kd.R_drew));exact(Kd.R_mono (Kd.R_far (p:=⟨q,3,none⟩) (Kd.R_far (p:=⟨q,2,none⟩) (Kd.R_far (p:=⟨q,1,none⟩) (Kd.R_far (p:=⟨q,0,none⟩) (Kd.R_types n.out r.out (by decide)) (fun _ hk=>hk.2) (.bool ((Qki l1 a).f0))) (fun _ hk=>hk.2) (.int .u64 ((Qki l1 a).f1))) (fun _ hk=>hk.2) (.string ((Qki l1 a).f2))) (fun _ hk=>hk.2) (.string ((Qki l1 a).f3))) (fun _ h_=>h_.1))) hb) (Qfd (g:=l) (o:=.cells #[.int .u8 d,.int .u32 j] 27 (0,0)) qq_9 hb) (Qfd (g:=q) (o:=.cells #[.bool ((Qki l1 a).f0),.int .u64 ((Qki l1 a).f1),.string ((Qki l1 a).f2),.string ((Qki l1 a).f3)] 39 (0,0)) qq_x hb) (Qgi qq_b hb);clear n c r HB;obtain⟨n,c,r,HB⟩:=n_;(try clear hb);(try clear hb2);(try clear hk);(try clear hi)) |((with_reducible refine Qjt (b:=.append) (xs:=#[.tmp 24,.tmp 28]) rfl ?_);at_builtin;refine Kd.R_append (Kd.int .i64) (w0:=w) w.heap.size rfl (.tmp 24) (.tmp 28) 133 3 (.int .i64 0) 8 rfl Tryz.underlying133 info3 rfl (by decide) (by omega) u7 s (u.size:Int) [.int .i64 (u.size:Int)] (fun _=>True) (fun _=>False) rfl rfl ?aP (fun _ hk=>hk.elim) ?aF ?aO ?aB ?aS ?aL ?_;(case aP=>exact rfl);(case aB=>exact qq_b);(case aF=>exact(fun _ _=>trivial));(case aO=>exact qq_5);(case aS=>exact(Qgh qq_b));(case aL=>have:=af.out;omega);intro aW bb ho hb hg hat;rw[← ag.out]at ho;have n_:=qn4 (Qeq (g:=l) (o:=.cells #[.int .u8 d,.int .u32 j] 27 (0,0)) qq_0 hg (Kd.R_ne n.out c.out (by decide))) (Qeq (g:=q) (o:=.cells #[.bool ((Qki l1 a).f0),.int .u64 ((Qki l1 a).f1),.string ((Qki l1 a).f2),.string ((Qki l1 a).f3)] 39 (0,0)) qq_0 hg (Kd.R_ne n.out r.out (by decide))) (hb) (ho);clear c r HB n;obtain⟨c,r,HB,ah⟩:=n_;clear ho hb hg hat))
         go_roundg k1
         case measure=>have:=HK1.out;omega
         case rel=>exact⟨(Z),(wrap64 (a+1)),qq_8,H',⟨by have:=HK1.out;omega⟩,⟨by(with_reducible repeat(first|apply Kd.R_alloc|apply Kd.R_drewN|apply Kd.R_drew));exact ah.out⟩,⟨by(with_reducible repeat(first|apply Qfc|apply Qfb|apply Qfa));exact c.out⟩,⟨qq_b⟩⟩
        ·rw[if_neg O]at H;exact absurd H (by simp)
       ·rw[if_neg M]at H;exact absurd H (by simp)
      ·rw[if_neg L]at H;exact absurd H (by simp)
     ·rw[if_neg v]at H;have ae:decide (a<(l1.length:Int))=false:=decide_eq_false v;clear v;replace H:=Option.bind_eq_some_iff.mp H;obtain⟨⟨ab,ac⟩,ad,H⟩:=H;replace H:(some (ab,ac))=some (r1,r2):=H;have aG:=QA ad;clear ad;simp only[Option.some.injEq,Prod.mk.injEq]at H;obtain⟨rfl,rfl⟩:=H;obtain⟨aw,ax⟩:=qc2 c.out;have aT:=Qep c.out;obtain⟨Ao23,co23,eo23⟩:=Kd.R_slice n.out;subst eo23
      go_wp2_with (first |((with_reducible refine Qjs (f:=77) rfl ?_);refine Qhs (some 33) rfl rfl Tryz.func77 qq_7 rfl #[.agg #[.int .u8 d,.int .u32 j],.slice Ao23 s.length co23] rfl qq_1 ?_;(with_reducible refine(Qcd.calls k1 d j _ _ s ab ac _ ?side1 ?side2 aG.out).mono ?_);(case side1=>repeat(first|exact(Kd.R_reads' n.out).2.2 |(with_reducible refine Kd.C_alloc ?_ _) |(with_reducible refine Kd.C_drewN ?_ _) |(with_reducible refine Kd.C_drew ?_)));(case side2=>exact(Kd.R_reads' n.out).2.1);rintro e bc ⟨aX,rfl,an,hb⟩;refine⟨_,rfl,?_⟩;have n_:=qn4 (Kd.R_below qq_5 hb) (Kd.R_lower an (Qgh qq_b)) (Qfd (g:=l) (o:=.cells #[.int .u8 d,.int .u32 j] 27 (0,0)) qq_0 hb) (Qgi qq_b hb);clear n c HB;obtain⟨n,ai,c,HB⟩:=n_;(try clear hb);(try clear hb2);(try clear hk);(try clear hi);(try clear an)))
      go_ret2
      exact⟨_,by first|rfl |(simp[Qjz,Qka]<;>rfl) |(simp[*,Qjz,Qka]<;>rfl),by(with_reducible repeat(first|apply Kd.R_alloc|apply Kd.R_drewN|apply Kd.R_drew));exact ai.out,qq_b⟩
  ·rw[if_neg c6]at H;have T:(m == 0)=false:=beq_eq_false_iff_ne.mpr c6;have U:(m != 0)=true:=bne_iff_ne.mpr c6;simp only[Option.some.injEq,Prod.mk.injEq]at H;obtain⟨rfl,rfl⟩:=H
   go_enter Tryz.func39,Tryz.ntmps39
   go_wp2_with (first |((with_reducible refine Qgt (N:=2) rfl ?_);refine qq_e 2 #[.int .u8 d,.int .u32 j] 27 ?_;intro l hg bd hbox hb;have n_:=qn4 (Qgi qq_b hb) (hbox) (qq_s hg:w.heap.size≤l) (qq_s hg:w.heap.size≤l);clear HB;obtain⟨HB,c,J,K⟩:=n_;clear hb hbox hg;obtain⟨ay,az⟩:=qc2 c.out;have aU:=Qep c.out) |((with_reducible refine Qjs (f:=54) rfl ?_);refine Qhs (some 11) rfl rfl Tryz.func54 qq_7 rfl #[.agg #[.int .u8 d,.int .u32 j]] rfl qq_1 ?_;(with_reducible refine(Qbl.calls d j true _ A3.out).mono ?_);rintro e be ⟨rfl,hb⟩;refine⟨_,rfl,?_⟩;have n_:=qn2 (Qfd (g:=l) (o:=.cells #[.int .u8 d,.int .u32 j] 27 (0,0)) qq_0 hb) (Qgi qq_b hb);clear c HB;obtain⟨c,HB⟩:=n_;(try clear hb);(try clear hb2);(try clear hk);(try clear hi)) |((with_reducible refine Qjs (f:=76) rfl ?_);refine Qhs (some 14) rfl rfl Tryz.func76 qq_7 rfl #[.slice A1 l1.length c1] rfl qq_1 ?_;(with_reducible refine(Qbk.calls k _ _ l1 m _ ?side1 ?side2 A5.out).mono ?_);(case side1=>repeat(first|exact(Kd.C_below P.out HB.out) |(with_reducible refine Kd.C_alloc ?_ _) |(with_reducible refine Kd.C_drewN ?_ _) |(with_reducible refine Kd.C_drew ?_)));(case side2=>exact ak.out);rintro e bf ⟨rfl,hb⟩;refine⟨_,rfl,?_⟩;have n_:=qn2 (Qfd (g:=l) (o:=.cells #[.int .u8 d,.int .u32 j] 27 (0,0)) qq_0 hb) (Qgi qq_b hb);clear c HB;obtain⟨c,HB⟩:=n_;(try clear hb);(try clear hb2);(try clear hk);(try clear hi)))
   go_ret2
   exact⟨_,by first|rfl |(simp[Qjz,Qka]<;>rfl) |(simp[*,Qjz,Qka]<;>rfl),by first|exact Kd.R_nil _ _ _ _ _|exact Kd.N_nil _ _ _ _ _|exact Kd.V_nil _ _ _ _ _|exact Kd.Q_nil _ _ _ _ _|exact Kd.S_nil _ _ _ _ _,qq_b⟩
 ·replace c4:=Bool.eq_false_iff.mpr c4;subst c4;have H1:(some (([]:List Int),1))=some (r1,r2):=by rw[if_neg (show ¬(false=true)by decide)]at H;exact H
  clear H;have H:=H1;clear H1;simp only[Option.some.injEq,Prod.mk.injEq]at H;obtain⟨rfl,rfl⟩:=H
  go_enter Tryz.func39,Tryz.ntmps39
  go_wp2_with (first |((with_reducible refine Qgt (N:=2) rfl ?_);refine qq_e 2 #[.int .u8 d,.int .u32 j] 27 ?_;intro l hg bg hbox hb;have n_:=qn4 (Qgi qq_b hb) (hbox) (qq_s hg:w.heap.size≤l) (qq_s hg:w.heap.size≤l);clear HB;obtain⟨HB,c,J,K⟩:=n_;clear hb hbox hg;obtain⟨aA,aC⟩:=qc2 c.out;have aV:=Qep c.out) |((with_reducible refine Qjs (f:=54) rfl ?_);refine Qhs (some 11) rfl rfl Tryz.func54 qq_7 rfl #[.agg #[.int .u8 d,.int .u32 j]] rfl qq_1 ?_;(with_reducible refine(Qbl.calls d j false _ A3.out).mono ?_);rintro e bh ⟨rfl,hb⟩;refine⟨_,rfl,?_⟩;have n_:=qn2 (Qfd (g:=l) (o:=.cells #[.int .u8 d,.int .u32 j] 27 (0,0)) qq_0 hb) (Qgi qq_b hb);clear c HB;obtain⟨c,HB⟩:=n_;(try clear hb);(try clear hb2);(try clear hk);(try clear hi)))
  go_ret2
  exact⟨_,by first|rfl |(simp[Qjz,Qka]<;>rfl) |(simp[*,Qjz,Qka]<;>rfl),by first|exact Kd.R_nil _ _ _ _ _|exact Kd.N_nil _ _ _ _ _|exact Kd.V_nil _ _ _ _ _|exact Kd.Q_nil _ _ _ _ _|exact Kd.S_nil _ _ _ _ _,qq_b⟩
end Go.Proofs.YtnnofopfbeklbaaGreat.C
end
section
namespace Go.Proofs.YtnnofopfbeklbaaGreat.CodecP
open Go.RowKit Go.Proofs.YtnnofopfbeklbaaGreat.C Go.Proofs.YtnnofopfbeklbaaGreatW.PrintWords Go.Proofs.YtnnofopfbeklbaaGreatW.PrintLast Go.Proofs.YtnnofopfbeklbaaGreatW.PrintMore
def rotN(x n:Nat):Nat:=(x%2^(64-n))*2^n+x/2^(64-n)
theorem Qoe(x n:Nat)(hx:x<2^64)(hn:n≤64):rotN x n<2^64:=by
 unfold rotN;have hp:(2:Nat)^(64-n)*2^n=2^64:=by rw[← Nat.pow_add];congr 1;omega
 have h1:x%2^(64-n)<2^(64-n):=Nat.mod_lt _ (Nat.two_pow_pos _);have h2:x/2^(64-n)<2^n:=by rw[Nat.div_lt_iff_lt_mul (Nat.two_pow_pos _),Nat.mul_comm,hp];exact hx
 have h3:(x%2^(64-n))*2^n+2^n≤2^(64-n)*2^n:=by
  rw[← Nat.succ_mul];exact Nat.mul_le_mul_right _ h1
 omega
theorem Qof(x i:Nat)(hx:x<2^64)(hi:i<64):(2*rotN x i)%2^64+rotN x i/2^63=rotN x (i+1):=by
 unfold rotN;obtain⟨m,hm⟩:∃m,m=63-i:=⟨_,rfl⟩;rw[show 64-i=m+1 by omega,show 64-(i+1)=m by omega];have hp:(2:Nat)^m*2^i=2^63:=by rw[← Nat.pow_add];congr 1;omega
 rw[Nat.pow_succ 2 m,Nat.pow_succ 2 i];generalize hP:(2:Nat)^m=P at *;generalize hQ:(2:Nat)^i=Q at *;have hP0:0<P:=by rw[← hP];exact Nat.two_pow_pos _
 have hQ0:0<Q:=by rw[← hQ];exact Nat.two_pow_pos _
 obtain⟨a,ha⟩:∃a,a=x/(P*2):=⟨_,rfl⟩;obtain⟨b,hb⟩:∃b,b=x%(P*2):=⟨_,rfl⟩;have hxab:x=P*2*a+b:=by rw[ha,hb];exact(Nat.div_add_mod x (P*2)).symm
 have hbl:b<P*2:=by rw[hb];exact Nat.mod_lt _ (by omega)
 have haQ:a<Q:=by
  rw[ha,Nat.div_lt_iff_lt_mul (by omega),Nat.mul_comm,Nat.mul_assoc,Nat.mul_comm 2 Q,← Nat.mul_assoc,hp];omega
 obtain⟨c,hc⟩:∃c,c=b/P:=⟨_,rfl⟩;obtain⟨d,hd⟩:∃d,d=b%P:=⟨_,rfl⟩;have hbcd:b=P*c+d:=by rw[hc,hd];exact(Nat.div_add_mod b P).symm
 have hdl:d<P:=by rw[hd];exact Nat.mod_lt _ hP0
 have hcl:c<2:=by rw[hc,Nat.div_lt_iff_lt_mul hP0,Nat.mul_comm];exact hbl
 have hxP:x/P=2*a+c:=by
  rw[hxab,hbcd,show P*2*a+(P*c+d)=P*(2*a+c)+d by rw[Nat.mul_add,Nat.mul_assoc,Nat.add_assoc],Nat.mul_add_div hP0,Nat.div_eq_of_lt hdl];rfl
 have hxm:x%P=d:=by
  rw[hxab,hbcd,show P*2*a+(P*c+d)=P*(2*a+c)+d by rw[Nat.mul_add,Nat.mul_assoc,Nat.add_assoc],Nat.mul_add_mod,Nat.mod_eq_of_lt hdl]
 rw[← ha,← hb,hxP,hxm];have he:d*Q+a<2^63:=by
  have:d*Q+Q≤P*Q:=by rw[← Nat.succ_mul];exact Nat.mul_le_mul_right _ hdl
  omega
 have hbq:b*Q+a=2^63*c+(d*Q+a):=by
  rw[hbcd,Nat.add_mul,Nat.mul_assoc,Nat.mul_comm c Q,← Nat.mul_assoc,hp,Nat.add_assoc]
 rw[hbq,show d*(Q*2)=2*(d*Q)by rw[← Nat.mul_assoc,Nat.mul_comm]];generalize d*Q=q at *;clear hp hbq hxab hbcd hbl;have:c=0∨c=1:=by omega
 rcases this with rfl|rfl<;>omega
theorem Qog(x n:Nat)(hx:x<2^64)(h0:0<n)(hn:n<64):rotP (x:Int) (n:Int)=(rotN x n:Nat):=by
 have hand:Go.bits .and .u64 (IntKind.u64.wrap (n:Int)) 63=(n:Int):=by
  rw[IntWalk.u64_in _ (by omega),show(63:Int)=((63:Nat):Int) from rfl,bits_and_u64_nat _ _ (by omega) (by decide)];have:=Nat.and_two_pow_sub_one_eq_mod n 6;rw[show(63:Nat)=2^6-1 from rfl,this,Nat.mod_eq_of_lt (by omega)]
 have h:=Qlp (x:Int) (n:Int) ⟨by omega,by omega,hand⟩;unfold Qad.f at h;rw[hand,if_pos (by omega),IntWalk.u64_in _ (by omega),if_pos (by omega),Option.some_inj]at h;rw[← h];unfold shl shr rotN;have e1:min (n:Int).toNat IntKind.u64.bits=n:=by simp[IntKind.bits];omega
 have e2:min ((64:Int)-(n:Int)).toNat IntKind.u64.bits=64-n:=by simp[IntKind.bits]<;>omega
 rw[e1,e2,IntKind.wrap_u64];have e3:((x:Int)*2^n)%18446744073709551616=(((x%2^(64-n))*2^n:Nat):Int):=by
  rw[← Nat.mul_mod_mul_right,← Nat.pow_add,show 64-n+n=64 by omega];rw[Int.natCast_emod,Int.natCast_mul,Int.natCast_pow];rfl
 have e4:(x:Int)/2^(64-n)=((x/2^(64-n):Nat):Int):=by rw[Int.natCast_ediv,Int.natCast_pow];rfl
 rw[e3,e4];have hp:(2:Nat)^(64-n)*2^n=2^64:=by rw[← Nat.pow_add];congr 1;omega
 have h1:x%2^(64-n)<2^(64-n):=Nat.mod_lt _ (Nat.two_pow_pos _);have h2:x/2^(64-n)<2^n:=by rw[Nat.div_lt_iff_lt_mul (Nat.two_pow_pos _),Nat.mul_comm,hp];exact hx
 have h3:(x%2^(64-n))*2^n+2^n≤2^(64-n)*2^n:=by
  rw[← Nat.succ_mul];exact Nat.mul_le_mul_right _ h1
 have hq:=Nat.two_pow_pos n;rw[bits_or_u64_nat _ _ (by omega) (by omega)]
 congr 1
 rw[Nat.mul_comm,← Nat.two_pow_add_eq_or_of_lt h2]
theorem Qoh(x n:Nat)(hx:x<2^64)(hn:n≤64):Qno (x:Int) n=(rotN x n:Nat):=by
 have key:∀(d i:Nat),i+d=n→Qbg.l0 (d+1) ((rotN x i:Nat):Int) (n:Int) (i:Int)=some ((rotN x n:Nat):Int):=by
  intro d
  induction d with
  | zero =>
   intro i h;unfold Qbg.l0;obtain rfl:i=n:=by omega
   rw[if_neg (by omega)]
  | succ d ih =>
   intro i h;unfold Qbg.l0;rw[if_pos (by omega),show wrap64 ((i:Int)+1)=((i+1:Nat):Int)by unfold wrap64;omega];have hl:=Qoe x i hx (by omega);have hs:=Qof x i hx (by omega);have e:IntKind.u64.wrap ((IntKind.u64.wrap (2*((rotN x i:Nat):Int)))+(IntKind.u64.wrap (Int.tdiv ((rotN x i:Nat):Int) 9223372036854775808)))=((rotN x (i+1):Nat):Int):=by
    rw[← hs,Int.tdiv_eq_ediv_of_nonneg (by omega)];generalize rotN x i=y at *;simp only[IntKind.wrap_u64];omega
   rw[e];exact ih (i+1) (by omega)
 have h0:rotN x 0=x:=by simp[rotN,Nat.mod_eq_of_lt hx,Nat.div_eq_of_lt hx]
 have:=key n 0 (by omega);rw[h0]at this;unfold Qno Qbg.f;rw[show((0:Nat):Int)=0 from rfl]at this;rw[this];rfl
theorem Qoi(x:Int)(n:Nat)(hx0:0≤x)(hx:x<18446744073709551616)(h0:0<n)(hn:n<64):Qno x n=rotP x (n:Int):=by
 obtain⟨y,rfl⟩:=Int.eq_ofNat_of_zero_le hx0;rw[Qoh y n (by omega) (by omega),Qog y n (by omega) h0 hn]
theorem u64r(x:Int):0≤IntKind.u64.wrap x∧IntKind.u64.wrap x<18446744073709551616:=by
 rw[IntKind.wrap_u64];omega
theorem Qoj(x y:Int):Qnq x y=Qlq x y:=by
 unfold Qnq Qlq Qbe.f Qdn.f;rw[show(32:Nat)=31+1 from rfl,show(31:Int)=((31:Nat):Int) from rfl,Qnp _ 31 (by omega)];have hw:=u64r (x+(IntKind.u64.wrap (y*14029467366897019727)));rw[Qoi _ 31 hw.1 hw.2 (by omega) (by omega),Qlp _ _ ⟨by decide,by decide,by kernel_rfl⟩]
def leI:List Int→Int
 | []=>0
 | b :: l=>b+256*leI l
def Bytes(l:List Int):Prop:=∀x∈l,0≤x∧x<256
theorem Qok(s:ByteArray):Bytes (bytesOf s):=by
 intro x hx;unfold bytesOf at hx;obtain⟨b,_,rfl⟩:=List.mem_map.1 hx;have:=b.toNat_lt;omega
theorem Bytes.drop{l:List Int}(h:Bytes l)(n:Nat):Bytes (l.drop n):=fun x hx=>h x (List.mem_of_mem_drop hx)
theorem Bytes.take{l:List Int}(h:Bytes l)(n:Nat):Bytes (l.take n):=fun x hx=>h x (List.mem_of_mem_take hx)
theorem leI_range{l:List Int}(h:Bytes l):0≤leI l∧leI l<256^l.length:=by
 induction l with
 | nil=>simp[leI]
 | cons b l ih =>
  have h1:=ih (fun x hx=>h x (List.mem_cons_of_mem _ hx));have h2:=h b (List.mem_cons_self ..);simp only[leI,List.length_cons,Int.pow_succ];omega
theorem Qol(l:List Int)(b:Int):leI (l++[b])=leI l+256^l.length*b:=by
 induction l with
 | nil=>simp[leI]
 | cons a l ih=>simp only[List.cons_append,leI,ih,List.length_cons,Int.pow_succ];rw[Int.mul_add,Int.mul_comm (256^l.length) 256,Int.mul_assoc];omega
theorem Qom{l:List Int}{i:Nat}(h:i<l.length):rd l (i:Int)=l[i]:=by simp[rd,List.getD,List.getElem?_eq_getElem h]
theorem Qon{l:List Int}{i:Nat}(h:i<l.length):l.take (i+1)=l.take i++[rd l (i:Int)]:=by rw[List.take_succ_eq_append_getElem h,Qom h]
theorem Qoo{l:List Int}(hb:Bytes l){i:Nat}(h:i<l.length):0≤rd l (i:Int)∧rd l (i:Int)<256:=by rw[Qom h];exact hb _ (List.getElem_mem h)
theorem num_le(n:Nat)(hn:n≤8)(l:List Int)(hb:Bytes l)(hl:n≤l.length):numP n l=leI (l.take n):=by
 have key:∀(d i:Nat),i+d=n→Qdo.l0 (d+1) l (leI (l.take i)) (n:Int) (i:Int)=some (leI (l.take n)):=by
  intro d
  induction d with
  | zero =>
   intro i h;unfold Qdo.l0;obtain rfl:i=n:=by omega
   rw[if_neg (by omega)]
  | succ d ih =>
   intro i h;unfold Qdo.l0;have hw:wrap64 (8*(i:Int))=((8*i:Nat):Int):=by unfold wrap64;omega
   rw[if_pos (by omega),if_pos (by omega),if_pos (by omega),hw,if_pos (by omega),show wrap64 ((i:Int)+1)=((i+1:Nat):Int)by unfold wrap64;omega];have hr:=leI_range (hb.take i);have hlen:(l.take i).length=i:=by rw[List.length_take];omega
   rw[hlen]at hr;have hd:=Qoo hb (show i<l.length by omega);have e:Go.bits .or .u64 (leI (l.take i)) (shl .u64 (IntKind.u64.wrap (rd l (i:Int))) ((8*i:Nat):Int))=leI (l.take (i+1)):=by
    rw[Qon (by omega),Qol,hlen,IntWalk.u64_in _ (by omega)];generalize rd l (i:Int)=b at *;generalize leI (l.take i)=a at *;obtain⟨a,rfl⟩:=Int.eq_ofNat_of_zero_le hr.1;obtain⟨b,rfl⟩:=Int.eq_ofNat_of_zero_le hd.1;have hp:(256:Nat)^i=2^(8*i):=by rw[Nat.pow_mul]
    have ha:a<2^(8*i):=by
     have:=hr.2;rw[← hp]
     exact_mod_cast this
    have hbig:b*2^(8*i)<2^64:=by
     have h1:b*2^(8*i)<2^8*2^(8*i):=Nat.mul_lt_mul_of_pos_right (by omega) (Nat.two_pow_pos _);have h2:(2:Nat)^8*2^(8*i)≤2^64:=by rw[← Nat.pow_add];exact Nat.pow_le_pow_right (by omega) (by omega)
     omega
    have ha2:a<2^64:=by
     have h2:(2:Nat)^(8*i)≤2^64:=Nat.pow_le_pow_right (by omega) (by omega);omega
    unfold shl;rw[show min ((8*i:Nat):Int).toNat IntKind.u64.bits=8*i by simp[IntKind.bits];omega,IntKind.wrap_u64];have e1:((b:Int)*2^(8*i))%18446744073709551616=((2^(8*i)*b:Nat):Int):=by
     have e2:((b:Int)*2^(8*i))=((b*2^(8*i):Nat):Int):=by push_cast;rfl
     rw[e2,Nat.mul_comm (2^(8*i)) b];omega
    rw[e1,bits_or_u64_nat _ _ (by omega) (by rw[Nat.mul_comm];omega),Nat.or_comm,← Nat.two_pow_add_eq_or_of_lt ha];have e3:((256:Int)^i*(b:Int))=((256^i*b:Nat):Int):=by push_cast;rfl
    rw[e3,hp];omega
   rw[e];exact ih (i+1) (by omega)
 have:=key n 0 (by omega);unfold numP Qdo.f;rw[show leI (l.take 0)=0 from rfl,show((0:Nat):Int)=0 from rfl]at this;rw[this];rfl
theorem Qop(s:ByteArray)(a b:Nat):bytesOf (s.extract a b)=((bytesOf s).drop a).take (b-a):=by
 unfold bytesOf;rw[← List.map_drop,← List.map_take]
 congr 1
 have:(s.extract a b).data=s.data.extract a b:=by simp
 rw[this,Array.toList_extract]
theorem Qoq(s:ByteArray):s.size=(bytesOf s).length:=(Qeb s).symm
theorem Qor(s:ByteArray)(hs:s.size≤8):rval s=leI (bytesOf s):=by
 have hB:=Qok s;have hlen:=Qeb s;have key:∀(d:Nat) (x:Int),d≤s.size→0≤x→x*256^d+leI ((bytesOf s).take d)<18446744073709551616 →
   Qav.l0 (d+1) s x ((d:Int)-1)=some (x*256^d+leI ((bytesOf s).take d)):=by
  intro d
  induction d with
  | zero =>
   intro x h h0 hx;unfold Qav.l0;rw[if_neg (by omega)];simp[leI]
  | succ d ih =>
   intro x h h0 hx;unfold Qav.l0;rw[show((d+1:Nat):Int)-1=(d:Int)by omega,if_pos (by omega),if_pos (by omega),if_pos (by omega),show wrap64 ((d:Int)-1)=(d:Int)-1 by unfold wrap64;omega];have hd:=Qoo hB (show d<(bytesOf s).length by omega);have hr:=leI_range (hB.take d);rw[Qec]at hd;have e2:leI ((bytesOf s).take (d+1))=leI ((bytesOf s).take d)+256^d*bt s (d:Int):=by
    rw[Qon (by omega),Qol,Qec,List.length_take,Nat.min_eq_left (by omega)]
   have e3:x*256^(d+1)+leI ((bytesOf s).take (d+1))=(x*256+bt s (d:Int))*256^d+leI ((bytesOf s).take d):=by
    rw[e2,Int.pow_succ,Int.add_mul,Int.mul_comm (256^d) 256,← Int.mul_assoc,Int.mul_comm (256^d) (bt s (d:Int))];omega
   rw[e3]at hx ⊢;have hpow:(1:Int)≤256^d:=by
    have:=Nat.one_le_pow d 256 (by omega)
    exact_mod_cast this
   have hle:x*256+bt s (d:Int)≤(x*256+bt s (d:Int))*256^d:=by
    have h1:0≤x*256+bt s (d:Int):=by omega
    calc x*256+bt s (d:Int)=(x*256+bt s (d:Int))*1:=by omega
     _≤_:=Int.mul_le_mul_of_nonneg_left hpow h1
   have e4:IntKind.u64.wrap ((IntKind.u64.wrap (x*256))+(IntKind.u64.wrap (bt s (d:Int))))=x*256+bt s (d:Int):=by
    rw[IntWalk.u64_in (x*256) (by omega),IntWalk.u64_in (bt s (d:Int)) (by omega),IntWalk.u64_in _ (by omega)]
   rw[e4];exact ih (x*256+bt s (d:Int)) (by omega) (by omega) hx
 have hr:=leI_range hB;have hp:(256:Int)^(bytesOf s).length≤18446744073709551616:=by
  have h1:(256:Nat)^(bytesOf s).length≤256^8:=Nat.pow_le_pow_right (by omega) (by omega);have h2:(256:Nat)^8=18446744073709551616:=by decide
  rw[h2]at h1;have h3:((256^(bytesOf s).length:Nat):Int)≤((18446744073709551616:Nat):Int):=Int.ofNat_le.2 h1;rw[Int.natCast_pow]at h3;exact h3
 have hall:(bytesOf s).take s.size=bytesOf s:=List.take_of_length_le (by omega);have h:=key s.size 0 (Nat.le_refl _) (Int.le_refl _) (by rw[hall];omega);rw[hall]at h;unfold rval Qav.f;rw[show wrap64 ((s.size:Int)-1)=(s.size:Int)-1 by unfold wrap64;omega,h];simp
theorem Qos(s:ByteArray)(a b:Nat)(h:b-a≤8):rval (s.extract a b)=leI (((bytesOf s).drop a).take (b-a)):=by
 rw[Qor _ (Nat.le_trans (Qoc s a b) h),Qop]
theorem Qot(s:ByteArray)(a n:Nat)(hn:n≤8)(h:a+n≤s.size):rval (s.extract a (a+n))=numP n ((bytesOf s).drop a):=by
 rw[Qos s a (a+n) (by omega),num_le n hn _ ((Qok s).drop a) (by rw[List.length_drop,Qeb];omega),Nat.add_sub_cancel_left]
def R64(x:Int):Prop:=0≤x∧x<18446744073709551616
def RV(v:V4):Prop:=R64 v.1∧R64 v.2.1∧R64 v.2.2.1∧R64 v.2.2.2
theorem Qou(x y:Int):R64 (Qlq x y):=by
 unfold Qlq Qdn.f;rw[Qlp _ _ ⟨by decide,by decide,by kernel_rfl⟩];exact u64r _
theorem Qov(v:V4)(l:List Int):RV (Qlr v l):=⟨Qou _ _,Qou _ _,Qou _ _,Qou _ _⟩
theorem Qow(v:V4)(s:ByteArray)(h:32≤s.size):Qnu v s=Qlr v (bytesOf s):=by
 unfold Qnu Qlr;have h0:=Qot s 0 8 (by omega) (by omega);have h1:=Qot s 8 8 (by omega) (by omega);have h2:=Qot s 16 8 (by omega) (by omega);have h3:=Qot s 24 8 (by omega) (by omega);simp only[Qoj];rw[show(8:Nat)=0+8 from rfl,h0,show(0+8:Nat)=8 from rfl,h1,h2,h3];rfl
theorem Qox:∀(m:Nat) (v:V4) (s:ByteArray),32*m≤s.size→RV v→(rrun m v s).1=Qls m v (bytesOf s)∧bytesOf (rrun m v s).2=(bytesOf s).drop (32*m)∧RV (Qls m v (bytesOf s))
 | 0,v,s,_,hv=>⟨rfl,by simp[rrun],hv⟩
 | m+1,v,s,h,hv=>by
  have hsz:(s.extract 32 s.size).size=s.size-32:=by simp
  have hb:bytesOf (s.extract 32 s.size)=(bytesOf s).drop 32:=by
   rw[Qop];exact List.take_of_length_le (by rw[List.length_drop,Qeb];omega)
  obtain⟨h1,h2,h3⟩:=Qox m (Qnu v s) (s.extract 32 s.size) (by omega) (by rw[Qow v s (by omega)];exact Qov _ _);rw[hb,Qow v s (by omega)]at h1 h3;refine⟨?_,?_,h3⟩
  ·show(rrun m (Qnu v s) (s.extract 32 s.size)).1=Qls m (Qlr v (bytesOf s)) ((bytesOf s).drop 32);rw[Qow v s (by omega)];exact h1
  ·show bytesOf (rrun m (Qnu v s) (s.extract 32 s.size)).2=_;rw[h2,hb,List.drop_drop]
   congr 1
   omega
theorem rotP_r(x:Int)(n:Nat)(hx:R64 x)(h0:0<n)(hn:n<64):R64 (rotP x (n:Int)):=by
 obtain⟨hx0,hx1⟩:=hx;obtain⟨y,rfl⟩:=Int.eq_ofNat_of_zero_le hx0;rw[Qog y n (by omega) h0 hn];have:=Qoe y n (by omega) (by omega);unfold R64;omega
theorem Qoy(V:V4)(hV:RV V):rsum V=Qmt 4 V:=by
 obtain⟨h1,h2,h3,h4⟩:=hV;rw[Qmz,Qmy,Qmx,Qmw,Qmv];unfold rsum;have r1:=rotP_r V.1 1 h1 (by omega) (by omega);rw[Qoi _ 1 h1.1 h1.2 (by omega) (by omega),Qoi _ 7 h2.1 h2.2 (by omega) (by omega),Qoi _ 12 h3.1 h3.2 (by omega) (by omega),Qoi _ 18 h4.1 h4.2 (by omega) (by omega)];rw[Int.zero_add,show((1:Nat):Int)=1 from rfl,show((7:Nat):Int)=7 from rfl,show((12:Nat):Int)=12 from rfl,show((18:Nat):Int)=18 from rfl];rw[show((1:Nat):Int)=1 from rfl]at r1;rw[IntWalk.u64_in (rotP V.1 1) ⟨r1.1,by have:=r1.2;omega⟩]
theorem Qoz(h:Int)(V:V4):rmix h V=Qmu 4 h V:=by
 rw[Qne,Qnd,Qnc,Qnb,Qna];unfold rmix Qnv mixP;simp only[Qoj]
theorem Qpa{k:Nat}(x:Int)(n:Nat)(hx:R64 x)(h0:0<n)(hn:n<64)(hk:n+1≤k):Qbg.f k x (n:Int)=some (rotP x (n:Int)):=by
 rw[← Qoi x n hx.1 hx.2 h0 hn];exact Qeh (g:=fun k=>Qbg.f k x (n:Int)) (Qbg.mono x (n:Int)) hk (Qnp x n (by omega))
theorem into_k{k:Nat}(x y:Int)(hk:32≤k):Qbe.f k x y=some (Qlq x y):=by
 rw[← Qoj];exact Qeh (g:=fun k=>Qbe.f k x y) (Qbe.mono x y) hk (Qnr x y)
theorem val_k{k:Nat}(s:ByteArray)(a n:Nat)(hn:n≤8)(h:a+n≤s.size)(hk:9≤k):Qav.f k (s.extract a (a+n))=some (numP n ((bytesOf s).drop a)):=by
 rw[← Qot s a n hn h];have hs:(s.extract a (a+n)).size≤8:=Nat.le_trans (Qoc s a (a+n)) (by omega);exact Qeh (g:=fun k=>Qav.f k (s.extract a (a+n))) (Qav.mono _) (by omega) (Qnt _ (by omega))
theorem mix_k{k:Nat}(x:Int)(n:Nat)(hx:R64 x)(hn:n<64)(hk:n+1≤k):Qbf.f k x (n:Int)=some (Go.bits .xor .u64 x (x/2^n)):=by
 have key:∀(d i:Nat),i+d=n→Qbf.l0 (d+1) x (x/2^i) (n:Int) (i:Int)=some (Go.bits .xor .u64 x (x/2^n)):=by
  intro d
  induction d with
  | zero =>
   intro i h;unfold Qbf.l0;obtain rfl:i=n:=by omega
   rw[if_neg (by omega)]
  | succ d ih =>
   intro i h;unfold Qbf.l0;have hq:0≤x/2^i:=Int.ediv_nonneg hx.1 (Int.pow_nonneg (by decide));have hql:x/2^i≤x:=Int.ediv_le_self _ hx.1;have hx1:=hx.2;rw[if_pos (by omega),show wrap64 ((i:Int)+1)=((i+1:Nat):Int)by unfold wrap64;omega,Int.tdiv_eq_ediv_of_nonneg hq];have e:IntKind.u64.wrap (x/2^i/2)=x/2^(i+1):=by
    rw[IntWalk.u64_in _ (by omega),Int.pow_succ,Int.ediv_ediv_of_nonneg (Int.pow_nonneg (by decide))]
   rw[e];exact ih (i+1) (by omega)
 have h:=key n 0 (by omega);rw[show x/2^0=x by simp,show((0:Nat):Int)=0 from rfl]at h;exact Qeh (g:=fun k=>Qbf.f k x (n:Int)) (Qbf.mono x (n:Int)) hk h
theorem one1_r(h x:Int):R64 (one1 h x):=u64r _
theorem one4_r(h:Int)(l:List Int):R64 (one4 h l):=u64r _
theorem one8_r(h:Int)(l:List Int):R64 (one8 h l):=u64r _
theorem Qpb(op:BinOp)(x y:Int):R64 (Go.bits op .u64 x y):=(by unfold Go.bits;split<;>exact u64r _)
theorem fin_k{k:Nat}(h:Int)(hh:R64 h)(hk:34≤k):((Qbf.f k h 33).bind fun t335=>((Qbf.f k (IntKind.u64.wrap (t335*14029467366897019727)) 29).bind fun t336=>((Qbf.f k (IntKind.u64.wrap (t336*1609587929392839161)) 32).bind fun t337=>(some t337))))=some (finP h):=by
 rw[show(33:Int)=((33:Nat):Int) from rfl,mix_k h 33 hh (by omega) (by omega),Option.bind_some];rw[show(29:Int)=((29:Nat):Int) from rfl,mix_k _ 29 (u64r _) (by omega) (by omega),Option.bind_some];rw[show(32:Int)=((32:Nat):Int) from rfl,mix_k _ 32 (u64r _) (by omega) (by omega),Option.bind_some];rfl
theorem Qpc(s:ByteArray)(hs:s.size≤4611686018427387904):∀(d i k:Nat) (h:Int),i+d=s.size→R64 h→d+40≤k→Qbc.l2 k s h (i:Int)=some (finP (((bytesOf s).drop i).foldl one1 h))
 | 0,i,k,h,hi,hh,hk=>by
  obtain⟨k,rfl⟩:∃m,k=m+1:=⟨k-1,by omega⟩;unfold Qbc.l2;rw[if_neg (by omega),fin_k h hh (by omega),List.drop_of_length_le (by rw[Qeb];omega)];rfl
 | d+1,i,k,h,hi,hh,hk=>by
  obtain⟨k,rfl⟩:∃m,k=m+1:=⟨k-1,by omega⟩;unfold Qbc.l2;rw[if_pos (by omega),if_pos (by omega),show(11:Int)=((11:Nat):Int) from rfl,Qpa _ 11 (Qpb _ _ _) (by omega) (by omega) (by omega),Option.bind_some,show wrap64 ((i:Int)+1)=((i+1:Nat):Int)by unfold wrap64;omega];have:=Qpc s hs d (i+1) k (one1 h (bt s (i:Int))) (by omega) (one1_r _ _) (by omega);rw[List.drop_eq_getElem_cons (by rw[Qeb];omega),List.foldl_cons,← Qom (l:=bytesOf s) (by rw[Qeb];omega),Qec];exact this
theorem Qpd(s:ByteArray)(hs:s.size<4)(k:Nat)(h:Int)(hh:R64 h)(hk:60≤k):Qbc.l1 k s h=some (finP ((bytesOf s).foldl one1 h)):=by
 obtain⟨k,rfl⟩:∃m,k=m+1:=⟨k-1,by omega⟩;unfold Qbc.l1;rw[if_neg (by omega)];have:=Qpc s (by omega) s.size 0 k h (by omega) hh (by omega);exact this
theorem Qpe(s:ByteArray)(a:Nat):(s.extract a s.size).size=s.size-a:=by simp
theorem Qpf(s:ByteArray)(a:Nat):bytesOf (s.extract a s.size)=(bytesOf s).drop a:=by
 rw[Qop];exact List.take_of_length_le (by rw[List.length_drop,Qeb];omega)
theorem sum_l1(s:ByteArray)(hs:s.size<8)(k:Nat)(h:Int)(hh:R64 h)(hk:70≤k):Qbc.l1 k s h=some (if 4≤(bytesOf s).length then finP (((bytesOf s).drop 4).foldl one1 (one4 h (bytesOf s)))else finP ((bytesOf s).foldl one1 h)):=by
 by_cases h4:4≤s.size
 ·obtain⟨k,rfl⟩:∃m,k=m+1:=⟨k-1,by omega⟩;unfold Qbc.l1;rw[if_pos (by omega),if_pos (by omega),if_pos (by omega)];have hv:=val_k (k:=k) s 0 4 (by omega) (by omega) (by omega);rw[Nat.zero_add,List.drop_zero]at hv;rw[hv,Option.bind_some,show(23:Int)=((23:Nat):Int) from rfl,Qpa _ 23 (Qpb _ _ _) (by omega) (by omega) (by omega),Option.bind_some,if_pos (by rw[Qeb];omega),← Qpf];exact Qpd (s.extract 4 s.size) (by rw[Qpe];omega) k (one4 h (bytesOf s)) (one4_r _ _) (by omega)
 ·rw[if_neg (by rw[Qeb];omega)];exact Qpd s (by omega) k h hh (by omega)
theorem Qpg(h:Int)(l:List Int)(hl:8≤l.length):sumP h l=sumP (one8 h l) (l.drop 8):=by
 unfold sumP;obtain⟨m,hm⟩:∃m,l.length/8=m+1:=⟨l.length/8-1,by omega⟩;have hm':(l.drop 8).length/8=m:=by rw[List.length_drop];omega
 have hd:(l.drop 8).drop (8*m)=l.drop (8*(m+1)):=by rw[List.drop_drop];congr 1;omega
 rw[hm,hm',hd];rfl
theorem Qph:∀(m k:Nat) (s:ByteArray) (h:Int),s.size/8=m→R64 h→m+90≤k→Qbc.l0 k s h=some (sumP h (bytesOf s))
 | 0,k,s,h,hm,hh,hk=>by
  obtain⟨k,rfl⟩:∃m,k=m+1:=⟨k-1,by omega⟩;unfold Qbc.l0;rw[if_neg (by omega),sum_l1 s (by omega) k h hh (by omega)];unfold sumP;rw[show(bytesOf s).length/8=0 by rw[Qeb];exact hm];simp only[Nat.mul_zero,List.drop_zero,Qnj]
 | m+1,k,s,h,hm,hh,hk=>by
  obtain⟨k,rfl⟩:∃m,k=m+1:=⟨k-1,by omega⟩;unfold Qbc.l0;rw[if_pos (by omega),if_pos (by omega),if_pos (by omega)];have hv:=val_k (k:=k) s 0 8 (by omega) (by omega) (by omega);rw[Nat.zero_add,List.drop_zero]at hv;rw[hv,Option.bind_some,into_k _ _ (by omega),Option.bind_some,show(27:Int)=((27:Nat):Int) from rfl,Qpa _ 27 (Qpb _ _ _) (by omega) (by omega) (by omega),Option.bind_some];rw[Qpg h _ (by rw[Qeb];omega),← Qpf];exact Qph m k (s.extract 8 s.size) (one8 h (bytesOf s)) (by rw[Qpe];omega) (one8_r _ _) (by omega)
theorem Qpi(sd:Int)(s:ByteArray)(k:Nat)(hsd:R64 sd)(hs:s.size≤4611686018427387904)(hk:s.size+100≤k):Qbc.f k sd s=some (Qnk sd (bytesOf s)):=by
 unfold Qbc.f Qnk;rw[Qeb,IntWalk.u64_in (s.size:Int) (by omega)]
 by_cases h32:32≤s.size
 ·rw[if_pos (by omega)];unfold Qbd.f;rw[if_pos (by omega),Option.bind_some];have hR:RV (Qnw sd):=⟨u64r _,u64r _,hsd,u64r _⟩;obtain⟨h1,h2,h3⟩:=Qox (s.size/32) (Qnw sd) s (by omega) hR;obtain⟨k,rfl⟩:∃m,k=m+1:=⟨k-1,by omega⟩;have hj:∀a b c,Qbc.j0 (k+1) a b c=Qbc.l0 k a (IntKind.u64.wrap (c+b)):=fun _ _ _=>rfl
  rw[hj];have hsz:(rrun (s.size/32) (Qnw sd) s).2.size=s.size-32*(s.size/32):=by
   rw[Qoq,h2,List.length_drop,Qeb]
  have:=Qph _ k (rrun (s.size/32) (Qnw sd) s).2 (IntKind.u64.wrap (rmix (rsum (rrun (s.size/32) (Qnw sd) s).1) (rrun (s.size/32) (Qnw sd) s).1+(s.size:Int))) rfl (u64r _) (by rw[hsz];omega);rw[this,h2,h1,Qoz,Qoy _ h3];unfold Qnf;rw[if_neg (by omega)];rfl
 ·rw[if_neg (by omega)];obtain⟨k,rfl⟩:∃m,k=m+1:=⟨k-1,by omega⟩;have hj:∀a b c,Qbc.j0 (k+1) a b c=Qbc.l0 k a (IntKind.u64.wrap (c+b)):=fun _ _ _=>rfl
  rw[hj,Qph _ k s _ rfl (u64r _) (by omega),show s.size/32=0 by omega];unfold Qnf;rw[if_pos (by omega)];rfl
theorem num_key(l:List Int)(hb:Bytes l)(c:l.length≤8):Qdo.l0 (l.length+1) l 0 (l.length:Int) 0=some (leI l):=by
 obtain⟨n,hl'⟩:∃n,n=l.length:=⟨_,rfl⟩;have hl:n≤l.length:=by omega
 have hn:n≤8:=by omega
 have key:∀(d i:Nat),i+d=n→Qdo.l0 (d+1) l (leI (l.take i)) (n:Int) (i:Int)=some (leI (l.take n)):=by
  intro d
  induction d with
  | zero =>
   intro i h;unfold Qdo.l0;obtain rfl:i=n:=by omega
   rw[if_neg (by omega)]
  | succ d ih =>
   intro i h;unfold Qdo.l0;have hw:wrap64 (8*(i:Int))=((8*i:Nat):Int):=by unfold wrap64;omega
   rw[if_pos (by omega),if_pos (by omega),if_pos (by omega),hw,if_pos (by omega),show wrap64 ((i:Int)+1)=((i+1:Nat):Int)by unfold wrap64;omega];have hr:=leI_range (hb.take i);have hlen:(l.take i).length=i:=by rw[List.length_take];omega
   rw[hlen]at hr;have hd:=Qoo hb (show i<l.length by omega);have e:Go.bits .or .u64 (leI (l.take i)) (shl .u64 (IntKind.u64.wrap (rd l (i:Int))) ((8*i:Nat):Int))=leI (l.take (i+1)):=by
    rw[Qon (by omega),Qol,hlen,IntWalk.u64_in _ (by omega)];generalize rd l (i:Int)=b at *;generalize leI (l.take i)=a at *;obtain⟨a,rfl⟩:=Int.eq_ofNat_of_zero_le hr.1;obtain⟨b,rfl⟩:=Int.eq_ofNat_of_zero_le hd.1;have hp:(256:Nat)^i=2^(8*i):=by rw[Nat.pow_mul]
    have ha:a<2^(8*i):=by
     have:=hr.2;rw[← hp]
     exact_mod_cast this
    have hbig:b*2^(8*i)<2^64:=by
     have h1:b*2^(8*i)<2^8*2^(8*i):=Nat.mul_lt_mul_of_pos_right (by omega) (Nat.two_pow_pos _);have h2:(2:Nat)^8*2^(8*i)≤2^64:=by rw[← Nat.pow_add];exact Nat.pow_le_pow_right (by omega) (by omega)
     omega
    have ha2:a<2^64:=by
     have h2:(2:Nat)^(8*i)≤2^64:=Nat.pow_le_pow_right (by omega) (by omega);omega
    unfold shl;rw[show min ((8*i:Nat):Int).toNat IntKind.u64.bits=8*i by simp[IntKind.bits];omega,IntKind.wrap_u64];have e1:((b:Int)*2^(8*i))%18446744073709551616=((2^(8*i)*b:Nat):Int):=by
     have e2:((b:Int)*2^(8*i))=((b*2^(8*i):Nat):Int):=by push_cast;rfl
     rw[e2,Nat.mul_comm (2^(8*i)) b];omega
    rw[e1,bits_or_u64_nat _ _ (by omega) (by rw[Nat.mul_comm];omega),Nat.or_comm,← Nat.two_pow_add_eq_or_of_lt ha];have e3:((256:Int)^i*(b:Int))=((256^i*b:Nat):Int):=by push_cast;rfl
    rw[e3,hp];omega
   rw[e];exact ih (i+1) (by omega)
 have h:=key n 0 (by omega);rw[show leI (l.take 0)=0 from rfl,show((0:Nat):Int)=0 from rfl,hl',List.take_length]at h;exact h
theorem Qwj(a b:ByteArray):bytesOf (a++b)=bytesOf a++bytesOf b:=by
 unfold bytesOf;rw[← List.map_append]
 congr 1
theorem Qwk{x:Int}(h:0≤x∧x<256):((UInt8.ofNat x.toNat).toNat:Int)=x:=by
 obtain⟨n,rfl⟩:=Int.eq_ofNat_of_zero_le h.1;simp[UInt8.toNat_ofNat'];omega
theorem Qwl{l:List Int}(h:Bytes l):bytesOf (strOfNums l)=l:=by
 unfold bytesOf;rw[strOfNums_data,List.map_map]
 conv=>rhs;rw[← List.map_id l]
 apply List.map_congr_left;intro x hx;exact Qwk (h x hx)
theorem Qwm{a b:ByteArray}(h:bytesOf a=bytesOf b):a=b:=by
 have h1:a.data.toList=b.data.toList:=by
  unfold bytesOf at h;exact List.map_inj_right (f:=fun b:UInt8=>(b.toNat:Int)) (fun x y hxy=>UInt8.toNat_inj.1 (Int.ofNat.inj hxy)) |>.1 h
 have h2:a.data=b.data:=Array.toList_inj.1 h1
 cases a;cases b;simp_all
theorem Qwn(s:ByteArray):strOfNums (bytesOf s)=s:=Qwm (Qwl (Qok s))
def Free(l:List Int):Prop:=∀x∈l,x≠0
theorem Qwo{c:Int}(h:0≤c∧c<256):(UInt8.ofNat c.toNat == (0:Int).toNat.toUInt8)=decide (c=0):=by
 rw[Bool.eq_iff_iff,beq_iff_eq,decide_eq_true_iff]
 constructor
 ·intro e;have h1:=Qwk h;rw[e]at h1
  simpa using h1.symm
 ·rintro rfl;rfl
theorem Qwp:∀ {l:List Int},Bytes l→Free l→ixOf l 0=-1
 | [],_,_=>rfl
 | c :: l,hb,hf=>by
  have h1:=hb c (List.mem_cons_self ..);have h2:=hf c (List.mem_cons_self ..);have ih:=Qwp (l:=l) (fun x hx=>hb x (List.mem_cons_of_mem _ hx)) (fun x hx=>hf x (List.mem_cons_of_mem _ hx));unfold ixOf at ih ⊢;simp only[Lib.bytesOf,List.map_cons,Lib.indexByte,Qwo h1]at ih ⊢;rw[ih];simp[h2]
theorem Qwq:∀ {a b:List Int},Bytes a→Free a→ixOf (a++0 :: b) 0=a.length
 | [],b,_,_=>by
  unfold ixOf;simp[Lib.bytesOf,Lib.indexByte]
 | c :: a,b,hb,hf=>by
  have h1:=hb c (List.mem_cons_self ..);have h2:=hf c (List.mem_cons_self ..);have ih:=Qwq (a:=a) (b:=b) (fun x hx=>hb x (List.mem_cons_of_mem _ hx)) (fun x hx=>hf x (List.mem_cons_of_mem _ hx));unfold ixOf at ih ⊢;simp only[Lib.bytesOf,List.cons_append,List.map_cons,Lib.indexByte,Qwo h1]at ih ⊢;rw[ih];have:((a.length:Int) == -1)=false:=by rw[beq_eq_false_iff_ne];omega
  simp[h2,this]
theorem Qwr{a:List Int}(hb:Bytes a)(hf:Free a)(n:Nat):ixOf (a.take n) 0=-1:=Qwp (hb.take n) (fun x hx=>hf x (List.mem_of_mem_take hx))
theorem Qws{now rest:List Int}(hb:Bytes now)(hf:Free now)(hl:now.length<254):Qmb (now++0 :: rest)=(((now.length:Int)+1)%256) :: (now++Qmb rest):=by
 have e:ixOf ((now++0 :: rest).take 254) 0=(now.length:Int):=by
  obtain⟨m,hm⟩:∃m,254-now.length=m+1:=⟨253-now.length,by omega⟩;rw[List.take_append,List.take_of_length_le (by omega),hm,List.take_succ_cons];exact Qwq hb hf
 rw[Qme e,List.take_left',List.drop_append,List.drop_of_length_le (by omega)]
 ·simp
 ·rfl
theorem Qwt{now:List Int}(hb:Bytes now)(hf:Free now)(hl:now.length≤254):Qmb now=(((now.length:Int)+1)%256) :: now :=
 Qmg (by rw[Qwr hb hf];omega) (by omega)
theorem Qwu{now rest:List Int}(hb:Bytes now)(hf:Free now)(hl:now.length=254)(hr:rest≠[]):Qmb (now++rest)=255 :: (now++Qmb rest):=by
 have hr':0<rest.length:=List.length_pos_iff.2 hr;have e1:(now++rest).take 254=now:=by rw[← hl];exact List.take_left' rfl
 have e2:(now++rest).drop 254=rest:=by rw[← hl];exact List.drop_left' rfl
 rw[Qmf (by rw[e1,Qwp hb hf];omega) (by rw[List.length_append];omega),e1,e2]
theorem Qwv(s:ByteArray)(i:Nat):bt s (i:Int)=rd (bytesOf s) (i:Int):=(Qec s (i:Int)).symm
theorem ext_one(s:ByteArray)(i:Nat)(h:i<s.size):bytesOf (s.extract i (i+1))=[bt s (i:Int)]:=by
 rw[Qop,Qwv,Qom (by rw[Qeb];exact h),Nat.add_sub_cancel_left,List.drop_eq_getElem_cons (by rw[Qeb];exact h)];rfl
theorem Qww(s:ByteArray):s.toList=([]:List UInt8)↔s.size=0:=by
 constructor
 ·intro h;have h1:s.toList.length=s.size:=by rw[Lib.toList_data,Qea]
  rw[h]at h1
  simpa using h1.symm
 ·intro h;have h1:s.toList.length=s.size:=by rw[Lib.toList_data,Qea]
  exact List.eq_nil_of_length_eq_zero (by omega)
theorem Qwx(i:Nat)(h:i<4611686018427387904):wrap64 ((i:Int)+1)=((i+1:Nat):Int):=by unfold wrap64;omega
theorem Qwy(i:Nat)(h0:0<i)(h:i<4611686018427387904):wrap64 ((i:Int)-1)=((i-1:Nat):Int):=by unfold wrap64;omega
def Qwz(L now rest:List Int)(i:Nat):List Int:=if now=[]∧rest=[]∧0<i∧rd L ((i:Int)-1)≠0 then []else Qmb (now++rest)
theorem Qxa(k:Nat)(all out now:ByteArray)(i:Nat)(hs:out.size+now.size+1≤9223372036854775807)(hn:now.size<254)(hi:i<4611686018427387904) :
  ∃o',bytesOf o'=bytesOf out++((((bytesOf now).length:Int)+1)%256) :: bytesOf now∧Qbh.j1 (k+1) all out now (i:Int) false=Qbh.l0 k all o' (⟨#[]⟩:ByteArray) ((i+1:Nat):Int):=by
 have hw:wrap64 ((now.size:Int)+1)%256=(now.size:Int)+1:=by unfold wrap64;omega
 have hsz:(strOfNums [(now.size:Int)+1]).size=1:=by rw[strOfNums_size];rfl
 refine⟨(out++strOfNums [(now.size:Int)+1])++now,?_,?_⟩
 ·rw[Qwj,Qwj,Qwl (by intro x hx;simp at hx;omega),Qeb,List.append_assoc];rw[show((now.size:Int)+1)%256=(now.size:Int)+1 by omega];rfl
 ·unfold Qbh.j1;rw[if_neg (by decide),Option.bind_some,hw,if_pos (by omega),if_pos qq_25,show wrap64 ((i:Int)+1)=((i+1:Nat):Int)by unfold wrap64;omega]
theorem Qxb(s:ByteArray)(hs:s.size≤1152921504606846976):∀(d i k:Nat) (out now:ByteArray),i+d=s.size→Free (bytesOf now)→now.size<254→out.size+now.size≤4*i→2*d+5≤k →
  ∃o',Qbh.l0 k (s++(⟨#[0]⟩:ByteArray)) out now (i:Int)=some o'∧bytesOf o'=bytesOf out++Qwz (bytesOf s) (bytesOf now) ((bytesOf s).drop i) i
 | 0, i,k,out,now,hi,hf,hn,ho,hk=>by
  obtain⟨k,rfl⟩:∃m,k=m+3:=⟨k-3,by omega⟩;have hall:(s++(⟨#[0]⟩:ByteArray)).size=s.size+1:=by rw[ByteArray.size_append];rfl
  have hbA:bytesOf (s++(⟨#[0]⟩:ByteArray))=bytesOf s++[0]:=by rw[Qwj];rfl
  have hlen:=Qeb s;have hbt:bt (s++(⟨#[0]⟩:ByteArray)) (i:Int)=0:=by
   rw[Qwv,Qom (by rw[hbA,List.length_append,hlen];simp;omega)];simp only[hbA];rw[List.getElem_append_right (by omega)];simp
  have hd:(bytesOf s).drop i=[]:=List.drop_of_length_le (by omega);have hwl:wrap64 (((s++(⟨#[0]⟩:ByteArray)).size:Int)-1)=(i:Int):=by rw[hall];unfold wrap64;omega
  have hnl:=Qeb now;have hend:∀(o:ByteArray) (m:Nat),Qbh.l0 (m+1) (s++(⟨#[0]⟩:ByteArray)) o (⟨#[]⟩:ByteArray) ((i+1:Nat):Int)=some o:=by
   intro o m;unfold Qbh.l0;rw[if_neg (by rw[hall];omega)]
  obtain⟨oj,hj1,hj2⟩:=Qxa (k+1) (s++(⟨#[0]⟩:ByteArray)) out now i (by omega) hn (by omega);have hstf:Qmb (bytesOf now++[])=((((bytesOf now).length:Int)+1)%256) :: bytesOf now:=by
   rw[List.append_nil];exact Qwt (Qok now) hf (by omega)
  unfold Qbh.l0;rw[if_pos (by rw[hall];omega),if_pos (by omega),hbt,if_pos rfl,hwl,if_pos rfl]
  by_cases hne:now.size=0
  ·rw [if_pos ((Qww now).2 hne)];have b:bytesOf now=[]:=List.eq_nil_of_length_eq_zero (by omega)
   by_cases h0:0<i
   ·have hw1:wrap64 ((i:Int)-1)=((i-1:Nat):Int):=by unfold wrap64;omega
    rw[if_pos (by omega),hw1,if_pos (by omega),if_pos (by rw[hall];omega)];have hb1:bt (s++(⟨#[0]⟩:ByteArray)) ((i-1:Nat):Int)=rd (bytesOf s) ((i:Int)-1):=by
     rw[show(i:Int)-1=((i-1:Nat):Int)by omega,Qwv,Qom (by rw[hbA,List.length_append,hlen];simp;omega),Qom (by omega)];simp only[hbA];rw[List.getElem_append_left (by omega)]
    rw[hb1]
    by_cases hz:rd (bytesOf s) ((i:Int)-1)=0
    ·rw[hz,show((0:Int) != 0)=false from rfl,hj2];refine⟨oj,hend _ _,?_⟩;rw[hj1,hd];unfold Qwz;rw[if_neg (by intro h;exact h.2.2.2 hz),hstf]
    ·refine⟨out,?_,?_⟩
     ·unfold Qbh.j1;rw[if_pos (by simpa using hz)]
     ·rw[hd];unfold Qwz;rw[if_pos ⟨b,rfl,h0,hz⟩,List.append_nil]
   ·rw[if_neg (by omega),hj2];refine⟨oj,hend _ _,?_⟩;rw[hj1,hd];unfold Qwz;rw[if_neg (by intro h;exact h0 h.2.2.1),hstf]
  ·rw[if_neg (by intro h;exact hne ((Qww now).1 h)),hj2];refine⟨oj,hend _ _,?_⟩;rw[hj1,hd];unfold Qwz;rw[if_neg (by intro h;have:=h.1;rw[this]at hnl;exact hne hnl.symm),hstf]
 | d + 1,i,k,out,now,hi,hf,hn,ho,hk=>by
  obtain⟨k,rfl⟩:∃m,k=m+2:=⟨k-2,by omega⟩;have hall:(s++(⟨#[0]⟩:ByteArray)).size=s.size+1:=by rw[ByteArray.size_append];rfl
  have hbA:bytesOf (s++(⟨#[0]⟩:ByteArray))=bytesOf s++[0]:=by rw[Qwj];rfl
  have hlen:=Qeb s;have hil:i<(bytesOf s).length:=by omega
  obtain⟨c,hc⟩:∃c,c=(bytesOf s)[i]:=⟨_,rfl⟩;have hbt:bt (s++(⟨#[0]⟩:ByteArray)) (i:Int)=c:=by
   rw[Qwv,Qom (by rw[hbA,List.length_append];omega),hc];simp only[hbA];rw[List.getElem_append_left hil]
  have hcb:0≤c∧c<256:=by rw[hc];exact Qok s _ (List.getElem_mem hil)
  have hdrop:(bytesOf s).drop i=c :: (bytesOf s).drop (i+1):=by rw[hc];exact List.drop_eq_getElem_cons hil
  have hrd:rd (bytesOf s) (((i+1:Nat):Int)-1)=c:=by rw[show(((i+1:Nat):Int)-1)=(i:Int)by omega,Qom hil,hc]
  have hnl:=Qeb now;have hnot:¬(i:Int)=wrap64 (((s++(⟨#[0]⟩:ByteArray)).size:Int)-1):=by rw[hall];unfold wrap64;omega
  have hnil:bytesOf (⟨#[]⟩:ByteArray)=[]:=rfl;rw[hdrop];unfold Qbh.l0;rw[if_pos (by rw[hall];omega),if_pos (by omega),hbt]
  by_cases hz:c=0
  ·subst hz;rw[if_pos rfl,if_neg hnot];obtain⟨oj,hj1,hj2⟩:=Qxa k (s++(⟨#[0]⟩:ByteArray)) out now i (by omega) hn (by omega);have hjs:oj.size=out.size+now.size+1:=by
    have:=congrArg List.length hj1;rw[Qeb,List.length_append,List.length_cons,Qeb,Qeb]at this;omega
   rw[hj2];obtain⟨o',h1,h2⟩:=Qxb s hs d (i+1) k oj (⟨#[]⟩:ByteArray) (by omega) (by intro x hx;rw[hnil]at hx;cases hx) (by decide) (by rw[hjs];show _+0≤_;omega) (by omega);refine⟨o',h1,?_⟩;rw[h2,hj1,hnil];unfold Qwz;rw[if_neg (by intro h;exact h.2.2.2 hrd),if_neg (by intro h;cases h.2.1),List.nil_append,Qws (Qok now) hf (by omega)];simp
  ·rw[if_neg hz,Qwx i (by omega),if_pos (by omega),if_pos (by rw[hall];omega)];obtain⟨x1,a⟩:∃x1,x1=(s++(⟨#[0]⟩:ByteArray)).extract (i:Int).toNat ((i+1:Nat):Int).toNat:=⟨_,rfl⟩;have hxb:bytesOf x1=[c]:=by
    rw[a,Int.toNat_natCast,Int.toNat_natCast,ext_one _ _ (by rw[hall];omega),hbt]
   have hxs:x1.size=1:=by rw[Qoq,hxb];rfl
   rw[← a,if_pos (by omega)];have hnb:bytesOf (now++x1)=bytesOf now++[c]:=by rw[Qwj,hxb]
   have hns:(now++x1).size=now.size+1:=by rw[ByteArray.size_append,hxs]
   have hfree:Free (bytesOf now++[c]):=by
    intro x hx
    rcases List.mem_append.1 hx with h|h
    ·exact hf x h
    ·simp at h;rw[h];exact hz
   by_cases hfull:((now++x1).size:Int)=254
   ·rw[if_pos hfull,if_pos (by omega)];have hos:(out++(⟨#[255]⟩:ByteArray)).size=out.size+1:=by rw[ByteArray.size_append];rfl
    rw[if_pos (by rw[hos];omega)];obtain⟨o',h1,h2⟩:=Qxb s hs d (i+1) (k+1) ((out++(⟨#[255]⟩:ByteArray))++(now++x1)) (⟨#[]⟩:ByteArray) (by omega) (by intro x hx;rw[hnil]at hx;cases hx) (by decide) (by rw[ByteArray.size_append,hos];show _+0≤_;omega) (by omega);refine⟨o',h1,?_⟩;rw[h2,Qwj,Qwj,hnb,hnil,show bytesOf (⟨#[255]⟩:ByteArray)=[255] from rfl];have hl254:(bytesOf now++[c]).length=254:=by rw[List.length_append,hnl];simp;omega
    have hbb:Bytes (bytesOf now++[c]):=by rw[← hnb];exact Qok _
    unfold Qwz
    by_cases hr:(bytesOf s).drop (i+1)=[]
    ·rw[if_pos ⟨rfl,hr,by omega,by rw[hrd];exact hz⟩,if_neg (by intro h;cases h.2.1),hr,Qwt hbb hfree (by omega),hl254];simp
    ·rw[if_neg (by intro h;exact hr h.2.1),if_neg (by intro h;cases h.2.1),List.nil_append];have:=Qwu hbb hfree hl254 hr;rw[List.append_assoc]at this;rw[show bytesOf now++c :: (bytesOf s).drop (i+1)=bytesOf now++([c]++(bytesOf s).drop (i+1)) from rfl,this];simp
   ·rw[if_neg hfull];obtain⟨o',h1,h2⟩:=Qxb s hs d (i+1) (k+1) out (now++x1) (by omega) (by rw[hnb];exact hfree) (by omega) (by omega) (by omega);refine⟨o',h1,?_⟩;rw[h2,hnb];unfold Qwz;rw[if_neg (by intro h;have:=h.1;simp at this),if_neg (by intro h;cases h.2.1)];simp
theorem Qxc(s:ByteArray)(k:Nat)(hs:s.size≤1152921504606846976)(hk:2*s.size+5≤k):∃o',Qbh.f k s=some o'∧bytesOf o'=Qmb (bytesOf s):=by
 have hnil:bytesOf (⟨#[]⟩:ByteArray)=[]:=rfl;obtain⟨o',h1,h2⟩:=Qxb s hs s.size 0 k (⟨#[]⟩:ByteArray) (⟨#[]⟩:ByteArray) (by omega) (by intro x hx;rw[hnil]at hx;cases hx) (by decide) (by decide) hk;refine⟨o',?_,?_⟩
 ·unfold Qbh.f;rw[if_pos (by omega)];exact h1
 ·rw[h2,hnil];unfold Qwz;rw[if_neg (by intro h;exact absurd h.2.2.1 (by omega))];simp
theorem Qxd:∀(n k:Nat) (x:Int),n≤9→0≤x→x<128^(n+1)→x<18446744073709551616→n+1≤k→∃t,Qaw.f k x=some t∧bytesOf t=vput n x
 | 0,k,x,hn,h0,h1,h2,hk=>by
  obtain⟨k,rfl⟩:∃m,k=m+1:=⟨k-1,by omega⟩;have hx:x<128:=by simpa using h1
  refine⟨strOfNums [x%256],?_,?_⟩
  ·unfold Qaw.f;rw[if_pos hx]
  ·rw[Qwl (by intro y hy;simp at hy;omega)];simp[vput];omega
 | n+1,k,x,hn,h0,h1,h2,hk=>by
  obtain⟨k,rfl⟩:∃m,k=m+1:=⟨k-1,by omega⟩
  by_cases hx:x<128
  ·refine⟨strOfNums [x%256],?_,?_⟩
   ·unfold Qaw.f;rw[if_pos hx]
   ·rw[Qwl (by intro y hy;simp at hy;omega)];simp[vput,hx];omega
  ·have hq:x/128<128^(n+1):=by
    rw[Int.pow_succ]at h1;exact Int.ediv_lt_of_lt_mul (by omega) h1
   obtain⟨t,ht,hb⟩:=Qxd n k (x/128) (by omega) (by omega) hq (by omega) (by omega);have e1:IntKind.u64.wrap (Int.tdiv x 128)=x/128:=by rw[Int.tdiv_eq_ediv_of_nonneg h0,IntWalk.u64_in _ (by omega)]
   have e2:IntKind.u64.wrap (128+(Int.tmod x 128))%256=x%128+128:=by rw[Int.tmod_eq_emod_of_nonneg h0,IntWalk.u64_in _ (by omega)];omega
   have hl:=Qmj n (x/128);have hts:t.size≤n+1:=by rw[Qoq,hb];exact hl
   have hy:(strOfNums [x%128+128]).size=1:=by rw[strOfNums_size];rfl
   refine⟨strOfNums [x%128+128]++t,?_,?_⟩
   ·unfold Qaw.f;rw[if_neg hx,Option.bind_some,e1,e2,ht,Option.bind_some,hy];rw[if_pos (by omega)]
   ·rw[Qwj,Qwl (by intro y hy';simp at hy';omega),hb];simp[vput,hx]
theorem num2(k:Nat)(x:Int)(h0:0≤x)(h1:x<18446744073709551616)(hk:10≤k):∃t,Qaw.f k x=some t∧bytesOf t=vput 9 x :=
 Qxd 9 k x (by omega) h0 (by omega) h1 hk
theorem Qxe:∀(d k:Nat) (n i:Nat) (x:Int) (out:ByteArray),i+d=n→n≤1000→0≤x→x<18446744073709551616→out.size≤i→d+1≤k →
  ∃t,Qau.l0 k x out (n:Int) (i:Int)=some t∧bytesOf t=bytesOf out++leb x d
 | 0,k,n,i,x,out,h,hn,h0,h1,ho,hk=>by
  obtain⟨k,rfl⟩:∃m,k=m+1:=⟨k-1,by omega⟩;refine⟨out,?_,by simp[leb]⟩;unfold Qau.l0;rw[if_neg (by omega)]
 | d+1,k,n,i,x,out,h,hn,h0,h1,ho,hk=>by
  obtain⟨k,rfl⟩:∃m,k=m+1:=⟨k-1,by omega⟩;have e1:(Int.tmod x 256)%256=x%256:=by rw[Int.tmod_eq_emod_of_nonneg h0];omega
  have e2:IntKind.u64.wrap (Int.tdiv x 256)=x/256:=by rw[Int.tdiv_eq_ediv_of_nonneg h0,IntWalk.u64_in _ (by omega)]
  have hy:(strOfNums [x%256]).size=1:=by rw[strOfNums_size];rfl
  obtain⟨t,ht,hb⟩:=Qxe d k n (i+1) (x/256) (out++strOfNums [x%256]) (by omega) hn (by omega) (by omega) (by rw[ByteArray.size_append,hy];omega) (by omega);refine⟨t,?_,?_⟩
  ·unfold Qau.l0;rw[if_pos (by omega),Option.bind_some,e1,e2,hy,if_pos (by omega),Qwx i (by omega)];exact ht
  ·rw[hb,Qwj,Qwl (by intro y hy';simp at hy';omega)];simp[leb]
theorem num1(k n:Nat)(x:Int)(hn:n≤1000)(h0:0≤x)(h1:x<18446744073709551616)(hk:n+1≤k):∃t,Qau.f k x (n:Int)=some t∧bytesOf t=leb x n:=by
 obtain⟨t,ht,hb⟩:=Qxe n k n 0 x (⟨#[]⟩:ByteArray) (by omega) hn h0 h1 (by decide) hk;exact⟨t,ht,by rw[hb];rfl⟩
theorem text2(k:Nat)(s:ByteArray)(hs:s.size≤70368744177664)(hk:10≤k):∃t,Qax.f k s=some t∧bytesOf t=vput 9 s.size++bytesOf s∧t.size≤s.size+10:=by
 obtain⟨t,ht,hb⟩:=num2 k (s.size:Int) (by omega) (by omega) hk;have hl:=Qmj 9 (s.size:Int);have hts:t.size≤10:=by rw[Qoq,hb];omega
 refine⟨t++s,?_,by rw[Qwj,hb],by rw[ByteArray.size_append];omega⟩;unfold Qax.f;rw[if_pos hs,ht,Option.bind_some,if_pos (by omega)]
theorem Qxf(k:Nat)(d:Bool)(s:Int)(key v:ByteArray)(hs0:0≤s)(hs1:s<18446744073709551616)(hk1:key.size≤70368744177664)(hv1:v.size≤70368744177664)(hk:10≤k) :
  ∃t,Qbi.f k d s key v=some t∧bytesOf t=Qqp d s key v∧t.size≤key.size+v.size+31:=by
 obtain⟨t1,h1,b1⟩:=num2 k s hs0 hs1 hk;obtain⟨t2,h2,b2,z2⟩:=text2 k key hk1 hk;obtain⟨t3,h3,b3,z3⟩:=text2 k v hv1 hk;have hl:=Qmj 9 s;have hz1:t1.size≤10:=by rw[Qoq,b1];omega
 cases d with
 | true =>
  have hc:(⟨#[3]⟩:ByteArray).size=1:=rfl;refine⟨((⟨#[3]⟩:ByteArray)++t1)++t2,?_,?_,?_⟩
  ·unfold Qbi.f;rw[if_pos rfl,h1,Option.bind_some,if_pos (by omega),h2,Option.bind_some,if_pos (by rw[ByteArray.size_append,hc];omega)]
  ·rw[Qwj,Qwj,b1,b2,show bytesOf (⟨#[3]⟩:ByteArray)=[3] from rfl];simp[Qqp]
  ·rw[ByteArray.size_append,ByteArray.size_append,hc];omega
 | false =>
  have hc:(⟨#[2]⟩:ByteArray).size=1:=rfl;refine⟨(((⟨#[2]⟩:ByteArray)++t1)++t2)++t3,?_,?_,?_⟩
  ·unfold Qbi.f;rw[if_neg (by decide),h1,Option.bind_some,if_pos (by omega),h2,Option.bind_some,if_pos (by rw[ByteArray.size_append,hc];omega),h3,Option.bind_some,if_pos (by rw[ByteArray.size_append,ByteArray.size_append,hc];omega)]
  ·rw[Qwj,Qwj,Qwj,b1,b2,b3,show bytesOf (⟨#[2]⟩:ByteArray)=[2] from rfl];simp[Qqp]
  ·rw[ByteArray.size_append,ByteArray.size_append,ByteArray.size_append,hc];omega
theorem Qxg(k:Nat)(s:ByteArray)(hs:s.size≤562949953421312)(hk:2*s.size+200≤k):∃t,Qbp.f k s=some t∧bytesOf t=Qqu (bytesOf s):=by
 have hr:=Qqt 0 (bytesOf s);obtain⟨t1,h1,b1⟩:=num1 k 8 (Qnk 0 (bytesOf s)) (by omega) hr.1 hr.2 (by omega);have hz1:t1.size=8:=by rw[Qoq,b1,Qlb]
 obtain⟨t2,h2,b2⟩:=Qxc (s++t1) k qq_25 qq_25;have hl:=Qqv _ (bytesOf (s++t1)) (Nat.le_refl _);have hz2:t2.size≤2*s.size+17:=by
  rw[Qoq t2,b2];rw[Qeb,ByteArray.size_append]at hl;omega
 refine⟨t2++(⟨#[0]⟩:ByteArray),?_,?_⟩
 ·unfold Qbp.f;rw[Qpi 0 s k ⟨by omega,by omega⟩ (by omega) (by omega),Option.bind_some,show(8:Int)=((8:Nat):Int) from rfl,h1,Option.bind_some,if_pos (by omega),h2,Option.bind_some,if_pos (by omega)]
 ·rw[Qwj,b2,Qwj,b1];rfl
theorem Qxh(k:Nat)(d:Bool)(s:Int)(key v:ByteArray)(hs0:0≤s)(hs1:s<18446744073709551616)(hk1:key.size≤35184372088832)(hv1:v.size≤35184372088832)(hk:2*(key.size+v.size)+300≤k) :
  ∃t,Qbo.f k d s key v=some t∧bytesOf t=Qqu (Qqp d s key v):=by
 obtain⟨t1,h1,b1,z1⟩:=Qxf k d s key v hs0 hs1 (by omega) (by omega) (by omega);obtain⟨t2,h2,b2⟩:=Qxg k t1 (by omega) (by omega);refine⟨t2,?_,by rw[b2,b1]⟩;unfold Qbo.f;rw[h1,Option.bind_some,h2,Option.bind_some]
theorem Qxi(k:Nat)(e s n:Int)(he0:0≤e)(he1:e<256)(hs0:0≤s)(hs1:s<4294967296)(hn0:0≤n)(hn1:n<18446744073709551616)(hk:300≤k) :
  ∃t,Qbn.f k e s n=some t∧bytesOf t=Qqz e s n:=by
 obtain⟨t1,h1,b1⟩:=num2 k s hs0 (by omega) (by omega);obtain⟨t2,h2,b2⟩:=num2 k n hn0 hn1 (by omega);have hl1:=Qmj 9 s;have hl2:=Qmj 9 n;have hz1:t1.size≤10:=by rw[Qoq,b1];omega
 have hz2:t2.size≤10:=by rw[Qoq,b2];omega
 have hy:(strOfNums [e]).size=1:=by rw[strOfNums_size];rfl
 have hc:(⟨#[1,2]⟩:ByteArray).size=2:=rfl;have hbs:bytesOf ((((⟨#[1,2]⟩:ByteArray)++strOfNums [e])++t1)++t2)=[1,2,e]++vput 9 s++vput 9 n:=by
  rw[Qwj,Qwj,Qwj,b1,b2,Qwl (by intro y hy';simp at hy';omega)];rfl
 obtain⟨t3,h3,b3⟩:=Qxg k ((((⟨#[1,2]⟩:ByteArray)++strOfNums [e])++t1)++t2) (by rw[ByteArray.size_append,ByteArray.size_append,ByteArray.size_append,hy,hc];omega) (by rw[ByteArray.size_append,ByteArray.size_append,ByteArray.size_append,hy,hc];omega);refine⟨t3,?_,by rw[b3,hbs];rfl⟩;unfold Qbn.f;rw[Option.bind_some,hy,if_pos (by omega),IntWalk.u64_in s (by omega),h1,Option.bind_some,if_pos (by rw[ByteArray.size_append,hy,hc];omega),h2,Option.bind_some,if_pos (by rw[ByteArray.size_append,ByteArray.size_append,hy,hc];omega),h3,Option.bind_some]
end Go.Proofs.YtnnofopfbeklbaaGreat.CodecP
end
