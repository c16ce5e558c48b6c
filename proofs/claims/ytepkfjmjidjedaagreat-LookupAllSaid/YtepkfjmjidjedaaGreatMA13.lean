/- Merged texts. -/
import Derived.Test.YtepkfjmjidjedaaGreatMA02
import Derived.Test.YtepkfjmjidjedaaGreatMA12
import Derived.Test.YtepkfjmjidjedaaGreatMA08
import Derived.Test.YtepkfjmjidjedaaGreatMA04
import Derived.Test.YtepkfjmjidjedaaGreatMA11
import Derived.OwnWalkIn
import Derived.Sort.KeysCollected
import Derived.Maps.Own
import Derived.Maps.OwnOps
import Derived.Maps.OwnSet
import Derived.Maps.Views
import Derived.StringKeys
import Derived.RangeFuncNested
import Derived.RangeFuncBound
import Derived.RangeFuncCalls
import Derived.RangeFuncLeaves
import Derived.Shelf.Abstract
import Derived.Shelf.RegionOpen
import Derived.TacticsInMore
import Derived.LoopNIn
import Derived.LoopIn
import Derived.Test.YtepkfjmjidjedaaGreatMA07
import Derived.Test.YtepkfjmjidjedaaGreatMA09
import Derived.Laws.Bits64b
import Derived.Test.YtepkfjmjidjedaaGreatMA05
import Derived.Test.YtepkfjmjidjedaaGreatMA10
set_option linter.unusedVariables false
set_option linter.unusedSimpArgs false
set_option maxHeartbeats 8000000
set_option maxRecDepth 100000
section
namespace Go.Proofs.YtepkfjmjidjedaaGreat.C
open Go.RowKit Go.Proofs.YtepkfjmjidjedaaGreatW.PrintWords Go.Proofs.YtepkfjmjidjedaaGreatW.PrintLast Go.Proofs.YtepkfjmjidjedaaGreatW.PrintMore
attribute [local go_sem] Qho Qhp Qhq Qhr Qhs Qht Qhu Qhv
attribute [local go_sem high] eqA65
def Qaw.f  : Option (Bool):=(Qbp.f 12 1 ([]:List Int) (⟨#[97]⟩:ByteArray)).bind fun bt345=>((Qau.f).bind fun t352=>(if t352=true then(if bt345.1=0 then(if bt345.2.1.toList=([]:List UInt8)then(if(bt345.2.2.1 == 0 && (bt345.2.2.2.1 == 0 && (bt345.2.2.2.2.1 == 0)))=true then(some (bt345.2.2.2.2.2 == 0))else(some false))else(some false))else(some false))else(some false)))
theorem Qaw.calls (r:Bool)(w:World)(h:Qaw.f  = some r) :
  Calls Tryz.prog 19 #[] w fun e w'=>e=.returned (.bool r)∧Below w.heap.size w w':=by
 have hu40:=Tryz.underlying40;have hu65:=Tryz.underlying65;have HB:=QA (Below.refl w.heap.size w);have H:((Qbp.f 12 1 ([]:List Int) (⟨#[97]⟩:ByteArray)).bind fun bt345=>((Qau.f).bind fun q=>(if q=true then(if bt345.1=0 then(if bt345.2.1.toList=([]:List UInt8)then(if(bt345.2.2.1 == 0 && (bt345.2.2.2.1 == 0 && (bt345.2.2.2.2.1 == 0)))=true then(some (bt345.2.2.2.2.2 == 0))else(some false))else(some false))else(some false))else(some false))))=some r:=h;clear h;replace H:=Option.bind_eq_some_iff.mp H;obtain⟨⟨k,l,c,d,j,m⟩,s,H⟩:=H;replace H:((Qau.f).bind fun q=>(if q=true then(if k=0 then(if l.toList=([]:List UInt8)then(if(c == 0 && (d == 0 && (j == 0)))=true then(some (m == 0))else(some false))else(some false))else(some false))else(some false)))=some r:=H;have A1:=QA s;clear s;replace H:=Option.bind_eq_some_iff.mp H;obtain⟨q,t,H⟩:=H;have A2:=QA t;clear t
 by_cases c3:q=true
 ·subst c3;rw[if_pos rfl]at H
  by_cases c4:k=0
  ·rw[if_pos c4]at H;have u:(k == 0)=true:=beq_iff_eq.mpr c4;have v:(k != 0)=false:=bne_eq_false_iff_eq.mpr c4;clear c4
   by_cases c5:l.toList=([]:List UInt8)
   ·rw[if_pos c5]at H;have x:(l.toList == ([]:List UInt8))=true:=beq_iff_eq.mpr c5;have y:(l.toList != ([]:List UInt8))=false:=bne_eq_false_iff_eq.mpr c5;clear c5
    by_cases c6:(c == 0 && (d == 0 && (j == 0)))=true
    ·rw[if_pos c6]at H;have z:(c == 0 && (d == 0 && (j == 0)))=true:=c6
     (try(have A:decide (c=0 && (d == 0 && (j == 0)))=true:=by simpa using c6))
     (try(have B:(c == 0 && (d == 0 && (j == 0)))=true:=by simpa using c6))
     clear c6;obtain rfl:=Option.some.inj H
     go_enter Tryz.func19,Tryz.ntmps19
     go_wp2_with (first |((with_reducible refine Qhw (f:=24) rfl ?_);refine Qfz (some 7) rfl rfl Tryz.func24 qq_5 rfl #[.agg #[.int .u8 12,.int .u32 1],.slice none 0 0,.string (⟨#[97]⟩:ByteArray)] rfl qq_1 ?_;(refine(Qbp.calls 12 1 _ _ ([]:List Int) (⟨#[97]⟩:ByteArray) k l c d j m _ ?side1 ?side2 A1.out).mono ?_);(case side1=>exact Kd.C_nil _ _);(case side2=>exact Nat.le_refl _);rintro e w7 ⟨rfl,hb⟩;refine⟨_,rfl,?_⟩;have n_:=qn1 (Qes qq_b hb);clear HB;have HB:=n_;clear n_;(try clear hb);(try clear hb2);(try clear hk);(try clear hi)) |((with_reducible refine Qfc (N:=3) rfl ?_);refine qq_e 3 #[.int .i64 0,.int .i64 0,.int .i64 0] 65 ?_;intro b hg w8 hbox hb;have n_:=qn4 (Qes qq_b hb) (hbox) (qq_s hg:w.heap.size≤b) (qq_s hg:w.heap.size≤b);clear HB;obtain⟨HB,a,n,p⟩:=n_;clear hb hbox hg;obtain⟨ad,ae,af⟩:=qc3 a.out;have am:=Qdg a.out) |((with_reducible refine Qhw (f:=42) rfl ?_);refine Qfz (some 12) rfl rfl Tryz.func42 qq_5 rfl #[] rfl qq_1 ?_;(with_reducible refine(Qau.calls  true _ A2.out).mono ?_);rintro e ao ⟨rfl,hb⟩;refine⟨_,rfl,?_⟩;have n_:=qn2 (Qds (g:=b) (o:=.cells #[.int .i64 c,.int .i64 d,.int .i64 j] 65 (0,0)) qq_x hb) (Qes qq_b hb);clear a HB;obtain⟨a,HB⟩:=n_;(try clear hb);(try clear hb2);(try clear hk);(try clear hi);obtain⟨D,E,G⟩:=qc3 a.out;have ag:=Qdg a.out))
     go_ret
     exact⟨qq_4,qq_b⟩
    ·rw[if_neg c6]at H;have z:(c == 0 && (d == 0 && (j == 0)))=false:=by simpa using c6
     (try(have A:decide (c=0 && (d == 0 && (j == 0)))=false:=by simpa using c6))
     (try(have B:(c == 0 && (d == 0 && (j == 0)))=false:=by simpa using c6))
     (try(have an:¬(c=0 && (d == 0 && (j == 0))):=by simpa using c6))
     clear c6;obtain rfl:=Option.some.inj H
     go_enter Tryz.func19,Tryz.ntmps19
     go_wp2_with (first |((with_reducible refine Qhw (f:=24) rfl ?_);refine Qfz (some 7) rfl rfl Tryz.func24 qq_5 rfl #[.agg #[.int .u8 12,.int .u32 1],.slice none 0 0,.string (⟨#[97]⟩:ByteArray)] rfl qq_1 ?_;(refine(Qbp.calls 12 1 _ _ ([]:List Int) (⟨#[97]⟩:ByteArray) k l c d j m _ ?side1 ?side2 A1.out).mono ?_);(case side1=>exact Kd.C_nil _ _);(case side2=>exact Nat.le_refl _);rintro e ap ⟨rfl,hb⟩;refine⟨_,rfl,?_⟩;have n_:=qn1 (Qes qq_b hb);clear HB;have HB:=n_;clear n_;(try clear hb);(try clear hb2);(try clear hk);(try clear hi)) |((with_reducible refine Qfc (N:=3) rfl ?_);refine qq_e 3 #[.int .i64 0,.int .i64 0,.int .i64 0] 65 ?_;intro b hg aq hbox hb;have n_:=qn4 (Qes qq_b hb) (hbox) (qq_s hg:w.heap.size≤b) (qq_s hg:w.heap.size≤b);clear HB;obtain⟨HB,a,n,p⟩:=n_;clear hb hbox hg;obtain⟨I,J,L⟩:=qc3 a.out;have ah:=Qdg a.out) |((with_reducible refine Qhw (f:=42) rfl ?_);refine Qfz (some 12) rfl rfl Tryz.func42 qq_5 rfl #[] rfl qq_1 ?_;(with_reducible refine(Qau.calls  true _ A2.out).mono ?_);rintro e ar ⟨rfl,hb⟩;refine⟨_,rfl,?_⟩;have n_:=qn2 (Qds (g:=b) (o:=.cells #[.int .i64 c,.int .i64 d,.int .i64 j] 65 (0,0)) qq_x hb) (Qes qq_b hb);clear a HB;obtain⟨a,HB⟩:=n_;(try clear hb);(try clear hb2);(try clear hk);(try clear hi);obtain⟨M,O,P⟩:=qc3 a.out;have ai:=Qdg a.out))
     go_ret
     exact⟨qq_4,qq_b⟩
   ·rw[if_neg c5]at H;have x:(l.toList == ([]:List UInt8))=false:=beq_eq_false_iff_ne.mpr c5;have y:(l.toList != ([]:List UInt8))=true:=bne_iff_ne.mpr c5;obtain rfl:=Option.some.inj H
    go_enter Tryz.func19,Tryz.ntmps19
    go_wp2_with (first |((with_reducible refine Qhw (f:=24) rfl ?_);refine Qfz (some 7) rfl rfl Tryz.func24 qq_5 rfl #[.agg #[.int .u8 12,.int .u32 1],.slice none 0 0,.string (⟨#[97]⟩:ByteArray)] rfl qq_1 ?_;(refine(Qbp.calls 12 1 _ _ ([]:List Int) (⟨#[97]⟩:ByteArray) k l c d j m _ ?side1 ?side2 A1.out).mono ?_);(case side1=>exact Kd.C_nil _ _);(case side2=>exact Nat.le_refl _);rintro e au ⟨rfl,hb⟩;refine⟨_,rfl,?_⟩;have n_:=qn1 (Qes qq_b hb);clear HB;have HB:=n_;clear n_;(try clear hb);(try clear hb2);(try clear hk);(try clear hi)) |((with_reducible refine Qfc (N:=3) rfl ?_);refine qq_e 3 #[.int .i64 0,.int .i64 0,.int .i64 0] 65 ?_;intro b hg av hbox hb;have n_:=qn4 (Qes qq_b hb) (hbox) (qq_s hg:w.heap.size≤b) (qq_s hg:w.heap.size≤b);clear HB;obtain⟨HB,a,n,p⟩:=n_;clear hb hbox hg;obtain⟨T,U,W⟩:=qc3 a.out;have aj:=Qdg a.out) |((with_reducible refine Qhw (f:=42) rfl ?_);refine Qfz (some 12) rfl rfl Tryz.func42 qq_5 rfl #[] rfl qq_1 ?_;(with_reducible refine(Qau.calls  true _ A2.out).mono ?_);rintro e aw ⟨rfl,hb⟩;refine⟨_,rfl,?_⟩;have n_:=qn2 (Qds (g:=b) (o:=.cells #[.int .i64 c,.int .i64 d,.int .i64 j] 65 (0,0)) qq_x hb) (Qes qq_b hb);clear a HB;obtain⟨a,HB⟩:=n_;(try clear hb);(try clear hb2);(try clear hk);(try clear hi)))
    go_ret
    exact⟨qq_4,qq_b⟩
  ·rw[if_neg c4]at H;have u:(k == 0)=false:=beq_eq_false_iff_ne.mpr c4;have v:(k != 0)=true:=bne_iff_ne.mpr c4;obtain rfl:=Option.some.inj H
   go_enter Tryz.func19,Tryz.ntmps19
   go_wp2_with (first |((with_reducible refine Qhw (f:=24) rfl ?_);refine Qfz (some 7) rfl rfl Tryz.func24 qq_5 rfl #[.agg #[.int .u8 12,.int .u32 1],.slice none 0 0,.string (⟨#[97]⟩:ByteArray)] rfl qq_1 ?_;(refine(Qbp.calls 12 1 _ _ ([]:List Int) (⟨#[97]⟩:ByteArray) k l c d j m _ ?side1 ?side2 A1.out).mono ?_);(case side1=>exact Kd.C_nil _ _);(case side2=>exact Nat.le_refl _);rintro e ax ⟨rfl,hb⟩;refine⟨_,rfl,?_⟩;have n_:=qn1 (Qes qq_b hb);clear HB;have HB:=n_;clear n_;(try clear hb);(try clear hb2);(try clear hk);(try clear hi)) |((with_reducible refine Qfc (N:=3) rfl ?_);refine qq_e 3 #[.int .i64 0,.int .i64 0,.int .i64 0] 65 ?_;intro b hg ay hbox hb;have n_:=qn4 (Qes qq_b hb) (hbox) (qq_s hg:w.heap.size≤b) (qq_s hg:w.heap.size≤b);clear HB;obtain⟨HB,a,n,p⟩:=n_;clear hb hbox hg;obtain⟨X,Y,Z⟩:=qc3 a.out;have ak:=Qdg a.out) |((with_reducible refine Qhw (f:=42) rfl ?_);refine Qfz (some 12) rfl rfl Tryz.func42 qq_5 rfl #[] rfl qq_1 ?_;(with_reducible refine(Qau.calls  true _ A2.out).mono ?_);rintro e az ⟨rfl,hb⟩;refine⟨_,rfl,?_⟩;have n_:=qn2 (Qds (g:=b) (o:=.cells #[.int .i64 c,.int .i64 d,.int .i64 j] 65 (0,0)) qq_x hb) (Qes qq_b hb);clear a HB;obtain⟨a,HB⟩:=n_;(try clear hb);(try clear hb2);(try clear hk);(try clear hi)))
   go_ret
   exact⟨qq_4,qq_b⟩
 ·replace c3:=Bool.eq_false_iff.mpr c3;subst c3;rw[if_neg (show ¬(false=true)by decide)]at H;obtain rfl:=Option.some.inj H
  go_enter Tryz.func19,Tryz.ntmps19
  go_wp2_with (first |((with_reducible refine Qhw (f:=24) rfl ?_);refine Qfz (some 7) rfl rfl Tryz.func24 qq_5 rfl #[.agg #[.int .u8 12,.int .u32 1],.slice none 0 0,.string (⟨#[97]⟩:ByteArray)] rfl qq_1 ?_;(refine(Qbp.calls 12 1 _ _ ([]:List Int) (⟨#[97]⟩:ByteArray) k l c d j m _ ?side1 ?side2 A1.out).mono ?_);(case side1=>exact Kd.C_nil _ _);(case side2=>exact Nat.le_refl _);rintro e aA ⟨rfl,hb⟩;refine⟨_,rfl,?_⟩;have n_:=qn1 (Qes qq_b hb);clear HB;have HB:=n_;clear n_;(try clear hb);(try clear hb2);(try clear hk);(try clear hi)) |((with_reducible refine Qfc (N:=3) rfl ?_);refine qq_e 3 #[.int .i64 0,.int .i64 0,.int .i64 0] 65 ?_;intro b hg aB hbox hb;have n_:=qn4 (Qes qq_b hb) (hbox) (qq_s hg:w.heap.size≤b) (qq_s hg:w.heap.size≤b);clear HB;obtain⟨HB,a,n,p⟩:=n_;clear hb hbox hg;obtain⟨aa,ab,ac⟩:=qc3 a.out;have al:=Qdg a.out) |((with_reducible refine Qhw (f:=42) rfl ?_);refine Qfz (some 12) rfl rfl Tryz.func42 qq_5 rfl #[] rfl qq_1 ?_;(with_reducible refine(Qau.calls  false _ A2.out).mono ?_);rintro e aC ⟨rfl,hb⟩;refine⟨_,rfl,?_⟩;have n_:=qn2 (Qds (g:=b) (o:=.cells #[.int .i64 c,.int .i64 d,.int .i64 j] 65 (0,0)) qq_x hb) (Qes qq_b hb);clear a HB;obtain⟨a,HB⟩:=n_;(try clear hb);(try clear hb2);(try clear hk);(try clear hi)))
  go_ret
  exact⟨qq_4,qq_b⟩
end Go.Proofs.YtepkfjmjidjedaaGreat.C
end
section
namespace Go.Proofs.YtepkfjmjidjedaaGreat.C
open Go.RowKit Go.Proofs.YtepkfjmjidjedaaGreatW.PrintWords Go.Proofs.YtepkfjmjidjedaaGreatW.PrintLast Go.Proofs.YtepkfjmjidjedaaGreatW.PrintMore
attribute [local go_sem] Qho Qhp Qhq Qhr Qhs Qht Qhu Qhv
attribute [local go_sem high] eqA36
def Qax.l0:Nat→List (S36)→List (S36)→Int→Int→Option (Bool)
 | 0,_,_,_,_=>none
 | k+1,x0,x1,x12,x13=>if x13<x12 then(if 0≤x13 then(if x13<(x0.length:Int)then(if x13<(x1.length:Int)then(if(!(((Qij x0 x13).f0) == ((Qij x1 x13).f0)) ||(!(((Qij x0 x13).f1) == ((Qij x1 x13).f1)) ||(!((((Qij x0 x13).f2).toList) == (((Qij x1 x13).f2).toList)) ||(!((((Qij x0 x13).f3).toList) == (((Qij x1 x13).f3).toList))))))=true then(some false)else(Qax.l0 k x0 x1 x12 (wrap64 (x13+1))))else(none))else(none))else(none))else(some true)
def Qax.f(k:Nat)(l0:List (S36))(l1:List (S36)):Option (Bool):=if(l0.length:Int)=(l1.length:Int)then(Qax.l0 k l0 l1 (l0.length:Int) 0)else(some false)
theorem Qax.calls (k:Nat) (A0:Option Addr) (c0:Nat) (l0:List (S36)) (A1:Option Addr) (c1:Nat) (l1:List (S36)) (r:Bool) (w:World) (hr0:Kd.C k36 w A0 l0.length l0) (hc0:l0.length≤c0) (hr1:Kd.C k36 w A1 l1.length l1) (hc1:l1.length≤c1) (h:Qax.f k l0 l1=some r) :
  Calls Tryz.prog 16 #[.slice A0 l0.length c0,.slice A1 l1.length c1] w fun e w'=>e=.returned (.bool r)∧Drawn0 w w':=by
 have hu36:=Tryz.underlying36;have B:=QA hr0;have O:=QA hc0;clear hr0 hc0;have D:=QA hr1;have P:=QA hc1;clear hr1 hc1;have H:(if(l0.length:Int)=(l1.length:Int)then(Qax.l0 k l0 l1 (l0.length:Int) 0)else(some false))=some r:=h;clear h
 by_cases c3:(l0.length:Int)=(l1.length:Int)
 ·rw [if_pos c3]at H;have v:((l0.length:Int) == (l1.length:Int))=true:=beq_iff_eq.mpr c3;have x:((l0.length:Int) != (l1.length:Int))=false:=bne_eq_false_iff_eq.mpr c3;have y:(l0.length == l1.length)=true:=by first|simpa using c3 |(simp at c3 ⊢;omega)
  clear c3;have H':=QA H;clear H
  go_enter Tryz.func16,Tryz.ntmps16
  go_wp2
  repeat(go_quiet (fail);try go_wp2)
  go_loopg [13] k (fun kq I w'=>∃(a:Int),I=.int .i64 a∧Aside0 (Qax.l0 kq l0 l1 (l0.length:Int) a=some r)∧Aside0 (kq≤k)∧Drawn0 w w')
  case atStart=>exact⟨(0),qq_7,H',⟨Nat.le_refl _⟩,by repeat(first|exact Drawn0.refl _|apply Drawn0.step)⟩
  case round =>
   clear H'
   try clear c1
   try clear c3
   try clear v
   try clear x
   try clear y
   obtain⟨a,rfl,HA,HK1,⟨m1,rfl⟩⟩:=hrel
   cases gk with
   | zero=>exact absurd HA.out (by simp[Qax.l0])
   | succ k1 =>
    have H:=HA.out;clear HA;simp only[Qax.l0]at H
    by_cases c4:a<(l0.length:Int)
    ·rw [if_pos c4]at H;have E:=decide_eq_true c4;clear c4
     by_cases c5:0≤a
     ·rw [if_pos c5]at H;have J:=decide_eq_true c5;clear c5
      by_cases c6:a<(l0.length:Int)
      ·rw[if_pos c6]at H;have L:=decide_eq_true c6;clear c6
       by_cases c7:a<(l1.length:Int)
       ·rw[if_pos c7]at H;have M:=decide_eq_true c7;clear c7
        by_cases c8:(!(((Qij l0 a).f0) == ((Qij l1 a).f0)) ||(!(((Qij l0 a).f1) == ((Qij l1 a).f1)) ||(!((((Qij l0 a).f2).toList) == (((Qij l1 a).f2).toList)) ||(!((((Qij l0 a).f3).toList) == (((Qij l1 a).f3).toList))))))=true
        ·rw[if_pos c8]at H;have G:(!(((Qij l0 a).f0) == ((Qij l1 a).f0)) ||(!(((Qij l0 a).f1) == ((Qij l1 a).f1)) ||(!((((Qij l0 a).f2).toList) == (((Qij l1 a).f2).toList)) ||(!((((Qij l0 a).f3).toList) == (((Qij l1 a).f3).toList))))))=true:=c8;clear c8;obtain rfl:=Option.some.inj H;have b:0≤(a:Int):=of_decide_eq_true qq_3;have c:a<(l0.length:Int):=of_decide_eq_true qq_3;obtain⟨z,j,m,n,o,p⟩:=Qik B.out a b c
         cases j
         replace b:=eq_true b;replace c:=eq_true c;have d:0≤(a:Int):=of_decide_eq_true qq_3;have g:a<(l1.length:Int):=of_decide_eq_true qq_3;obtain⟨A,l,q,s,t,u⟩:=Qik D.out a d g
         cases l
         replace d:=eq_true d;replace g:=eq_true g;go_wp2
         repeat(go_quiet (fail);try go_wp2)
         go_ret
         exact⟨by first|rfl |(simp;done) |(simp[*];done),by repeat(first|exact Drawn0.refl _|apply Drawn0.step)⟩
        ·rw[if_neg c8]at H;have G:(!(((Qij l0 a).f0) == ((Qij l1 a).f0)) ||(!(((Qij l0 a).f1) == ((Qij l1 a).f1)) ||(!((((Qij l0 a).f2).toList) == (((Qij l1 a).f2).toList)) ||(!((((Qij l0 a).f3).toList) == (((Qij l1 a).f3).toList))))))=false:=by simpa using c8
         clear c8;have H':=QA H;clear H;have b:0≤(a:Int):=of_decide_eq_true qq_3;have c:a<(l0.length:Int):=of_decide_eq_true qq_3;obtain⟨z,j,m,n,o,p⟩:=Qik B.out a b c
         cases j
         replace b:=eq_true b;replace c:=eq_true c;have d:0≤(a:Int):=of_decide_eq_true qq_3;have g:a<(l1.length:Int):=of_decide_eq_true qq_3;obtain⟨A,l,q,s,t,u⟩:=Qik D.out a d g
         cases l
         replace d:=eq_true d;replace g:=eq_true g;go_wp2
         repeat(go_quiet (fail);try go_wp2)
         go_roundg k1
         case measure=>have:=HK1.out;omega
         case rel=>exact⟨(wrap64 (a+1)),qq_7,H',⟨by have:=HK1.out;omega⟩,by repeat(first|exact Drawn0.refl _|apply Drawn0.step)⟩
       ·rw[if_neg c7]at H;exact absurd H (by simp)
      ·rw[if_neg c6]at H;exact absurd H (by simp)
     ·rw[if_neg c5]at H;exact absurd H (by simp)
    ·rw[if_neg c4]at H;have E:=decide_eq_false c4;clear c4;obtain rfl:=Option.some.inj H;go_wp2
     repeat(go_quiet (fail);try go_wp2)
     go_ret
     exact⟨by first|rfl |(simp;done) |(simp[*];done),by repeat(first|exact Drawn0.refl _|apply Drawn0.step)⟩
 ·rw[if_neg c3]at H;have v:((l0.length:Int) == (l1.length:Int))=false:=beq_eq_false_iff_ne.mpr c3;have x:((l0.length:Int) != (l1.length:Int))=true:=bne_iff_ne.mpr c3;have y:(l0.length == l1.length)=false:=by first|simpa using c3 |(simp at c3 ⊢;omega)
  obtain rfl:=Option.some.inj H
  go_enter Tryz.func16,Tryz.ntmps16
  go_wp2
  repeat(go_quiet (fail);try go_wp2)
  go_ret
  exact⟨by first|rfl |(simp;done) |(simp[*];done),by repeat(first|exact Drawn0.refl _|apply Drawn0.step)⟩
end Go.Proofs.YtepkfjmjidjedaaGreat.C
end
section
namespace Go.Proofs.YtepkfjmjidjedaaGreat.C
open Go.RowKit Go.Proofs.YtepkfjmjidjedaaGreatW.PrintWords Go.Proofs.YtepkfjmjidjedaaGreatW.PrintLast Go.Proofs.YtepkfjmjidjedaaGreatW.PrintMore
open Go.Maps Go.WideMaps
theorem lawKey:Keyed Tryz.prog 9:=string_keyed Tryz.underlying9
abbrev i64L{H:Type}(c:Int):DataW H:=.lit (.int .i64 c)
abbrev keyL(s:ByteArray):Lit:=.string s.data.toList
def Qoj{H:Type}(l:List S36):Nat→DataW H
 | 0=>.map []
 | k+1=>(Qoj l k).put (keyL (Qij l k).f2) (i64L k)
theorem Qok(s:ByteArray):WideAt.IsKeyLit (keyL s):=by
 simp[WideAt.IsKeyLit]
def Qol(l:List S36):Bool:=l.all (fun x=>decide (x.f2.size≤maxLen))
theorem Qom{l:List S36}(h:Qol l=true){i:Int}(h0:0≤i)(h1:i<l.length):(Qij l i).f2.size≤maxLen:=by
 have hl:i.toNat<l.length:=by omega
 unfold Qij;rw[List.getD_eq_getElem?_getD,List.getElem?_eq_getElem hl];exact of_decide_eq_true (List.all_eq_true.1 h _ (List.getElem_mem hl))
theorem Qon{H:Type}(A0:Option Addr)(c0:Nat)(l0:List S36)(w:World)(hr0:Kd.C k36 w A0 l0.length l0)(hk0:Qol l0=true) :
  Calls Tryz.prog 115 #[.slice A0 l0.length c0] w fun e w'=>e=.returned (.map (some w.heap.size))∧w'.ownsMap Tryz.prog 9 (plainElem (H:=H) Tryz.prog 3) w.heap.size l0.length (Qoj l0 l0.length)∧Below w.heap.size w w':=by
 have hmm:=@run_makeMap Tryz.prog;have hu:=Tryz.underlying36;have hlen:=hr0.2.1;have HK:=QA hk0;clear hk0
 go_enter Tryz.func115,Tryz.ntmps115
 go_wp2
 go_loopw [9] (fun i wr=>∃(k:Nat) (iv:Int),k≤l0.length∧i=.int .i64 iv∧Aside0 (iv=(k:Int))∧wr.ownsMap Tryz.prog 9 (plainElem (H:=H) Tryz.prog 3) w.heap.size k (Qoj l0 k)∧Below w.heap.size w wr)
  (fun i _=>l0.length-(intOf i).toNat)
 case atStart=>exact⟨0,0,Nat.zero_le _,rfl,⟨rfl⟩,World.ownsMap_made _ _ _ _,(Below.refl _ _).alloc (Nat.le_refl _) _⟩
 case round =>
  obtain⟨k,iv,hk,rfl,HI,hown,hnx⟩:=hrel
  by_cases hlt:k<l0.length
  ·have hge:0≤iv:=by have:=HI.out;omega
   have hl2:iv<(l0.length:Int):=by have:=HI.out;omega
   have hks:=Qom HK.out hge hl2;obtain⟨ad,rfl,c,d,b,g⟩:=Qik hr0 _ hge hl2;have keep:∀ {a:Addr} {v:Value},w.cell? a=some v→wr.cell? a=some v:=fun {a} {v} h=>(hnx.cell (World.block_lt_of_cell? w _ h)).trans h
   replace c:=keep c;replace d:=keep d;replace b:=keep b;replace g:=keep g;clear keep;obtain⟨key,hkey0⟩:∃key,key=(Qij l0 iv).f2:=⟨_,rfl⟩;rw[← hkey0]at b hks;have hkey:=keyOf_string_mk Tryz.underlying9 hks;have HKEY:=QA hkey0;clear hkey0
   go_wp2_with (first |(at_mapUpdate;refine wpList_mapUpdate_own _ rfl _ _ _ 204 rfl 9 3 lawKey Tryz.underlying204 _ w.heap.size k _ rfl (hown.alloc _) (by unfold maxLen;omega) _ _ _ rfl rfl hkey _ [] (plainElem_int Tryz.underlying3 (WalkArith.wf_i64 (by omega))) ?_;intro w1 hown1 hgrow1)|go_in)
   have R1:w1.ownsMap Tryz.prog 9 (plainElem (H:=H) Tryz.prog 3) w.heap.size (k+1) (Qoj l0 (k+1)):=by
    have e:iv=(k:Int):=HI.out;have e2:=HKEY.out;rw[e2]at hown1;subst e;exact hown1
   have R2:Below w.heap.size w w1:=(hnx.alloc hnx.size _).grown hgrow1 (by simp;have:=hnx.size;omega) (fun j hj=>by cases hj;exact Nat.le_refl _);clear hown1 hgrow1 hown;go_wp2
   go_roundw
   case rel=>exact⟨k+1,iv+1,by omega,by go_num,⟨by have:=HI.out;omega⟩,R1,R2⟩
   case measure=>simp[intOf];omega
  ·obtain rfl:k=l0.length:=by omega
   obtain rfl:iv=(l0.length:Int):=HI.out;go_wp2;go_ret
   exact⟨rfl,hown,hnx⟩
end Go.Proofs.YtepkfjmjidjedaaGreat.C
end
section
namespace Go.Proofs.YtepkfjmjidjedaaGreat.C
open Go.RowKit Go.Proofs.YtepkfjmjidjedaaGreatW.PrintWords Go.Proofs.YtepkfjmjidjedaaGreatW.PrintLast Go.Proofs.YtepkfjmjidjedaaGreatW.PrintMore
open Go.Maps Go.WideMaps
open Go.Sort Go.Shelf
theorem sortsM(m:Nat):AnyZ.SortsIn Tryz.prog Tryz.sortedM_ren Fence.wide m :=
  ⟨fun blk off cap ss W hH hblk hsz=>callsIn_wide.2 (AnyM.slices_Sort_string Tryz.sortM blk off cap ss W hH hblk hsz),
   fun p cap W=>callsIn_wide.2 (AnyM.slices_Sort_string_none Tryz.sortM p cap W)⟩
theorem Qoo(mb:Option Nat)(W:World):CallsIn Fence.wide 5 Tryz.prog 127 #[.map mb] W fun e w'=>e=.returned (.func (.func 190) #[] #[.pointer (some ⟨W.heap.size,0,none⟩)])∧w'=W.alloc (.cells #[.map mb] 204) :=
 AnyZ.keys_in Tryz.keysM Fence.wide 5 trivial rfl mb W
theorem Qop{H:Type}(b nn:Nat)(D0:DataW H)(R:Value→Option (DataW H × List MemPlace))(w:World)(hown:w.ownsMap Tryz.prog 9 R b nn D0)(hmax:Maps.size D0≤maxLen)(hbytes:Maps.size D0*16≤140737488355328) :
  CallsIn Fence.wide 5 Tryz.prog 126 #[.func (.func 190) #[] #[.pointer (some ⟨w.heap.size,0,none⟩)]] (w.alloc (.cells #[.map (some b)] 204)) fun e w'=>∃(v:Value) (ss:List (List UInt8)),e=.returned v∧ss.Perm (strKeys D0) ∧
   w'.ownsRow (w.alloc (.cells #[.map (some b)] 204)).heap.size 9 1 v ss.length ((ss.mergeSort (fun x y=>decide (x≤y))).map encStr)∧(v=.slice none 0 0↔ss=[])∧Below (w.alloc (.cells #[.map (some b)] 204)).heap.size (w.alloc (.cells #[.map (some b)] 204)) w':=by
 have hbl:=hown.lt;have hseq:SeqGives Fence.wide 2 Tryz.prog 190 #[.pointer (some ⟨w.heap.size,0,none⟩)] encStr (fun ss=>ss.Perm (strKeys D0)) (Maps.size D0) (w.alloc (.cells #[.map (some b)] 204)) :=
  AnyZ.keys_gives (ρ:=Tryz.keysM_ren) { Tryz.keysM with } Fence.wide _ trivial rfl (by omega) w.heap.size b nn D0 _ (by simp) (by simp) (by
   obtain⟨es,clock,hb,Ft,hs,hD⟩:=hown;exact⟨es,clock,(Below.heap_alloc _ _ b hbl).trans hb,Ft,hs,hD⟩)
 exact AnyZ.sorted_in Tryz.sortedM Fence.wide 5 trivial trivial trivial trivial rfl (by omega) (sortsM _) (enters_of Tryz.func189 qq_5 rfl) 190 #[.pointer (some ⟨w.heap.size,0,none⟩)] trivial (enters_of Tryz.func190 qq_5 rfl) _ _ hmax hbytes _ hseq
def Qoq(l:List S36):List ByteArray:=((strKeys (Qoj (H:=Unit) l l.length)).mergeSort leB).map fun b=>⟨b.toArray⟩
def Qbc.f(l0:List S36):Option (List ByteArray) :=
 if Qol l0=true then if l0.length<2932031007402 then some (Qoq l0)else none else none
theorem Qor(D:DataW Unit):(strKeys D).length=Maps.size D:=by
 cases D<;>simp[strKeys,Maps.size]
theorem Qos(A0:Option Addr)(c0:Nat)(l0:List S36)(w:World)(hr0:Kd.C k36 w A0 l0.length l0)(hk0:Qol l0=true)(hl0:l0.length<2932031007402) :
  Calls Tryz.prog 68 #[.slice A0 l0.length c0] w fun e w'=>∃a:Value,e=.returned (a)∧Kd.R Kd.string 9 w' w.heap.size (fun _=>True) a (Qoq l0)∧Below w.heap.size w w'∧(Qoq l0).length≤l0.length∧∀x∈Qoq l0,x.size≤maxLen:=by
 have HK:=QA hk0;clear hk0;refine(callsIn_wide (n:=6)).1 ?_;have hfK:Fence.wide.fn 127:=trivial;have hfS:Fence.wide.fn 126:=trivial;have hfL:Fence.wide.fn 115:=trivial;refine callsIn_of_wp Tryz.func68 rfl trivial ?_ rfl;simp only[Tryz.ntmps68,List.size_toArray,List.length_cons,List.length_nil,Nat.reduceAdd,Nat.reduceSub,Array.replicate_succ,Array.replicate_zero,List.push_toArray,List.append_toArray,List.nil_append,List.cons_append]
 gi_wp2_with (gi_at_call 115;refine(callsIn_wide.2 (Qon (H:=Unit) A0 c0 l0 w hr0 HK.out)).mono ?_;rintro e w1 ⟨rfl,hown,hb1⟩)
 have hsz:=hown.size_le
 gi_wp2_with (first
  |(gi_at_call 127;refine(Qoo _ _).mono ?_;rintro e w' ⟨rfl,rfl⟩)
  |(gi_at_call 126;refine(Qop w.heap.size l0.length (Qoj l0 l0.length) _ w1 hown (by unfold maxLen;omega) (by omega)).mono ?_;rintro e w' ⟨v,ss,rfl,hS,hrow,hnil,hb⟩))
 go_ret
 have hmS:(ss.mergeSort fun x y=>decide (x≤y))=(strKeys (Qoj (H:=Unit) l0 l0.length)).mergeSort leB:=mergeSort_of_perm hS;have hlen:ss.length=(Qoq l0).length:=by simp[Qoq,hS.length_eq]
 have hrow':w'.ownsRow w.heap.size 9 1 v (Qoq l0).length (encs Value.string (Qoq l0)):=by
  have h1:=ownsRow_base_a (base':=w.heap.size) hrow (by have:=hb1.size;simp;omega);rw[hlen,hmS]at h1;have e:encs Value.string (Qoq l0)=((strKeys (Qoj (H:=Unit) l0 l0.length)).mergeSort leB).map encStr:=by simp[encs,Qoq,encStr]
  rw[e];exact h1
 refine⟨v,rfl,Kd.R_of_own (h1:=fun _=>rfl) hrow' (fun _ _=>trivial),(hb1.alloc hb1.size _).trans (hb.mono (by have:=hb1.size;simp;omega)),?_,?_⟩
 ·simp only[Qoq,List.length_map,List.length_mergeSort,Qor];exact hsz
 ·intro x hx;simp only[Qoq,List.mem_map,List.mem_mergeSort]at hx;obtain⟨b,hb2,rfl⟩:=hx;exact strKeys_le hown Tryz.underlying9 b hb2
theorem Qbc.calls(A0:Option Addr)(c0:Nat)(l0:List S36)(r:List ByteArray)(w:World)(hr0:Kd.C k36 w A0 l0.length l0)(hc0:l0.length≤c0)(h:Qbc.f l0=some r) :
  Calls Tryz.prog 68 #[.slice A0 l0.length c0] w fun e w'=>∃v0_:Value,e=.returned (v0_)∧Kd.R Kd.string 9 w' w.heap.size (fun _=>True) v0_ r∧Below w.heap.size w w':=by
 unfold Qbc.f at h;have hk0:Qol l0=true:=by
  by_cases e:Qol l0=true
  ·exact e
  ·rw[if_neg e]at h;cases h
 have hl0:l0.length<2932031007402:=by
  by_cases e:l0.length<2932031007402
  ·exact e
  ·rw[if_pos hk0,if_neg e]at h;cases h
 rw[if_pos hk0,if_pos hl0]at h
 cases h
 exact(Qos A0 c0 l0 w hr0 hk0 hl0).mono fun e w' ⟨v,he,hR,hb,_⟩=>⟨v,he,hR,hb⟩
end Go.Proofs.YtepkfjmjidjedaaGreat.C
end
section
namespace Go.Proofs.YtepkfjmjidjedaaGreat.C
open Go.RowKit Go.Proofs.YtepkfjmjidjedaaGreatW.PrintWords Go.Proofs.YtepkfjmjidjedaaGreatW.PrintLast Go.Proofs.YtepkfjmjidjedaaGreatW.PrintMore
open Go.Shelf
attribute [local go_sem] Oper.semAt_some
def Blk(W:World)(B:Nat)(cs:Array Value)(t:TypeId):Prop:=W.heap[B]? = some (.cells cs t (0,0))
theorem Blk.lt{W:World}{B:Nat}{cs:Array Value}{t:TypeId}(h:Blk W B cs t):B<W.heap.size:=(Array.getElem?_eq_some_iff.1 h).1
theorem Blk.cell{W:World}{B:Nat}{cs:Array Value}{t:TypeId}(h:Blk W B cs t)(j:Nat):W.cell? ⟨B,j,none⟩=cs[j]?:=by simp[World.cell?,show W.heap[B]? = _ from h]
theorem Blk.frozen{W:World}{B:Nat}{cs:Array Value}{t:TypeId}(h:Blk W B cs t)(j:Nat):W.frozen? ⟨B,j,none⟩=false:=by simp[World.frozen?,show W.heap[B]? = _ from h]
theorem Blk.new(W:World)(cs:Array Value)(t:TypeId):Blk (W.alloc (.cells cs t)) W.heap.size cs t:=World.alloc_heap_new W _
theorem Blk.kept{W W':World}{row:Option Nat}{B:Nat}{cs:Array Value}{t:TypeId}(h:Blk W B cs t)(hg:W.grownBy W' row)(hne:some B≠row):Blk W' B cs t:=(hg.block B h.lt hne).trans h
theorem Blk.alloc{W:World}{B:Nat}{cs:Array Value}{t:TypeId}(h:Blk W B cs t)(o:Obj):Blk (W.alloc o) B cs t:=h.kept (World.grownBy_alloc W o none) (by simp)
theorem Blk.set{W:World}{B:Nat}{cs:Array Value}{t:TypeId}(h:Blk W B cs t)(j:Nat)(v:Value):Blk (W.setCell ⟨B,j,none⟩ v) B (cs.setIfInBounds j v) t:=by
 obtain⟨hlt,hk⟩:=Array.getElem?_eq_some_iff.1 h;show(W.heap.modify B _)[B]? = _;rw[Array.getElem?_modify,if_pos rfl,show W.heap[B]? = _ from h];rfl
theorem Blk.other{W:World}{B:Nat}{cs:Array Value}{t:TypeId}(h:Blk W B cs t)(p:Addr)(hne:B≠p.block)(v:Value):Blk (W.setCell p v) B cs t:=by
 show(W.setCell p v).heap[B]? = _;rw[Below.heap_setCell W p v B hne];exact h
theorem Qot{β:Type}(B:Nat)(t:TypeId)(f:β→Array Value):Own (fun s W=>Blk W B (f s) t):=fun s X Y row hs hg hrow =>
 hs.kept hg (fun e'=>by obtain⟨o,ho,hc⟩:=hrow B e'.symm;rw[show X.heap[B]? = _ from hs]at ho;cases ho;cases hc)
def Qou(x:S36):Array Value:=#[.bool x.f0,.int .u64 x.f1,.string x.f2,.string x.f3]
def Qov(l:List S36)(k:Nat):List (Int × S36):=(List.range k).map fun j:Nat=>(((l.length:Int)-1-(j:Int)),Qij l ((l.length:Int)-1-(j:Int)))
theorem Qow(l:List S36)(k:Nat):Qov l (k+1)=Qov l k++[(((l.length:Int)-1-k),Qij l ((l.length:Int)-1-k))]:=by simp[Qov,List.range_succ]
theorem Qox(l:List S36)(k:Nat):(Qov l k).length=k:=by simp[Qov]
theorem Qoy(l:List S36){k:Nat}(h:k≤l.length):Qov l k <+: Qov l l.length:=by
 refine⟨(List.range (l.length-k)).map (fun j:Nat=>(((l.length:Int)-1-((k+j:Nat):Int)),Qij l ((l.length:Int)-1-((k+j:Nat):Int)))),?_⟩;unfold Qov;have:=@List.range_add k (l.length-k);rw[show k+(l.length-k)=l.length by omega]at this;rw[this,List.map_append,List.map_map];rfl
theorem Qoz(F:Fence)(n:Nat)(hf:F.fn 191)(hro:F.round=none)(hn:1≤n)(l Bs n₀:Nat)(A0:Option Addr)(c0:Nat)(xs:List S36)(w0:World)(hC:Kd.C k36 w0 A0 xs.length xs)(j:n₀=w0.heap.size)(J Jx:List (Int × S36)→World→Prop)
  (hY:∀pre x W,J pre W→pre.length<xs.length→YieldAt F (n-1) Tryz.prog l #[.int .i64 x.1,.agg (Qou x.2)] W fun e W' =>
   (e=.returned (.bool true)∧J (pre++[x]) W'∧Below n₀ W W')∨(e=.returned (.bool false)∧Jx (pre++[x]) W'))
  (W:World) (hBs0:w0.cell? ⟨Bs,0,none⟩=some (.slice A0 xs.length c0)) (hw:Below n₀ w0 W) (h0:J [] W) :
  CallsIn F n Tryz.prog 191 #[.func (.yield l) #[] #[],.pointer (some ⟨Bs,0,none⟩)] W fun e W'=>(∃v,e=.returned v) ∧
   ((∃ys,ys=Qov xs xs.length∧J ys W')∨(∃pre,pre <+: Qov xs xs.length∧Jx pre W')):=by
 have hu:=Tryz.underlying36;have hlen:=hC.2.1;have hBs:W.cell? ⟨Bs,0,none⟩=some (.slice A0 xs.length c0):=(hw.cell (by have:=World.block_lt_of_cell? w0 _ hBs0;omega)).trans hBs0;refine callsIn_of_wp Tryz.func191 rfl hf ?_ hro;simp only[Tryz.ntmps191,List.size_toArray,List.length_cons,List.length_nil,Nat.reduceAdd,Nat.reduceSub,Array.replicate_succ,Array.replicate_zero,List.push_toArray,List.append_toArray,List.nil_append,List.cons_append]
 gi_wp2
 gi_loopw [3] (fun i wr=>∃(k:Nat) (iv:Int),k≤xs.length∧i=.int .i64 iv∧Aside0 (iv=(xs.length:Int)-1-k)∧J (Qov xs k) wr∧Below n₀ w0 wr)
  (fun i _=>(intOf i+1).toNat)
 case atStart=>exact⟨0,_,Nat.zero_le _,rfl,⟨by simp⟩,by simpa [Qov]using h0,hw⟩
 case round =>
  obtain⟨k,iv,hk,rfl,HI,hJs,hnx⟩:=hrel;have hcs:wr.cell? ⟨Bs,0,none⟩=some (.slice A0 xs.length c0):=(hnx.cell (by have:=World.block_lt_of_cell? w0 _ hBs0;omega)).trans hBs0
  by_cases hlt:k<xs.length
  ·have hge:0≤iv:=by have:=HI.out;omega
   have hl2:iv<(xs.length:Int):=by have:=HI.out;omega
   obtain⟨ad,rfl,b,c,d,g⟩:=Qik hC _ hge hl2;have keep:∀ {a:Addr} {v:Value},w0.cell? a=some v→wr.cell? a=some v:=fun {a} {v} h=>(hnx.cell (by have:=World.block_lt_of_cell? w0 _ h;omega)).trans h
   replace b:=keep b;replace c:=keep c;replace d:=keep d;replace g:=keep g;obtain⟨fn,tmps,assign,body,hy,hR⟩:=hY _ (iv,Qij xs iv) wr hJs (by rw[Qox];exact hlt);dsimp only[Qou]at hy;clear keep
   gi_wp2
   refine hR.mono ?_;rintro e W3 (⟨rfl,hJ3,hk3⟩ |⟨rfl,hJx3⟩)
   ·gi_wp2
    go_roundw
    case rel=>exact⟨k+1,iv-1,by omega,by go_num,⟨by have:=HI.out;omega⟩,by rw[Qow,← HI.out];exact hJ3,hnx.trans hk3⟩
    case measure=>simp[intOf];omega
   ·gi_wp2
    refine bodyPost_ret (results_none rfl _ _ _) rfl ?_;exact⟨⟨_,rfl⟩,.inr ⟨_,by have:=Qoy xs (k:=k+1) hlt;rw[Qow,← HI.out]at this;exact this,hJx3⟩⟩
  ·obtain rfl:k=xs.length:=by omega
   obtain rfl:iv=-1:=by have:=HI.out;omega
   gi_wp2
   go_end0
   exact⟨⟨_,rfl⟩,.inl ⟨_,rfl,hJs⟩⟩
theorem Qpa(F:Fence)(n:Nat)(h5:F.fn 128)(hro:F.round=none)(a:Option Addr)(len cap:Nat)(w:World) :
  CallsIn F n Tryz.prog 128 #[.slice a len cap] w fun e w'=>e=.returned (.func (.func 191) #[] #[.pointer (some ⟨w.heap.size,0,none⟩)])∧w'=w.alloc (.cells #[.slice a len cap] 22):=by
 refine callsIn_of_wp Tryz.func128 rfl h5 ?_ hro;simp only[Tryz.ntmps128,List.size_toArray,List.length_cons,List.length_nil,Nat.reduceAdd,Nat.reduceSub,Array.replicate_succ,Array.replicate_zero,List.push_toArray,List.append_toArray,List.nil_append,List.cons_append]
 gi_wp2
 go_ret
 exact⟨rfl,rfl⟩
def Qpb(l:List S36)(key:ByteArray):Option S36:=l.reverse.find? (fun r=>r.f2.toList == key.toList)
def Qbd.f(l0:List S36)(a1:ByteArray):Option (Bool × Int × ByteArray × ByteArray × Bool) :=
 some (match Qpb l0 a1 with|some r=>(r.f0,r.f1,r.f2,r.f3,true)|none=>(false,0,⟨#[]⟩,⟨#[]⟩,false))
theorem Qpc(l:List S36):(Qov l l.length).map (·.2)=l.reverse:=by
 apply List.ext_getElem
 ·simp[Qov]
 ·intro i h1 h2;have hi:i<l.length:=by simpa [Qov]using h1
  have e:((l.length:Int)-1-(i:Int)).toNat=l.length-1-i:=by omega
  simp[Qov,Qij,e,List.getElem_reverse,List.getElem?_eq_getElem (show l.length-1-i<l.length by omega)]
theorem Qpd{l:List S36}{key:ByteArray}(h:∀y∈Qov l l.length,(y.2.f2.toList == key.toList)=false):Qpb l key=none:=by
 unfold Qpb;rw[List.find?_eq_none,← Qpc];intro x hx;obtain⟨y,hy,rfl⟩:=List.mem_map.1 hx;simp[h y hy]
theorem Qpe{l:List S36}{key:ByteArray}{pre:List (Int × S36)}{x:Int × S36}(hp:pre++[x] <+: Qov l l.length)(h:∀y∈pre,(y.2.f2.toList == key.toList)=false)(hx:(x.2.f2.toList == key.toList)=true):Qpb l key=some x.2:=by
 unfold Qpb;obtain⟨t,ht⟩:=hp;rw[← Qpc,← ht,List.map_append,List.map_append,List.find?_append,List.find?_append];have h1:(pre.map (·.2)).find? (fun r=>r.f2.toList == key.toList)=none:=by
  rw[List.find?_eq_none];intro x hx;obtain⟨y,hy,rfl⟩:=List.mem_map.1 hx;simp[h y hy]
 rw[h1];simp[hx]
theorem last_in(F:Fence)(n:Nat)(h3:F.fn 69)(h4:F.fn 128)(h5:F.fn 191)(hro:F.round=none)(hn:3≤n)(A0:Option Addr)(c0:Nat)(l0:List S36)(a1:ByteArray)(w:World)(hr0:Kd.C k36 w A0 l0.length l0) :
  CallsIn F n Tryz.prog 69 #[.slice A0 l0.length c0,.string a1] w fun e w'=>(∃r1 r2 r3 r4 r5,Qbd.f l0 a1=some (r1,r2,r3,r4,r5)∧e=.returned (.tuple #[.agg #[.bool r1,.int .u64 r2,.string r3,.string r4],.bool r5]))∧Below w.heap.size w w':=by
 have h1:1≤n:=by omega
 have hu:=Tryz.underlying36;refine callsIn_of_wp_marks Tryz.func69 rfl h3 ?_ hro;simp only[Tryz.ntmps69,List.size_toArray,List.length_cons,List.length_nil,Nat.reduceAdd,Nat.reduceSub,Array.replicate_succ,Array.replicate_zero,List.push_toArray,List.append_toArray,List.nil_append,List.cons_append]
 gi_wp2_with (gi_at_call 128;refine(Qpa F (n-1) h4 hro _ _ _ _).mono ?_;rintro e w' ⟨rfl,rfl⟩)
 have hB0:Below w.heap.size w ((((w.alloc (.cells #[.string a1] 9)).alloc (.cells #[.bool false,.int .u64 0,.string ⟨#[]⟩,.string ⟨#[]⟩] 36)).alloc (.cells #[.bool false] 4)).alloc (.cells #[.slice A0 l0.length c0] 22)):=((((Below.refl _ w).alloc (Nat.le_refl _) _).alloc (by simp) _).alloc qq_27 _).alloc qq_27 _;have b0:=(((Blk.new w #[.string a1] 9).alloc (.cells #[.bool false,.int .u64 0,.string ⟨#[]⟩,.string ⟨#[]⟩] 36)).alloc (.cells #[.bool false] 4)).alloc (.cells #[.slice A0 l0.length c0] 22);have b1:=((Blk.new (w.alloc (.cells #[.string a1] 9)) #[.bool false,.int .u64 0,.string ⟨#[]⟩,.string ⟨#[]⟩] 36).alloc (.cells #[.bool false] 4)).alloc (.cells #[.slice A0 l0.length c0] 22);have b2:=(Blk.new ((w.alloc (.cells #[.string a1] 9)).alloc (.cells #[.bool false,.int .u64 0,.string ⟨#[]⟩,.string ⟨#[]⟩] 36)) #[.bool false] 4).alloc (.cells #[.slice A0 l0.length c0] 22);have b3:=Blk.new (((w.alloc (.cells #[.string a1] 9)).alloc (.cells #[.bool false,.int .u64 0,.string ⟨#[]⟩,.string ⟨#[]⟩] 36)).alloc (.cells #[.bool false] 4)) #[.slice A0 l0.length c0] 22;have hsz:((((w.alloc (.cells #[.string a1] 9)).alloc (.cells #[.bool false,.int .u64 0,.string ⟨#[]⟩,.string ⟨#[]⟩] 36)).alloc (.cells #[.bool false] 4)).alloc (.cells #[.slice A0 l0.length c0] 22)).heap.size=w.heap.size+4:=by simp
 simp only[World.size_alloc]at b1 b2 b3;obtain⟨W0,hW0⟩:∃W0,(((w.alloc (.cells #[.string a1] 9)).alloc (.cells #[.bool false,.int .u64 0,.string ⟨#[]⟩,.string ⟨#[]⟩] 36)).alloc (.cells #[.bool false] 4)).alloc (.cells #[.slice A0 l0.length c0] 22)=W0:=⟨_,rfl⟩;rw[hW0]at b0 b1 b2 b3 hB0 hsz ⊢;clear hW0;refine wpIn_rangeFunc_ownH hro h1 (gf:=191) (lb:=#[.pointer (some ⟨w.heap.size+1+1+1,0,none⟩)]) rfl h5 (enters_of Tryz.func191 qq_5 rfl)
  (encs:=fun x:Int × S36=>#[.int .i64 x.1,.agg (Qou x.2)]) (Kp:=Below W0.heap.size) (S:=fun ys=>ys=Qov l0 l0.length) (Sp:=fun pre=>pre <+: Qov l0 l0.length) (N:=l0.length) (w0:=W0)
  (fun l J Jx W hW _ _ hY h0=>Qoz F (n-1) h5 hro (by omega) l (w.heap.size+1+1+1) W0.heap.size A0 c0 l0 W0 (Kd.C_below hr0 hB0) rfl J Jx hY W (by rw[b3.cell];rfl) hW h0)
  belowK_t (belowK_b (Nat.le_refl _)) (Below.refl _ _) (fun _=>rfl)
  (fun pre W=>((Blk W w.heap.size #[.string a1] 9∧Blk W (w.heap.size+1) #[.bool false,.int .u64 0,.string ⟨#[]⟩,.string ⟨#[]⟩] 36∧Blk W (w.heap.size+1+1) #[.bool false] 4)∧(∀y∈pre,(y.2.f2.toList == a1.toList)=false))∧Below w.heap.size w W∧Below W0.heap.size W0 W)
  (fun c pre W=>((∃pre0 x,pre=pre0++[x]∧c=.ret∧(∀y∈pre0,(y.2.f2.toList == a1.toList)=false)∧(x.2.f2.toList == a1.toList)=true∧Blk W (w.heap.size+1) (Qou x.2) 36∧Blk W (w.heap.size+1+1) #[.bool true] 4))∧Below w.heap.size w W)
  (OwnFrom.and (Own.from (fun s X Y row hs hg hrow=>⟨⟨Qot _ _ (fun _=>_) s X Y row hs.1.1 hg hrow,Qot _ _ (fun _=>_) s X Y row hs.1.2.1 hg hrow,Qot _ _ (fun _=>_) s X Y row hs.1.2.2 hg hrow⟩,hs.2⟩) _) (OwnFrom.and (ownFrom_below (by omega) (by omega)) (ownFrom_below (Nat.le_refl _) (Nat.le_refl _))))
  (fun c=>OwnFrom.and (Own.from (fun s X Y row ⟨pre0,x,e1,e2,e3,e4,e5,e6⟩ hg hrow=>⟨pre0,x,e1,e2,e3,e4,Qot _ _ (fun _=>_) s X Y row e5 hg hrow,Qot _ _ (fun _=>_) s X Y row e6 hg hrow⟩) _) (ownFrom_below (by omega) (by omega)))
  ⟨⟨⟨b0,b1,b2⟩,by simp⟩,hB0,Below.refl _ _⟩
  (fun x a' W=>∃Bx,W0.heap.size≤Bx∧Blk W Bx (Qou x.2) 36∧a'={ tmps:=#[.slice A0 l0.length c0,.string a1,undef,.pointer (some ⟨w.heap.size,0,none⟩),.pointer (some ⟨w.heap.size+1,0,none⟩),.pointer (some ⟨w.heap.size+1+1,0,none⟩),undef,.pointer (some ⟨Bx,0,none⟩),.slice A0 l0.length c0,.func (.func 191) #[] #[.pointer (some ⟨w.heap.size+1+1+1,0,none⟩)],.int .i64 x.1,.agg (Qou x.2),undef,undef,undef,undef,undef,undef],defers:=[] })
  (fun x a'=>Own.from (fun s X Y row ⟨Bx,h1,h2,h3⟩ hg hrow=>⟨Bx,h1,Qot _ _ (fun _=>_) s X Y row h2 hg hrow,h3⟩) _) ?assign ?body ?done ?stop
 case assign =>
  rintro l pre x W K ⟨⟨⟨i0,i1,i2⟩,ip⟩,hB,hBW⟩ hK;dsimp only[Qou]at hK ⊢
  gi_wp2
  exact hK _ _ ((KeepsOthers.alloc _ _).from _) ((Below.refl _ W).alloc hBW.size _) ⟨⟨⟨i0.alloc _,i1.alloc _,i2.alloc _⟩,ip⟩,hB.alloc hB.size _,hBW.alloc hBW.size _⟩ ⟨W.heap.size,hBW.size,Blk.new W _ _,rfl⟩
 case body =>
  rintro l pre x a' W hl ⟨r,hr⟩ ⟨⟨⟨i0,i1,i2⟩,ip⟩,hB,hBW⟩ ⟨Bx,hBx,bX,rfl⟩ hlt;have x0:=bX.cell 0;have x1:=bX.cell 1;have x2:=bX.cell 2;have x3:=bX.cell 3;have k0:=i0.cell 0;have j0:=i1.cell 0;have j1:=i1.cell 1;have j2:=i1.cell 2;have j3:=i1.cell 3;have m0:=i2.cell 0;simp[Qou]at x0 x1 x2 x3 k0 j0 j1 j2 j3 m0;have f0:=i1.frozen;have f1:=i2.frozen;dsimp only[Qou]
  gi_wp2
  ·have hx:(x.2.f2.toList == a1.toList)=true:=by assumption
   have n1:w.heap.size+1+1≠w.heap.size+1:=by omega
   have n2:w.heap.size+1≠w.heap.size+1+1:=by omega
   refine⟨(((((KeepsOthers.setCell _ _ _).trans (KeepsOthers.setCell _ _ _)).trans (KeepsOthers.setCell _ _ _)).trans (KeepsOthers.setCell _ _ _)).trans (KeepsOthers.setCell _ _ _)).from _,⟨pre,x,rfl,rfl,ip,hx,?_,?_⟩,?_⟩
   ·exact((((i1.set 0 (.bool x.2.f0)).set 1 (.int .u64 x.2.f1)).set 2 (.string x.2.f2)).set 3 (.string x.2.f3)).other ⟨w.heap.size+1+1,0,none⟩ n2 _
   ·exact((((i2.other ⟨w.heap.size+1,0,none⟩ n1 _).other ⟨w.heap.size+1,1,none⟩ n1 _).other ⟨w.heap.size+1,2,none⟩ n1 _).other ⟨w.heap.size+1,3,none⟩ n1 _).set 0 (.bool true)
   ·exact((((hB.setCell (p:=⟨w.heap.size+1,0,none⟩) (by simp) _).setCell (p:=⟨w.heap.size+1,1,none⟩) (by simp) _).setCell (p:=⟨w.heap.size+1,2,none⟩) (by simp) _).setCell (p:=⟨w.heap.size+1,3,none⟩) (by simp) _).setCell (p:=⟨w.heap.size+1+1,0,none⟩) qq_27 _
  ·have hx:(x.2.f2.toList == a1.toList)=false:=by assumption
   refine⟨(KeepsOthers.refl _).from _,Below.refl _ _,⟨⟨i0,i1,i2⟩,fun y hy=>(List.mem_append.1 hy).elim (ip y) (fun e=>by simp at e;subst e;exact hx)⟩,hB,hBW⟩
 case done =>
  rintro D ys W hD rfl ⟨⟨⟨i0,i1,i2⟩,ip⟩,hB,hBW⟩ hK;have j0:=i1.cell 0;have j1:=i1.cell 1;have j2:=i1.cell 2;have j3:=i1.cell 3;have m0:=i2.cell 0;simp at j0 j1 j2 j3 m0;have f0:=i1.frozen;have f1:=i2.frozen
  gi_wp2
  have n1:w.heap.size+1+1≠w.heap.size+1:=by omega
  have n2:w.heap.size+1≠w.heap.size+1+1:=by omega
  have c1:=((((i1.set 0 (.bool false)).set 1 (.int .u64 0)).set 2 (.string ⟨#[]⟩)).set 3 (.string ⟨#[]⟩)).other ⟨w.heap.size+1+1,0,none⟩ n2 (.bool false);have c2:=((((i2.other ⟨w.heap.size+1,0,none⟩ n1 (.bool false)).other ⟨w.heap.size+1,1,none⟩ n1 (.int .u64 0)).other ⟨w.heap.size+1,2,none⟩ n1 (.string ⟨#[]⟩)).other ⟨w.heap.size+1,3,none⟩ n1 (.string ⟨#[]⟩)).set 0 (.bool false);have hK':=(((((KeepsOthers.setCell W ⟨w.heap.size+1,0,none⟩ (.bool false)).trans (KeepsOthers.setCell _ ⟨w.heap.size+1,1,none⟩ (.int .u64 0))).trans (KeepsOthers.setCell _ ⟨w.heap.size+1,2,none⟩ (.string ⟨#[]⟩))).trans (KeepsOthers.setCell _ ⟨w.heap.size+1,3,none⟩ (.string ⟨#[]⟩))).trans (KeepsOthers.setCell _ ⟨w.heap.size+1+1,0,none⟩ (.bool false))).same D _ hK rfl;have hB':=((((hB.setCell (p:=⟨w.heap.size+1,0,none⟩) (by simp) (.bool false)).setCell (p:=⟨w.heap.size+1,1,none⟩) (by simp) (.int .u64 0)).setCell (p:=⟨w.heap.size+1,2,none⟩) (by simp) (.string ⟨#[]⟩)).setCell (p:=⟨w.heap.size+1,3,none⟩) (by simp) (.string ⟨#[]⟩)).setCell (p:=⟨w.heap.size+1+1,0,none⟩) qq_27 (.bool false);refine⟨by simp,.inl ⟨_,_,rfl,run_takeDeferred hK',?_⟩⟩;have d1:=c1.kept (grownBy_putObj' _ D (.deferred none)) (fun e=>by cases e;omega);have d2:=c2.kept (grownBy_putObj' _ D (.deferred none)) (fun e=>by cases e;omega);have q0:=d1.cell 0;have q1:=d1.cell 1;have q2:=d1.cell 2;have q3:=d1.cell 3;have q4:=d2.cell 0;simp at q0 q1 q2 q3 q4;refine⟨.tuple #[.agg #[.bool false,.int .u64 0,.string ⟨#[]⟩,.string ⟨#[]⟩],.bool false],?_,⟨false,0,⟨#[]⟩,⟨#[]⟩,false,?_,rfl⟩,hB'.trans (belowK_b (w:=w) (Nat.le_refl _) _ D _ _ (by omega) hK' rfl rfl)⟩
  ·simp[results,Tryz.f69,go_sem,q0,q1,q2,q3,q4,hu]
  ·unfold Qbd.f;rw[Qpd ip]
 case stop =>
  rintro D c pre W hD hpre ⟨⟨pre0,x,rfl,rfl,e3,e4,e5,e6⟩,hB⟩ hK
  gi_wp2
  refine⟨by simp,.inl ⟨_,_,rfl,run_takeDeferred hK,?_⟩⟩;have d1:=e5.kept (grownBy_putObj' _ D (.deferred none)) (fun e=>by cases e;omega);have d2:=e6.kept (grownBy_putObj' _ D (.deferred none)) (fun e=>by cases e;omega);have q0:=d1.cell 0;have q1:=d1.cell 1;have q2:=d1.cell 2;have q3:=d1.cell 3;have q4:=d2.cell 0;simp[Qou]at q0 q1 q2 q3 q4;refine⟨.tuple #[.agg (Qou x.2),.bool true],?_,⟨x.2.f0,x.2.f1,x.2.f2,x.2.f3,true,?_,rfl⟩,hB.trans (belowK_b (w:=w) (Nat.le_refl _) _ D _ _ (by omega) hK rfl rfl)⟩
  ·simp[results,Tryz.f69,go_sem,q0,q1,q2,q3,q4,hu,Qou]
  ·unfold Qbd.f;rw[Qpe hpre e3 e4]
theorem Qbd.calls(A0:Option Addr)(c0:Nat)(l0:List S36)(a1:ByteArray)(r1:Bool)(r2:Int)(r3:ByteArray)(r4:ByteArray)(r5:Bool)(w:World)(hr0:Kd.C k36 w A0 l0.length l0)(hc0:l0.length≤c0)(h:Qbd.f l0 a1=some (r1,r2,r3,r4,r5)) :
  Calls Tryz.prog 69 #[.slice A0 l0.length c0,.string a1] w fun e w'=>e=.returned (.tuple #[.agg #[.bool r1,.int .u64 r2,.string r3,.string r4],.bool r5])∧Below w.heap.size w w':=by
 refine((callsIn_wide (n:=3)).1 (last_in Fence.wide 3 trivial trivial trivial rfl (by omega) A0 c0 l0 a1 w hr0)).mono ?_;rintro e w' ⟨⟨s1,s2,s3,s4,s5,hf,rfl⟩,hb⟩;rw[h]at hf;simp only[Option.some.injEq,Prod.mk.injEq]at hf;obtain⟨rfl,rfl,rfl,rfl,rfl⟩:=hf;exact⟨rfl,hb⟩
end Go.Proofs.YtepkfjmjidjedaaGreat.C
end
section
namespace Go.Proofs.YtepkfjmjidjedaaGreat.CodecP
open Go.RowKit Go.Proofs.YtepkfjmjidjedaaGreat.C Go.Proofs.YtepkfjmjidjedaaGreatW.PrintWords Go.Proofs.YtepkfjmjidjedaaGreatW.PrintLast Go.Proofs.YtepkfjmjidjedaaGreatW.PrintMore
theorem u64r(x:Int):0≤IntKind.u64.wrap x∧IntKind.u64.wrap x<18446744073709551616:=by
 rw[IntKind.wrap_u64];omega
def leI:List Int→Int
 | []=>0
 | b :: l=>b+256*leI l
def Bytes(l:List Int):Prop:=∀x∈l,0≤x∧x<256
theorem Qpf(s:ByteArray):Bytes (bytesOf s):=by
 intro x hx;unfold bytesOf at hx;obtain⟨b,_,rfl⟩:=List.mem_map.1 hx;have:=b.toNat_lt;omega
theorem Bytes.drop{l:List Int}(h:Bytes l)(n:Nat):Bytes (l.drop n):=fun x hx=>h x (List.mem_of_mem_drop hx)
theorem Bytes.take{l:List Int}(h:Bytes l)(n:Nat):Bytes (l.take n):=fun x hx=>h x (List.mem_of_mem_take hx)
theorem leI_range{l:List Int}(h:Bytes l):0≤leI l∧leI l<256^l.length:=by
 induction l with
 | nil=>simp[leI]
 | cons b l ih =>
  have h1:=ih (fun x hx=>h x (List.mem_cons_of_mem _ hx));have h2:=h b (List.mem_cons_self ..);simp only[leI,List.length_cons,Int.pow_succ];omega
theorem Qpg(l:List Int)(b:Int):leI (l++[b])=leI l+256^l.length*b:=by
 induction l with
 | nil=>simp[leI]
 | cons a l ih=>simp only[List.cons_append,leI,ih,List.length_cons,Int.pow_succ];rw[Int.mul_add,Int.mul_comm (256^l.length) 256,Int.mul_assoc];omega
theorem rd_get{l:List Int}{i:Nat}(h:i<l.length):rd l (i:Int)=l[i]:=by simp[rd,List.getD,List.getElem?_eq_getElem h]
theorem Qph{l:List Int}{i:Nat}(h:i<l.length):l.take (i+1)=l.take i++[rd l (i:Int)]:=by rw[List.take_succ_eq_append_getElem h,rd_get h]
theorem rd_range{l:List Int}(hb:Bytes l){i:Nat}(h:i<l.length):0≤rd l (i:Int)∧rd l (i:Int)<256:=by rw[rd_get h];exact hb _ (List.getElem_mem h)
theorem Qpi(s:ByteArray):s.size=(bytesOf s).length:=(Qct s).symm
def R64(x:Int):Prop:=0≤x∧x<18446744073709551616
theorem bits_r(op:BinOp)(x y:Int):R64 (Go.bits op .u64 x y):=(by unfold Go.bits;split<;>exact u64r _)
theorem num_key(l:List Int)(hb:Bytes l)(c:l.length≤8):Qch.l0 (l.length+1) l 0 (l.length:Int) 0=some (leI l):=by
 obtain⟨n,hl'⟩:∃n,n=l.length:=⟨_,rfl⟩;have hl:n≤l.length:=by omega
 have hn:n≤8:=by omega
 have key:∀(d i:Nat),i+d=n→Qch.l0 (d+1) l (leI (l.take i)) (n:Int) (i:Int)=some (leI (l.take n)):=by
  intro d
  induction d with
  | zero =>
   intro i h;unfold Qch.l0;obtain rfl:i=n:=by omega
   rw[if_neg (by omega)]
  | succ d ih =>
   intro i h;unfold Qch.l0;have hw:wrap64 (8*(i:Int))=((8*i:Nat):Int):=by unfold wrap64;omega
   rw[if_pos (by omega),if_pos (by omega),if_pos (by omega),hw,if_pos (by omega),show wrap64 ((i:Int)+1)=((i+1:Nat):Int)by unfold wrap64;omega];have hr:=leI_range (hb.take i);have hlen:(l.take i).length=i:=by rw[List.length_take];omega
   rw[hlen]at hr;have hd:=rd_range hb (show i<l.length by omega);have e:Go.bits .or .u64 (leI (l.take i)) (shl .u64 (IntKind.u64.wrap (rd l (i:Int))) ((8*i:Nat):Int))=leI (l.take (i+1)):=by
    rw[Qph (by omega),Qpg,hlen,IntWalk.u64_in _ (by omega)];generalize rd l (i:Int)=b at *;generalize leI (l.take i)=a at *;obtain⟨a,rfl⟩:=Int.eq_ofNat_of_zero_le hr.1;obtain⟨b,rfl⟩:=Int.eq_ofNat_of_zero_le hd.1;have hp:(256:Nat)^i=2^(8*i):=by rw[Nat.pow_mul]
    have ha:a<2^(8*i):=by
     have:=hr.2;rw[← hp]
     exact_mod_cast this
    have hbig:b*2^(8*i)<2^64:=by
     have h1:b*2^(8*i)<2^8*2^(8*i):=Nat.mul_lt_mul_of_pos_right (by omega) (Nat.two_pow_pos _);have h2:(2:Nat)^8*2^(8*i)≤2^64:=by rw[← Nat.pow_add];exact Nat.pow_le_pow_right (by omega) (by omega)
     omega
    have ha2:a<2^64:=by
     have h2:(2:Nat)^(8*i)≤2^64:=Nat.pow_le_pow_right (by omega) (by omega);omega
    unfold shl;rw[show min ((8*i:Nat):Int).toNat IntKind.u64.bits=8*i by simp[IntKind.bits];omega,IntKind.wrap_u64];have e1:((b:Int)*2^(8*i))%18446744073709551616=((2^(8*i)*b:Nat):Int):=by
     have e2:((b:Int)*2^(8*i))=((b*2^(8*i):Nat):Int):=by push_cast;rfl
     rw[e2,Nat.mul_comm (2^(8*i)) b];omega
    rw[e1,bits_or_u64_nat _ _ (by omega) (by rw[Nat.mul_comm];omega),Nat.or_comm,← Nat.two_pow_add_eq_or_of_lt ha];have e3:((256:Int)^i*(b:Int))=((256^i*b:Nat):Int):=by push_cast;rfl
    rw[e3,hp];omega
   rw[e];exact ih (i+1) (by omega)
 have h:=key n 0 (by omega);rw[show leI (l.take 0)=0 from rfl,show((0:Nat):Int)=0 from rfl,hl',List.take_length]at h;exact h
theorem byte_key(b:Int)(hb:0≤b∧b<256):∃k x,Qch.l0 k [b] 0 (([b]:List Int).length:Int) 0=some x∧IntKind.u8.wrap x=b:=by
 refine⟨_,_,num_key [b] (fun y hy=>by rw[List.mem_singleton.1 hy];exact hb) (by simp),?_⟩;simp only[leI];rw[show b+256*0=b by omega];exact IntWalk.u8_in _ (by omega)
theorem Qsv{x:Int}(h:0≤x∧x<256):((UInt8.ofNat x.toNat).toNat:Int)=x:=by
 obtain⟨n,rfl⟩:=Int.eq_ofNat_of_zero_le h.1;simp[UInt8.toNat_ofNat'];omega
theorem bytesOf_nums{l:List Int}(h:Bytes l):bytesOf (strOfNums l)=l:=by
 unfold bytesOf;rw[strOfNums_data,List.map_map]
 conv=>rhs;rw[← List.map_id l]
 apply List.map_congr_left;intro x hx;exact Qsv (h x hx)
theorem Qsw{a b:ByteArray}(h:bytesOf a=bytesOf b):a=b:=by
 have h1:a.data.toList=b.data.toList:=by
  unfold bytesOf at h;exact List.map_inj_right (f:=fun b:UInt8=>(b.toNat:Int)) (fun x y hxy=>UInt8.toNat_inj.1 (Int.ofNat.inj hxy)) |>.1 h
 have h2:a.data=b.data:=Array.toList_inj.1 h1
 cases a;cases b;simp_all
theorem Qsx(s:ByteArray):strOfNums (bytesOf s)=s:=Qsw (bytesOf_nums (Qpf s))
def Free(l:List Int):Prop:=∀x∈l,x≠0
theorem Qsy{c:Int}(h:0≤c∧c<256):(UInt8.ofNat c.toNat == (0:Int).toNat.toUInt8)=decide (c=0):=by
 rw[Bool.eq_iff_iff,beq_iff_eq,decide_eq_true_iff]
 constructor
 ·intro e;have h1:=Qsv h;rw[e]at h1
  simpa using h1.symm
 ·rintro rfl;rfl
theorem Qsz:∀ {l:List Int},Bytes l→Free l→ixOf l 0=-1
 | [],_,_=>rfl
 | c :: l,hb,hf=>by
  have h1:=hb c (List.mem_cons_self ..);have h2:=hf c (List.mem_cons_self ..);have ih:=Qsz (l:=l) (fun x hx=>hb x (List.mem_cons_of_mem _ hx)) (fun x hx=>hf x (List.mem_cons_of_mem _ hx));unfold ixOf at ih ⊢;simp only[Lib.bytesOf,List.map_cons,Lib.indexByte,Qsy h1]at ih ⊢;rw[ih];simp[h2]
theorem Qta:∀ {a b:List Int},Bytes a→Free a→ixOf (a++0 :: b) 0=a.length
 | [],b,_,_=>by
  unfold ixOf;simp[Lib.bytesOf,Lib.indexByte]
 | c :: a,b,hb,hf=>by
  have h1:=hb c (List.mem_cons_self ..);have h2:=hf c (List.mem_cons_self ..);have ih:=Qta (a:=a) (b:=b) (fun x hx=>hb x (List.mem_cons_of_mem _ hx)) (fun x hx=>hf x (List.mem_cons_of_mem _ hx));unfold ixOf at ih ⊢;simp only[Lib.bytesOf,List.cons_append,List.map_cons,Lib.indexByte,Qsy h1]at ih ⊢;rw[ih];have:((a.length:Int) == -1)=false:=by rw[beq_eq_false_iff_ne];omega
  simp[h2,this]
theorem Qtb{a:List Int}(hb:Bytes a)(hf:Free a)(n:Nat):ixOf (a.take n) 0=-1:=Qsz (hb.take n) (fun x hx=>hf x (List.mem_of_mem_take hx))
theorem Qtc{now rest:List Int}(hb:Bytes now)(hf:Free now)(hl:now.length<254):Qjq (now++0 :: rest)=(((now.length:Int)+1)%256) :: (now++Qjq rest):=by
 have e:ixOf ((now++0 :: rest).take 254) 0=(now.length:Int):=by
  obtain⟨m,hm⟩:∃m,254-now.length=m+1:=⟨253-now.length,by omega⟩;rw[List.take_append,List.take_of_length_le (by omega),hm,List.take_succ_cons];exact Qta hb hf
 rw[Qjt e,List.take_left',List.drop_append,List.drop_of_length_le (by omega)]
 ·simp
 ·rfl
theorem Qtd{now:List Int}(hb:Bytes now)(hf:Free now)(hl:now.length≤254):Qjq now=(((now.length:Int)+1)%256) :: now :=
 Qjv (by rw[Qtb hb hf];omega) (by omega)
theorem Qte{now rest:List Int}(hb:Bytes now)(hf:Free now)(hl:now.length=254)(hr:rest≠[]):Qjq (now++rest)=255 :: (now++Qjq rest):=by
 have hr':0<rest.length:=List.length_pos_iff.2 hr;have e1:(now++rest).take 254=now:=by rw[← hl];exact List.take_left' rfl
 have e2:(now++rest).drop 254=rest:=by rw[← hl];exact List.drop_left' rfl
 rw[Qju (by rw[e1,Qsz hb hf];omega) (by rw[List.length_append];omega),e1,e2]
theorem Qtf(s:ByteArray):s.toList=([]:List UInt8)↔s.size=0:=by
 constructor
 ·intro h;have h1:s.toList.length=s.size:=by rw[Lib.toList_data,Qcs]
  rw[h]at h1
  simpa using h1.symm
 ·intro h;have h1:s.toList.length=s.size:=by rw[Lib.toList_data,Qcs]
  exact List.eq_nil_of_length_eq_zero (by omega)
theorem Qtg(i:Nat)(h:i<4611686018427387904):wrap64 ((i:Int)+1)=((i+1:Nat):Int):=by unfold wrap64;omega
theorem Qth(i:Nat)(h0:0<i)(h:i<4611686018427387904):wrap64 ((i:Int)-1)=((i-1:Nat):Int):=by unfold wrap64;omega
end Go.Proofs.YtepkfjmjidjedaaGreat.CodecP
end
