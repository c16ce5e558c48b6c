/- Texts of this claim's author and of the print of its functions, merged by merge.py. -/
import Derived.Test.YtnnofopfbeklbaaGreatMH02
import Derived.Test.YtnnofopfbeklbaaGreatMH03
import Derived.Test.YtnnofopfbeklbaaGreatMH11
import Derived.Test.YtnnofopfbeklbaaGreatMH14
import Derived.Test.YtnnofopfbeklbaaGreatMH04
set_option linter.unusedVariables false
set_option linter.unusedSimpArgs false
set_option maxHeartbeats 8000000
set_option maxRecDepth 100000
section
namespace Go.Proofs.YtnnofopfbeklbaaGreat.C
open Go.RowKit Go.Proofs.YtnnofopfbeklbaaGreatW.PrintWords Go.Proofs.YtnnofopfbeklbaaGreatW.PrintLast Go.Proofs.YtnnofopfbeklbaaGreatW.PrintMore
attribute [local go_sem] Qif Qig Qih Qii Qij Qik Qil Qim
def Qbk.f(k:Nat)(a0_0:Bool)(a0_1:Int)(a0_2:ByteArray)(a0_3:ByteArray):Option (ByteArray):=if a0_0=true then((Qbb.f k a0_1).bind fun t300=>(if 1+t300.size≤9223372036854775807 then((Qbc.f k a0_2).bind fun t301=>(if((⟨#[3]⟩:ByteArray)++t300).size+t301.size≤9223372036854775807 then(some (((⟨#[3]⟩:ByteArray)++t300)++t301))else(none)))else(none)))else((Qbb.f k a0_1).bind fun t302=>(if 1+t302.size≤9223372036854775807 then((Qbc.f k a0_2).bind fun t303=>(if((⟨#[2]⟩:ByteArray)++t302).size+t303.size≤9223372036854775807 then((Qbc.f k a0_3).bind fun t304=>(if(((⟨#[2]⟩:ByteArray)++t302)++t303).size+t304.size≤9223372036854775807 then(some ((((⟨#[2]⟩:ByteArray)++t302)++t303)++t304))else(none)))else(none)))else(none)))
def Qbk.T2:Bool × List (List Nat × List Nat):=(true,[([],[]),([0],[0]),([1],[1]),([2],[2]),([],[]),([4],[4]),([5,2],[5]),([3,6],[3,6]),([7,6,0,1,2,3,4,5,6,7],[7])])
def Qbk.B2:List Nat:=[0,1,3,7,0,16,55,127,255]
theorem Qbk.tab2:rtab .any (Qhx Tryz.f62 2)=Qbk.T2:=by kernel_rfl
theorem Qbk.bits2:Qhr Qbk.T2.2 Qbk.B2=true:=by kernel_rfl
def Qbk.T3:Bool × List (List Nat × List Nat):=(true,[([],[]),([0],[0]),([1],[1]),([2],[2]),([],[]),([4],[4]),([5,2],[5]),([3,6],[3,6]),([],[]),([8],[8]),([9,6],[9]),([7,10],[7,10]),([11,10,0,1,2,3,4,5,6,7,8,9,10,11],[11])])
def Qbk.B3:List Nat:=[0,1,3,7,0,16,55,127,0,256,887,2047,4095]
theorem Qbk.tab3:rtab .any (Qhx Tryz.f62 3)=Qbk.T3:=by kernel_rfl
theorem Qbk.bits3:Qhr Qbk.T3.2 Qbk.B3=true:=by kernel_rfl
theorem Qbk.calls(k:Nat)(a0_0:Bool)(a0_1:Int)(a0_2:ByteArray)(a0_3:ByteArray)(r:ByteArray)(w:World)(h:Qbk.f k a0_0 a0_1 a0_2 a0_3=some r) :
  Calls Tryz.prog 62 #[.agg #[.bool a0_0,.int .u64 a0_1,.string a0_2,.string a0_3]] w fun e w'=>e=.returned (.string r)∧Below w.heap.size w w':=by
 have hu39:=Tryz.underlying39
 have HB:=QA (Below.refl w.heap.size w)
 have H:(if a0_0=true then((Qbb.f k a0_1).bind fun t300=>(if 1+t300.size≤9223372036854775807 then((Qbc.f k a0_2).bind fun t301=>(if((⟨#[3]⟩:ByteArray)++t300).size+t301.size≤9223372036854775807 then(some (((⟨#[3]⟩:ByteArray)++t300)++t301))else(none)))else(none)))else((Qbb.f k a0_1).bind fun t302=>(if 1+t302.size≤9223372036854775807 then((Qbc.f k a0_2).bind fun t303=>(if((⟨#[2]⟩:ByteArray)++t302).size+t303.size≤9223372036854775807 then((Qbc.f k a0_3).bind fun t304=>(if(((⟨#[2]⟩:ByteArray)++t302)++t303).size+t304.size≤9223372036854775807 then(some ((((⟨#[2]⟩:ByteArray)++t302)++t303)++t304))else(none)))else(none)))else(none))))=some r:=h
 clear h
 by_cases c2:a0_0=true
 ·subst c2
  have H1:((Qbb.f k a0_1).bind fun t300=>(if 1+t300.size≤9223372036854775807 then((Qbc.f k a0_2).bind fun t301=>(if((⟨#[3]⟩:ByteArray)++t300).size+t301.size≤9223372036854775807 then(some (((⟨#[3]⟩:ByteArray)++t300)++t301))else(none)))else(none)))=some r:=by rw[if_pos rfl]at H;exact H
  clear H
  have H:=H1
  clear H1
  replace H:=Option.bind_eq_some_iff.mp H
  obtain⟨t300,A30,H⟩:=H
  replace H:(if 1+t300.size≤9223372036854775807 then((Qbc.f k a0_2).bind fun t301=>(if((⟨#[3]⟩:ByteArray)++t300).size+t301.size≤9223372036854775807 then(some (((⟨#[3]⟩:ByteArray)++t300)++t301))else(none)))else(none))=some r:=H
  have A3:=QA A30
  clear A30
  by_cases c4:1+t300.size≤9223372036854775807
  ·rw[if_pos c4]at H
   have c4b0:=eq_true c4
   have c4b1:decide (1+t300.size≤9223372036854775807)=true:=decide_eq_true c4
   try have c4b2:(9223372036854775807<1+t300.size)=False:=eq_false (Nat.not_lt.2 c4)
   replace H:=Option.bind_eq_some_iff.mp H
   obtain⟨t301,A50,H⟩:=H
   replace H:(if((⟨#[3]⟩:ByteArray)++t300).size+t301.size≤9223372036854775807 then(some (((⟨#[3]⟩:ByteArray)++t300)++t301))else(none))=some r:=H
   have A5:=QA A50
   clear A50
   by_cases c6:((⟨#[3]⟩:ByteArray)++t300).size+t301.size≤9223372036854775807
   ·rw[if_pos c6]at H
    have c6b0:=eq_true c6
    have c6b1:decide (((⟨#[3]⟩:ByteArray)++t300).size+t301.size≤9223372036854775807)=true:=decide_eq_true c6
    try have c6b2:(9223372036854775807<((⟨#[3]⟩:ByteArray)++t300).size+t301.size)=False:=eq_false (Nat.not_lt.2 c6)
    try have c6b3:=c6b2
    try simp only[ByteArray.size_append,(show ∀x_:UInt8,(⟨#[x_]⟩:ByteArray).size=1 from fun _=>rfl),(show ∀x_ y_:UInt8,(⟨#[x_,y_]⟩:ByteArray).size=2 from fun _ _=>rfl)]at c6b3
    try have c6b4:=c6b2
    try simp only[ByteArray.size_append,ByteArray.size_extract,(show ∀x_:UInt8,(⟨#[x_]⟩:ByteArray).size=1 from fun _=>rfl),(show ∀x_ y_:UInt8,(⟨#[x_,y_]⟩:ByteArray).size=2 from fun _ _=>rfl)]at c6b4
    obtain rfl:=Option.some.inj H
    go_enter Tryz.func62,Tryz.ntmps62
    try go_wp2_with (first |((with_reducible refine Qfs (N:=1) rfl ?_);refine qq_e 1 #[.bool true,.int .u64 a0_1,.string a0_2,.string a0_3] 39 ?_;intro gb299 hg w7 hbox hb;have n0_:=QA (Qfh qq_b hb);have n1_:=QA (hbox);have n2_:=QA (qq_s hg:w.heap.size≤gb299);have n3_:=n2_;clear HB;have HB:=n0_;have BK299:=n1_;have GW299:=n2_;have GE299:=n3_;clear n0_ n1_ n2_ n3_ hb hbox hg;have hcz8_0:=qq_c (.bool true) BK299.out 0 rfl;have hcz8_1:=qq_c (.int .u64 a0_1) BK299.out 1 rfl;have hcz8_2:=qq_c (.string a0_2) BK299.out 2 rfl;have hcz8_3:=qq_c (.string a0_3) BK299.out 3 rfl;have hfz8_0:=Qdt BK299.out 0;have hfz8_1:=Qdt BK299.out 1;have hfz8_2:=Qdt BK299.out 2;have hfz8_3:=Qdt BK299.out 3))
    have n0_:=QA (Qef BK299.out)
    have n1_:=QA (Qfo HB.out)
    clear BK299 HB
    have BK299:=n0_
    have HB:=n1_
    clear n0_ n1_
    refine Qge (n:=9) (S:=fun w'=>w'.cell? ⟨gb299,0,none⟩=some (.bool true)∧w'.cell? ⟨gb299,1,none⟩=some (.int .u64 a0_1)∧w'.cell? ⟨gb299,2,none⟩=some (.string a0_2)∧w'.cell? ⟨gb299,3,none⟩=some (.string a0_3)) (ds:=[]) #[false,false,false,false,false,false,false,false,false] qq_6 rfl rfl ⟨(Qds BK299.out 0).trans rfl,(Qds BK299.out 1).trans rfl,(Qds BK299.out 2).trans rfl,(Qds BK299.out 3).trans rfl⟩ (fun hHeld=>?_);refine Qhv Qbk.tab2 Qbk.bits2 (fun HT_ HW_=>?_)
    generalize w7.drew=w9 at BK299 HB hHeld ⊢
    refine Qgh (i:=0) (N:=some 5) (v:=?_) (a':=?_) #[true,false,false,false,false,false,false,false,false] rfl rfl (Qhn HT_.out qq_6) (fun _ _ _ h=>h) (Or.inl ⟨by rfl,?_⟩) ?_ ?_
    rotate_left
    ·intro w'
     go_simp
     with_reducible rfl
    rotate_left
    ·exact qq_2
    refine Qgh (i:=4) (N:=some 9) (v:=?_) (a':=?_) #[true,false,false,false,true,false,false,false,false] rfl rfl (Qhn HT_.out qq_6) (fun _ _ _ h=>h) (Or.inl ⟨by rfl,?_⟩) ?_ ?_
    rotate_left
    ·intro w'
     go_simp
     with_reducible rfl
    rotate_left
    ·exact qq_2
    refine Qgg (i:=1) (N:=some 6) (v:=?_) (a':=?_) #[true,true,false,false,true,false,false,false,false] rfl rfl (Qhu HT_.out HW_.out qq_6) (fun _ _ _ h=>h) (Or.inl ⟨by rfl,?_⟩) hHeld ?_ ?_
    rotate_left
    ·rintro w' ⟨s0,s1,s2,s3⟩
     go_simp
     with_reducible rfl
    rotate_left
    ·exact qq_2
    refine Qgg (i:=5) (N:=some 10) (v:=?_) (a':=?_) #[true,true,false,false,true,true,false,false,false] rfl rfl (Qhu HT_.out HW_.out qq_6) (fun _ _ _ h=>h) (Or.inl ⟨by rfl,?_⟩) hHeld ?_ ?_
    rotate_left
    ·rintro w' ⟨s0,s1,s2,s3⟩
     go_simp
     with_reducible rfl
    rotate_left
    ·exact qq_2
    refine one_ (i:=2) (N:=some 7) #[true,true,true,false,true,true,false,false,false] rfl rfl (Qho HT_.out qq_6) (by decide) (fun K hK=>?_)
    refine Qgo Tryz.func98 qq_6 rfl #[.int .u64 a0_1] (by rfl) rfl rfl qq_1 ?_
    with_reducible refine(Qbb.calls k a0_1 t300 _ A3.out).mono ?_
    rintro e w10 ⟨rfl,hb⟩
    refine⟨_,rfl,?_⟩
    have n0_:=QA (Qeh (g:=gb299) (o:=.cells #[.bool true,.int .u64 a0_1,.string a0_2,.string a0_3] 39 (0,0)) qq_0 hb)
    have n1_:=QA (Qfh qq_b hb)
    clear BK299 HB
    have BK299:=n0_
    have HB:=n1_
    clear n0_ n1_
    (try clear hb)
    (try clear hb2)
    (try clear hk)
    (try clear hi)
    refine hK.out _ _ ⟨(Qds BK299.out 0).trans rfl,(Qds BK299.out 1).trans rfl,(Qds BK299.out 2).trans rfl,(Qds BK299.out 3).trans rfl⟩ (fun hHeld=>?_)
    clear hK K
    refine Qgm (a':=?_) ?_ ?_
    rotate_left
    ·show Act.put _ (some 7) _=_
     simp only[Act.put,List.setIfInBounds_toArray,List.set_cons_zero,List.set_cons_succ,Qgr,Qgs]
     rfl
    refine Qgh (i:=3) (N:=some 8) (v:=?_) (a':=?_) #[true,true,true,true,true,true,false,false,false] rfl rfl (Qhn HT_.out qq_6) (fun _ _ _ h=>h) (Or.inl ⟨by rfl,?_⟩) ?_ ?_
    rotate_left
    ·intro w'
     go_simp
     with_reducible rfl
    rotate_left
    ·exact qq_2
    refine one_ (i:=6) (N:=some 11) #[true,true,true,true,true,true,true,false,false] rfl rfl (Qho HT_.out qq_6) (by decide) (fun K hK=>?_)
    refine Qgo Tryz.func104 qq_6 rfl #[.string a0_2] (by rfl) rfl rfl qq_1 ?_
    with_reducible refine(Qbc.calls k a0_2 t301 _ A5.out).mono ?_
    rintro e w11 ⟨rfl,hb⟩
    refine⟨_,rfl,?_⟩
    have n0_:=QA (Qeh (g:=gb299) (o:=.cells #[.bool true,.int .u64 a0_1,.string a0_2,.string a0_3] 39 (0,0)) qq_0 hb)
    have n1_:=QA (Qfh qq_b hb)
    clear BK299 HB
    have BK299:=n0_
    have HB:=n1_
    clear n0_ n1_
    (try clear hb)
    (try clear hb2)
    (try clear hk)
    (try clear hi)
    refine hK.out _ _ ⟨(Qds BK299.out 0).trans rfl,(Qds BK299.out 1).trans rfl,(Qds BK299.out 2).trans rfl,(Qds BK299.out 3).trans rfl⟩ (fun hHeld=>?_)
    clear hK K
    refine Qgm (a':=?_) ?_ ?_
    rotate_left
    ·show Act.put _ (some 11) _=_
     simp only[Act.put,List.setIfInBounds_toArray,List.set_cons_zero,List.set_cons_succ,Qgr,Qgs]
     rfl
    refine Qgh (i:=7) (N:=some 12) (v:=?_) (a':=?_) #[true,true,true,true,true,true,true,true,false] rfl rfl (Qhn HT_.out qq_6) (fun _ _ _ h=>h) (Or.inl ⟨by rfl,?_⟩) ?_ ?_
    rotate_left
    ·intro w'
     go_simp
     with_reducible rfl
    rotate_left
    ·exact qq_2
    refine Qgh (i:=8) (N:=some 2) (v:=?_) (a':=?_) #[true,true,true,true,true,true,true,true,true] rfl rfl (Qhn HT_.out qq_6) (fun _ _ _ h=>h) (Or.inl ⟨by rfl,?_⟩) ?_ ?_
    rotate_left
    ·intro w'
     go_simp
     with_reducible rfl
    rotate_left
    ·exact qq_2
    refine Qgj (Qhq HT_.out qq_6) ?_
    try go_wp2
    go_ret
    exact⟨by first|rfl |(simp[Qis,Qit]<;>rfl) |(simp[*,Qis,Qit]<;>rfl),qq_b⟩
   ·rw[if_neg c6]at H
    exact absurd H (by simp)
  ·rw[if_neg c4]at H
   exact absurd H (by simp)
 ·replace c2:=Bool.eq_false_iff.mpr c2
  subst c2
  have H1:((Qbb.f k a0_1).bind fun t302=>(if 1+t302.size≤9223372036854775807 then((Qbc.f k a0_2).bind fun t303=>(if((⟨#[2]⟩:ByteArray)++t302).size+t303.size≤9223372036854775807 then((Qbc.f k a0_3).bind fun t304=>(if(((⟨#[2]⟩:ByteArray)++t302)++t303).size+t304.size≤9223372036854775807 then(some ((((⟨#[2]⟩:ByteArray)++t302)++t303)++t304))else(none)))else(none)))else(none)))=some r:=by rw[if_neg (show ¬(false=true)by decide)]at H;exact H
  clear H
  have H:=H1
  clear H1
  replace H:=Option.bind_eq_some_iff.mp H
  obtain⟨t302,A120,H⟩:=H
  replace H:(if 1+t302.size≤9223372036854775807 then((Qbc.f k a0_2).bind fun t303=>(if((⟨#[2]⟩:ByteArray)++t302).size+t303.size≤9223372036854775807 then((Qbc.f k a0_3).bind fun t304=>(if(((⟨#[2]⟩:ByteArray)++t302)++t303).size+t304.size≤9223372036854775807 then(some ((((⟨#[2]⟩:ByteArray)++t302)++t303)++t304))else(none)))else(none)))else(none))=some r:=H
  have A12:=QA A120
  clear A120
  by_cases c13:1+t302.size≤9223372036854775807
  ·rw [if_pos c13]at H
   have c13b0:=eq_true c13
   have c13b1:decide (1+t302.size≤9223372036854775807)=true:=decide_eq_true c13
   try have c13b2:(9223372036854775807<1+t302.size)=False:=eq_false (Nat.not_lt.2 c13)
   replace H:=Option.bind_eq_some_iff.mp H
   obtain⟨t303,A140,H⟩:=H
   replace H:(if((⟨#[2]⟩:ByteArray)++t302).size+t303.size≤9223372036854775807 then((Qbc.f k a0_3).bind fun t304=>(if(((⟨#[2]⟩:ByteArray)++t302)++t303).size+t304.size≤9223372036854775807 then(some ((((⟨#[2]⟩:ByteArray)++t302)++t303)++t304))else(none)))else(none))=some r:=H
   have A14:=QA A140
   clear A140
   by_cases c15:((⟨#[2]⟩:ByteArray)++t302).size+t303.size≤9223372036854775807
   ·rw[if_pos c15]at H
    have c15b0:=eq_true c15
    have c15b1:decide (((⟨#[2]⟩:ByteArray)++t302).size+t303.size≤9223372036854775807)=true:=decide_eq_true c15
    try have c15b2:(9223372036854775807<((⟨#[2]⟩:ByteArray)++t302).size+t303.size)=False:=eq_false (Nat.not_lt.2 c15)
    try have c15b3:=c15b2
    try simp only[ByteArray.size_append,(show ∀x_:UInt8,(⟨#[x_]⟩:ByteArray).size=1 from fun _=>rfl),(show ∀x_ y_:UInt8,(⟨#[x_,y_]⟩:ByteArray).size=2 from fun _ _=>rfl)]at c15b3
    try have c15b4:=c15b2
    try simp only[ByteArray.size_append,ByteArray.size_extract,(show ∀x_:UInt8,(⟨#[x_]⟩:ByteArray).size=1 from fun _=>rfl),(show ∀x_ y_:UInt8,(⟨#[x_,y_]⟩:ByteArray).size=2 from fun _ _=>rfl)]at c15b4
    replace H:=Option.bind_eq_some_iff.mp H
    obtain⟨t304,A160,H⟩:=H
    replace H:(if(((⟨#[2]⟩:ByteArray)++t302)++t303).size+t304.size≤9223372036854775807 then(some ((((⟨#[2]⟩:ByteArray)++t302)++t303)++t304))else(none))=some r:=H
    have A16:=QA A160
    clear A160
    by_cases c17:(((⟨#[2]⟩:ByteArray)++t302)++t303).size+t304.size≤9223372036854775807
    ·rw[if_pos c17]at H
     have c17b0:=eq_true c17
     have c17b1:decide ((((⟨#[2]⟩:ByteArray)++t302)++t303).size+t304.size≤9223372036854775807)=true:=decide_eq_true c17
     try have c17b2:(9223372036854775807<(((⟨#[2]⟩:ByteArray)++t302)++t303).size+t304.size)=False:=eq_false (Nat.not_lt.2 c17)
     try have c17b3:=c17b2
     try simp only[ByteArray.size_append,(show ∀x_:UInt8,(⟨#[x_]⟩:ByteArray).size=1 from fun _=>rfl),(show ∀x_ y_:UInt8,(⟨#[x_,y_]⟩:ByteArray).size=2 from fun _ _=>rfl)]at c17b3
     try have c17b4:=c17b2
     try simp only[ByteArray.size_append,ByteArray.size_extract,(show ∀x_:UInt8,(⟨#[x_]⟩:ByteArray).size=1 from fun _=>rfl),(show ∀x_ y_:UInt8,(⟨#[x_,y_]⟩:ByteArray).size=2 from fun _ _=>rfl)]at c17b4
     obtain rfl:=Option.some.inj H
     go_enter Tryz.func62,Tryz.ntmps62
     try go_wp2_with (first |((with_reducible refine Qfs (N:=1) rfl ?_);refine qq_e 1 #[.bool false,.int .u64 a0_1,.string a0_2,.string a0_3] 39 ?_;intro gb299 hg w18 hbox hb;have n0_:=QA (Qfh qq_b hb);have n1_:=QA (hbox);have n2_:=QA (qq_s hg:w.heap.size≤gb299);have n3_:=n2_;clear HB;have HB:=n0_;have BK299:=n1_;have GW299:=n2_;have GE299:=n3_;clear n0_ n1_ n2_ n3_ hb hbox hg;have hcz19_0:=qq_c (.bool false) BK299.out 0 rfl;have hcz19_1:=qq_c (.int .u64 a0_1) BK299.out 1 rfl;have hcz19_2:=qq_c (.string a0_2) BK299.out 2 rfl;have hcz19_3:=qq_c (.string a0_3) BK299.out 3 rfl;have hfz19_0:=Qdt BK299.out 0;have hfz19_1:=Qdt BK299.out 1;have hfz19_2:=Qdt BK299.out 2;have hfz19_3:=Qdt BK299.out 3))
     have n0_:=QA (Qef BK299.out)
     have n1_:=QA (Qfo HB.out)
     clear BK299 HB
     have BK299:=n0_
     have HB:=n1_
     clear n0_ n1_
     refine Qge (n:=13) (S:=fun w'=>w'.cell? ⟨gb299,0,none⟩=some (.bool false)∧w'.cell? ⟨gb299,1,none⟩=some (.int .u64 a0_1)∧w'.cell? ⟨gb299,2,none⟩=some (.string a0_2)∧w'.cell? ⟨gb299,3,none⟩=some (.string a0_3)) (ds:=[]) #[false,false,false,false,false,false,false,false,false,false,false,false,false] qq_6 rfl rfl ⟨(Qds BK299.out 0).trans rfl,(Qds BK299.out 1).trans rfl,(Qds BK299.out 2).trans rfl,(Qds BK299.out 3).trans rfl⟩ (fun hHeld=>?_);refine Qhv Qbk.tab3 Qbk.bits3 (fun HT_ HW_=>?_)
     generalize w18.drew=w20 at BK299 HB hHeld ⊢
     refine Qgh (i:=0) (N:=some 13) (v:=?_) (a':=?_) #[true,false,false,false,false,false,false,false,false,false,false,false,false] rfl rfl (Qhn HT_.out qq_6) (fun _ _ _ h=>h) (Or.inl ⟨by rfl,?_⟩) ?_ ?_
     rotate_left
     ·intro w'
      go_simp
      with_reducible rfl
     rotate_left
     ·exact qq_2
     refine Qgh (i:=4) (N:=some 17) (v:=?_) (a':=?_) #[true,false,false,false,true,false,false,false,false,false,false,false,false] rfl rfl (Qhn HT_.out qq_6) (fun _ _ _ h=>h) (Or.inl ⟨by rfl,?_⟩) ?_ ?_
     rotate_left
     ·intro w'
      go_simp
      with_reducible rfl
     rotate_left
     ·exact qq_2
     refine Qgh (i:=8) (N:=some 21) (v:=?_) (a':=?_) #[true,false,false,false,true,false,false,false,true,false,false,false,false] rfl rfl (Qhn HT_.out qq_6) (fun _ _ _ h=>h) (Or.inl ⟨by rfl,?_⟩) ?_ ?_
     rotate_left
     ·intro w'
      go_simp
      with_reducible rfl
     rotate_left
     ·exact qq_2
     refine Qgg (i:=1) (N:=some 14) (v:=?_) (a':=?_) #[true,true,false,false,true,false,false,false,true,false,false,false,false] rfl rfl (Qhu HT_.out HW_.out qq_6) (fun _ _ _ h=>h) (Or.inl ⟨by rfl,?_⟩) hHeld ?_ ?_
     rotate_left
     ·rintro w' ⟨s0,s1,s2,s3⟩
      go_simp
      with_reducible rfl
     rotate_left
     ·exact qq_2
     refine Qgg (i:=5) (N:=some 18) (v:=?_) (a':=?_) #[true,true,false,false,true,true,false,false,true,false,false,false,false] rfl rfl (Qhu HT_.out HW_.out qq_6) (fun _ _ _ h=>h) (Or.inl ⟨by rfl,?_⟩) hHeld ?_ ?_
     rotate_left
     ·rintro w' ⟨s0,s1,s2,s3⟩
      go_simp
      with_reducible rfl
     rotate_left
     ·exact qq_2
     refine Qgg (i:=9) (N:=some 22) (v:=?_) (a':=?_) #[true,true,false,false,true,true,false,false,true,true,false,false,false] rfl rfl (Qhu HT_.out HW_.out qq_6) (fun _ _ _ h=>h) (Or.inl ⟨by rfl,?_⟩) hHeld ?_ ?_
     rotate_left
     ·rintro w' ⟨s0,s1,s2,s3⟩
      go_simp
      with_reducible rfl
     rotate_left
     ·exact qq_2
     refine one_ (i:=2) (N:=some 15) #[true,true,true,false,true,true,false,false,true,true,false,false,false] rfl rfl (Qho HT_.out qq_6) (by decide) (fun K hK=>?_)
     refine Qgo Tryz.func98 qq_6 rfl #[.int .u64 a0_1] (by rfl) rfl rfl qq_1 ?_
     with_reducible refine(Qbb.calls k a0_1 t302 _ A12.out).mono ?_
     rintro e w21 ⟨rfl,hb⟩
     refine⟨_,rfl,?_⟩
     have n0_:=QA (Qeh (g:=gb299) (o:=.cells #[.bool false,.int .u64 a0_1,.string a0_2,.string a0_3] 39 (0,0)) qq_0 hb)
     have n1_:=QA (Qfh qq_b hb)
     clear BK299 HB
     have BK299:=n0_
     have HB:=n1_
     clear n0_ n1_
     (try clear hb)
     (try clear hb2)
     (try clear hk)
     (try clear hi)
     refine hK.out _ _ ⟨(Qds BK299.out 0).trans rfl,(Qds BK299.out 1).trans rfl,(Qds BK299.out 2).trans rfl,(Qds BK299.out 3).trans rfl⟩ (fun hHeld=>?_)
     clear hK K
     refine Qgm (a':=?_) ?_ ?_
     rotate_left
     ·show Act.put _ (some 15) _=_
      simp only[Act.put,List.setIfInBounds_toArray,List.set_cons_zero,List.set_cons_succ,Qgr,Qgs]
      rfl
     refine Qgh (i:=3) (N:=some 16) (v:=?_) (a':=?_) #[true,true,true,true,true,true,false,false,true,true,false,false,false] rfl rfl (Qhn HT_.out qq_6) (fun _ _ _ h=>h) (Or.inl ⟨by rfl,?_⟩) ?_ ?_
     rotate_left
     ·intro w'
      go_simp
      with_reducible rfl
     rotate_left
     ·exact qq_2
     refine one_ (i:=6) (N:=some 19) #[true,true,true,true,true,true,true,false,true,true,false,false,false] rfl rfl (Qho HT_.out qq_6) (by decide) (fun K hK=>?_)
     refine Qgo Tryz.func104 qq_6 rfl #[.string a0_2] (by rfl) rfl rfl qq_1 ?_
     with_reducible refine(Qbc.calls k a0_2 t303 _ A14.out).mono ?_
     rintro e w22 ⟨rfl,hb⟩
     refine⟨_,rfl,?_⟩
     have n0_:=QA (Qeh (g:=gb299) (o:=.cells #[.bool false,.int .u64 a0_1,.string a0_2,.string a0_3] 39 (0,0)) qq_0 hb)
     have n1_:=QA (Qfh qq_b hb)
     clear BK299 HB
     have BK299:=n0_
     have HB:=n1_
     clear n0_ n1_
     (try clear hb)
     (try clear hb2)
     (try clear hk)
     (try clear hi)
     refine hK.out _ _ ⟨(Qds BK299.out 0).trans rfl,(Qds BK299.out 1).trans rfl,(Qds BK299.out 2).trans rfl,(Qds BK299.out 3).trans rfl⟩ (fun hHeld=>?_)
     clear hK K
     refine Qgm (a':=?_) ?_ ?_
     rotate_left
     ·show Act.put _ (some 19) _=_
      simp only[Act.put,List.setIfInBounds_toArray,List.set_cons_zero,List.set_cons_succ,Qgr,Qgs]
      rfl
     refine Qgh (i:=7) (N:=some 20) (v:=?_) (a':=?_) #[true,true,true,true,true,true,true,true,true,true,false,false,false] rfl rfl (Qhn HT_.out qq_6) (fun _ _ _ h=>h) (Or.inl ⟨by rfl,?_⟩) ?_ ?_
     rotate_left
     ·intro w'
      go_simp
      with_reducible rfl
     rotate_left
     ·exact qq_2
     refine one_ (i:=10) (N:=some 23) #[true,true,true,true,true,true,true,true,true,true,true,false,false] rfl rfl (Qho HT_.out qq_6) (by decide) (fun K hK=>?_)
     refine Qgo Tryz.func104 qq_6 rfl #[.string a0_3] (by rfl) rfl rfl qq_1 ?_
     with_reducible refine(Qbc.calls k a0_3 t304 _ A16.out).mono ?_
     rintro e w23 ⟨rfl,hb⟩
     refine⟨_,rfl,?_⟩
     have n0_:=QA (Qeh (g:=gb299) (o:=.cells #[.bool false,.int .u64 a0_1,.string a0_2,.string a0_3] 39 (0,0)) qq_0 hb)
     have n1_:=QA (Qfh qq_b hb)
     clear BK299 HB
     have BK299:=n0_
     have HB:=n1_
     clear n0_ n1_
     (try clear hb)
     (try clear hb2)
     (try clear hk)
     (try clear hi)
     refine hK.out _ _ ⟨(Qds BK299.out 0).trans rfl,(Qds BK299.out 1).trans rfl,(Qds BK299.out 2).trans rfl,(Qds BK299.out 3).trans rfl⟩ (fun hHeld=>?_)
     clear hK K
     refine Qgm (a':=?_) ?_ ?_
     rotate_left
     ·show Act.put _ (some 23) _=_
      simp only[Act.put,List.setIfInBounds_toArray,List.set_cons_zero,List.set_cons_succ,Qgr,Qgs]
      rfl
     refine Qgh (i:=11) (N:=some 24) (v:=?_) (a':=?_) #[true,true,true,true,true,true,true,true,true,true,true,true,false] rfl rfl (Qhn HT_.out qq_6) (fun _ _ _ h=>h) (Or.inl ⟨by rfl,?_⟩) ?_ ?_
     rotate_left
     ·intro w'
      go_simp
      with_reducible rfl
     rotate_left
     ·exact qq_2
     refine Qgh (i:=12) (N:=some 2) (v:=?_) (a':=?_) #[true,true,true,true,true,true,true,true,true,true,true,true,true] rfl rfl (Qhn HT_.out qq_6) (fun _ _ _ h=>h) (Or.inl ⟨by rfl,?_⟩) ?_ ?_
     rotate_left
     ·intro w'
      go_simp
      with_reducible rfl
     rotate_left
     ·exact qq_2
     refine Qgj (Qhq HT_.out qq_6) ?_
     try go_wp2
     go_ret
     exact⟨by first|rfl |(simp[Qis,Qit]<;>rfl) |(simp[*,Qis,Qit]<;>rfl),qq_b⟩
    ·rw[if_neg c17]at H
     exact absurd H (by simp)
   ·rw[if_neg c15]at H
    exact absurd H (by simp)
  ·rw[if_neg c13]at H
   exact absurd H (by simp)
def Qbs.f(k:Nat)(a0_0:Bool)(a0_1:Int)(a0_2:ByteArray)(a0_3:ByteArray):Option (ByteArray):=(Qbk.f k a0_0 a0_1 a0_2 a0_3).bind fun t306=>((Qbt.f k t306).bind fun t307=>(some t307))
theorem Qbs.calls(k:Nat)(a0_0:Bool)(a0_1:Int)(a0_2:ByteArray)(a0_3:ByteArray)(r:ByteArray)(w:World)(h:Qbs.f k a0_0 a0_1 a0_2 a0_3=some r) :
  Calls Tryz.prog 22 #[.agg #[.bool a0_0,.int .u64 a0_1,.string a0_2,.string a0_3]] w fun e w'=>e=.returned (.string r)∧Below w.heap.size w w':=by
 have hu39:=Tryz.underlying39
 have HB:=QA (Below.refl w.heap.size w)
 have H:((Qbk.f k a0_0 a0_1 a0_2 a0_3).bind fun t306=>((Qbt.f k t306).bind fun t307=>(some t307)))=some r:=h
 clear h
 replace H:=Option.bind_eq_some_iff.mp H
 obtain⟨t306,A20,H⟩:=H
 replace H:((Qbt.f k t306).bind fun t307=>(some t307))=some r:=H
 have A2:=QA A20
 clear A20
 replace H:=Option.bind_eq_some_iff.mp H
 obtain⟨t307,A30,H⟩:=H
 replace H:(some t307)=some r:=H
 have A3:=QA A30
 clear A30
 obtain rfl:=Option.some.inj H
 go_enter Tryz.func22,Tryz.ntmps22
 go_wp2_with (first |((with_reducible refine Qfs (N:=1) rfl ?_);refine qq_e 1 #[.bool a0_0,.int .u64 a0_1,.string a0_2,.string a0_3] 39 ?_;intro gb305 hg w4 hbox hb;have n0_:=QA (Qfh qq_b hb);have n1_:=QA (hbox);have n2_:=QA (qq_s hg:w.heap.size≤gb305);have n3_:=n2_;clear HB;have HB:=n0_;have BK305:=n1_;have GW305:=n2_;have GE305:=n3_;clear n0_ n1_ n2_ n3_ hb hbox hg;have hcz5_0:=qq_c (.bool a0_0) BK305.out 0 rfl;have hcz5_1:=qq_c (.int .u64 a0_1) BK305.out 1 rfl;have hcz5_2:=qq_c (.string a0_2) BK305.out 2 rfl;have hcz5_3:=qq_c (.string a0_3) BK305.out 3 rfl;have hfz5_0:=Qdt BK305.out 0;have hfz5_1:=Qdt BK305.out 1;have hfz5_2:=Qdt BK305.out 2;have hfz5_3:=Qdt BK305.out 3) |((with_reducible refine Qin (f:=62) rfl ?_);refine Qgp (some 4) rfl rfl Tryz.func62 qq_6 rfl #[.agg #[.bool a0_0,.int .u64 a0_1,.string a0_2,.string a0_3]] rfl qq_1 ?_;(with_reducible refine(Qbk.calls k a0_0 a0_1 a0_2 a0_3 t306 _ A2.out).mono ?_);rintro e w6 ⟨rfl,hb⟩;refine⟨_,rfl,?_⟩;have n0_:=QA (Qeh (g:=gb305) (o:=.cells #[.bool a0_0,.int .u64 a0_1,.string a0_2,.string a0_3] 39 (0,0)) qq_0 hb);have n1_:=QA (Qfh qq_b hb);clear BK305 HB;have BK305:=n0_;have HB:=n1_;clear n0_ n1_;(try clear hb);(try clear hb2);(try clear hk);(try clear hi)) |((with_reducible refine Qin (f:=61) rfl ?_);refine Qgp (some 5) rfl rfl Tryz.func61 qq_6 rfl #[.string t306] rfl qq_1 ?_;(with_reducible refine(Qbt.calls k t306 t307 _ A3.out).mono ?_);rintro e w7 ⟨rfl,hb⟩;refine⟨_,rfl,?_⟩;have n0_:=QA (Qeh (g:=gb305) (o:=.cells #[.bool a0_0,.int .u64 a0_1,.string a0_2,.string a0_3] 39 (0,0)) qq_0 hb);have n1_:=QA (Qfh qq_b hb);clear BK305 HB;have BK305:=n0_;have HB:=n1_;clear n0_ n1_;(try clear hb);(try clear hb2);(try clear hk);(try clear hi)))
 go_ret
 exact⟨by first|rfl |(simp[Qis,Qit]<;>rfl) |(simp[*,Qis,Qit]<;>rfl),qq_b⟩
def Qbr.f(k:Nat)(a0:ByteArray):Option (ByteArray × Int):=(Qbj.f k a0).bind fun bt634=>(if bt634.2=0 then(if(wrap64 ((bt634.1.size:Int)-8))<0 then(some ((⟨#[]⟩:ByteArray),2))else(if 0≤(wrap64 ((bt634.1.size:Int)-8))then(if(wrap64 ((bt634.1.size:Int)-8))≤(bt634.1.size:Int)then((Qay.f k (bt634.1.extract ((wrap64 ((bt634.1.size:Int)-8)):Int).toNat bt634.1.size)).bind fun t636=>((Qbd.f k 0 (bt634.1.extract 0 ((wrap64 ((bt634.1.size:Int)-8)):Int).toNat)).bind fun t637=>(if t636=t637 then(some (bt634.1.extract 0 ((wrap64 ((bt634.1.size:Int)-8)):Int).toNat,0))else(some ((⟨#[]⟩:ByteArray),5)))))else(none))else(none)))else(some ((⟨#[]⟩:ByteArray),bt634.2)))
def Qbr.T7:Bool × List (List Nat × List Nat):=(true,[([],[]),([],[]),([0,1],[0,1]),([2],[2]),([],[]),([],[]),([4,5],[4,5]),([6,3],[6]),([3,7],[3,7])])
def Qbr.B7:List Nat:=[0,0,3,7,0,0,48,127,255]
theorem Qbr.tab7:rtab .any (Qhx Tryz.f135 7)=Qbr.T7:=by kernel_rfl
theorem Qbr.bits7:Qhr Qbr.T7.2 Qbr.B7=true:=by kernel_rfl
theorem Qbr.calls(k:Nat)(a0:ByteArray)(r1:ByteArray)(r2:Int)(w:World)(h:Qbr.f k a0=some (r1,r2)) :
  Calls Tryz.prog 135 #[.string a0] w fun e w'=>e=.returned (.tuple #[.string r1,.int .i64 r2])∧Below w.heap.size w w':=by
 have HB:=QA (Below.refl w.heap.size w)
 have H:((Qbj.f k a0).bind fun bt634=>(if bt634.2=0 then(if(wrap64 ((bt634.1.size:Int)-8))<0 then(some ((⟨#[]⟩:ByteArray),2))else(if 0≤(wrap64 ((bt634.1.size:Int)-8))then(if(wrap64 ((bt634.1.size:Int)-8))≤(bt634.1.size:Int)then((Qay.f k (bt634.1.extract ((wrap64 ((bt634.1.size:Int)-8)):Int).toNat bt634.1.size)).bind fun t636=>((Qbd.f k 0 (bt634.1.extract 0 ((wrap64 ((bt634.1.size:Int)-8)):Int).toNat)).bind fun t637=>(if t636=t637 then(some (bt634.1.extract 0 ((wrap64 ((bt634.1.size:Int)-8)):Int).toNat,0))else(some ((⟨#[]⟩:ByteArray),5)))))else(none))else(none)))else(some ((⟨#[]⟩:ByteArray),bt634.2))))=some (r1,r2):=h
 clear h
 replace H:=Option.bind_eq_some_iff.mp H
 obtain⟨⟨t634,t635⟩,A20,H⟩:=H
 replace H:(if t635=0 then(if(wrap64 ((t634.size:Int)-8))<0 then(some ((⟨#[]⟩:ByteArray),2))else(if 0≤(wrap64 ((t634.size:Int)-8))then(if(wrap64 ((t634.size:Int)-8))≤(t634.size:Int)then((Qay.f k (t634.extract ((wrap64 ((t634.size:Int)-8)):Int).toNat t634.size)).bind fun t636=>((Qbd.f k 0 (t634.extract 0 ((wrap64 ((t634.size:Int)-8)):Int).toNat)).bind fun t637=>(if t636=t637 then(some (t634.extract 0 ((wrap64 ((t634.size:Int)-8)):Int).toNat,0))else(some ((⟨#[]⟩:ByteArray),5)))))else(none))else(none)))else(some ((⟨#[]⟩:ByteArray),t635)))=some (r1,r2):=H
 have A2:=QA A20
 clear A20
 by_cases c3:t635=0
 ·rw [if_pos c3]at H
  have c3b0:(t635 == 0)=true:=beq_iff_eq.mpr c3
  have c3b1:(t635 != 0)=false:=bne_eq_false_iff_eq.mpr c3
  clear c3
  by_cases c4:(wrap64 ((t634.size:Int)-8))<0
  ·rw[if_pos c4]at H
   have c4b0:decide ((wrap64 ((t634.size:Int)-8))<0)=true:=decide_eq_true c4
   clear c4
   simp only[Option.some.injEq,Prod.mk.injEq]at H
   obtain⟨rfl,rfl⟩:=H
   go_enter Tryz.func135,Tryz.ntmps135
   go_wp2_with (first |((with_reducible refine Qin (f:=186) rfl ?_);refine Qgp (some 9) rfl rfl Tryz.func186 qq_6 rfl #[.string a0] rfl qq_1 ?_;(with_reducible refine(Qbj.calls k a0 t634 t635 _ A2.out).mono ?_);rintro e w5 ⟨rfl,hb⟩;refine⟨_,rfl,?_⟩;have n0_:=QA (Qfh qq_b hb);clear HB;have HB:=n0_;clear n0_;(try clear hb);(try clear hb2);(try clear hk);(try clear hi)))
   go_ret2
   exact⟨by first|rfl |(simp[Qis,Qit]<;>rfl) |(simp[*,Qis,Qit]<;>rfl),qq_b⟩
  ·rw [if_neg c4]at H
   have c4b0:decide ((wrap64 ((t634.size:Int)-8))<0)=false:=decide_eq_false c4
   clear c4
   obtain⟨ji6,hji6⟩:∃j_:Int,(wrap64 ((t634.size:Int)-8))=j_:=⟨_,rfl⟩
   replace H:(if 0≤(ji6)then(if(ji6)≤(t634.size:Int)then((Qay.f k (t634.extract ((ji6):Int).toNat t634.size)).bind fun t636=>((Qbd.f k 0 (t634.extract 0 ((ji6):Int).toNat)).bind fun t637=>(if t636=t637 then(some (t634.extract 0 ((ji6):Int).toNat,0))else(some ((⟨#[]⟩:ByteArray),5)))))else(none))else(none))=some (r1,r2):=by first |(rw[hji6]at H;exact H) |(simp only[hji6]at H ⊢;exact H)
   (try rw[hji6]at c4b0)
   (try rw[hji6]at A2)
   have hji6w:(IntKind.i64.wrap ((t634.size:Int)-8))=ji6:=(Qgr _).trans hji6
   by_cases c7:0≤(ji6)
   ·rw [if_pos c7]at H
    have c7b0:=eq_true c7
    have c7b1:decide (0≤(ji6))=true:=decide_eq_true c7
    clear c7
    by_cases c8:(ji6)≤(t634.size:Int)
    ·rw[if_pos c8]at H
     have c8b0:=eq_true c8
     have c8b1:decide ((ji6)≤(t634.size:Int))=true:=decide_eq_true c8
     clear c8
     replace H:=Option.bind_eq_some_iff.mp H
     obtain⟨t636,A90,H⟩:=H
     replace H:((Qbd.f k 0 (t634.extract 0 ((ji6):Int).toNat)).bind fun t637=>(if t636=t637 then(some (t634.extract 0 ((ji6):Int).toNat,0))else(some ((⟨#[]⟩:ByteArray),5))))=some (r1,r2):=H
     have A9:=QA A90
     clear A90
     have c10b0:=eq_true (of_decide_eq_true qq_4:0≤(ji6))
     have c11b0:=eq_true (of_decide_eq_true qq_4:(ji6)≤(t634.size:Int))
     replace H:=Option.bind_eq_some_iff.mp H
     obtain⟨t637,A120,H⟩:=H
     replace H:(if t636=t637 then(some (t634.extract 0 ((ji6):Int).toNat,0))else(some ((⟨#[]⟩:ByteArray),5)))=some (r1,r2):=H
     have A12:=QA A120
     clear A120
     by_cases c13:t636=t637
     ·rw[if_pos c13]at H
      have c13b0:(t636 == t637)=true:=beq_iff_eq.mpr c13
      have c13b1:(t636 != t637)=false:=bne_eq_false_iff_eq.mpr c13
      clear c13
      have c14b0:=eq_true (of_decide_eq_true qq_4:0≤(ji6))
      have c15b0:=eq_true (of_decide_eq_true qq_4:(ji6)≤(t634.size:Int))
      simp only[Option.some.injEq,Prod.mk.injEq]at H
      obtain⟨rfl,rfl⟩:=H
      go_enter Tryz.func135,Tryz.ntmps135
      try go_wp2_with (first |((with_reducible refine Qin (f:=186) rfl ?_);refine Qgp (some 9) rfl rfl Tryz.func186 qq_6 rfl #[.string a0] rfl qq_1 ?_;(with_reducible refine(Qbj.calls k a0 t634 t635 _ A2.out).mono ?_);rintro e w16 ⟨rfl,hb⟩;refine⟨_,rfl,?_⟩;have n0_:=QA (Qfh qq_b hb);clear HB;have HB:=n0_;clear n0_;(try clear hb);(try clear hb2);(try clear hk);(try clear hi)))
      have n0_:=QA (Qfo HB.out)
      clear HB
      have HB:=n0_
      clear n0_
      refine Qge (n:=9) (S:=fun w'=>True) (ds:=[]) #[false,false,false,false,false,false,false,false,false] qq_6 rfl rfl trivial (fun hHeld=>?_);refine Qhv Qbr.tab7 Qbr.bits7 (fun HT_ HW_=>?_)
      generalize w16.drew=w17 at HB hHeld ⊢
      refine Qgh (i:=0) (N:=some 20) (v:=?_) (a':=?_) #[true,false,false,false,false,false,false,false,false] rfl rfl (Qhn HT_.out qq_6) (fun _ _ _ h=>h) (Or.inl ⟨by rfl,?_⟩) ?_ ?_
      rotate_left
      ·intro w'
       go_simp
       with_reducible rfl
      rotate_left
      ·exact qq_2
      refine Qgh (i:=1) (N:=some 21) (v:=?_) (a':=?_) #[true,true,false,false,false,false,false,false,false] rfl rfl (Qhn HT_.out qq_6) (fun _ _ _ h=>h) (Or.inl ⟨by rfl,?_⟩) ?_ ?_
      rotate_left
      ·intro w'
       go_simp
       with_reducible rfl
      rotate_left
      ·exact qq_2
      refine Qgh (i:=2) (N:=some 22) (v:=?_) (a':=?_) #[true,true,true,false,false,false,false,false,false] rfl rfl (Qhn HT_.out qq_6) (fun _ _ _ h=>h) (Or.inl ⟨by rfl,?_⟩) ?_ ?_
      rotate_left
      ·intro w'
       go_simp
       with_reducible rfl
      rotate_left
      ·exact qq_2
      refine Qgh (i:=4) (N:=some 24) (v:=?_) (a':=?_) #[true,true,true,false,true,false,false,false,false] rfl rfl (Qhn HT_.out qq_6) (fun _ _ _ h=>h) (Or.inl ⟨by rfl,?_⟩) ?_ ?_
      rotate_left
      ·intro w'
       go_simp
       with_reducible rfl
      rotate_left
      ·exact qq_2
      refine Qgh (i:=5) (N:=some 25) (v:=?_) (a':=?_) #[true,true,true,false,true,true,false,false,false] rfl rfl (Qhn HT_.out qq_6) (fun _ _ _ h=>h) (Or.inl ⟨by rfl,?_⟩) ?_ ?_
      rotate_left
      ·intro w'
       go_simp
       with_reducible rfl
      rotate_left
      ·exact qq_2
      refine Qgh (i:=6) (N:=some 26) (v:=?_) (a':=?_) #[true,true,true,false,true,true,true,false,false] rfl rfl (Qhn HT_.out qq_6) (fun _ _ _ h=>h) (Or.inl ⟨by rfl,?_⟩) ?_ ?_
      rotate_left
      ·intro w'
       go_simp
       with_reducible rfl
      rotate_left
      ·exact qq_2
      refine one_ (i:=3) (N:=some 23) #[true,true,true,true,true,true,true,false,false] rfl rfl (Qho HT_.out qq_6) (by decide) (fun K hK=>?_)
      refine Qgo Tryz.func107 qq_6 rfl #[.string (t634.extract ((ji6):Int).toNat t634.size)] (by rfl) rfl rfl qq_14 ?_
      with_reducible refine(Qay.calls k (t634.extract ((ji6):Int).toNat t634.size) t636 _ A9.out).mono ?_
      rintro e w' ⟨rfl,⟨nd,rfl⟩⟩
      refine⟨_,rfl,?_⟩
      refine hK.out _ _ trivial (fun hHeld=>?_)
      clear hK K
      refine Qgm (a':=?_) ?_ ?_
      rotate_left
      ·show Act.put _ (some 23) _=_
       simp only[Act.put,List.setIfInBounds_toArray,List.set_cons_zero,List.set_cons_succ,Qgr,Qgs]
       rfl
      refine one_ (i:=7) (N:=some 27) #[true,true,true,true,true,true,true,true,false] rfl rfl (Qho HT_.out qq_6) (by decide) (fun K hK=>?_)
      refine Qgo Tryz.func65 qq_6 rfl #[.int .u64 0,.string (t634.extract 0 ((ji6):Int).toNat)] (by rfl) rfl rfl qq_14 ?_
      with_reducible refine(Qbd.calls k 0 (t634.extract 0 ((ji6):Int).toNat) t637 _ A12.out).mono ?_
      rintro e w18 ⟨rfl,hb⟩
      refine⟨_,rfl,?_⟩
      have n0_:=QA (Qfh qq_b hb)
      clear HB
      have HB:=n0_
      clear n0_
      (try clear hb)
      (try clear hb2)
      (try clear hk)
      (try clear hi)
      refine hK.out _ _ trivial (fun hHeld=>?_)
      clear hK K
      refine Qgm (a':=?_) ?_ ?_
      rotate_left
      ·show Act.put _ (some 27) _=_
       simp only[Act.put,List.setIfInBounds_toArray,List.set_cons_zero,List.set_cons_succ,Qgr,Qgs]
       rfl
      refine Qgh (i:=8) (N:=some 28) (v:=?_) (a':=?_) #[true,true,true,true,true,true,true,true,true] rfl rfl (Qhn HT_.out qq_6) (fun _ _ _ h=>h) (Or.inl ⟨by rfl,?_⟩) ?_ ?_
      rotate_left
      ·intro w'
       go_simp
       with_reducible rfl
      rotate_left
      ·exact qq_2
      refine Qgj (Qhq HT_.out qq_6) ?_
      try go_wp2
      go_ret2
      exact⟨by first|rfl |(simp[Qis,Qit]<;>rfl) |(simp only[← hji6];first|rfl |(simp[Qis,Qit]<;>rfl)) |(simp[*,Qis,Qit]<;>rfl),qq_b⟩
     ·rw[if_neg c13]at H
      have c13b0:(t636 == t637)=false:=beq_eq_false_iff_ne.mpr c13
      have c13b1:(t636 != t637)=true:=bne_iff_ne.mpr c13
      simp only[Option.some.injEq,Prod.mk.injEq]at H
      obtain⟨rfl,rfl⟩:=H
      go_enter Tryz.func135,Tryz.ntmps135
      try go_wp2_with (first |((with_reducible refine Qin (f:=186) rfl ?_);refine Qgp (some 9) rfl rfl Tryz.func186 qq_6 rfl #[.string a0] rfl qq_1 ?_;(with_reducible refine(Qbj.calls k a0 t634 t635 _ A2.out).mono ?_);rintro e w19 ⟨rfl,hb⟩;refine⟨_,rfl,?_⟩;have n0_:=QA (Qfh qq_b hb);clear HB;have HB:=n0_;clear n0_;(try clear hb);(try clear hb2);(try clear hk);(try clear hi)))
      have n0_:=QA (Qfo HB.out)
      clear HB
      have HB:=n0_
      clear n0_
      refine Qge (n:=9) (S:=fun w'=>True) (ds:=[]) #[false,false,false,false,false,false,false,false,false] qq_6 rfl rfl trivial (fun hHeld=>?_);refine Qhv Qbr.tab7 Qbr.bits7 (fun HT_ HW_=>?_)
      generalize w19.drew=w20 at HB hHeld ⊢
      refine Qgh (i:=0) (N:=some 20) (v:=?_) (a':=?_) #[true,false,false,false,false,false,false,false,false] rfl rfl (Qhn HT_.out qq_6) (fun _ _ _ h=>h) (Or.inl ⟨by rfl,?_⟩) ?_ ?_
      rotate_left
      ·intro w'
       go_simp
       with_reducible rfl
      rotate_left
      ·exact qq_2
      refine Qgh (i:=1) (N:=some 21) (v:=?_) (a':=?_) #[true,true,false,false,false,false,false,false,false] rfl rfl (Qhn HT_.out qq_6) (fun _ _ _ h=>h) (Or.inl ⟨by rfl,?_⟩) ?_ ?_
      rotate_left
      ·intro w'
       go_simp
       with_reducible rfl
      rotate_left
      ·exact qq_2
      refine Qgh (i:=2) (N:=some 22) (v:=?_) (a':=?_) #[true,true,true,false,false,false,false,false,false] rfl rfl (Qhn HT_.out qq_6) (fun _ _ _ h=>h) (Or.inl ⟨by rfl,?_⟩) ?_ ?_
      rotate_left
      ·intro w'
       go_simp
       with_reducible rfl
      rotate_left
      ·exact qq_2
      refine Qgh (i:=4) (N:=some 24) (v:=?_) (a':=?_) #[true,true,true,false,true,false,false,false,false] rfl rfl (Qhn HT_.out qq_6) (fun _ _ _ h=>h) (Or.inl ⟨by rfl,?_⟩) ?_ ?_
      rotate_left
      ·intro w'
       go_simp
       with_reducible rfl
      rotate_left
      ·exact qq_2
      refine Qgh (i:=5) (N:=some 25) (v:=?_) (a':=?_) #[true,true,true,false,true,true,false,false,false] rfl rfl (Qhn HT_.out qq_6) (fun _ _ _ h=>h) (Or.inl ⟨by rfl,?_⟩) ?_ ?_
      rotate_left
      ·intro w'
       go_simp
       with_reducible rfl
      rotate_left
      ·exact qq_2
      refine Qgh (i:=6) (N:=some 26) (v:=?_) (a':=?_) #[true,true,true,false,true,true,true,false,false] rfl rfl (Qhn HT_.out qq_6) (fun _ _ _ h=>h) (Or.inl ⟨by rfl,?_⟩) ?_ ?_
      rotate_left
      ·intro w'
       go_simp
       with_reducible rfl
      rotate_left
      ·exact qq_2
      refine one_ (i:=3) (N:=some 23) #[true,true,true,true,true,true,true,false,false] rfl rfl (Qho HT_.out qq_6) (by decide) (fun K hK=>?_)
      refine Qgo Tryz.func107 qq_6 rfl #[.string (t634.extract ((ji6):Int).toNat t634.size)] (by rfl) rfl rfl qq_14 ?_
      with_reducible refine(Qay.calls k (t634.extract ((ji6):Int).toNat t634.size) t636 _ A9.out).mono ?_
      rintro e w' ⟨rfl,⟨nd,rfl⟩⟩
      refine⟨_,rfl,?_⟩
      refine hK.out _ _ trivial (fun hHeld=>?_)
      clear hK K
      refine Qgm (a':=?_) ?_ ?_
      rotate_left
      ·show Act.put _ (some 23) _=_
       simp only[Act.put,List.setIfInBounds_toArray,List.set_cons_zero,List.set_cons_succ,Qgr,Qgs]
       rfl
      refine one_ (i:=7) (N:=some 27) #[true,true,true,true,true,true,true,true,false] rfl rfl (Qho HT_.out qq_6) (by decide) (fun K hK=>?_)
      refine Qgo Tryz.func65 qq_6 rfl #[.int .u64 0,.string (t634.extract 0 ((ji6):Int).toNat)] (by rfl) rfl rfl qq_14 ?_
      with_reducible refine(Qbd.calls k 0 (t634.extract 0 ((ji6):Int).toNat) t637 _ A12.out).mono ?_
      rintro e w21 ⟨rfl,hb⟩
      refine⟨_,rfl,?_⟩
      have n0_:=QA (Qfh qq_b hb)
      clear HB
      have HB:=n0_
      clear n0_
      (try clear hb)
      (try clear hb2)
      (try clear hk)
      (try clear hi)
      refine hK.out _ _ trivial (fun hHeld=>?_)
      clear hK K
      refine Qgm (a':=?_) ?_ ?_
      rotate_left
      ·show Act.put _ (some 27) _=_
       simp only[Act.put,List.setIfInBounds_toArray,List.set_cons_zero,List.set_cons_succ,Qgr,Qgs]
       rfl
      refine Qgh (i:=8) (N:=some 28) (v:=?_) (a':=?_) #[true,true,true,true,true,true,true,true,true] rfl rfl (Qhn HT_.out qq_6) (fun _ _ _ h=>h) (Or.inl ⟨by rfl,?_⟩) ?_ ?_
      rotate_left
      ·intro w'
       go_simp
       with_reducible rfl
      rotate_left
      ·exact qq_2
      refine Qgj (Qhq HT_.out qq_6) ?_
      try go_wp2
      go_ret2
      exact⟨by first|rfl |(simp[Qis,Qit]<;>rfl) |(simp only[← hji6];first|rfl |(simp[Qis,Qit]<;>rfl)) |(simp[*,Qis,Qit]<;>rfl),qq_b⟩
    ·rw[if_neg c8]at H
     exact absurd H (by simp)
   ·rw[if_neg c7]at H
    exact absurd H (by simp)
 ·rw[if_neg c3]at H
  have c3b0:(t635 == 0)=false:=beq_eq_false_iff_ne.mpr c3
  have c3b1:(t635 != 0)=true:=bne_iff_ne.mpr c3
  simp only[Option.some.injEq,Prod.mk.injEq]at H
  obtain⟨rfl,rfl⟩:=H
  go_enter Tryz.func135,Tryz.ntmps135
  go_wp2_with (first |((with_reducible refine Qin (f:=186) rfl ?_);refine Qgp (some 9) rfl rfl Tryz.func186 qq_6 rfl #[.string a0] rfl qq_1 ?_;(with_reducible refine(Qbj.calls k a0 t634 t635 _ A2.out).mono ?_);rintro e w22 ⟨rfl,hb⟩;refine⟨_,rfl,?_⟩;have n0_:=QA (Qfh qq_b hb);clear HB;have HB:=n0_;clear n0_;(try clear hb);(try clear hb2);(try clear hk);(try clear hi)))
  go_ret2
  exact⟨by first|rfl |(simp[Qis,Qit]<;>rfl) |(simp[*,Qis,Qit]<;>rfl),qq_b⟩
end Go.Proofs.YtnnofopfbeklbaaGreat.C
end
