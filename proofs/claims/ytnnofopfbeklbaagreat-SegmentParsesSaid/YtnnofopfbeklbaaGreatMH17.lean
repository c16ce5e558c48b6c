/- Texts of this claim's author and of the print of its functions, merged by merge.py. -/
import Derived.Test.YtnnofopfbeklbaaGreatMH02
import Derived.Test.YtnnofopfbeklbaaGreatMH03
import Derived.Test.YtnnofopfbeklbaaGreatMH14
import Derived.Test.YtnnofopfbeklbaaGreatMH08
import Derived.Test.YtnnofopfbeklbaaGreatMH15
import Derived.Test.YtnnofopfbeklbaaGreatMH10
import Derived.Test.YtnnofopfbeklbaaGreatMH16
set_option linter.unusedVariables false
set_option linter.unusedSimpArgs false
set_option maxHeartbeats 8000000
set_option maxRecDepth 100000
section
namespace Go.Proofs.YtnnofopfbeklbaaGreat.C
open Go.RowKit Go.Proofs.YtnnofopfbeklbaaGreatW.PrintWords Go.Proofs.YtnnofopfbeklbaaGreatW.PrintLast Go.Proofs.YtnnofopfbeklbaaGreatW.PrintMore
attribute [local go_sem] Qif Qig Qih Qii Qij Qik Qil Qim
def Qca.f(k:Nat)(a0_0:Int)(l0_1:List (S122)):Option (ByteArray):=(Qaw.f k (IntKind.u64.wrap ((l0_1.length:Int))) 4).bind fun t475=>(if 1+t475.size≤9223372036854775807 then((Qaw.f k (IntKind.u64.wrap (a0_0)) 4).bind fun t476=>(if((⟨#[4]⟩:ByteArray)++t475).size+t476.size≤9223372036854775807 then((Qbw.f k l0_1).bind fun t477=>(if(((⟨#[4]⟩:ByteArray)++t475)++t476).size+t477.size≤9223372036854775807 then((Qby.f k l0_1).bind fun t478=>((Qbz.f k t478).bind fun t481=>(if((((⟨#[4]⟩:ByteArray)++t475)++t476)++t477).size+t481.size≤9223372036854775807 then((Qbt.f k (((((⟨#[4]⟩:ByteArray)++t475)++t476)++t477)++t481)).bind fun t482=>(some t482))else(none))))else(none)))else(none)))else(none))
def Qca.T1:Bool × List (List Nat × List Nat):=(true,[([],[]),([0],[0]),([1],[1]),([2],[2]),([3],[3]),([4],[4]),([],[]),([6],[6]),([7],[7]),([8,4],[8]),([5,9],[5,9]),([10,9,0,1,2,3,4,5,6,7,8,9,10],[10])])
def Qca.B1:List Nat:=[0,1,3,7,15,31,0,64,192,479,1023,2047]
theorem Qca.tab1:rtab .any (Qhx Tryz.f71 1)=Qca.T1:=by kernel_rfl
theorem Qca.bits1:Qhr Qca.T1.2 Qca.B1=true:=by kernel_rfl
def Qca.T2:Bool × List (List Nat × List Nat):=(true,[([],[]),([],[]),([1],[1]),([2],[2]),([0,3],[0,3]),([],[]),([5],[5]),([6,3],[6]),([7,7],[7]),([4,8],[4,8]),([9,8],[9]),([10,10,0,1,2,3,4,5,6,7,8,9,10],[10])])
def Qca.B2:List Nat:=[0,0,2,6,15,0,32,110,238,511,1023,2047]
theorem Qca.tab2:rtab .any (Qhx Tryz.f71 2)=Qca.T2:=by kernel_rfl
theorem Qca.bits2:Qhr Qca.T2.2 Qca.B2=true:=by kernel_rfl
theorem Qca.calls(k:Nat)(a0_0:Int)(A0_1:Option Addr)(c0_1:Nat)(l0_1:List (S122))(r:ByteArray)(w:World)(hr0_1:Kd.C k122 w A0_1 l0_1.length l0_1)(hc0_1:l0_1.length≤c0_1)(h:Qca.f k a0_0 l0_1=some r) :
  Calls Tryz.prog 71 #[.agg #[.int .u32 a0_0,.slice A0_1 l0_1.length c0_1]] w fun e w'=>e=.returned (.string r)∧Below w.heap.size w w':=by
 have hu131:=Tryz.underlying131
 have HR0_1:=QA hr0_1
 have HC0_1:=QA hc0_1
 clear hr0_1 hc0_1
 have HB:=QA (Below.refl w.heap.size w)
 have H:((Qaw.f k (IntKind.u64.wrap ((l0_1.length:Int))) 4).bind fun t475=>(if 1+t475.size≤9223372036854775807 then((Qaw.f k (IntKind.u64.wrap (a0_0)) 4).bind fun t476=>(if((⟨#[4]⟩:ByteArray)++t475).size+t476.size≤9223372036854775807 then((Qbw.f k l0_1).bind fun t477=>(if(((⟨#[4]⟩:ByteArray)++t475)++t476).size+t477.size≤9223372036854775807 then((Qby.f k l0_1).bind fun t478=>((Qbz.f k t478).bind fun t481=>(if((((⟨#[4]⟩:ByteArray)++t475)++t476)++t477).size+t481.size≤9223372036854775807 then((Qbt.f k (((((⟨#[4]⟩:ByteArray)++t475)++t476)++t477)++t481)).bind fun t482=>(some t482))else(none))))else(none)))else(none)))else(none)))=some r:=h
 clear h
 replace H:=Option.bind_eq_some_iff.mp H
 obtain⟨t475,A20,H⟩:=H
 replace H:(if 1+t475.size≤9223372036854775807 then((Qaw.f k (IntKind.u64.wrap (a0_0)) 4).bind fun t476=>(if((⟨#[4]⟩:ByteArray)++t475).size+t476.size≤9223372036854775807 then((Qbw.f k l0_1).bind fun t477=>(if(((⟨#[4]⟩:ByteArray)++t475)++t476).size+t477.size≤9223372036854775807 then((Qby.f k l0_1).bind fun t478=>((Qbz.f k t478).bind fun t481=>(if((((⟨#[4]⟩:ByteArray)++t475)++t476)++t477).size+t481.size≤9223372036854775807 then((Qbt.f k (((((⟨#[4]⟩:ByteArray)++t475)++t476)++t477)++t481)).bind fun t482=>(some t482))else(none))))else(none)))else(none)))else(none))=some r:=H
 have A2:=QA A20
 clear A20
 by_cases c3:1+t475.size≤9223372036854775807
 ·rw [if_pos c3]at H
  have c3b0:=eq_true c3
  have c3b1:decide (1+t475.size≤9223372036854775807)=true:=decide_eq_true c3
  try have c3b2:(9223372036854775807<1+t475.size)=False:=eq_false (Nat.not_lt.2 c3)
  replace H:=Option.bind_eq_some_iff.mp H
  obtain⟨t476,A40,H⟩:=H
  replace H:(if((⟨#[4]⟩:ByteArray)++t475).size+t476.size≤9223372036854775807 then((Qbw.f k l0_1).bind fun t477=>(if(((⟨#[4]⟩:ByteArray)++t475)++t476).size+t477.size≤9223372036854775807 then((Qby.f k l0_1).bind fun t478=>((Qbz.f k t478).bind fun t481=>(if((((⟨#[4]⟩:ByteArray)++t475)++t476)++t477).size+t481.size≤9223372036854775807 then((Qbt.f k (((((⟨#[4]⟩:ByteArray)++t475)++t476)++t477)++t481)).bind fun t482=>(some t482))else(none))))else(none)))else(none))=some r:=H
  have A4:=QA A40
  clear A40
  by_cases c5:((⟨#[4]⟩:ByteArray)++t475).size+t476.size≤9223372036854775807
  ·rw [if_pos c5]at H
   have c5b0:=eq_true c5
   have c5b1:decide (((⟨#[4]⟩:ByteArray)++t475).size+t476.size≤9223372036854775807)=true:=decide_eq_true c5
   try have c5b2:(9223372036854775807<((⟨#[4]⟩:ByteArray)++t475).size+t476.size)=False:=eq_false (Nat.not_lt.2 c5)
   try have c5b3:=c5b2
   try simp only[ByteArray.size_append,(show ∀x_:UInt8,(⟨#[x_]⟩:ByteArray).size=1 from fun _=>rfl),(show ∀x_ y_:UInt8,(⟨#[x_,y_]⟩:ByteArray).size=2 from fun _ _=>rfl)]at c5b3
   try have c5b4:=c5b2
   try simp only[ByteArray.size_append,ByteArray.size_extract,(show ∀x_:UInt8,(⟨#[x_]⟩:ByteArray).size=1 from fun _=>rfl),(show ∀x_ y_:UInt8,(⟨#[x_,y_]⟩:ByteArray).size=2 from fun _ _=>rfl)]at c5b4
   replace H:=Option.bind_eq_some_iff.mp H
   obtain⟨t477,A60,H⟩:=H
   replace H:(if(((⟨#[4]⟩:ByteArray)++t475)++t476).size+t477.size≤9223372036854775807 then((Qby.f k l0_1).bind fun t478=>((Qbz.f k t478).bind fun t481=>(if((((⟨#[4]⟩:ByteArray)++t475)++t476)++t477).size+t481.size≤9223372036854775807 then((Qbt.f k (((((⟨#[4]⟩:ByteArray)++t475)++t476)++t477)++t481)).bind fun t482=>(some t482))else(none))))else(none))=some r:=H
   have A6:=QA A60
   clear A60
   by_cases c7:(((⟨#[4]⟩:ByteArray)++t475)++t476).size+t477.size≤9223372036854775807
   ·rw[if_pos c7]at H
    have c7b0:=eq_true c7
    have c7b1:decide ((((⟨#[4]⟩:ByteArray)++t475)++t476).size+t477.size≤9223372036854775807)=true:=decide_eq_true c7
    try have c7b2:(9223372036854775807<(((⟨#[4]⟩:ByteArray)++t475)++t476).size+t477.size)=False:=eq_false (Nat.not_lt.2 c7)
    try have c7b3:=c7b2
    try simp only[ByteArray.size_append,(show ∀x_:UInt8,(⟨#[x_]⟩:ByteArray).size=1 from fun _=>rfl),(show ∀x_ y_:UInt8,(⟨#[x_,y_]⟩:ByteArray).size=2 from fun _ _=>rfl)]at c7b3
    try have c7b4:=c7b2
    try simp only[ByteArray.size_append,ByteArray.size_extract,(show ∀x_:UInt8,(⟨#[x_]⟩:ByteArray).size=1 from fun _=>rfl),(show ∀x_ y_:UInt8,(⟨#[x_,y_]⟩:ByteArray).size=2 from fun _ _=>rfl)]at c7b4
    replace H:=Option.bind_eq_some_iff.mp H
    obtain⟨t478,A80,H⟩:=H
    replace H:((Qbz.f k t478).bind fun t481=>(if((((⟨#[4]⟩:ByteArray)++t475)++t476)++t477).size+t481.size≤9223372036854775807 then((Qbt.f k (((((⟨#[4]⟩:ByteArray)++t475)++t476)++t477)++t481)).bind fun t482=>(some t482))else(none)))=some r:=H
    have A8:=QA A80
    clear A80
    replace H:=Option.bind_eq_some_iff.mp H
    obtain⟨t481,A90,H⟩:=H
    replace H:(if((((⟨#[4]⟩:ByteArray)++t475)++t476)++t477).size+t481.size≤9223372036854775807 then((Qbt.f k (((((⟨#[4]⟩:ByteArray)++t475)++t476)++t477)++t481)).bind fun t482=>(some t482))else(none))=some r:=H
    have A9:=QA A90
    clear A90
    by_cases c10:((((⟨#[4]⟩:ByteArray)++t475)++t476)++t477).size+t481.size≤9223372036854775807
    ·rw[if_pos c10]at H
     have c10b0:=eq_true c10
     have c10b1:decide (((((⟨#[4]⟩:ByteArray)++t475)++t476)++t477).size+t481.size≤9223372036854775807)=true:=decide_eq_true c10
     try have c10b2:(9223372036854775807<((((⟨#[4]⟩:ByteArray)++t475)++t476)++t477).size+t481.size)=False:=eq_false (Nat.not_lt.2 c10)
     try have c10b3:=c10b2
     try simp only[ByteArray.size_append,(show ∀x_:UInt8,(⟨#[x_]⟩:ByteArray).size=1 from fun _=>rfl),(show ∀x_ y_:UInt8,(⟨#[x_,y_]⟩:ByteArray).size=2 from fun _ _=>rfl)]at c10b3
     try have c10b4:=c10b2
     try simp only[ByteArray.size_append,ByteArray.size_extract,(show ∀x_:UInt8,(⟨#[x_]⟩:ByteArray).size=1 from fun _=>rfl),(show ∀x_ y_:UInt8,(⟨#[x_,y_]⟩:ByteArray).size=2 from fun _ _=>rfl)]at c10b4
     replace H:=Option.bind_eq_some_iff.mp H
     obtain⟨t482,A110,H⟩:=H
     replace H:(some t482)=some r:=H
     have A11:=QA A110
     clear A110
     obtain rfl:=Option.some.inj H
     go_enter Tryz.func71,Tryz.ntmps71
     try go_wp2_with (first |((with_reducible refine Qfs (N:=1) rfl ?_);refine qq_e 1 #[.int .u32 a0_0,.slice A0_1 l0_1.length c0_1] 131 ?_;intro gb474 hg w12 hbox hb;have n0_:=QA (Qfh qq_b hb);have n1_:=QA (hbox);have n2_:=QA (qq_s hg:w.heap.size≤gb474);have n3_:=n2_;clear HB;have HB:=n0_;have BK474:=n1_;have GW474:=n2_;have GE474:=n3_;clear n0_ n1_ n2_ n3_;clear hb hbox hg))
     have n0_:=QA (Qef BK474.out)
     have n1_:=QA (Qfo HB.out)
     clear BK474 HB
     have BK474:=n0_
     have HB:=n1_
     clear n0_ n1_
     refine Qge (n:=12) (S:=fun w'=>w'.cell? ⟨gb474,0,none⟩=some (.int .u32 a0_0)∧w'.cell? ⟨gb474,1,none⟩=some (.slice A0_1 l0_1.length c0_1)) (ds:=[]) #[false,false,false,false,false,false,false,false,false,false,false,false] qq_6 rfl rfl ⟨(Qds BK474.out 0).trans rfl,(Qds BK474.out 1).trans rfl⟩ (fun hHeld=>?_);refine Qhv Qca.tab1 Qca.bits1 (fun HT_ HW_=>?_)
     generalize w12.drew=w13 at BK474 HB hHeld ⊢
     refine Qgh (i:=0) (N:=some 4) (v:=?_) (a':=?_) #[true,false,false,false,false,false,false,false,false,false,false,false] rfl rfl (Qhn HT_.out qq_6) (fun _ _ _ h=>h) (Or.inl ⟨by rfl,?_⟩) ?_ ?_
     rotate_left
     ·intro w'
      go_simp
      with_reducible rfl
     rotate_left
     ·exact qq_2
     refine Qgh (i:=6) (N:=some 10) (v:=?_) (a':=?_) #[true,false,false,false,false,false,true,false,false,false,false,false] rfl rfl (Qhn HT_.out qq_6) (fun _ _ _ h=>h) (Or.inl ⟨by rfl,?_⟩) ?_ ?_
     rotate_left
     ·intro w'
      go_simp
      with_reducible rfl
     rotate_left
     ·exact qq_2
     refine Qgg (i:=1) (N:=some 5) (v:=?_) (a':=?_) #[true,true,false,false,false,false,true,false,false,false,false,false] rfl rfl (Qhu HT_.out HW_.out qq_6) (fun _ _ _ h=>h) (Or.inl ⟨by rfl,?_⟩) hHeld ?_ ?_
     rotate_left
     ·rintro w' ⟨s0,s1⟩
      go_simp
      with_reducible rfl
     rotate_left
     ·exact qq_2
     refine Qgh (i:=2) (N:=some 6) (v:=?_) (a':=?_) #[true,true,true,false,false,false,true,false,false,false,false,false] rfl rfl (Qhn HT_.out qq_6) (fun _ _ _ h=>h) (Or.inl ⟨by rfl,?_⟩) ?_ ?_
     rotate_left
     ·intro w'
      go_simp
      with_reducible rfl
     rotate_left
     ·exact qq_2
     refine Qgh (i:=3) (N:=some 7) (v:=?_) (a':=?_) #[true,true,true,true,false,false,true,false,false,false,false,false] rfl rfl (Qhn HT_.out qq_6) (fun _ _ _ h=>h) (Or.inl ⟨by rfl,?_⟩) ?_ ?_
     rotate_left
     ·intro w'
      go_simp
      with_reducible rfl
     rotate_left
     ·exact qq_2
     refine Qgg (i:=7) (N:=some 11) (v:=?_) (a':=?_) #[true,true,true,true,false,false,true,true,false,false,false,false] rfl rfl (Qhu HT_.out HW_.out qq_6) (fun _ _ _ h=>h) (Or.inl ⟨by rfl,?_⟩) hHeld ?_ ?_
     rotate_left
     ·rintro w' ⟨s0,s1⟩
      go_simp
      with_reducible rfl
     rotate_left
     ·exact qq_2
     refine Qgh (i:=8) (N:=some 12) (v:=?_) (a':=?_) #[true,true,true,true,false,false,true,true,true,false,false,false] rfl rfl (Qhn HT_.out qq_6) (fun _ _ _ h=>h) (Or.inl ⟨by rfl,?_⟩) ?_ ?_
     rotate_left
     ·intro w'
      go_simp
      with_reducible rfl
     rotate_left
     ·exact qq_2
     refine one_ (i:=4) (N:=some 8) #[true,true,true,true,true,false,true,true,true,false,false,false] rfl rfl (Qho HT_.out qq_6) (by decide) (fun K hK=>?_)
     refine Qgo Tryz.func103 qq_6 rfl #[.int .u64 (IntKind.u64.wrap ((l0_1.length:Int))),.int .i64 4] (by rfl) rfl rfl qq_1 ?_
     with_reducible refine(Qaw.calls k (IntKind.u64.wrap ((l0_1.length:Int))) 4 t475 _ A2.out).mono ?_
     rintro e w14 ⟨rfl,hb⟩
     refine⟨_,rfl,?_⟩
     have n0_:=QA (Qeh (g:=gb474) (o:=.cells #[.int .u32 a0_0,.slice A0_1 l0_1.length c0_1] 131 (0,0)) qq_0 hb)
     have n1_:=QA (Qfh qq_b hb)
     clear BK474 HB
     have BK474:=n0_
     have HB:=n1_
     clear n0_ n1_
     (try clear hb)
     (try clear hb2)
     (try clear hk)
     (try clear hi)
     refine hK.out _ _ ⟨(Qds BK474.out 0).trans rfl,(Qds BK474.out 1).trans rfl⟩ (fun hHeld=>?_)
     clear hK K
     refine Qgm (a':=?_) ?_ ?_
     rotate_left
     ·show Act.put _ (some 8) _=_
      simp only[Act.put,List.setIfInBounds_toArray,List.set_cons_zero,List.set_cons_succ,Qgr,Qgs]
      rfl
     refine Qgh (i:=5) (N:=some 9) (v:=?_) (a':=?_) #[true,true,true,true,true,true,true,true,true,false,false,false] rfl rfl (Qhn HT_.out qq_6) (fun _ _ _ h=>h) (Or.inl ⟨by rfl,?_⟩) ?_ ?_
     rotate_left
     ·intro w'
      go_simp
      with_reducible rfl
     rotate_left
     ·exact qq_2
     refine one_ (i:=9) (N:=some 13) #[true,true,true,true,true,true,true,true,true,true,false,false] rfl rfl (Qho HT_.out qq_6) (by decide) (fun K hK=>?_)
     refine Qgo Tryz.func103 qq_6 rfl #[.int .u64 (IntKind.u64.wrap (a0_0)),.int .i64 4] (by rfl) rfl rfl qq_1 ?_
     with_reducible refine(Qaw.calls k (IntKind.u64.wrap (a0_0)) 4 t476 _ A4.out).mono ?_
     rintro e w15 ⟨rfl,hb⟩
     refine⟨_,rfl,?_⟩
     have n0_:=QA (Qeh (g:=gb474) (o:=.cells #[.int .u32 a0_0,.slice A0_1 l0_1.length c0_1] 131 (0,0)) qq_0 hb)
     have n1_:=QA (Qfh qq_b hb)
     clear BK474 HB
     have BK474:=n0_
     have HB:=n1_
     clear n0_ n1_
     (try clear hb)
     (try clear hb2)
     (try clear hk)
     (try clear hi)
     refine hK.out _ _ ⟨(Qds BK474.out 0).trans rfl,(Qds BK474.out 1).trans rfl⟩ (fun hHeld=>?_)
     clear hK K
     refine Qgm (a':=?_) ?_ ?_
     rotate_left
     ·show Act.put _ (some 13) _=_
      simp only[Act.put,List.setIfInBounds_toArray,List.set_cons_zero,List.set_cons_succ,Qgr,Qgs]
      rfl
     refine Qgh (i:=10) (N:=some 14) (v:=?_) (a':=?_) #[true,true,true,true,true,true,true,true,true,true,true,false] rfl rfl (Qhn HT_.out qq_6) (fun _ _ _ h=>h) (Or.inl ⟨by rfl,?_⟩) ?_ ?_
     rotate_left
     ·intro w'
      go_simp
      with_reducible rfl
     rotate_left
     ·exact qq_2
     refine Qgh (i:=11) (N:=some 3) (v:=?_) (a':=?_) #[true,true,true,true,true,true,true,true,true,true,true,true] rfl rfl (Qhn HT_.out qq_6) (fun _ _ _ h=>h) (Or.inl ⟨by rfl,?_⟩) ?_ ?_
     rotate_left
     ·intro w'
      go_simp
      with_reducible rfl
     rotate_left
     ·exact qq_2
     refine Qgj (Qhq HT_.out qq_6) ?_
     try go_wp2
     have n0_:=QA (Qef BK474.out)
     have n1_:=QA (Qfo HB.out)
     clear BK474 HB
     have BK474:=n0_
     have HB:=n1_
     clear n0_ n1_
     refine Qge (n:=12) (S:=fun w'=>w'.cell? ⟨gb474,0,none⟩=some (.int .u32 a0_0)∧w'.cell? ⟨gb474,1,none⟩=some (.slice A0_1 l0_1.length c0_1)) (ds:=[]) #[false,false,false,false,false,false,false,false,false,false,false,false] qq_6 rfl rfl ⟨(Qds BK474.out 0).trans rfl,(Qds BK474.out 1).trans rfl⟩ (fun hHeld=>?_);refine Qhv Qca.tab2 Qca.bits2 (fun HT_ HW_=>?_)
     generalize w15.drew=w16 at BK474 HB hHeld ⊢
     refine Qgh (i:=0) (N:=some 15) (v:=?_) (a':=?_) #[true,false,false,false,false,false,false,false,false,false,false,false] rfl rfl (Qhn HT_.out qq_6) (fun _ _ _ h=>h) (Or.inl ⟨by rfl,?_⟩) ?_ ?_
     rotate_left
     ·intro w'
      go_simp
      with_reducible rfl
     rotate_left
     ·exact qq_2
     refine Qgh (i:=1) (N:=some 16) (v:=?_) (a':=?_) #[true,true,false,false,false,false,false,false,false,false,false,false] rfl rfl (Qhn HT_.out qq_6) (fun _ _ _ h=>h) (Or.inl ⟨by rfl,?_⟩) ?_ ?_
     rotate_left
     ·intro w'
      go_simp
      with_reducible rfl
     rotate_left
     ·exact qq_2
     refine Qgh (i:=5) (N:=some 20) (v:=?_) (a':=?_) #[true,true,false,false,false,true,false,false,false,false,false,false] rfl rfl (Qhn HT_.out qq_6) (fun _ _ _ h=>h) (Or.inl ⟨by rfl,?_⟩) ?_ ?_
     rotate_left
     ·intro w'
      go_simp
      with_reducible rfl
     rotate_left
     ·exact qq_2
     refine Qgg (i:=2) (N:=some 17) (v:=?_) (a':=?_) #[true,true,true,false,false,true,false,false,false,false,false,false] rfl rfl (Qhu HT_.out HW_.out qq_6) (fun _ _ _ h=>h) (Or.inl ⟨by rfl,?_⟩) hHeld ?_ ?_
     rotate_left
     ·rintro w' ⟨s0,s1⟩
      go_simp
      with_reducible rfl
     rotate_left
     ·exact qq_2
     refine Qgg (i:=6) (N:=some 21) (v:=?_) (a':=?_) #[true,true,true,false,false,true,true,false,false,false,false,false] rfl rfl (Qhu HT_.out HW_.out qq_6) (fun _ _ _ h=>h) (Or.inl ⟨by rfl,?_⟩) hHeld ?_ ?_
     rotate_left
     ·rintro w' ⟨s0,s1⟩
      go_simp
      with_reducible rfl
     rotate_left
     ·exact qq_2
     refine one_ (i:=3) (N:=some 18) #[true,true,true,true,false,true,true,false,false,false,false,false] rfl rfl (Qho HT_.out qq_6) (by decide) (fun K hK=>?_)
     refine Qgo Tryz.func121 qq_6 rfl #[.slice A0_1 l0_1.length c0_1] (by rfl) rfl rfl qq_1 ?_
     with_reducible refine(Qbw.calls k _ _ l0_1 t477 _ ?side1 ?side2 A6.out).mono ?_
     (case side1=>repeat(first|exact(Kd.C_below HR0_1.out HB.out) |(with_reducible refine Kd.C_alloc ?_ _) |(with_reducible refine Kd.C_drewN ?_ _) |(with_reducible refine Kd.C_drew ?_)))
     (case side2=>exact HC0_1.out)
     rintro e w17 ⟨rfl,hb⟩
     refine⟨_,rfl,?_⟩
     have n0_:=QA (Qeh (g:=gb474) (o:=.cells #[.int .u32 a0_0,.slice A0_1 l0_1.length c0_1] 131 (0,0)) qq_0 hb)
     have n1_:=QA (Qfh qq_b hb)
     clear BK474 HB
     have BK474:=n0_
     have HB:=n1_
     clear n0_ n1_
     (try clear hb)
     (try clear hb2)
     (try clear hk)
     (try clear hi)
     refine hK.out _ _ ⟨(Qds BK474.out 0).trans rfl,(Qds BK474.out 1).trans rfl⟩ (fun hHeld=>?_)
     clear hK K
     refine Qgm (a':=?_) ?_ ?_
     rotate_left
     ·show Act.put _ (some 18) _=_
      simp only[Act.put,List.setIfInBounds_toArray,List.set_cons_zero,List.set_cons_succ,Qgr,Qgs]
      rfl
     refine Qgh (i:=4) (N:=some 19) (v:=?_) (a':=?_) #[true,true,true,true,true,true,true,false,false,false,false,false] rfl rfl (Qhn HT_.out qq_6) (fun _ _ _ h=>h) (Or.inl ⟨by rfl,?_⟩) ?_ ?_
     rotate_left
     ·intro w'
      go_simp
      with_reducible rfl
     rotate_left
     ·exact qq_2
     refine one_ (i:=7) (N:=some 22) #[true,true,true,true,true,true,true,true,false,false,false,false] rfl rfl (Qho HT_.out qq_6) (by decide) (fun K hK=>?_)
     refine Qgo Tryz.func123 qq_6 rfl #[.slice A0_1 l0_1.length c0_1] (by rfl) rfl rfl qq_1 ?_
     with_reducible refine(Qby.calls k _ _ l0_1 t478 _ ?side1 ?side2 A8.out).mono ?_
     (case side1=>repeat(first|exact(Kd.C_below HR0_1.out HB.out) |(with_reducible refine Kd.C_alloc ?_ _) |(with_reducible refine Kd.C_drewN ?_ _) |(with_reducible refine Kd.C_drew ?_)))
     (case side2=>exact HC0_1.out)
     rintro e w18 ⟨v479,rfl,ho0,hb⟩
     refine⟨_,rfl,?_⟩
     have n0_:=QA (Kd.R_lower ho0 (Qfg qq_b))
     have n1_:=QA (Qeh (g:=gb474) (o:=.cells #[.int .u32 a0_0,.slice A0_1 l0_1.length c0_1] 131 (0,0)) qq_0 hb)
     have n2_:=QA (Qfh qq_b hb)
     clear BK474 HB
     have HO480:=n0_
     have BK474:=n1_
     have HB:=n2_
     clear n0_ n1_ n2_
     (try clear hb)
     (try clear hb2)
     (try clear hk)
     (try clear hi)
     (try clear ho0)
     obtain⟨Ao19,co19,eo19⟩:=Kd.R_slice HO480.out
     (first|subst eo19 |(injection eo19 with f1_ f2_ f3_;have f4_:=f1_.symm;have f5_:=f3_.symm;clear f1_ f2_ f3_;subst f4_;subst f5_))
     refine hK.out _ _ ⟨(Qds BK474.out 0).trans rfl,(Qds BK474.out 1).trans rfl⟩ (fun hHeld=>?_)
     clear hK K
     refine Qgm (a':=?_) ?_ ?_
     rotate_left
     ·show Act.put _ (some 22) _=_
      simp only[Act.put,List.setIfInBounds_toArray,List.set_cons_zero,List.set_cons_succ,Qgr,Qgs]
      rfl
     refine one_ (i:=8) (N:=some 23) #[true,true,true,true,true,true,true,true,true,false,false,false] rfl rfl (Qho HT_.out qq_6) (by decide) (fun K hK=>?_)
     refine Qgo Tryz.func122 qq_6 rfl #[.slice Ao19 t478.length co19] (by rfl) rfl rfl qq_1 ?_
     with_reducible refine(Qbz.calls k _ _ t478 t481 _ ?side1 ?side2 A9.out).mono ?_
     (case side1=>repeat(first|exact(Kd.R_reads' HO480.out).2.2 |(with_reducible refine Kd.C_alloc ?_ _) |(with_reducible refine Kd.C_drewN ?_ _) |(with_reducible refine Kd.C_drew ?_)))
     (case side2=>exact(Kd.R_reads' HO480.out).2.1)
     rintro e w20 ⟨rfl,hb⟩
     refine⟨_,rfl,?_⟩
     have n0_:=QA (Kd.R_below qq_3 hb)
     have n1_:=QA (Qeh (g:=gb474) (o:=.cells #[.int .u32 a0_0,.slice A0_1 l0_1.length c0_1] 131 (0,0)) qq_0 hb)
     have n2_:=QA (Qfh qq_b hb)
     clear HO480 BK474 HB
     have HO480:=n0_
     have BK474:=n1_
     have HB:=n2_
     clear n0_ n1_ n2_
     (try clear hb)
     (try clear hb2)
     (try clear hk)
     (try clear hi)
     refine hK.out _ _ ⟨(Qds BK474.out 0).trans rfl,(Qds BK474.out 1).trans rfl⟩ (fun hHeld=>?_)
     clear hK K
     refine Qgm (a':=?_) ?_ ?_
     rotate_left
     ·show Act.put _ (some 23) _=_
      simp only[Act.put,List.setIfInBounds_toArray,List.set_cons_zero,List.set_cons_succ,Qgr,Qgs]
      rfl
     refine Qgh (i:=9) (N:=some 24) (v:=?_) (a':=?_) #[true,true,true,true,true,true,true,true,true,true,false,false] rfl rfl (Qhn HT_.out qq_6) (fun _ _ _ h=>h) (Or.inl ⟨by rfl,?_⟩) ?_ ?_
     rotate_left
     ·intro w'
      go_simp
      with_reducible rfl
     rotate_left
     ·exact qq_2
     refine one_ (i:=10) (N:=some 25) #[true,true,true,true,true,true,true,true,true,true,true,false] rfl rfl (Qho HT_.out qq_6) (by decide) (fun K hK=>?_)
     refine Qgo Tryz.func61 qq_6 rfl #[.string (((((⟨#[4]⟩:ByteArray)++t475)++t476)++t477)++t481)] (by rfl) rfl rfl qq_1 ?_
     with_reducible refine(Qbt.calls k (((((⟨#[4]⟩:ByteArray)++t475)++t476)++t477)++t481) t482 _ A11.out).mono ?_
     rintro e w21 ⟨rfl,hb⟩
     refine⟨_,rfl,?_⟩
     have n0_:=QA (Kd.R_below qq_3 hb)
     have n1_:=QA (Qeh (g:=gb474) (o:=.cells #[.int .u32 a0_0,.slice A0_1 l0_1.length c0_1] 131 (0,0)) qq_0 hb)
     have n2_:=QA (Qfh qq_b hb)
     clear HO480 BK474 HB
     have HO480:=n0_
     have BK474:=n1_
     have HB:=n2_
     clear n0_ n1_ n2_
     (try clear hb)
     (try clear hb2)
     (try clear hk)
     (try clear hi)
     refine hK.out _ _ ⟨(Qds BK474.out 0).trans rfl,(Qds BK474.out 1).trans rfl⟩ (fun hHeld=>?_)
     clear hK K
     refine Qgm (a':=?_) ?_ ?_
     rotate_left
     ·show Act.put _ (some 25) _=_
      simp only[Act.put,List.setIfInBounds_toArray,List.set_cons_zero,List.set_cons_succ,Qgr,Qgs]
      rfl
     refine Qgh (i:=11) (N:=some 2) (v:=?_) (a':=?_) #[true,true,true,true,true,true,true,true,true,true,true,true] rfl rfl (Qhn HT_.out qq_6) (fun _ _ _ h=>h) (Or.inl ⟨by rfl,?_⟩) ?_ ?_
     rotate_left
     ·intro w'
      go_simp
      with_reducible rfl
     rotate_left
     ·exact qq_2
     refine Qgj (Qhq HT_.out qq_6) ?_
     try go_wp2
     go_ret
     exact⟨by first|rfl |(simp[Qis,Qit]<;>rfl) |(simp[*,Qis,Qit]<;>rfl),qq_b⟩
    ·rw[if_neg c10]at H
     exact absurd H (by simp)
   ·rw[if_neg c7]at H
    exact absurd H (by simp)
  ·rw[if_neg c5]at H
   exact absurd H (by simp)
 ·rw[if_neg c3]at H
  exact absurd H (by simp)
def fascicleref14_Empty.T1:Bool × List (List Nat × List Nat):=(true,[([],[]),([],[]),([],[]),([],[]),([2,3],[2,3]),([4],[4]),([0,1,5],[0,1,5]),([6,4,0,1,2,3,4,5,6],[6])])
def fascicleref14_Empty.B1:List Nat:=[0,0,0,0,12,28,63,127]
end Go.Proofs.YtnnofopfbeklbaaGreat.C
end
