/- Texts of this claim's author and of the print of its functions, merged by merge.py. -/
import Derived.Test.YtnnofopfbeklbaaGreatMH02
import Derived.Test.YtnnofopfbeklbaaGreatMH03
import Derived.Test.YtnnofopfbeklbaaGreatMH14
set_option linter.unusedVariables false
set_option linter.unusedSimpArgs false
set_option maxHeartbeats 8000000
set_option maxRecDepth 100000
section
namespace Go.Proofs.YtnnofopfbeklbaaGreat.C
open Go.RowKit Go.Proofs.YtnnofopfbeklbaaGreatW.PrintWords Go.Proofs.YtnnofopfbeklbaaGreatW.PrintLast Go.Proofs.YtnnofopfbeklbaaGreatW.PrintMore
attribute [local go_sem] Qif Qig Qih Qii Qij Qik Qil Qim
def Qbp.f(k:Nat)(a0_0:Int)(a0_1:Int)(a1:Int):Option (ByteArray):=(some (([a0_0]:List Int):List Int)).bind fun y317=>(if 2+(strOfNums y317).size≤9223372036854775807 then((Qbb.f k (IntKind.u64.wrap (a0_1))).bind fun t320=>(if((⟨#[1,2]⟩:ByteArray)++(strOfNums y317)).size+t320.size≤9223372036854775807 then((Qbb.f k a1).bind fun t321=>(if(((⟨#[1,2]⟩:ByteArray)++(strOfNums y317))++t320).size+t321.size≤9223372036854775807 then((Qbt.f k ((((⟨#[1,2]⟩:ByteArray)++(strOfNums y317))++t320)++t321)).bind fun t322=>(some t322))else(none)))else(none)))else(none))
def Qbp.T1:Bool × List (List Nat × List Nat):=(true,[([],[]),([0],[0]),([1],[1]),([2],[2]),([3],[3]),([],[]),([5],[5]),([6],[6]),([7],[7]),([4,8],[4,8]),([],[]),([10,8],[10]),([9,11],[9,11]),([12,11],[12]),([13,13,0,1,2,3,4,5,6,7,8,9,10,11,12,13],[13])])
def Qbp.B1:List Nat:=[0,1,3,7,15,0,32,96,224,511,0,1504,4095,8191,16383]
theorem Qbp.tab1:rtab .any (Qhx Tryz.f55 1)=Qbp.T1:=by kernel_rfl
theorem Qbp.bits1:Qhr Qbp.T1.2 Qbp.B1=true:=by kernel_rfl
theorem Qbp.calls (k:Nat) (a0_0:Int) (a0_1:Int) (a1:Int) (r:ByteArray) (w:World) (h:Qbp.f k a0_0 a0_1 a1=some r) :
  Calls Tryz.prog 55 #[.agg #[.int .u8 a0_0,.int .u32 a0_1],.int .u64 a1] w fun e w'=>e=.returned (.string r)∧Below w.heap.size w w':=by
 have hu27:=Tryz.underlying27
 have HB:=QA (Below.refl w.heap.size w)
 have H:((some (([a0_0]:List Int):List Int)).bind fun y317=>(if 2+(strOfNums y317).size≤9223372036854775807 then((Qbb.f k (IntKind.u64.wrap (a0_1))).bind fun t320=>(if((⟨#[1,2]⟩:ByteArray)++(strOfNums y317)).size+t320.size≤9223372036854775807 then((Qbb.f k a1).bind fun t321=>(if(((⟨#[1,2]⟩:ByteArray)++(strOfNums y317))++t320).size+t321.size≤9223372036854775807 then((Qbt.f k ((((⟨#[1,2]⟩:ByteArray)++(strOfNums y317))++t320)++t321)).bind fun t322=>(some t322))else(none)))else(none)))else(none)))=some r:=h
 clear h
 obtain⟨y317,hy317⟩:∃y_:List Int,y_=(([a0_0]:List Int)):=⟨_,rfl⟩
 replace H:(if 2+(strOfNums y317).size≤9223372036854775807 then((Qbb.f k (IntKind.u64.wrap (a0_1))).bind fun t320=>(if((⟨#[1,2]⟩:ByteArray)++(strOfNums y317)).size+t320.size≤9223372036854775807 then((Qbb.f k a1).bind fun t321=>(if(((⟨#[1,2]⟩:ByteArray)++(strOfNums y317))++t320).size+t321.size≤9223372036854775807 then((Qbt.f k ((((⟨#[1,2]⟩:ByteArray)++(strOfNums y317))++t320)++t321)).bind fun t322=>(some t322))else(none)))else(none)))else(none))=some r:=by first |(rw[hy317];with_reducible exact H) |(have H2_:=(Option.bind_some _ _).symm.trans H;rw[hy317];with_reducible exact H2_) |(have H2_:=(Option.bind_some _ _).symm.trans H;with_reducible exact H2_)|with_reducible exact H |(rw[hy317];exact H)|exact H
 have Ny317:=QA hy317
 clear hy317
 by_cases c3:2+(strOfNums y317).size≤9223372036854775807
 ·rw [if_pos c3]at H
  have c3b0:=eq_true c3
  have c3b1:decide (2+(strOfNums y317).size≤9223372036854775807)=true:=decide_eq_true c3
  try have c3b2:(9223372036854775807<2+(strOfNums y317).size)=False:=eq_false (Nat.not_lt.2 c3)
  replace H:=Option.bind_eq_some_iff.mp H
  obtain⟨t320,A40,H⟩:=H
  replace H:(if((⟨#[1,2]⟩:ByteArray)++(strOfNums y317)).size+t320.size≤9223372036854775807 then((Qbb.f k a1).bind fun t321=>(if(((⟨#[1,2]⟩:ByteArray)++(strOfNums y317))++t320).size+t321.size≤9223372036854775807 then((Qbt.f k ((((⟨#[1,2]⟩:ByteArray)++(strOfNums y317))++t320)++t321)).bind fun t322=>(some t322))else(none)))else(none))=some r:=H
  have A4:=QA A40
  clear A40
  by_cases c5:((⟨#[1,2]⟩:ByteArray)++(strOfNums y317)).size+t320.size≤9223372036854775807
  ·rw [if_pos c5]at H
   have c5b0:=eq_true c5
   have c5b1:decide (((⟨#[1,2]⟩:ByteArray)++(strOfNums y317)).size+t320.size≤9223372036854775807)=true:=decide_eq_true c5
   try have c5b2:(9223372036854775807<((⟨#[1,2]⟩:ByteArray)++(strOfNums y317)).size+t320.size)=False:=eq_false (Nat.not_lt.2 c5)
   try have c5b3:=c5b2
   try simp only[ByteArray.size_append,(show ∀x_:UInt8,(⟨#[x_]⟩:ByteArray).size=1 from fun _=>rfl),(show ∀x_ y_:UInt8,(⟨#[x_,y_]⟩:ByteArray).size=2 from fun _ _=>rfl)]at c5b3
   try have c5b4:=c5b2
   try simp only[ByteArray.size_append,ByteArray.size_extract,(show ∀x_:UInt8,(⟨#[x_]⟩:ByteArray).size=1 from fun _=>rfl),(show ∀x_ y_:UInt8,(⟨#[x_,y_]⟩:ByteArray).size=2 from fun _ _=>rfl)]at c5b4
   replace H:=Option.bind_eq_some_iff.mp H
   obtain⟨t321,A60,H⟩:=H
   replace H:(if(((⟨#[1,2]⟩:ByteArray)++(strOfNums y317))++t320).size+t321.size≤9223372036854775807 then((Qbt.f k ((((⟨#[1,2]⟩:ByteArray)++(strOfNums y317))++t320)++t321)).bind fun t322=>(some t322))else(none))=some r:=H
   have A6:=QA A60
   clear A60
   by_cases c7:(((⟨#[1,2]⟩:ByteArray)++(strOfNums y317))++t320).size+t321.size≤9223372036854775807
   ·rw [if_pos c7]at H
    have c7b0:=eq_true c7
    have c7b1:decide ((((⟨#[1,2]⟩:ByteArray)++(strOfNums y317))++t320).size+t321.size≤9223372036854775807)=true:=decide_eq_true c7
    try have c7b2:(9223372036854775807<(((⟨#[1,2]⟩:ByteArray)++(strOfNums y317))++t320).size+t321.size)=False:=eq_false (Nat.not_lt.2 c7)
    try have c7b3:=c7b2
    try simp only[ByteArray.size_append,(show ∀x_:UInt8,(⟨#[x_]⟩:ByteArray).size=1 from fun _=>rfl),(show ∀x_ y_:UInt8,(⟨#[x_,y_]⟩:ByteArray).size=2 from fun _ _=>rfl)]at c7b3
    try have c7b4:=c7b2
    try simp only[ByteArray.size_append,ByteArray.size_extract,(show ∀x_:UInt8,(⟨#[x_]⟩:ByteArray).size=1 from fun _=>rfl),(show ∀x_ y_:UInt8,(⟨#[x_,y_]⟩:ByteArray).size=2 from fun _ _=>rfl)]at c7b4
    replace H:=Option.bind_eq_some_iff.mp H
    obtain⟨t322,A80,H⟩:=H
    replace H:(some t322)=some r:=H
    have A8:=QA A80
    clear A80
    obtain rfl:=Option.some.inj H
    go_enter Tryz.func55,Tryz.ntmps55
    try go_wp2_with (first |((with_reducible refine Qfs (N:=2) rfl ?_);refine qq_e 2 #[.int .u8 a0_0,.int .u32 a0_1] 27 ?_;intro gb316 hg w9 hbox hb;have n0_:=QA (Qfh qq_b hb);have n1_:=QA (hbox);have n2_:=QA (qq_s hg:w.heap.size≤gb316);have n3_:=n2_;clear HB;have HB:=n0_;have BK316:=n1_;have GW316:=n2_;have GE316:=n3_;clear n0_ n1_ n2_ n3_;clear hb hbox hg))
    have n0_:=QA (Qef BK316.out)
    have n1_:=QA (Qfo HB.out)
    clear BK316 HB
    have BK316:=n0_
    have HB:=n1_
    clear n0_ n1_
    refine Qge (n:=15) (S:=fun w'=>w'.cell? ⟨gb316,0,none⟩=some (.int .u8 a0_0)∧w'.cell? ⟨gb316,1,none⟩=some (.int .u32 a0_1)) (ds:=[]) #[false,false,false,false,false,false,false,false,false,false,false,false,false,false,false] qq_6 rfl rfl ⟨(Qds BK316.out 0).trans rfl,(Qds BK316.out 1).trans rfl⟩ (fun hHeld=>?_);refine Qhv Qbp.tab1 Qbp.bits1 (fun HT_ HW_=>?_)
    generalize w9.drew=w10 at BK316 HB hHeld ⊢
    refine Qgh (i:=0) (N:=some 5) (v:=?_) (a':=?_) #[true,false,false,false,false,false,false,false,false,false,false,false,false,false,false] rfl rfl (Qhn HT_.out qq_6) (fun _ _ _ h=>h) (Or.inl ⟨by rfl,?_⟩) ?_ ?_
    rotate_left
    ·intro w'
     go_simp
     with_reducible rfl
    rotate_left
    ·exact qq_2
    refine Qgh (i:=5) (N:=some 10) (v:=?_) (a':=?_) #[true,false,false,false,false,true,false,false,false,false,false,false,false,false,false] rfl rfl (Qhn HT_.out qq_6) (fun _ _ _ h=>h) (Or.inl ⟨by rfl,?_⟩) ?_ ?_
    rotate_left
    ·intro w'
     go_simp
     with_reducible rfl
    rotate_left
    ·exact qq_2
    refine Qgh (i:=10) (N:=some 15) (v:=?_) (a':=?_) #[true,false,false,false,false,true,false,false,false,false,true,false,false,false,false] rfl rfl (Qhn HT_.out qq_6) (fun _ _ _ h=>h) (Or.inl ⟨by rfl,?_⟩) ?_ ?_
    rotate_left
    ·intro w'
     go_simp
     with_reducible rfl
    rotate_left
    ·exact qq_2
    refine Qgg (i:=1) (N:=some 6) (v:=?_) (a':=?_) #[true,true,false,false,false,true,false,false,false,false,true,false,false,false,false] rfl rfl (Qhu HT_.out HW_.out qq_6) (fun _ _ _ h=>h) (Or.inl ⟨by rfl,?_⟩) hHeld ?_ ?_
    rotate_left
    ·rintro w' ⟨s0,s1⟩
     go_simp
     with_reducible rfl
    rotate_left
    ·exact qq_2
    refine Qgg (i:=6) (N:=some 11) (v:=?_) (a':=?_) #[true,true,false,false,false,true,true,false,false,false,true,false,false,false,false] rfl rfl (Qhu HT_.out HW_.out qq_6) (fun _ _ _ h=>h) (Or.inl ⟨by rfl,?_⟩) hHeld ?_ ?_
    rotate_left
    ·rintro w' ⟨s0,s1⟩
     go_simp
     with_reducible rfl
    rotate_left
    ·exact qq_2
    refine Qgh (i:=7) (N:=some 12) (v:=?_) (a':=?_) #[true,true,false,false,false,true,true,true,false,false,true,false,false,false,false] rfl rfl (Qhn HT_.out qq_6) (fun _ _ _ h=>h) (Or.inl ⟨by rfl,?_⟩) ?_ ?_
    rotate_left
    ·intro w'
     go_simp
     with_reducible rfl
    rotate_left
    ·exact qq_2
    refine Qgl (σ:=Value) 3 #[true,true,true,true,true,true,true,true,true,true,true,true,false,false,false] (fun s_=>[(7,s_),(8,.string (strOfNums y317)),(13,.string t320),(16,.string t321),(9,.string ((⟨#[1,2]⟩:ByteArray)++(strOfNums y317))),(14,.string (((⟨#[1,2]⟩:ByteArray)++(strOfNums y317))++t320))]) (fun s_ w'=>(w'.cell? ⟨gb316,0,none⟩=some (.int .u8 a0_0)∧w'.cell? ⟨gb316,1,none⟩=some (.int .u32 a0_1))∧(Kd.R (Kd.int .u8) 5 w' w.heap.size (fun _=>True) s_ y317)∧(w'.heap[gb316]? = some (.cells #[.int .u8 a0_0,.int .u32 a0_1] 27 (0,0)))∧(Below w.heap.size w w')) ?_ ?_
    rotate_left
    ·intro hJ2_3_8_11
     refine Qgl (σ:=Value) 4 #[true,true,true,true,true,true,true,true,true,true,true,false,false,false,false] (fun s_=>[(7,s_),(8,.string (strOfNums y317)),(13,.string t320),(9,.string ((⟨#[1,2]⟩:ByteArray)++(strOfNums y317))),(14,.string (((⟨#[1,2]⟩:ByteArray)++(strOfNums y317))++t320))]) (fun s_ w'=>(w'.cell? ⟨gb316,0,none⟩=some (.int .u8 a0_0)∧w'.cell? ⟨gb316,1,none⟩=some (.int .u32 a0_1))∧(Kd.R (Kd.int .u8) 5 w' w.heap.size (fun _=>True) s_ y317)∧(w'.heap[gb316]? = some (.cells #[.int .u8 a0_0,.int .u32 a0_1] 27 (0,0)))∧(Below w.heap.size w w')) ?_ ?_
     rotate_left
     ·intro hJ2_3_8
      refine Qgl (σ:=Value) 6 #[true,true,true,false,false,true,true,true,true,false,true,true,false,false,false] (fun s_=>[(7,s_),(13,.string t320),(16,.string t321)]) (fun s_ w'=>(w'.cell? ⟨gb316,0,none⟩=some (.int .u8 a0_0)∧w'.cell? ⟨gb316,1,none⟩=some (.int .u32 a0_1))∧(Kd.R (Kd.int .u8) 5 w' w.heap.size (fun _=>True) s_ y317)∧(w'.heap[gb316]? = some (.cells #[.int .u8 a0_0,.int .u32 a0_1] 27 (0,0)))∧(Below w.heap.size w w')) ?_ ?_
      rotate_left
      ·intro hJ2_8_11
       refine Qgl (σ:=Value) 6 #[true,true,true,true,true,true,true,true,false,false,true,false,false,false,false] (fun s_=>[(7,s_),(8,.string (strOfNums y317)),(9,.string ((⟨#[1,2]⟩:ByteArray)++(strOfNums y317)))]) (fun s_ w'=>(w'.cell? ⟨gb316,0,none⟩=some (.int .u8 a0_0)∧w'.cell? ⟨gb316,1,none⟩=some (.int .u32 a0_1))∧(Kd.R (Kd.int .u8) 5 w' w.heap.size (fun _=>True) s_ y317)∧(w'.heap[gb316]? = some (.cells #[.int .u8 a0_0,.int .u32 a0_1] 27 (0,0)))∧(Below w.heap.size w w')) ?_ ?_
       rotate_left
       ·intro hJ2_3
        refine Qgl (σ:=Value) 7 #[true,true,true,false,false,true,true,true,true,false,true,false,false,false,false] (fun s_=>[(7,s_),(13,.string t320)]) (fun s_ w'=>(w'.cell? ⟨gb316,0,none⟩=some (.int .u8 a0_0)∧w'.cell? ⟨gb316,1,none⟩=some (.int .u32 a0_1))∧(Kd.R (Kd.int .u8) 5 w' w.heap.size (fun _=>True) s_ y317)∧(w'.heap[gb316]? = some (.cells #[.int .u8 a0_0,.int .u32 a0_1] 27 (0,0)))∧(Below w.heap.size w w')) ?_ ?_
        rotate_left
        ·intro hJ2_8
         refine Qgl (σ:=Unit) 7 #[true,true,false,false,false,true,true,true,true,false,true,true,false,false,false] (fun s_=>[(13,.string t320),(16,.string t321)]) (fun s_ w'=>(w'.cell? ⟨gb316,0,none⟩=some (.int .u8 a0_0)∧w'.cell? ⟨gb316,1,none⟩=some (.int .u32 a0_1))∧(w'.heap[gb316]? = some (.cells #[.int .u8 a0_0,.int .u32 a0_1] 27 (0,0)))∧(Below w.heap.size w w')) ?_ ?_
         rotate_left
         ·intro hJ8_11
          refine Qgl (σ:=Value) 8 #[true,true,true,false,false,true,true,true,false,false,true,false,false,false,false] (fun s_=>[(7,s_)]) (fun s_ w'=>(w'.cell? ⟨gb316,0,none⟩=some (.int .u8 a0_0)∧w'.cell? ⟨gb316,1,none⟩=some (.int .u32 a0_1))∧(Kd.R (Kd.int .u8) 5 w' w.heap.size (fun _=>True) s_ y317)∧(w'.heap[gb316]? = some (.cells #[.int .u8 a0_0,.int .u32 a0_1] 27 (0,0)))∧(Below w.heap.size w w')) ?_ ?_
          rotate_left
          ·intro hJ2
           refine Qgl (σ:=Unit) 8 #[true,true,false,false,false,true,true,true,true,false,true,false,false,false,false] (fun s_=>[(13,.string t320)]) (fun s_ w'=>(w'.cell? ⟨gb316,0,none⟩=some (.int .u8 a0_0)∧w'.cell? ⟨gb316,1,none⟩=some (.int .u32 a0_1))∧(w'.heap[gb316]? = some (.cells #[.int .u8 a0_0,.int .u32 a0_1] 27 (0,0)))∧(Below w.heap.size w w')) ?_ ?_
           rotate_left
           ·intro hJ8
            refine two_ (i:=2) (j:=8) (Ni:=some 7) (Nj:=some 13) #[true,true,true,false,false,true,true,true,false,false,true,false,false,false,false] #[true,true,false,false,false,true,true,true,true,false,true,false,false,false,false] rfl rfl rfl rfl (Qhp HT_.out qq_6) (by decide) (by decide) (fun K hK=>?_) (fun K hK=>?_)
            ·skip
             refine Kd.R_lit_step (Kd.int .u8) _ 5 ?hg (N:=7) ?hd (xs:=([a0_0]:List Int)) (inner:=[.int .u8 a0_0]) (ok:=fun _=>True) (okp:=fun _=>True) ?hr ?hp (fun _ hk=>hk) trivial (Below.refl _ _) (Nat.le_refl _) (by simp) ?_;(case hd=>rfl);(case hg=>rfl);(case hr=>exact qq_11);(case hp=>exact(Reps.one (show Kd.M (Kd.int .u8) _ _ _ a0_0 [.int .u8 a0_0] from rfl) (Reps.none _ _)))
             intro v318 w11 ho12 hb hg_ hnew_
             clear hg_ hnew_
             (first|rw[← Ny317.out]at ho12 |(simp only[Int.reduceToNat]at ho12;rw[← Ny317.out]at ho12))
             have n0_:=QA (Kd.R_lower ho12 (Qfg qq_b))
             have n1_:=QA (Qeh (g:=gb316) (o:=.cells #[.int .u8 a0_0,.int .u32 a0_1] 27 (0,0)) qq_0 hb)
             have n2_:=QA (Qfh qq_b hb)
             clear BK316 HB
             have HO319:=n0_
             have BK316:=n1_
             have HB:=n2_
             clear n0_ n1_ n2_ hb ho12
             refine hK.out _ _ ⟨(Qds BK316.out 0).trans rfl,(Qds BK316.out 1).trans rfl⟩ (fun hHeld=>?_)
             clear hK K
             refine Qgm (a':=?_) ?_ ?_
             rotate_left
             ·show Act.put _ (some 7) _=_
              simp only[Act.put,List.setIfInBounds_toArray,List.set_cons_zero,List.set_cons_succ,Qgr,Qgs]
              rfl
             exact Qgm qq_7 (hJ2 (v318) _ ⟨hHeld,qq_3,qq_0,qq_b⟩)
            ·skip
             refine Qgo Tryz.func98 qq_6 rfl #[.int .u64 (IntKind.u64.wrap (a0_1))] (by rfl) rfl rfl qq_1 ?_
             with_reducible refine(Qbb.calls k (IntKind.u64.wrap (a0_1)) t320 _ A4.out).mono ?_
             rintro e w11 ⟨rfl,hb⟩
             refine⟨_,rfl,?_⟩
             have n0_:=QA (Qeh (g:=gb316) (o:=.cells #[.int .u8 a0_0,.int .u32 a0_1] 27 (0,0)) qq_0 hb)
             have n1_:=QA (Qfh qq_b hb)
             clear BK316 HB
             have BK316:=n0_
             have HB:=n1_
             clear n0_ n1_
             (try clear hb)
             (try clear hb2)
             (try clear hk)
             (try clear hi)
             refine hK.out _ _ ⟨(Qds BK316.out 0).trans rfl,(Qds BK316.out 1).trans rfl⟩ (fun hHeld=>?_)
             clear hK K
             refine Qgm (a':=?_) ?_ ?_
             rotate_left
             ·show Act.put _ (some 13) _=_
              simp only[Act.put,List.setIfInBounds_toArray,List.set_cons_zero,List.set_cons_succ,Qgr,Qgs]
              rfl
             exact Qgm qq_7 (hJ8 () _ ⟨hHeld,qq_0,qq_b⟩)
           ·skip
            rintro _ w12 ⟨hS_,h0_,h1_⟩
            have n0_:Aside0 (w12.heap[gb316]? = some (.cells #[.int .u8 a0_0,.int .u32 a0_1] 27 (0,0))):=⟨h0_⟩
            have n1_:Aside0 (Below w.heap.size w w12):=⟨h1_⟩
            clear BK316 HB h0_ h1_
            have BK316:=n0_
            have HB:=n1_
            clear n0_ n1_
            have hHeld:w12.cell? ⟨gb316,0,none⟩=some (.int .u8 a0_0)∧w12.cell? ⟨gb316,1,none⟩=some (.int .u32 a0_1):=hS_
            refine Qgm (a':=?_) ?_ ?_
            rotate_left
            ·simp only[Qgk,Act.put,List.setIfInBounds_toArray,List.set_cons_zero,List.set_cons_succ]
             rfl
            refine two_ (i:=2) (j:=11) (Ni:=some 7) (Nj:=some 16) #[true,true,true,false,false,true,true,true,true,false,true,false,false,false,false] #[true,true,false,false,false,true,true,true,true,false,true,true,false,false,false] rfl rfl rfl rfl (Qhp HT_.out qq_6) (by decide) (by decide) (fun K hK=>?_) (fun K hK=>?_)
            ·skip
             refine Kd.R_lit_step (Kd.int .u8) _ 5 ?hg (N:=7) ?hd (xs:=([a0_0]:List Int)) (inner:=[.int .u8 a0_0]) (ok:=fun _=>True) (okp:=fun _=>True) ?hr ?hp (fun _ hk=>hk) trivial (Below.refl _ _) (Nat.le_refl _) (by simp) ?_;(case hd=>rfl);(case hg=>rfl);(case hr=>exact qq_11);(case hp=>exact(Reps.one (show Kd.M (Kd.int .u8) _ _ _ a0_0 [.int .u8 a0_0] from rfl) (Reps.none _ _)))
             intro v318 w13 ho14 hb hg_ hnew_
             clear hg_ hnew_
             (first|rw[← Ny317.out]at ho14 |(simp only[Int.reduceToNat]at ho14;rw[← Ny317.out]at ho14))
             have n0_:=QA (Kd.R_lower ho14 (Qfg qq_b))
             have n1_:=QA (Qeh (g:=gb316) (o:=.cells #[.int .u8 a0_0,.int .u32 a0_1] 27 (0,0)) qq_0 hb)
             have n2_:=QA (Qfh qq_b hb)
             clear BK316 HB
             have HO319:=n0_
             have BK316:=n1_
             have HB:=n2_
             clear n0_ n1_ n2_ hb ho14
             refine hK.out _ _ ⟨(Qds BK316.out 0).trans rfl,(Qds BK316.out 1).trans rfl⟩ (fun hHeld=>?_)
             clear hK K
             refine Qgm (a':=?_) ?_ ?_
             rotate_left
             ·show Act.put _ (some 7) _=_
              simp only[Act.put,List.setIfInBounds_toArray,List.set_cons_zero,List.set_cons_succ,Qgr,Qgs]
              rfl
             exact Qgm qq_7 (hJ2_8 (v318) _ ⟨hHeld,qq_3,qq_0,qq_b⟩)
            ·skip
             refine Qgo Tryz.func98 qq_6 rfl #[.int .u64 a1] (by rfl) rfl rfl qq_1 ?_
             with_reducible refine(Qbb.calls k a1 t321 _ A6.out).mono ?_
             rintro e w13 ⟨rfl,hb⟩
             refine⟨_,rfl,?_⟩
             have n0_:=QA (Qeh (g:=gb316) (o:=.cells #[.int .u8 a0_0,.int .u32 a0_1] 27 (0,0)) qq_0 hb)
             have n1_:=QA (Qfh qq_b hb)
             clear BK316 HB
             have BK316:=n0_
             have HB:=n1_
             clear n0_ n1_
             (try clear hb)
             (try clear hb2)
             (try clear hk)
             (try clear hi)
             refine hK.out _ _ ⟨(Qds BK316.out 0).trans rfl,(Qds BK316.out 1).trans rfl⟩ (fun hHeld=>?_)
             clear hK K
             refine Qgm (a':=?_) ?_ ?_
             rotate_left
             ·show Act.put _ (some 16) _=_
              simp only[Act.put,List.setIfInBounds_toArray,List.set_cons_zero,List.set_cons_succ,Qgr,Qgs]
              rfl
             exact Qgm qq_7 (hJ8_11 () _ ⟨hHeld,qq_0,qq_b⟩)
          ·skip
           rintro v318 w13 ⟨hS_,h0_,h1_,h2_⟩
           have n0_:Aside0 (Kd.R (Kd.int .u8) 5 w13 w.heap.size (fun _=>True) v318 y317):=⟨h0_⟩
           have n1_:Aside0 (w13.heap[gb316]? = some (.cells #[.int .u8 a0_0,.int .u32 a0_1] 27 (0,0))):=⟨h1_⟩
           have n2_:Aside0 (Below w.heap.size w w13):=⟨h2_⟩
           clear BK316 HB h0_ h1_ h2_
           have HO319:=n0_
           have BK316:=n1_
           have HB:=n2_
           clear n0_ n1_ n2_
           have hHeld:w13.cell? ⟨gb316,0,none⟩=some (.int .u8 a0_0)∧w13.cell? ⟨gb316,1,none⟩=some (.int .u32 a0_1):=hS_
           refine Qgm (a':=?_) ?_ ?_
           rotate_left
           ·simp only[Qgk,Act.put,List.setIfInBounds_toArray,List.set_cons_zero,List.set_cons_succ]
            rfl
           refine two_ (i:=3) (j:=8) (Ni:=some 8) (Nj:=some 13) #[true,true,true,true,false,true,true,true,false,false,true,false,false,false,false] #[true,true,true,false,false,true,true,true,true,false,true,false,false,false,false] rfl rfl rfl rfl (Qhp HT_.out qq_6) (by decide) (by decide) (fun K hK=>?_) (fun K hK=>?_)
           ·skip
            have hcv14:=Qdd (P:=Tryz.prog) Tryz.underlying52 Tryz.underlying5 Tryz.underlying9 (Kd.own_of_R HO319.out)
            refine Qgq (w1:=?_) (v:=?_) (by rfl) rfl ?_ ?_
            rotate_left 2
            ·go_simp
             constructor
             ·rfl
             ·rfl
            clear hcv14
            refine hK.out _ _ ⟨(Qds BK316.out 0).trans rfl,(Qds BK316.out 1).trans rfl⟩ (fun hHeld=>?_)
            clear hK K
            refine Qgm (a':=?_) ?_ ?_
            rotate_left
            ·show Act.put _ (some 8) _=_
             simp only[Act.put,List.setIfInBounds_toArray,List.set_cons_zero,List.set_cons_succ,Qgr,Qgs]
             rfl
            refine Qgh (i:=4) (N:=some 9) (v:=?_) (a':=?_) #[true,true,true,true,true,true,true,true,false,false,true,false,false,false,false] rfl rfl (Qhn HT_.out qq_6) (fun _ _ _ h=>h) (Or.inl ⟨by rfl,?_⟩) ?_ ?_
            rotate_left
            ·intro w'
             go_simp
             with_reducible rfl
            rotate_left
            ·exact qq_2
            exact Qgm qq_7 (hJ2_3 (v318) _ ⟨hHeld,qq_3,qq_0,qq_b⟩)
           ·skip
            refine Qgo Tryz.func98 qq_6 rfl #[.int .u64 (IntKind.u64.wrap (a0_1))] (by rfl) rfl rfl qq_1 ?_
            with_reducible refine(Qbb.calls k (IntKind.u64.wrap (a0_1)) t320 _ A4.out).mono ?_
            rintro e w14 ⟨rfl,hb⟩
            refine⟨_,rfl,?_⟩
            have n0_:=QA (Kd.R_below qq_3 hb)
            have n1_:=QA (Qeh (g:=gb316) (o:=.cells #[.int .u8 a0_0,.int .u32 a0_1] 27 (0,0)) qq_0 hb)
            have n2_:=QA (Qfh qq_b hb)
            clear HO319 BK316 HB
            have HO319:=n0_
            have BK316:=n1_
            have HB:=n2_
            clear n0_ n1_ n2_
            (try clear hb)
            (try clear hb2)
            (try clear hk)
            (try clear hi)
            refine hK.out _ _ ⟨(Qds BK316.out 0).trans rfl,(Qds BK316.out 1).trans rfl⟩ (fun hHeld=>?_)
            clear hK K
            refine Qgm (a':=?_) ?_ ?_
            rotate_left
            ·show Act.put _ (some 13) _=_
             simp only[Act.put,List.setIfInBounds_toArray,List.set_cons_zero,List.set_cons_succ,Qgr,Qgs]
             rfl
            exact Qgm qq_7 (hJ2_8 (v318) _ ⟨hHeld,qq_3,qq_0,qq_b⟩)
         ·skip
          rintro _ w13 ⟨hS_,h0_,h1_⟩
          have n0_:Aside0 (w13.heap[gb316]? = some (.cells #[.int .u8 a0_0,.int .u32 a0_1] 27 (0,0))):=⟨h0_⟩
          have n1_:Aside0 (Below w.heap.size w w13):=⟨h1_⟩
          clear BK316 HB h0_ h1_
          have BK316:=n0_
          have HB:=n1_
          clear n0_ n1_
          have hHeld:w13.cell? ⟨gb316,0,none⟩=some (.int .u8 a0_0)∧w13.cell? ⟨gb316,1,none⟩=some (.int .u32 a0_1):=hS_
          refine Qgm (a':=?_) ?_ ?_
          rotate_left
          ·simp only[Qgk,Act.put,List.setIfInBounds_toArray,List.set_cons_zero,List.set_cons_succ]
           rfl
          refine one_ (i:=2) (N:=some 7) #[true,true,true,false,false,true,true,true,true,false,true,true,false,false,false] rfl rfl (Qho HT_.out qq_6) (by decide) (fun K hK=>?_)
          refine Kd.R_lit_step (Kd.int .u8) _ 5 ?hg (N:=7) ?hd (xs:=([a0_0]:List Int)) (inner:=[.int .u8 a0_0]) (ok:=fun _=>True) (okp:=fun _=>True) ?hr ?hp (fun _ hk=>hk) trivial (Below.refl _ _) (Nat.le_refl _) (by simp) ?_;(case hd=>rfl);(case hg=>rfl);(case hr=>exact qq_11);(case hp=>exact(Reps.one (show Kd.M (Kd.int .u8) _ _ _ a0_0 [.int .u8 a0_0] from rfl) (Reps.none _ _)))
          intro v318 w14 ho15 hb hg_ hnew_
          clear hg_ hnew_
          (first|rw[← Ny317.out]at ho15 |(simp only[Int.reduceToNat]at ho15;rw[← Ny317.out]at ho15))
          have n0_:=QA (Kd.R_lower ho15 (Qfg qq_b))
          have n1_:=QA (Qeh (g:=gb316) (o:=.cells #[.int .u8 a0_0,.int .u32 a0_1] 27 (0,0)) qq_0 hb)
          have n2_:=QA (Qfh qq_b hb)
          clear BK316 HB
          have HO319:=n0_
          have BK316:=n1_
          have HB:=n2_
          clear n0_ n1_ n2_ hb ho15
          refine hK.out _ _ ⟨(Qds BK316.out 0).trans rfl,(Qds BK316.out 1).trans rfl⟩ (fun hHeld=>?_)
          clear hK K
          refine Qgm (a':=?_) ?_ ?_
          rotate_left
          ·show Act.put _ (some 7) _=_
           simp only[Act.put,List.setIfInBounds_toArray,List.set_cons_zero,List.set_cons_succ,Qgr,Qgs]
           rfl
          exact Qgm qq_7 (hJ2_8_11 (v318) _ ⟨hHeld,qq_3,qq_0,qq_b⟩)
        ·skip
         rintro v318 w14 ⟨hS_,h0_,h1_,h2_⟩
         have n0_:Aside0 (Kd.R (Kd.int .u8) 5 w14 w.heap.size (fun _=>True) v318 y317):=⟨h0_⟩
         have n1_:Aside0 (w14.heap[gb316]? = some (.cells #[.int .u8 a0_0,.int .u32 a0_1] 27 (0,0))):=⟨h1_⟩
         have n2_:Aside0 (Below w.heap.size w w14):=⟨h2_⟩
         clear BK316 HB h0_ h1_ h2_
         have HO319:=n0_
         have BK316:=n1_
         have HB:=n2_
         clear n0_ n1_ n2_
         have hHeld:w14.cell? ⟨gb316,0,none⟩=some (.int .u8 a0_0)∧w14.cell? ⟨gb316,1,none⟩=some (.int .u32 a0_1):=hS_
         refine Qgm (a':=?_) ?_ ?_
         rotate_left
         ·simp only[Qgk,Act.put,List.setIfInBounds_toArray,List.set_cons_zero,List.set_cons_succ]
          rfl
         refine two_ (i:=3) (j:=11) (Ni:=some 8) (Nj:=some 16) #[true,true,true,true,false,true,true,true,true,false,true,false,false,false,false] #[true,true,true,false,false,true,true,true,true,false,true,true,false,false,false] rfl rfl rfl rfl (Qhp HT_.out qq_6) (by decide) (by decide) (fun K hK=>?_) (fun K hK=>?_)
         ·skip
          have hcv15:=Qdd (P:=Tryz.prog) Tryz.underlying52 Tryz.underlying5 Tryz.underlying9 (Kd.own_of_R HO319.out)
          refine Qgq (w1:=?_) (v:=?_) (by rfl) rfl ?_ ?_
          rotate_left 2
          ·go_simp
           constructor
           ·rfl
           ·rfl
          clear hcv15
          refine hK.out _ _ ⟨(Qds BK316.out 0).trans rfl,(Qds BK316.out 1).trans rfl⟩ (fun hHeld=>?_)
          clear hK K
          refine Qgm (a':=?_) ?_ ?_
          rotate_left
          ·show Act.put _ (some 8) _=_
           simp only[Act.put,List.setIfInBounds_toArray,List.set_cons_zero,List.set_cons_succ,Qgr,Qgs]
           rfl
          refine Qgh (i:=4) (N:=some 9) (v:=?_) (a':=?_) #[true,true,true,true,true,true,true,true,true,false,true,false,false,false,false] rfl rfl (Qhn HT_.out qq_6) (fun _ _ _ h=>h) (Or.inl ⟨by rfl,?_⟩) ?_ ?_
          rotate_left
          ·intro w'
           go_simp
           with_reducible rfl
          rotate_left
          ·exact qq_2
          refine Qgh (i:=9) (N:=some 14) (v:=?_) (a':=?_) #[true,true,true,true,true,true,true,true,true,true,true,false,false,false,false] rfl rfl (Qhn HT_.out qq_6) (fun _ _ _ h=>h) (Or.inl ⟨by rfl,?_⟩) ?_ ?_
          rotate_left
          ·intro w'
           go_simp
           with_reducible rfl
          rotate_left
          ·exact qq_2
          exact Qgm qq_7 (hJ2_3_8 (v318) _ ⟨hHeld,qq_3,qq_0,qq_b⟩)
         ·skip
          refine Qgo Tryz.func98 qq_6 rfl #[.int .u64 a1] (by rfl) rfl rfl qq_1 ?_
          with_reducible refine(Qbb.calls k a1 t321 _ A6.out).mono ?_
          rintro e w15 ⟨rfl,hb⟩
          refine⟨_,rfl,?_⟩
          have n0_:=QA (Kd.R_below qq_3 hb)
          have n1_:=QA (Qeh (g:=gb316) (o:=.cells #[.int .u8 a0_0,.int .u32 a0_1] 27 (0,0)) qq_0 hb)
          have n2_:=QA (Qfh qq_b hb)
          clear HO319 BK316 HB
          have HO319:=n0_
          have BK316:=n1_
          have HB:=n2_
          clear n0_ n1_ n2_
          (try clear hb)
          (try clear hb2)
          (try clear hk)
          (try clear hi)
          refine hK.out _ _ ⟨(Qds BK316.out 0).trans rfl,(Qds BK316.out 1).trans rfl⟩ (fun hHeld=>?_)
          clear hK K
          refine Qgm (a':=?_) ?_ ?_
          rotate_left
          ·show Act.put _ (some 16) _=_
           simp only[Act.put,List.setIfInBounds_toArray,List.set_cons_zero,List.set_cons_succ,Qgr,Qgs]
           rfl
          exact Qgm qq_7 (hJ2_8_11 (v318) _ ⟨hHeld,qq_3,qq_0,qq_b⟩)
       ·skip
        rintro v318 w14 ⟨hS_,h0_,h1_,h2_⟩
        have n0_:Aside0 (Kd.R (Kd.int .u8) 5 w14 w.heap.size (fun _=>True) v318 y317):=⟨h0_⟩
        have n1_:Aside0 (w14.heap[gb316]? = some (.cells #[.int .u8 a0_0,.int .u32 a0_1] 27 (0,0))):=⟨h1_⟩
        have n2_:Aside0 (Below w.heap.size w w14):=⟨h2_⟩
        clear BK316 HB h0_ h1_ h2_
        have HO319:=n0_
        have BK316:=n1_
        have HB:=n2_
        clear n0_ n1_ n2_
        have hHeld:w14.cell? ⟨gb316,0,none⟩=some (.int .u8 a0_0)∧w14.cell? ⟨gb316,1,none⟩=some (.int .u32 a0_1):=hS_
        refine Qgm (a':=?_) ?_ ?_
        rotate_left
        ·simp only[Qgk,Act.put,List.setIfInBounds_toArray,List.set_cons_zero,List.set_cons_succ]
         rfl
        refine one_ (i:=8) (N:=some 13) #[true,true,true,true,true,true,true,true,true,false,true,false,false,false,false] rfl rfl (Qho HT_.out qq_6) (by decide) (fun K hK=>?_)
        refine Qgo Tryz.func98 qq_6 rfl #[.int .u64 (IntKind.u64.wrap (a0_1))] (by rfl) rfl rfl qq_1 ?_
        with_reducible refine(Qbb.calls k (IntKind.u64.wrap (a0_1)) t320 _ A4.out).mono ?_
        rintro e w15 ⟨rfl,hb⟩
        refine⟨_,rfl,?_⟩
        have n0_:=QA (Kd.R_below qq_3 hb)
        have n1_:=QA (Qeh (g:=gb316) (o:=.cells #[.int .u8 a0_0,.int .u32 a0_1] 27 (0,0)) qq_0 hb)
        have n2_:=QA (Qfh qq_b hb)
        clear HO319 BK316 HB
        have HO319:=n0_
        have BK316:=n1_
        have HB:=n2_
        clear n0_ n1_ n2_
        (try clear hb)
        (try clear hb2)
        (try clear hk)
        (try clear hi)
        refine hK.out _ _ ⟨(Qds BK316.out 0).trans rfl,(Qds BK316.out 1).trans rfl⟩ (fun hHeld=>?_)
        clear hK K
        refine Qgm (a':=?_) ?_ ?_
        rotate_left
        ·show Act.put _ (some 13) _=_
         simp only[Act.put,List.setIfInBounds_toArray,List.set_cons_zero,List.set_cons_succ,Qgr,Qgs]
         rfl
        refine Qgh (i:=9) (N:=some 14) (v:=?_) (a':=?_) #[true,true,true,true,true,true,true,true,true,true,true,false,false,false,false] rfl rfl (Qhn HT_.out qq_6) (fun _ _ _ h=>h) (Or.inl ⟨by rfl,?_⟩) ?_ ?_
        rotate_left
        ·intro w'
         go_simp
         with_reducible rfl
        rotate_left
        ·exact qq_2
        exact Qgm qq_7 (hJ2_3_8 (v318) _ ⟨hHeld,qq_3,qq_0,qq_b⟩)
      ·skip
       rintro v318 w15 ⟨hS_,h0_,h1_,h2_⟩
       have n0_:Aside0 (Kd.R (Kd.int .u8) 5 w15 w.heap.size (fun _=>True) v318 y317):=⟨h0_⟩
       have n1_:Aside0 (w15.heap[gb316]? = some (.cells #[.int .u8 a0_0,.int .u32 a0_1] 27 (0,0))):=⟨h1_⟩
       have n2_:Aside0 (Below w.heap.size w w15):=⟨h2_⟩
       clear BK316 HB h0_ h1_ h2_
       have HO319:=n0_
       have BK316:=n1_
       have HB:=n2_
       clear n0_ n1_ n2_
       have hHeld:w15.cell? ⟨gb316,0,none⟩=some (.int .u8 a0_0)∧w15.cell? ⟨gb316,1,none⟩=some (.int .u32 a0_1):=hS_
       refine Qgm (a':=?_) ?_ ?_
       rotate_left
       ·simp only[Qgk,Act.put,List.setIfInBounds_toArray,List.set_cons_zero,List.set_cons_succ]
        rfl
       refine one_ (i:=3) (N:=some 8) #[true,true,true,true,false,true,true,true,true,false,true,true,false,false,false] rfl rfl (Qho HT_.out qq_6) (by decide) (fun K hK=>?_)
       have hcv16:=Qdd (P:=Tryz.prog) Tryz.underlying52 Tryz.underlying5 Tryz.underlying9 (Kd.own_of_R HO319.out)
       refine Qgq (w1:=?_) (v:=?_) (by rfl) rfl ?_ ?_
       rotate_left 2
       ·go_simp
        constructor
        ·rfl
        ·rfl
       clear hcv16
       refine hK.out _ _ ⟨(Qds BK316.out 0).trans rfl,(Qds BK316.out 1).trans rfl⟩ (fun hHeld=>?_)
       clear hK K
       refine Qgm (a':=?_) ?_ ?_
       rotate_left
       ·show Act.put _ (some 8) _=_
        simp only[Act.put,List.setIfInBounds_toArray,List.set_cons_zero,List.set_cons_succ,Qgr,Qgs]
        rfl
       refine Qgh (i:=4) (N:=some 9) (v:=?_) (a':=?_) #[true,true,true,true,true,true,true,true,true,false,true,true,false,false,false] rfl rfl (Qhn HT_.out qq_6) (fun _ _ _ h=>h) (Or.inl ⟨by rfl,?_⟩) ?_ ?_
       rotate_left
       ·intro w'
        go_simp
        with_reducible rfl
       rotate_left
       ·exact qq_2
       refine Qgh (i:=9) (N:=some 14) (v:=?_) (a':=?_) #[true,true,true,true,true,true,true,true,true,true,true,true,false,false,false] rfl rfl (Qhn HT_.out qq_6) (fun _ _ _ h=>h) (Or.inl ⟨by rfl,?_⟩) ?_ ?_
       rotate_left
       ·intro w'
        go_simp
        with_reducible rfl
       rotate_left
       ·exact qq_2
       exact Qgm qq_7 (hJ2_3_8_11 (v318) _ ⟨hHeld,qq_3,qq_0,qq_b⟩)
     ·skip
      rintro v318 w15 ⟨hS_,h0_,h1_,h2_⟩
      have n0_:Aside0 (Kd.R (Kd.int .u8) 5 w15 w.heap.size (fun _=>True) v318 y317):=⟨h0_⟩
      have n1_:Aside0 (w15.heap[gb316]? = some (.cells #[.int .u8 a0_0,.int .u32 a0_1] 27 (0,0))):=⟨h1_⟩
      have n2_:Aside0 (Below w.heap.size w w15):=⟨h2_⟩
      clear BK316 HB h0_ h1_ h2_
      have HO319:=n0_
      have BK316:=n1_
      have HB:=n2_
      clear n0_ n1_ n2_
      have hHeld:w15.cell? ⟨gb316,0,none⟩=some (.int .u8 a0_0)∧w15.cell? ⟨gb316,1,none⟩=some (.int .u32 a0_1):=hS_
      refine Qgm (a':=?_) ?_ ?_
      rotate_left
      ·simp only[Qgk,Act.put,List.setIfInBounds_toArray,List.set_cons_zero,List.set_cons_succ]
       rfl
      refine one_ (i:=11) (N:=some 16) #[true,true,true,true,true,true,true,true,true,true,true,true,false,false,false] rfl rfl (Qho HT_.out qq_6) (by decide) (fun K hK=>?_)
      refine Qgo Tryz.func98 qq_6 rfl #[.int .u64 a1] (by rfl) rfl rfl qq_1 ?_
      with_reducible refine(Qbb.calls k a1 t321 _ A6.out).mono ?_
      rintro e w16 ⟨rfl,hb⟩
      refine⟨_,rfl,?_⟩
      have n0_:=QA (Kd.R_below qq_3 hb)
      have n1_:=QA (Qeh (g:=gb316) (o:=.cells #[.int .u8 a0_0,.int .u32 a0_1] 27 (0,0)) qq_0 hb)
      have n2_:=QA (Qfh qq_b hb)
      clear HO319 BK316 HB
      have HO319:=n0_
      have BK316:=n1_
      have HB:=n2_
      clear n0_ n1_ n2_
      (try clear hb)
      (try clear hb2)
      (try clear hk)
      (try clear hi)
      refine hK.out _ _ ⟨(Qds BK316.out 0).trans rfl,(Qds BK316.out 1).trans rfl⟩ (fun hHeld=>?_)
      clear hK K
      refine Qgm (a':=?_) ?_ ?_
      rotate_left
      ·show Act.put _ (some 16) _=_
       simp only[Act.put,List.setIfInBounds_toArray,List.set_cons_zero,List.set_cons_succ,Qgr,Qgs]
       rfl
      exact Qgm qq_7 (hJ2_3_8_11 (v318) _ ⟨hHeld,qq_3,qq_0,qq_b⟩)
    rintro v318 w16 ⟨hS_,h0_,h1_,h2_⟩
    have n0_:Aside0 (Kd.R (Kd.int .u8) 5 w16 w.heap.size (fun _=>True) v318 y317):=⟨h0_⟩
    have n1_:Aside0 (w16.heap[gb316]? = some (.cells #[.int .u8 a0_0,.int .u32 a0_1] 27 (0,0))):=⟨h1_⟩
    have n2_:Aside0 (Below w.heap.size w w16):=⟨h2_⟩
    clear BK316 HB h0_ h1_ h2_
    have HO319:=n0_
    have BK316:=n1_
    have HB:=n2_
    clear n0_ n1_ n2_
    have hHeld:w16.cell? ⟨gb316,0,none⟩=some (.int .u8 a0_0)∧w16.cell? ⟨gb316,1,none⟩=some (.int .u32 a0_1):=hS_
    refine Qgm (a':=?_) ?_ ?_
    rotate_left
    ·simp only[Qgk,Act.put,List.setIfInBounds_toArray,List.set_cons_zero,List.set_cons_succ]
     rfl
    refine Qgh (i:=12) (N:=some 17) (v:=?_) (a':=?_) #[true,true,true,true,true,true,true,true,true,true,true,true,true,false,false] rfl rfl (Qhn HT_.out qq_6) (fun _ _ _ h=>h) (Or.inl ⟨by rfl,?_⟩) ?_ ?_
    rotate_left
    ·intro w'
     go_simp
     with_reducible rfl
    rotate_left
    ·exact qq_2
    refine one_ (i:=13) (N:=some 18) #[true,true,true,true,true,true,true,true,true,true,true,true,true,true,false] rfl rfl (Qho HT_.out qq_6) (by decide) (fun K hK=>?_)
    refine Qgo Tryz.func61 qq_6 rfl #[.string ((((⟨#[1,2]⟩:ByteArray)++(strOfNums y317))++t320)++t321)] (by rfl) rfl rfl qq_1 ?_
    with_reducible refine(Qbt.calls k ((((⟨#[1,2]⟩:ByteArray)++(strOfNums y317))++t320)++t321) t322 _ A8.out).mono ?_
    rintro e w17 ⟨rfl,hb⟩
    refine⟨_,rfl,?_⟩
    have n0_:=QA (Kd.R_below qq_3 hb)
    have n1_:=QA (Qeh (g:=gb316) (o:=.cells #[.int .u8 a0_0,.int .u32 a0_1] 27 (0,0)) qq_0 hb)
    have n2_:=QA (Qfh qq_b hb)
    clear HO319 BK316 HB
    have HO319:=n0_
    have BK316:=n1_
    have HB:=n2_
    clear n0_ n1_ n2_
    (try clear hb)
    (try clear hb2)
    (try clear hk)
    (try clear hi)
    refine hK.out _ _ ⟨(Qds BK316.out 0).trans rfl,(Qds BK316.out 1).trans rfl⟩ (fun hHeld=>?_)
    clear hK K
    refine Qgm (a':=?_) ?_ ?_
    rotate_left
    ·show Act.put _ (some 18) _=_
     simp only[Act.put,List.setIfInBounds_toArray,List.set_cons_zero,List.set_cons_succ,Qgr,Qgs]
     rfl
    refine Qgh (i:=14) (N:=some 4) (v:=?_) (a':=?_) #[true,true,true,true,true,true,true,true,true,true,true,true,true,true,true] rfl rfl (Qhn HT_.out qq_6) (fun _ _ _ h=>h) (Or.inl ⟨by rfl,?_⟩) ?_ ?_
    rotate_left
    ·intro w'
     go_simp
     with_reducible rfl
    rotate_left
    ·exact qq_2
    refine Qgj (Qhq HT_.out qq_6) ?_
    try go_wp2
    go_ret
    exact⟨by first|rfl |(simp[Qis,Qit]<;>rfl) |(simp[*,Qis,Qit]<;>rfl),qq_b⟩
   ·rw[if_neg c7]at H
    exact absurd H (by simp)
  ·rw[if_neg c5]at H
   exact absurd H (by simp)
 ·rw[if_neg c3]at H
  exact absurd H (by simp)
end Go.Proofs.YtnnofopfbeklbaaGreat.C
end
