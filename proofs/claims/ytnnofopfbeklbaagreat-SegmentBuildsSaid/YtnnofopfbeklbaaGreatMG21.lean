/- Texts of this claim's author and of the print of its functions, merged by merge.py. -/
import Derived.Test.YtnnofopfbeklbaaGreatMG02
import Derived.Test.YtnnofopfbeklbaaGreatMG14
import Derived.Test.YtnnofopfbeklbaaGreatMG16
import Derived.Test.YtnnofopfbeklbaaGreatMG20
set_option linter.unusedVariables false
set_option linter.unusedSimpArgs false
set_option maxHeartbeats 8000000
set_option maxRecDepth 100000
section
namespace Go.Proofs.YtnnofopfbeklbaaGreat.C
open Go.RowKit Go.Proofs.YtnnofopfbeklbaaGreatW.PrintWords Go.Proofs.YtnnofopfbeklbaaGreatW.PrintLast Go.Proofs.YtnnofopfbeklbaaGreatW.PrintMore
attribute [local go_sem] Qfx Qfy Qfz Qga Qgb Qgc Qgd Qge
def Qbp.f (k : Nat) (a0_0 : Int) (l0_1 : List (S122)) : Option (ByteArray) := (Qaq.f k (IntKind.u64.wrap ((l0_1.length : Int))) 4).bind fun t475 => (if 1 + t475.size ≤ 9223372036854775807 then ((Qaq.f k (IntKind.u64.wrap (a0_0)) 4).bind fun t476 => (if ((⟨#[4]⟩ : ByteArray) ++ t475).size + t476.size ≤ 9223372036854775807 then ((Qbk.f k l0_1).bind fun t477 => (if (((⟨#[4]⟩ : ByteArray) ++ t475) ++ t476).size + t477.size ≤ 9223372036854775807 then ((Qbm.f k l0_1).bind fun t478 => ((Qbn.f k t478).bind fun t481 => (if ((((⟨#[4]⟩ : ByteArray) ++ t475) ++ t476) ++ t477).size + t481.size ≤ 9223372036854775807 then ((Qbh.f k (((((⟨#[4]⟩ : ByteArray) ++ t475) ++ t476) ++ t477) ++ t481)).bind fun t482 => (some t482)) else (none)))) else (none))) else (none))) else (none))
def Qbp.T1 : Bool × List (List Nat × List Nat) := (true, [([], []), ([0], [0]), ([1], [1]), ([2], [2]), ([3], [3]), ([4], [4]), ([], []), ([6], [6]), ([7], [7]), ([8, 4], [8]), ([5, 9], [5, 9]), ([10, 9, 0, 1, 2, 3, 4, 5, 6, 7, 8, 9, 10], [10])])
def Qbp.B1 : List Nat := [0, 1, 3, 7, 15, 31, 0, 64, 192, 479, 1023, 2047]
theorem Qbp.tab1 : rtab .any (Qfp Tryz.f71 1) = Qbp.T1 := by kernel_rfl
theorem Qbp.bits1 : Qfl Qbp.T1.2 Qbp.B1 = true := by kernel_rfl
def Qbp.T2 : Bool × List (List Nat × List Nat) := (true, [([], []), ([], []), ([1], [1]), ([2], [2]), ([0, 3], [0, 3]), ([], []), ([5], [5]), ([6, 3], [6]), ([7, 7], [7]), ([4, 8], [4, 8]), ([9, 8], [9]), ([10, 10, 0, 1, 2, 3, 4, 5, 6, 7, 8, 9, 10], [10])])
def Qbp.B2 : List Nat := [0, 0, 2, 6, 15, 0, 32, 110, 238, 511, 1023, 2047]
theorem Qbp.tab2 : rtab .any (Qfp Tryz.f71 2) = Qbp.T2 := by kernel_rfl
theorem Qbp.bits2 : Qfl Qbp.T2.2 Qbp.B2 = true := by kernel_rfl
theorem Qbp.calls (k : Nat) (a0_0 : Int) (A0_1 : Option Addr) (c0_1 : Nat) (l0_1 : List (S122)) (r : ByteArray) (w : World) (hr0_1 : Kd.C k122 w A0_1 l0_1.length l0_1) (hc0_1 : l0_1.length ≤ c0_1) (h : Qbp.f k a0_0 l0_1 = some r) :
  Calls Tryz.prog 71 #[.agg #[.int .u32 a0_0, .slice A0_1 l0_1.length c0_1]] w fun e w' => e = .returned (.string r) ∧ Below w.heap.size w w' := by
 have hu131 := Tryz.underlying131
 have HR0_1 := QA hr0_1
 have HC0_1 := QA hc0_1
 clear hr0_1 hc0_1
 have HB := QA (Below.refl w.heap.size w)
 have H : ((Qaq.f k (IntKind.u64.wrap ((l0_1.length : Int))) 4).bind fun t475 => (if 1 + t475.size ≤ 9223372036854775807 then ((Qaq.f k (IntKind.u64.wrap (a0_0)) 4).bind fun t476 => (if ((⟨#[4]⟩ : ByteArray) ++ t475).size + t476.size ≤ 9223372036854775807 then ((Qbk.f k l0_1).bind fun t477 => (if (((⟨#[4]⟩ : ByteArray) ++ t475) ++ t476).size + t477.size ≤ 9223372036854775807 then ((Qbm.f k l0_1).bind fun t478 => ((Qbn.f k t478).bind fun t481 => (if ((((⟨#[4]⟩ : ByteArray) ++ t475) ++ t476) ++ t477).size + t481.size ≤ 9223372036854775807 then ((Qbh.f k (((((⟨#[4]⟩ : ByteArray) ++ t475) ++ t476) ++ t477) ++ t481)).bind fun t482 => (some t482)) else (none)))) else (none))) else (none))) else (none))) = some r := h
 clear h
 replace H := Option.bind_eq_some_iff.mp H
 obtain ⟨t475, A20, H⟩ := H
 replace H : (if 1 + t475.size ≤ 9223372036854775807 then ((Qaq.f k (IntKind.u64.wrap (a0_0)) 4).bind fun t476 => (if ((⟨#[4]⟩ : ByteArray) ++ t475).size + t476.size ≤ 9223372036854775807 then ((Qbk.f k l0_1).bind fun t477 => (if (((⟨#[4]⟩ : ByteArray) ++ t475) ++ t476).size + t477.size ≤ 9223372036854775807 then ((Qbm.f k l0_1).bind fun t478 => ((Qbn.f k t478).bind fun t481 => (if ((((⟨#[4]⟩ : ByteArray) ++ t475) ++ t476) ++ t477).size + t481.size ≤ 9223372036854775807 then ((Qbh.f k (((((⟨#[4]⟩ : ByteArray) ++ t475) ++ t476) ++ t477) ++ t481)).bind fun t482 => (some t482)) else (none)))) else (none))) else (none))) else (none)) = some r := H
 have A2 := QA A20
 clear A20
 by_cases c3 : 1 + t475.size ≤ 9223372036854775807
 ·rw [if_pos c3] at H
  have c3b0 := eq_true c3
  have c3b1 : decide (1 + t475.size ≤ 9223372036854775807) = true := decide_eq_true c3
  try have c3b2 : (9223372036854775807 < 1 + t475.size) = False := eq_false (Nat.not_lt.2 c3)
  replace H := Option.bind_eq_some_iff.mp H
  obtain ⟨t476, A40, H⟩ := H
  replace H : (if ((⟨#[4]⟩ : ByteArray) ++ t475).size + t476.size ≤ 9223372036854775807 then ((Qbk.f k l0_1).bind fun t477 => (if (((⟨#[4]⟩ : ByteArray) ++ t475) ++ t476).size + t477.size ≤ 9223372036854775807 then ((Qbm.f k l0_1).bind fun t478 => ((Qbn.f k t478).bind fun t481 => (if ((((⟨#[4]⟩ : ByteArray) ++ t475) ++ t476) ++ t477).size + t481.size ≤ 9223372036854775807 then ((Qbh.f k (((((⟨#[4]⟩ : ByteArray) ++ t475) ++ t476) ++ t477) ++ t481)).bind fun t482 => (some t482)) else (none)))) else (none))) else (none)) = some r := H
  have A4 := QA A40
  clear A40
  by_cases c5 : ((⟨#[4]⟩ : ByteArray) ++ t475).size + t476.size ≤ 9223372036854775807
  ·rw [if_pos c5] at H
   have c5b0 := eq_true c5
   have c5b1 : decide (((⟨#[4]⟩ : ByteArray) ++ t475).size + t476.size ≤ 9223372036854775807) = true := decide_eq_true c5
   try have c5b2 : (9223372036854775807 < ((⟨#[4]⟩ : ByteArray) ++ t475).size + t476.size) = False := eq_false (Nat.not_lt.2 c5)
   try have c5b3 := c5b2
   try simp only [ByteArray.size_append, (show ∀ x_ : UInt8, (⟨#[x_]⟩ : ByteArray).size = 1 from fun _ => rfl), (show ∀ x_ y_ : UInt8, (⟨#[x_, y_]⟩ : ByteArray).size = 2 from fun _ _ => rfl)] at c5b3
   try have c5b4 := c5b2
   try simp only [ByteArray.size_append, ByteArray.size_extract, (show ∀ x_ : UInt8, (⟨#[x_]⟩ : ByteArray).size = 1 from fun _ => rfl), (show ∀ x_ y_ : UInt8, (⟨#[x_, y_]⟩ : ByteArray).size = 2 from fun _ _ => rfl)] at c5b4
   replace H := Option.bind_eq_some_iff.mp H
   obtain ⟨t477, A60, H⟩ := H
   replace H : (if (((⟨#[4]⟩ : ByteArray) ++ t475) ++ t476).size + t477.size ≤ 9223372036854775807 then ((Qbm.f k l0_1).bind fun t478 => ((Qbn.f k t478).bind fun t481 => (if ((((⟨#[4]⟩ : ByteArray) ++ t475) ++ t476) ++ t477).size + t481.size ≤ 9223372036854775807 then ((Qbh.f k (((((⟨#[4]⟩ : ByteArray) ++ t475) ++ t476) ++ t477) ++ t481)).bind fun t482 => (some t482)) else (none)))) else (none)) = some r := H
   have A6 := QA A60
   clear A60
   by_cases c7 : (((⟨#[4]⟩ : ByteArray) ++ t475) ++ t476).size + t477.size ≤ 9223372036854775807
   ·rw [if_pos c7] at H
    have c7b0 := eq_true c7
    have c7b1 : decide ((((⟨#[4]⟩ : ByteArray) ++ t475) ++ t476).size + t477.size ≤ 9223372036854775807) = true := decide_eq_true c7
    try have c7b2 : (9223372036854775807 < (((⟨#[4]⟩ : ByteArray) ++ t475) ++ t476).size + t477.size) = False := eq_false (Nat.not_lt.2 c7)
    try have c7b3 := c7b2
    try simp only [ByteArray.size_append, (show ∀ x_ : UInt8, (⟨#[x_]⟩ : ByteArray).size = 1 from fun _ => rfl), (show ∀ x_ y_ : UInt8, (⟨#[x_, y_]⟩ : ByteArray).size = 2 from fun _ _ => rfl)] at c7b3
    try have c7b4 := c7b2
    try simp only [ByteArray.size_append, ByteArray.size_extract, (show ∀ x_ : UInt8, (⟨#[x_]⟩ : ByteArray).size = 1 from fun _ => rfl), (show ∀ x_ y_ : UInt8, (⟨#[x_, y_]⟩ : ByteArray).size = 2 from fun _ _ => rfl)] at c7b4
    replace H := Option.bind_eq_some_iff.mp H
    obtain ⟨t478, A80, H⟩ := H
    replace H : ((Qbn.f k t478).bind fun t481 => (if ((((⟨#[4]⟩ : ByteArray) ++ t475) ++ t476) ++ t477).size + t481.size ≤ 9223372036854775807 then ((Qbh.f k (((((⟨#[4]⟩ : ByteArray) ++ t475) ++ t476) ++ t477) ++ t481)).bind fun t482 => (some t482)) else (none))) = some r := H
    have A8 := QA A80
    clear A80
    replace H := Option.bind_eq_some_iff.mp H
    obtain ⟨t481, A90, H⟩ := H
    replace H : (if ((((⟨#[4]⟩ : ByteArray) ++ t475) ++ t476) ++ t477).size + t481.size ≤ 9223372036854775807 then ((Qbh.f k (((((⟨#[4]⟩ : ByteArray) ++ t475) ++ t476) ++ t477) ++ t481)).bind fun t482 => (some t482)) else (none)) = some r := H
    have A9 := QA A90
    clear A90
    by_cases c10 : ((((⟨#[4]⟩ : ByteArray) ++ t475) ++ t476) ++ t477).size + t481.size ≤ 9223372036854775807
    ·rw [if_pos c10] at H
     have c10b0 := eq_true c10
     have c10b1 : decide (((((⟨#[4]⟩ : ByteArray) ++ t475) ++ t476) ++ t477).size + t481.size ≤ 9223372036854775807) = true := decide_eq_true c10
     try have c10b2 : (9223372036854775807 < ((((⟨#[4]⟩ : ByteArray) ++ t475) ++ t476) ++ t477).size + t481.size) = False := eq_false (Nat.not_lt.2 c10)
     try have c10b3 := c10b2
     try simp only [ByteArray.size_append, (show ∀ x_ : UInt8, (⟨#[x_]⟩ : ByteArray).size = 1 from fun _ => rfl), (show ∀ x_ y_ : UInt8, (⟨#[x_, y_]⟩ : ByteArray).size = 2 from fun _ _ => rfl)] at c10b3
     try have c10b4 := c10b2
     try simp only [ByteArray.size_append, ByteArray.size_extract, (show ∀ x_ : UInt8, (⟨#[x_]⟩ : ByteArray).size = 1 from fun _ => rfl), (show ∀ x_ y_ : UInt8, (⟨#[x_, y_]⟩ : ByteArray).size = 2 from fun _ _ => rfl)] at c10b4
     replace H := Option.bind_eq_some_iff.mp H
     obtain ⟨t482, A110, H⟩ := H
     replace H : (some t482) = some r := H
     have A11 := QA A110
     clear A110
     obtain rfl := Option.some.inj H
     go_enter Tryz.func71, Tryz.ntmps71
     try go_wp2_with (first | ((with_reducible refine Qef (N := 1) rfl ?_); refine qq_e 1 #[.int .u32 a0_0, .slice A0_1 l0_1.length c0_1] 131 ?_; intro gb474 hg w12 hbox hb; have n0_ := QA (Qea qq_b hb); have n1_ := QA (hbox); have n2_ := QA ((qq_s hg : w.heap.size ≤ gb474)); have n3_ := QA ((qq_s hg : w.heap.size ≤ gb474)); clear HB; have HB := n0_; have BK474 := n1_; have GW474 := n2_; have GE474 := n3_; clear n0_ n1_ n2_ n3_; clear hb hbox hg))
     have n0_ := QA (Qdr BK474.out)
     have n1_ := QA (Qee HB.out)
     clear BK474
     clear HB
     have BK474 := n0_
     have HB := n1_
     clear n0_ n1_
     refine Qen (n := 12) (S := fun w' => w'.cell? ⟨gb474, 0, none⟩ = some (.int .u32 a0_0) ∧ w'.cell? ⟨gb474, 1, none⟩ = some (.slice A0_1 l0_1.length c0_1)) (ds := []) #[false, false, false, false, false, false, false, false, false, false, false, false] qq_6 rfl rfl ⟨(Qdj BK474.out 0).trans rfl, (Qdj BK474.out 1).trans rfl⟩ (fun hHeld => ?_); refine Qfn Qbp.tab1 Qbp.bits1 (fun HT_ HW_ => ?_)
     generalize w12.drew = w13 at BK474 HB hHeld ⊢
     refine Qeo (i := 0) (N := some 4) (v := ?_) (a' := ?_) #[true, false, false, false, false, false, false, false, false, false, false, false] rfl rfl (Qfh HT_.out qq_6) (fun _ _ _ h => h) (Or.inl ⟨by rfl, ?_⟩) ?_ ?_
     rotate_left
     ·intro w'
      go_simp
      with_reducible rfl
     rotate_left
     ·exact qq_2
     refine Qeo (i := 6) (N := some 10) (v := ?_) (a' := ?_) #[true, false, false, false, false, false, true, false, false, false, false, false] rfl rfl (Qfh HT_.out qq_6) (fun _ _ _ h => h) (Or.inl ⟨by rfl, ?_⟩) ?_ ?_
     rotate_left
     ·intro w'
      go_simp
      with_reducible rfl
     rotate_left
     ·exact qq_2
     refine take_ (i := 1) (N := some 5) (v := ?_) (a' := ?_) #[true, true, false, false, false, false, true, false, false, false, false, false] rfl rfl (Qfm HT_.out HW_.out qq_6) (fun _ _ _ h => h) (Or.inl ⟨by rfl, ?_⟩) hHeld ?_ ?_
     rotate_left
     ·rintro w' ⟨s0, s1⟩
      go_simp
      with_reducible rfl
     rotate_left
     ·exact qq_2
     refine Qeo (i := 2) (N := some 6) (v := ?_) (a' := ?_) #[true, true, true, false, false, false, true, false, false, false, false, false] rfl rfl (Qfh HT_.out qq_6) (fun _ _ _ h => h) (Or.inl ⟨by rfl, ?_⟩) ?_ ?_
     rotate_left
     ·intro w'
      go_simp
      with_reducible rfl
     rotate_left
     ·exact qq_2
     refine Qeo (i := 3) (N := some 7) (v := ?_) (a' := ?_) #[true, true, true, true, false, false, true, false, false, false, false, false] rfl rfl (Qfh HT_.out qq_6) (fun _ _ _ h => h) (Or.inl ⟨by rfl, ?_⟩) ?_ ?_
     rotate_left
     ·intro w'
      go_simp
      with_reducible rfl
     rotate_left
     ·exact qq_2
     refine take_ (i := 7) (N := some 11) (v := ?_) (a' := ?_) #[true, true, true, true, false, false, true, true, false, false, false, false] rfl rfl (Qfm HT_.out HW_.out qq_6) (fun _ _ _ h => h) (Or.inl ⟨by rfl, ?_⟩) hHeld ?_ ?_
     rotate_left
     ·rintro w' ⟨s0, s1⟩
      go_simp
      with_reducible rfl
     rotate_left
     ·exact qq_2
     refine Qeo (i := 8) (N := some 12) (v := ?_) (a' := ?_) #[true, true, true, true, false, false, true, true, true, false, false, false] rfl rfl (Qfh HT_.out qq_6) (fun _ _ _ h => h) (Or.inl ⟨by rfl, ?_⟩) ?_ ?_
     rotate_left
     ·intro w'
      go_simp
      with_reducible rfl
     rotate_left
     ·exact qq_2
     refine one_ (i := 4) (N := some 8) #[true, true, true, true, true, false, true, true, true, false, false, false] rfl rfl (Qfi HT_.out qq_6) (by decide) (fun K hK => ?_)
     refine Qet Tryz.func103 qq_6 rfl #[.int .u64 (IntKind.u64.wrap ((l0_1.length : Int))), .int .i64 4] (by rfl) rfl rfl qq_1 ?_
     with_reducible refine (Qaq.calls k (IntKind.u64.wrap ((l0_1.length : Int))) 4 t475 _ A2.out).mono ?_
     rintro e w14 ⟨rfl, hb⟩
     refine ⟨_, rfl, ?_⟩
     have n0_ := QA (Qdt (g := gb474) (o := .cells #[.int .u32 a0_0, .slice A0_1 l0_1.length c0_1] 131 (0, 0)) qq_0 hb)
     have n1_ := QA (Qea qq_b hb)
     clear BK474
     clear HB
     have BK474 := n0_
     have HB := n1_
     clear n0_ n1_
     (try clear hb)
     (try clear hb2)
     (try clear hk)
     (try clear hi)
     refine hK.out _ _ ⟨(Qdj BK474.out 0).trans rfl, (Qdj BK474.out 1).trans rfl⟩ (fun hHeld => ?_)
     clear hK K
     refine Qes (a' := ?_) ?_ ?_
     rotate_left
     ·show Act.put _ (some 8) _ = _
      simp only [Act.put, List.setIfInBounds_toArray, List.set_cons_zero, List.set_cons_succ, Qew, Qex]
      rfl
     refine Qeo (i := 5) (N := some 9) (v := ?_) (a' := ?_) #[true, true, true, true, true, true, true, true, true, false, false, false] rfl rfl (Qfh HT_.out qq_6) (fun _ _ _ h => h) (Or.inl ⟨by rfl, ?_⟩) ?_ ?_
     rotate_left
     ·intro w'
      go_simp
      with_reducible rfl
     rotate_left
     ·exact qq_2
     refine one_ (i := 9) (N := some 13) #[true, true, true, true, true, true, true, true, true, true, false, false] rfl rfl (Qfi HT_.out qq_6) (by decide) (fun K hK => ?_)
     refine Qet Tryz.func103 qq_6 rfl #[.int .u64 (IntKind.u64.wrap (a0_0)), .int .i64 4] (by rfl) rfl rfl qq_1 ?_
     with_reducible refine (Qaq.calls k (IntKind.u64.wrap (a0_0)) 4 t476 _ A4.out).mono ?_
     rintro e w15 ⟨rfl, hb⟩
     refine ⟨_, rfl, ?_⟩
     have n0_ := QA (Qdt (g := gb474) (o := .cells #[.int .u32 a0_0, .slice A0_1 l0_1.length c0_1] 131 (0, 0)) qq_0 hb)
     have n1_ := QA (Qea qq_b hb)
     clear BK474
     clear HB
     have BK474 := n0_
     have HB := n1_
     clear n0_ n1_
     (try clear hb)
     (try clear hb2)
     (try clear hk)
     (try clear hi)
     refine hK.out _ _ ⟨(Qdj BK474.out 0).trans rfl, (Qdj BK474.out 1).trans rfl⟩ (fun hHeld => ?_)
     clear hK K
     refine Qes (a' := ?_) ?_ ?_
     rotate_left
     ·show Act.put _ (some 13) _ = _
      simp only [Act.put, List.setIfInBounds_toArray, List.set_cons_zero, List.set_cons_succ, Qew, Qex]
      rfl
     refine Qeo (i := 10) (N := some 14) (v := ?_) (a' := ?_) #[true, true, true, true, true, true, true, true, true, true, true, false] rfl rfl (Qfh HT_.out qq_6) (fun _ _ _ h => h) (Or.inl ⟨by rfl, ?_⟩) ?_ ?_
     rotate_left
     ·intro w'
      go_simp
      with_reducible rfl
     rotate_left
     ·exact qq_2
     refine Qeo (i := 11) (N := some 3) (v := ?_) (a' := ?_) #[true, true, true, true, true, true, true, true, true, true, true, true] rfl rfl (Qfh HT_.out qq_6) (fun _ _ _ h => h) (Or.inl ⟨by rfl, ?_⟩) ?_ ?_
     rotate_left
     ·intro w'
      go_simp
      with_reducible rfl
     rotate_left
     ·exact qq_2
     refine Qep (Qfk HT_.out qq_6) ?_
     try go_wp2
     have n0_ := QA (Qdr BK474.out)
     have n1_ := QA (Qee HB.out)
     clear BK474
     clear HB
     have BK474 := n0_
     have HB := n1_
     clear n0_ n1_
     refine Qen (n := 12) (S := fun w' => w'.cell? ⟨gb474, 0, none⟩ = some (.int .u32 a0_0) ∧ w'.cell? ⟨gb474, 1, none⟩ = some (.slice A0_1 l0_1.length c0_1)) (ds := []) #[false, false, false, false, false, false, false, false, false, false, false, false] qq_6 rfl rfl ⟨(Qdj BK474.out 0).trans rfl, (Qdj BK474.out 1).trans rfl⟩ (fun hHeld => ?_); refine Qfn Qbp.tab2 Qbp.bits2 (fun HT_ HW_ => ?_)
     generalize w15.drew = w16 at BK474 HB hHeld ⊢
     refine Qeo (i := 0) (N := some 15) (v := ?_) (a' := ?_) #[true, false, false, false, false, false, false, false, false, false, false, false] rfl rfl (Qfh HT_.out qq_6) (fun _ _ _ h => h) (Or.inl ⟨by rfl, ?_⟩) ?_ ?_
     rotate_left
     ·intro w'
      go_simp
      with_reducible rfl
     rotate_left
     ·exact qq_2
     refine Qeo (i := 1) (N := some 16) (v := ?_) (a' := ?_) #[true, true, false, false, false, false, false, false, false, false, false, false] rfl rfl (Qfh HT_.out qq_6) (fun _ _ _ h => h) (Or.inl ⟨by rfl, ?_⟩) ?_ ?_
     rotate_left
     ·intro w'
      go_simp
      with_reducible rfl
     rotate_left
     ·exact qq_2
     refine Qeo (i := 5) (N := some 20) (v := ?_) (a' := ?_) #[true, true, false, false, false, true, false, false, false, false, false, false] rfl rfl (Qfh HT_.out qq_6) (fun _ _ _ h => h) (Or.inl ⟨by rfl, ?_⟩) ?_ ?_
     rotate_left
     ·intro w'
      go_simp
      with_reducible rfl
     rotate_left
     ·exact qq_2
     refine take_ (i := 2) (N := some 17) (v := ?_) (a' := ?_) #[true, true, true, false, false, true, false, false, false, false, false, false] rfl rfl (Qfm HT_.out HW_.out qq_6) (fun _ _ _ h => h) (Or.inl ⟨by rfl, ?_⟩) hHeld ?_ ?_
     rotate_left
     ·rintro w' ⟨s0, s1⟩
      go_simp
      with_reducible rfl
     rotate_left
     ·exact qq_2
     refine take_ (i := 6) (N := some 21) (v := ?_) (a' := ?_) #[true, true, true, false, false, true, true, false, false, false, false, false] rfl rfl (Qfm HT_.out HW_.out qq_6) (fun _ _ _ h => h) (Or.inl ⟨by rfl, ?_⟩) hHeld ?_ ?_
     rotate_left
     ·rintro w' ⟨s0, s1⟩
      go_simp
      with_reducible rfl
     rotate_left
     ·exact qq_2
     refine one_ (i := 3) (N := some 18) #[true, true, true, true, false, true, true, false, false, false, false, false] rfl rfl (Qfi HT_.out qq_6) (by decide) (fun K hK => ?_)
     refine Qet Tryz.func121 qq_6 rfl #[.slice A0_1 l0_1.length c0_1] (by rfl) rfl rfl qq_1 ?_
     with_reducible refine (Qbk.calls k _ _ l0_1 t477 _ ?side1 ?side2 A6.out).mono ?_
     (case side1 => repeat (first | exact (Kd.C_below HR0_1.out HB.out) | (with_reducible refine Kd.C_alloc ?_ _) | (with_reducible refine Kd.C_drewN ?_ _) | (with_reducible refine Kd.C_drew ?_)))
     (case side2 => exact HC0_1.out)
     rintro e w17 ⟨rfl, hb⟩
     refine ⟨_, rfl, ?_⟩
     have n0_ := QA (Qdt (g := gb474) (o := .cells #[.int .u32 a0_0, .slice A0_1 l0_1.length c0_1] 131 (0, 0)) qq_0 hb)
     have n1_ := QA (Qea qq_b hb)
     clear BK474
     clear HB
     have BK474 := n0_
     have HB := n1_
     clear n0_ n1_
     (try clear hb)
     (try clear hb2)
     (try clear hk)
     (try clear hi)
     refine hK.out _ _ ⟨(Qdj BK474.out 0).trans rfl, (Qdj BK474.out 1).trans rfl⟩ (fun hHeld => ?_)
     clear hK K
     refine Qes (a' := ?_) ?_ ?_
     rotate_left
     ·show Act.put _ (some 18) _ = _
      simp only [Act.put, List.setIfInBounds_toArray, List.set_cons_zero, List.set_cons_succ, Qew, Qex]
      rfl
     refine Qeo (i := 4) (N := some 19) (v := ?_) (a' := ?_) #[true, true, true, true, true, true, true, false, false, false, false, false] rfl rfl (Qfh HT_.out qq_6) (fun _ _ _ h => h) (Or.inl ⟨by rfl, ?_⟩) ?_ ?_
     rotate_left
     ·intro w'
      go_simp
      with_reducible rfl
     rotate_left
     ·exact qq_2
     refine one_ (i := 7) (N := some 22) #[true, true, true, true, true, true, true, true, false, false, false, false] rfl rfl (Qfi HT_.out qq_6) (by decide) (fun K hK => ?_)
     refine Qet Tryz.func123 qq_6 rfl #[.slice A0_1 l0_1.length c0_1] (by rfl) rfl rfl qq_1 ?_
     with_reducible refine (Qbm.calls k _ _ l0_1 t478 _ ?side1 ?side2 A8.out).mono ?_
     (case side1 => repeat (first | exact (Kd.C_below HR0_1.out HB.out) | (with_reducible refine Kd.C_alloc ?_ _) | (with_reducible refine Kd.C_drewN ?_ _) | (with_reducible refine Kd.C_drew ?_)))
     (case side2 => exact HC0_1.out)
     rintro e w18 ⟨v479, rfl, ho0, hb⟩
     refine ⟨_, rfl, ?_⟩
     have n0_ := QA (Kd.R_lower ho0 (Qdz qq_b))
     have n1_ := QA (Qdt (g := gb474) (o := .cells #[.int .u32 a0_0, .slice A0_1 l0_1.length c0_1] 131 (0, 0)) qq_0 hb)
     have n2_ := QA (Qea qq_b hb)
     clear BK474
     clear HB
     have HO480 := n0_
     have BK474 := n1_
     have HB := n2_
     clear n0_ n1_ n2_
     (try clear hb)
     (try clear hb2)
     (try clear hk)
     (try clear hi)
     (try clear ho0)
     obtain ⟨Ao19, co19, eo19⟩ := Kd.R_slice HO480.out
     (first | subst eo19 | (injection eo19 with f1_ f2_ f3_; have f4_ := f1_.symm; have f5_ := f3_.symm; clear f1_ f2_ f3_; subst f4_; subst f5_))
     refine hK.out _ _ ⟨(Qdj BK474.out 0).trans rfl, (Qdj BK474.out 1).trans rfl⟩ (fun hHeld => ?_)
     clear hK K
     refine Qes (a' := ?_) ?_ ?_
     rotate_left
     ·show Act.put _ (some 22) _ = _
      simp only [Act.put, List.setIfInBounds_toArray, List.set_cons_zero, List.set_cons_succ, Qew, Qex]
      rfl
     refine one_ (i := 8) (N := some 23) #[true, true, true, true, true, true, true, true, true, false, false, false] rfl rfl (Qfi HT_.out qq_6) (by decide) (fun K hK => ?_)
     refine Qet Tryz.func122 qq_6 rfl #[.slice Ao19 t478.length co19] (by rfl) rfl rfl qq_1 ?_
     with_reducible refine (Qbn.calls k _ _ t478 t481 _ ?side1 ?side2 A9.out).mono ?_
     (case side1 => repeat (first | exact (Kd.R_reads' HO480.out).2.2 | (with_reducible refine Kd.C_alloc ?_ _) | (with_reducible refine Kd.C_drewN ?_ _) | (with_reducible refine Kd.C_drew ?_)))
     (case side2 => exact (Kd.R_reads' HO480.out).2.1)
     rintro e w20 ⟨rfl, hb⟩
     refine ⟨_, rfl, ?_⟩
     have n0_ := QA (Kd.R_below qq_4 hb)
     have n1_ := QA (Qdt (g := gb474) (o := .cells #[.int .u32 a0_0, .slice A0_1 l0_1.length c0_1] 131 (0, 0)) qq_0 hb)
     have n2_ := QA (Qea qq_b hb)
     clear HO480
     clear BK474
     clear HB
     have HO480 := n0_
     have BK474 := n1_
     have HB := n2_
     clear n0_ n1_ n2_
     (try clear hb)
     (try clear hb2)
     (try clear hk)
     (try clear hi)
     refine hK.out _ _ ⟨(Qdj BK474.out 0).trans rfl, (Qdj BK474.out 1).trans rfl⟩ (fun hHeld => ?_)
     clear hK K
     refine Qes (a' := ?_) ?_ ?_
     rotate_left
     ·show Act.put _ (some 23) _ = _
      simp only [Act.put, List.setIfInBounds_toArray, List.set_cons_zero, List.set_cons_succ, Qew, Qex]
      rfl
     refine Qeo (i := 9) (N := some 24) (v := ?_) (a' := ?_) #[true, true, true, true, true, true, true, true, true, true, false, false] rfl rfl (Qfh HT_.out qq_6) (fun _ _ _ h => h) (Or.inl ⟨by rfl, ?_⟩) ?_ ?_
     rotate_left
     ·intro w'
      go_simp
      with_reducible rfl
     rotate_left
     ·exact qq_2
     refine one_ (i := 10) (N := some 25) #[true, true, true, true, true, true, true, true, true, true, true, false] rfl rfl (Qfi HT_.out qq_6) (by decide) (fun K hK => ?_)
     refine Qet Tryz.func61 qq_6 rfl #[.string (((((⟨#[4]⟩ : ByteArray) ++ t475) ++ t476) ++ t477) ++ t481)] (by rfl) rfl rfl qq_1 ?_
     with_reducible refine (Qbh.calls k (((((⟨#[4]⟩ : ByteArray) ++ t475) ++ t476) ++ t477) ++ t481) t482 _ A11.out).mono ?_
     rintro e w21 ⟨rfl, hb⟩
     refine ⟨_, rfl, ?_⟩
     have n0_ := QA (Kd.R_below qq_4 hb)
     have n1_ := QA (Qdt (g := gb474) (o := .cells #[.int .u32 a0_0, .slice A0_1 l0_1.length c0_1] 131 (0, 0)) qq_0 hb)
     have n2_ := QA (Qea qq_b hb)
     clear HO480
     clear BK474
     clear HB
     have HO480 := n0_
     have BK474 := n1_
     have HB := n2_
     clear n0_ n1_ n2_
     (try clear hb)
     (try clear hb2)
     (try clear hk)
     (try clear hi)
     refine hK.out _ _ ⟨(Qdj BK474.out 0).trans rfl, (Qdj BK474.out 1).trans rfl⟩ (fun hHeld => ?_)
     clear hK K
     refine Qes (a' := ?_) ?_ ?_
     rotate_left
     ·show Act.put _ (some 25) _ = _
      simp only [Act.put, List.setIfInBounds_toArray, List.set_cons_zero, List.set_cons_succ, Qew, Qex]
      rfl
     refine Qeo (i := 11) (N := some 2) (v := ?_) (a' := ?_) #[true, true, true, true, true, true, true, true, true, true, true, true] rfl rfl (Qfh HT_.out qq_6) (fun _ _ _ h => h) (Or.inl ⟨by rfl, ?_⟩) ?_ ?_
     rotate_left
     ·intro w'
      go_simp
      with_reducible rfl
     rotate_left
     ·exact qq_2
     refine Qep (Qfk HT_.out qq_6) ?_
     try go_wp2
     go_ret
     exact ⟨by first | rfl | (simp [Qgi, Qgj] <;> rfl) | (simp [*, Qgi, Qgj] <;> rfl), qq_b⟩
    ·rw [if_neg c10] at H
     exact absurd H (by simp)
   ·rw [if_neg c7] at H
    exact absurd H (by simp)
  ·rw [if_neg c5] at H
   exact absurd H (by simp)
 ·rw [if_neg c3] at H
  exact absurd H (by simp)
def Qbt.l0 : Nat → List Int → Int → Int → Option (ByteArray)
 | 0, _, _, _ => none
 | k + 1, x3, x9, x10 => if x10 < x9 then (if 0 ≤ x10 then (if x10 < (x3.length : Int) then (Qbt.l0 k (x3.set (x10 : Int).toNat 255) x9 (wrap64 (x10 + 1))) else (none)) else (none)) else (some (strOfNums x3))
def Qbt.f (k : Nat) (a0 : Int) : Option (ByteArray) := if 0 ≤ (mx 0 a0) then (if (mx 0 a0 : Int).toNat ≤ 281474976710656 then ((some (List.replicate (mx 0 a0 : Int).toNat 0 : List Int)).bind fun y483 => (Qbt.l0 k y483 (y483.length : Int) 0)) else (none)) else (none)
theorem Qbt.calls (k : Nat) (a0 : Int) (r : ByteArray) (w : World) (h : Qbt.f k a0 = some r) :
  Calls Tryz.prog 72 #[.int .i64 a0] w fun e w' => e = .returned (.string r) ∧ Below w.heap.size w w' := by
 have HB := QA (Below.refl w.heap.size w)
 have H : (if 0 ≤ (mx 0 a0) then (if (mx 0 a0 : Int).toNat ≤ 281474976710656 then ((some (List.replicate (mx 0 a0 : Int).toNat 0 : List Int)).bind fun y483 => (Qbt.l0 k y483 (y483.length : Int) 0)) else (none)) else (none)) = some r := h
 clear h
 obtain ⟨ji2, hji2⟩ : ∃ j_ : Int, (mx 0 a0) = j_ := ⟨_, rfl⟩
 replace H : (if 0 ≤ (ji2) then (if (ji2 : Int).toNat ≤ 281474976710656 then ((some (List.replicate (ji2 : Int).toNat 0 : List Int)).bind fun y483 => (Qbt.l0 k y483 (y483.length : Int) 0)) else (none)) else (none)) = some r := by first | (rw [hji2] at H; exact H) | (simp only [hji2] at H ⊢; exact H)
 (try (have hji2l : 0 ≤ ji2 := by (rw [← hji2]; unfold mx; (repeat' split) <;> omega)))
 (try (have hji2m : 0 ≤ ji2 := by omega))
 have hji2_ : (if 0 < a0 then a0 else 0) = ji2 := hji2
 by_cases c3 : 0 ≤ (ji2)
 ·rw [if_pos c3] at H
  have c3b0 := eq_true c3
  have c3b1 : decide (0 ≤ (ji2)) = true := decide_eq_true c3
  clear c3
  by_cases c4 : (ji2 : Int).toNat ≤ 281474976710656
  ·rw [if_pos c4] at H
   have c4b0 := eq_true c4
   have c4b1 : decide ((ji2 : Int).toNat ≤ 281474976710656) = true := decide_eq_true c4
   clear c4
   obtain ⟨y483, hy483⟩ : ∃ y_ : List Int, y_ = (List.replicate (ji2 : Int).toNat 0) := ⟨_, rfl⟩
   replace H : (Qbt.l0 k y483 (y483.length : Int) 0) = some r := by first | (rw [hy483]; with_reducible exact H) | (have H2_ := (Option.bind_some _ _).symm.trans H; rw [hy483]; with_reducible exact H2_) | (have H2_ := (Option.bind_some _ _).symm.trans H; with_reducible exact H2_) | with_reducible exact H | (rw [hy483]; exact H) | exact H
   have Ny483 := QA hy483
   clear hy483
   have H' := QA H
   clear H
   go_enter Tryz.func72, Tryz.ntmps72
   go_wp2_with (first | ((with_reducible refine Qef (N := 7) rfl ?_); refine Kd.R_make (Kd.int .u8) _ 5 rfl (N := 7) rfl 52 _ _ rfl ji2 rfl rfl Tryz.underlying52 (.int .u8 0) 1 Qgk rfl (by decide) (by omega) 0 (ok := fun _ => True) (okp := fun _ => True) rfl (fun _ hk => hk) trivial (of_decide_eq_true qq_7) (Nat.le_trans (Nat.mul_le_mul_right _ (of_decide_eq_true qq_7 : ji2.toNat ≤ 281474976710656)) (by omega)) (Below.refl _ _) (Nat.le_refl _) ?_; intro v484 w5 ho6 hb hg_ hnew_; clear hg_ hnew_; (first | rw [← Ny483.out] at ho6 | (simp only [Int.reduceToNat] at ho6; rw [← Ny483.out] at ho6)); have n0_ := QA (Kd.R_lower ho6 (Qdz qq_b)); have n1_ := QA (Qea qq_b hb); clear HB; have HO485 := n0_; have HB := n1_; clear n0_ n1_; clear hb ho6; obtain ⟨Ao7, co7, eo7⟩ := Kd.R_slice HO485.out; subst eo7))
   go_loopg [10] k (fun kq v10 w' => ∃ (x3_1 : List Int) (x10_1 : Int), v10 = .int .i64 x10_1 ∧ Aside0 (Qbt.l0 kq x3_1 (y483.length : Int) x10_1 = some r) ∧ Aside0 (kq ≤ k) ∧ Aside0 (Kd.R (Kd.int .u8) 5 w' w.heap.size (fun _ => True) (.slice Ao7 y483.length co7) x3_1) ∧ Aside0 (Below w.heap.size w w'))
   case atStart => exact ⟨(y483), (0), qq_5, H', ⟨Nat.le_refl _⟩, ⟨by (with_reducible repeat (first | apply Kd.R_alloc | apply Kd.R_drewN | apply Kd.R_drew)); exact HO485.out⟩, ⟨qq_b⟩⟩
   case round =>
    clear H'
    try clear c3
    try clear c3b0
    try clear c3b1
    try clear c4
    try clear c4b0
    try clear c4b1
    obtain ⟨x3_1, x10_1, rfl, HA, HK1, HO_3, HB⟩ := hrel
    have hl3_1 := (Kd.R_reads' HO_3.out).1
    rw [hl3_1] at HO_3
    (try simp only [hl3_1])
    cases gk with
    | zero => exact absurd HA.out (by simp [Qbt.l0])
    | succ k1 =>
     have H := HA.out
     clear HA
     simp only [Qbt.l0] at H
     by_cases c8 : x10_1 < (y483.length : Int)
     ·rw [if_pos c8] at H
      have c8b0 : decide (x10_1 < (y483.length : Int)) = true := decide_eq_true c8
      clear c8
      by_cases c9 : 0 ≤ x10_1
      ·rw [if_pos c9] at H
       have c9b0 : decide (0 ≤ x10_1) = true := decide_eq_true c9
       clear c9
       by_cases c10 : x10_1 < (x3_1.length : Int)
       ·rw [if_pos c10] at H
        have c10b0 : decide (x10_1 < (x3_1.length : Int)) = true := decide_eq_true c10
        clear c10
        obtain ⟨y486, hy486⟩ : ∃ y_ : List Int, y_ = (x3_1.set (x10_1 : Int).toNat 255) := ⟨_, rfl⟩
        replace H : (Qbt.l0 k1 y486 (y483.length : Int) (wrap64 (x10_1 + 1))) = some r := by first | (rw [hy486]; with_reducible exact H) | (have H2_ := (Option.bind_some _ _).symm.trans H; rw [hy486]; with_reducible exact H2_) | (have H2_ := (Option.bind_some _ _).symm.trans H; with_reducible exact H2_) | with_reducible exact H | (rw [hy486]; exact H) | exact H
        have Ny486 := QA hy486
        clear hy486
        have H' := QA H
        clear H
        have p11 : 0 ≤ (x10_1 : Int) := of_decide_eq_true qq_7
        have q11 : (x10_1 : Int) < ((x3_1.length : Int) : Int) := of_decide_eq_true qq_7
        obtain ⟨go11, co11, eo11, gb11, gl11, cl11, HG11⟩ := Kd.R_form HO_3.out (by omega)
        (first | cases eo11 | (injection eo11 with ea_ en_ ec_; (first | subst ea_ | (injection ea_ with ea_; subst ea_)); subst ec_; clear en_))
        have GB11 := QA gb11
        have GG11 := QA HG11
        clear gb11 gl11 HG11
        obtain ⟨hx11_0, hf11_0⟩ := Kd.R_celln 0 HO_3.out (x10_1 : Int) p11 q11
        replace p11 := eq_true p11
        replace q11 := eq_true q11
        have HP12 := Kd.R_putg HO_3.out (x10_1 : Int) 255
        go_wp2_with (first | ((with_reducible refine gate_store (t := 5) (p := 15) rfl ?_); refine store_event (t := 5) (p := 15) (v := ?vo_w13) (w1 := (wr.setCell ⟨go11, (x10_1 : Int).toNat, none⟩ (.int .u8 255))) ?hg ?ho ?hn ?hr ?_; (case ho => rfl); (case hg => rfl); (case hn => rfl); (case hr => exact qq_12); intro w13 hw; have hg : wr.grownBy w13 (some go11) := (by rw [hw]; exact HP12.2); have hp_ : Kd.R (Kd.int .u8) 5 w13 w.heap.size (fun _ => True) (.slice (some ⟨go11, 0, none⟩) x3_1.length co7) y486 := (by rw [hw, Ny486.out]; exact HP12.1); clear HP12; have n0_ := QA (hp_); have n1_ := QA ((by rw [hw]; exact below_set (HB.out) GB11.out : Below w.heap.size w w13)); clear HO_3; clear HB; have HO_3 := n0_; have HB := n1_; clear n0_ n1_; clear hg hw hp_))
        (try simp only [← hl3_1])
        go_roundg k1
        case measure => have := HK1.out; omega
        case rel => exact ⟨(y486), (wrap64 (x10_1 + 1)), qq_5, H', ⟨by have := HK1.out; omega⟩, ⟨by (try simp only [hl3_1]); (with_reducible repeat (first | apply Kd.R_alloc | apply Kd.R_drewN | apply Kd.R_drew)); exact HO_3.out⟩, ⟨qq_b⟩⟩
       ·rw [if_neg c10] at H
        exact absurd H (by simp)
      ·rw [if_neg c9] at H
       exact absurd H (by simp)
     ·rw [if_neg c8] at H
      have c8b0 : decide (x10_1 < (y483.length : Int)) = false := decide_eq_false c8
      first | (have c8b9 := c8b0; simp only [hl3_1] at c8b9) | skip
      clear c8
      obtain rfl := Option.some.inj H
      have hcv14 := Qcw (P := Tryz.prog) Tryz.underlying52 Tryz.underlying5 Tryz.underlying9 (Kd.own_of_R HO_3.out)
      go_wp2
      go_ret
      exact ⟨by first | rfl | (simp [Qgi, Qgj] <;> rfl) | (simp only [← hji2]; first | rfl | (simp [Qgi, Qgj] <;> rfl)) | (simp [*, Qgi, Qgj] <;> rfl), qq_b⟩
  ·rw [if_neg c4] at H
   exact absurd H (by simp)
 ·rw [if_neg c3] at H
  exact absurd H (by simp)
end Go.Proofs.YtnnofopfbeklbaaGreat.C
end
