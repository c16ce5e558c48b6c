/- Texts of this claim's author and of the print of its functions, merged by merge.py. -/
import Derived.Test.YtnnofopfbeklbaaGreatMD03
import Derived.Test.YtnnofopfbeklbaaGreatMD08
import Derived.Test.YtnnofopfbeklbaaGreatMD09
import Derived.Test.YtnnofopfbeklbaaGreatMD06
set_option linter.unusedVariables false
set_option linter.unusedSimpArgs false
set_option maxHeartbeats 8000000
set_option maxRecDepth 100000
section
namespace Go.Proofs.YtnnofopfbeklbaaGreat.C
open Go.RowKit Go.Proofs.YtnnofopfbeklbaaGreatW.PrintWords Go.Proofs.YtnnofopfbeklbaaGreatW.PrintLast Go.Proofs.YtnnofopfbeklbaaGreatW.PrintMore
attribute [local go_sem] Qgh Qgi Qgj Qgk Qgl Qgm Qgn Qgo
def Qbb.f (k : Nat) (a0_0 : Bool) (a0_1 : Int) (a0_2 : ByteArray) (a0_3 : ByteArray) : Option (ByteArray) := if a0_0 = true then ((Qat.f k a0_1).bind fun t300 => (if 1 + t300.size ≤ 9223372036854775807 then ((Qau.f k a0_2).bind fun t301 => (if ((⟨#[3]⟩ : ByteArray) ++ t300).size + t301.size ≤ 9223372036854775807 then (some (((⟨#[3]⟩ : ByteArray) ++ t300) ++ t301)) else (none))) else (none))) else ((Qat.f k a0_1).bind fun t302 => (if 1 + t302.size ≤ 9223372036854775807 then ((Qau.f k a0_2).bind fun t303 => (if ((⟨#[2]⟩ : ByteArray) ++ t302).size + t303.size ≤ 9223372036854775807 then ((Qau.f k a0_3).bind fun t304 => (if (((⟨#[2]⟩ : ByteArray) ++ t302) ++ t303).size + t304.size ≤ 9223372036854775807 then (some ((((⟨#[2]⟩ : ByteArray) ++ t302) ++ t303) ++ t304)) else (none))) else (none))) else (none)))
def Qbb.T2 : Bool × List (List Nat × List Nat) := (true, [([], []), ([0], [0]), ([1], [1]), ([2], [2]), ([], []), ([4], [4]), ([5, 2], [5]), ([3, 6], [3, 6]), ([7, 6, 0, 1, 2, 3, 4, 5, 6, 7], [7])])
def Qbb.B2 : List Nat := [0, 1, 3, 7, 0, 16, 55, 127, 255]
theorem Qbb.tab2 : rtab .any (Qgb Tryz.f62 2) = Qbb.T2 := by kernel_rfl
theorem Qbb.bits2 : Qfx Qbb.T2.2 Qbb.B2 = true := by kernel_rfl
def Qbb.T3 : Bool × List (List Nat × List Nat) := (true, [([], []), ([0], [0]), ([1], [1]), ([2], [2]), ([], []), ([4], [4]), ([5, 2], [5]), ([3, 6], [3, 6]), ([], []), ([8], [8]), ([9, 6], [9]), ([7, 10], [7, 10]), ([11, 10, 0, 1, 2, 3, 4, 5, 6, 7, 8, 9, 10, 11], [11])])
def Qbb.B3 : List Nat := [0, 1, 3, 7, 0, 16, 55, 127, 0, 256, 887, 2047, 4095]
theorem Qbb.tab3 : rtab .any (Qgb Tryz.f62 3) = Qbb.T3 := by kernel_rfl
theorem Qbb.bits3 : Qfx Qbb.T3.2 Qbb.B3 = true := by kernel_rfl
theorem Qbb.calls (k : Nat) (a0_0 : Bool) (a0_1 : Int) (a0_2 : ByteArray) (a0_3 : ByteArray) (r : ByteArray) (w : World) (h : Qbb.f k a0_0 a0_1 a0_2 a0_3 = some r) :
  Calls Tryz.prog 62 #[.agg #[.bool a0_0, .int .u64 a0_1, .string a0_2, .string a0_3]] w fun e w' => e = .returned (.string r) ∧ Below w.heap.size w w' := by
 have hu39 := Tryz.underlying39
 have HB := QA (Below.refl w.heap.size w)
 have H : (if a0_0 = true then ((Qat.f k a0_1).bind fun t300 => (if 1 + t300.size ≤ 9223372036854775807 then ((Qau.f k a0_2).bind fun t301 => (if ((⟨#[3]⟩ : ByteArray) ++ t300).size + t301.size ≤ 9223372036854775807 then (some (((⟨#[3]⟩ : ByteArray) ++ t300) ++ t301)) else (none))) else (none))) else ((Qat.f k a0_1).bind fun t302 => (if 1 + t302.size ≤ 9223372036854775807 then ((Qau.f k a0_2).bind fun t303 => (if ((⟨#[2]⟩ : ByteArray) ++ t302).size + t303.size ≤ 9223372036854775807 then ((Qau.f k a0_3).bind fun t304 => (if (((⟨#[2]⟩ : ByteArray) ++ t302) ++ t303).size + t304.size ≤ 9223372036854775807 then (some ((((⟨#[2]⟩ : ByteArray) ++ t302) ++ t303) ++ t304)) else (none))) else (none))) else (none)))) = some r := h
 clear h
 by_cases c2 : a0_0 = true
 ·subst c2
  have H1 : ((Qat.f k a0_1).bind fun t300 => (if 1 + t300.size ≤ 9223372036854775807 then ((Qau.f k a0_2).bind fun t301 => (if ((⟨#[3]⟩ : ByteArray) ++ t300).size + t301.size ≤ 9223372036854775807 then (some (((⟨#[3]⟩ : ByteArray) ++ t300) ++ t301)) else (none))) else (none))) = some r := by rw [if_pos rfl] at H; exact H
  clear H
  have H := H1
  clear H1
  replace H := Option.bind_eq_some_iff.mp H
  obtain ⟨t300, A30, H⟩ := H
  replace H : (if 1 + t300.size ≤ 9223372036854775807 then ((Qau.f k a0_2).bind fun t301 => (if ((⟨#[3]⟩ : ByteArray) ++ t300).size + t301.size ≤ 9223372036854775807 then (some (((⟨#[3]⟩ : ByteArray) ++ t300) ++ t301)) else (none))) else (none)) = some r := H
  have A3 := QA A30
  clear A30
  by_cases c4 : 1 + t300.size ≤ 9223372036854775807
  ·rw [if_pos c4] at H
   have c4b0 := eq_true c4
   have c4b1 : decide (1 + t300.size ≤ 9223372036854775807) = true := decide_eq_true c4
   try have c4b2 : (9223372036854775807 < 1 + t300.size) = False := eq_false (Nat.not_lt.2 c4)
   replace H := Option.bind_eq_some_iff.mp H
   obtain ⟨t301, A50, H⟩ := H
   replace H : (if ((⟨#[3]⟩ : ByteArray) ++ t300).size + t301.size ≤ 9223372036854775807 then (some (((⟨#[3]⟩ : ByteArray) ++ t300) ++ t301)) else (none)) = some r := H
   have A5 := QA A50
   clear A50
   by_cases c6 : ((⟨#[3]⟩ : ByteArray) ++ t300).size + t301.size ≤ 9223372036854775807
   ·rw [if_pos c6] at H
    have c6b0 := eq_true c6
    have c6b1 : decide (((⟨#[3]⟩ : ByteArray) ++ t300).size + t301.size ≤ 9223372036854775807) = true := decide_eq_true c6
    try have c6b2 : (9223372036854775807 < ((⟨#[3]⟩ : ByteArray) ++ t300).size + t301.size) = False := eq_false (Nat.not_lt.2 c6)
    try have c6b3 := c6b2
    try simp only [ByteArray.size_append, (show ∀ x_ : UInt8, (⟨#[x_]⟩ : ByteArray).size = 1 from fun _ => rfl), (show ∀ x_ y_ : UInt8, (⟨#[x_, y_]⟩ : ByteArray).size = 2 from fun _ _ => rfl)] at c6b3
    obtain rfl := Option.some.inj H
    go_enter Tryz.func62, Tryz.ntmps62
    try go_wp2_with (first | ((with_reducible refine Qer (N := 1) rfl ?_); refine qq_e 1 #[.bool true, .int .u64 a0_1, .string a0_2, .string a0_3] 39 ?_; intro gb299 hg w7 hbox hb; have n0_ := QA (Qem qq_b hb); have n1_ := QA (hbox); have n2_ := QA ((qq_s hg : w.heap.size ≤ gb299)); have n3_ := QA ((qq_s hg : w.heap.size ≤ gb299)); clear HB; have HB := n0_; have BK299 := n1_; have GW299 := n2_; have GE299 := n3_; clear n0_ n1_ n2_ n3_; clear hb hbox hg; have hcz8_0 := qq_c (.bool true) BK299.out 0 rfl; have hcz8_1 := qq_c (.int .u64 a0_1) BK299.out 1 rfl; have hcz8_2 := qq_c (.string a0_2) BK299.out 2 rfl; have hcz8_3 := qq_c (.string a0_3) BK299.out 3 rfl; have hfz8_0 := Qdt BK299.out 0; have hfz8_1 := Qdt BK299.out 1; have hfz8_2 := Qdt BK299.out 2; have hfz8_3 := Qdt BK299.out 3))
    have n0_ := QA (Qdz BK299.out)
    have n1_ := QA (Qeq HB.out)
    clear BK299
    clear HB
    have BK299 := n0_
    have HB := n1_
    clear n0_ n1_
    refine Qez (n := 9) (S := fun w' => w'.cell? ⟨gb299, 0, none⟩ = some (.bool true) ∧ w'.cell? ⟨gb299, 1, none⟩ = some (.int .u64 a0_1) ∧ w'.cell? ⟨gb299, 2, none⟩ = some (.string a0_2) ∧ w'.cell? ⟨gb299, 3, none⟩ = some (.string a0_3)) (ds := []) #[false, false, false, false, false, false, false, false, false] qq_7 rfl rfl ⟨(Qds BK299.out 0).trans rfl, (Qds BK299.out 1).trans rfl, (Qds BK299.out 2).trans rfl, (Qds BK299.out 3).trans rfl⟩ (fun hHeld => ?_); refine Qfz Qbb.tab2 Qbb.bits2 (fun HT_ HW_ => ?_)
    generalize w7.drew = w9 at BK299 HB hHeld ⊢
    refine Qfa (i := 0) (N := some 5) (v := ?_) (a' := ?_) #[true, false, false, false, false, false, false, false, false] rfl rfl (Qft HT_.out qq_7) (fun _ _ _ h => h) (Or.inl ⟨by rfl, ?_⟩) ?_ ?_
    rotate_left
    ·intro w'
     go_simp
     with_reducible rfl
    rotate_left
    ·exact qq_2
    refine Qfa (i := 4) (N := some 9) (v := ?_) (a' := ?_) #[true, false, false, false, true, false, false, false, false] rfl rfl (Qft HT_.out qq_7) (fun _ _ _ h => h) (Or.inl ⟨by rfl, ?_⟩) ?_ ?_
    rotate_left
    ·intro w'
     go_simp
     with_reducible rfl
    rotate_left
    ·exact qq_2
    refine take_ (i := 1) (N := some 6) (v := ?_) (a' := ?_) #[true, true, false, false, true, false, false, false, false] rfl rfl (Qfy HT_.out HW_.out qq_7) (fun _ _ _ h => h) (Or.inl ⟨by rfl, ?_⟩) hHeld ?_ ?_
    rotate_left
    ·rintro w' ⟨s0, s1, s2, s3⟩
     go_simp
     with_reducible rfl
    rotate_left
    ·exact qq_2
    refine take_ (i := 5) (N := some 10) (v := ?_) (a' := ?_) #[true, true, false, false, true, true, false, false, false] rfl rfl (Qfy HT_.out HW_.out qq_7) (fun _ _ _ h => h) (Or.inl ⟨by rfl, ?_⟩) hHeld ?_ ?_
    rotate_left
    ·rintro w' ⟨s0, s1, s2, s3⟩
     go_simp
     with_reducible rfl
    rotate_left
    ·exact qq_2
    refine one_ (i := 2) (N := some 7) #[true, true, true, false, true, true, false, false, false] rfl rfl (Qfu HT_.out qq_7) (by decide) (fun K hK => ?_)
    refine Qff Tryz.func98 qq_7 rfl #[.int .u64 a0_1] (by rfl) rfl rfl qq_1 ?_
    with_reducible refine (Qat.calls k a0_1 t300 _ A3.out).mono ?_
    rintro e w10 ⟨rfl, hb⟩
    refine ⟨_, rfl, ?_⟩
    have n0_ := QA (Qeb (g := gb299) (o := .cells #[.bool true, .int .u64 a0_1, .string a0_2, .string a0_3] 39 (0, 0)) qq_0 hb)
    have n1_ := QA (Qem qq_b hb)
    clear BK299
    clear HB
    have BK299 := n0_
    have HB := n1_
    clear n0_ n1_
    (try clear hb)
    (try clear hb2)
    (try clear hk)
    (try clear hi)
    refine hK.out _ _ ⟨(Qds BK299.out 0).trans rfl, (Qds BK299.out 1).trans rfl, (Qds BK299.out 2).trans rfl, (Qds BK299.out 3).trans rfl⟩ (fun hHeld => ?_)
    clear hK K
    refine Qfe (a' := ?_) ?_ ?_
    rotate_left
    ·show Act.put _ (some 7) _ = _
     simp only [Act.put, List.setIfInBounds_toArray, List.set_cons_zero, List.set_cons_succ, Qfi, Qfj]
     rfl
    refine Qfa (i := 3) (N := some 8) (v := ?_) (a' := ?_) #[true, true, true, true, true, true, false, false, false] rfl rfl (Qft HT_.out qq_7) (fun _ _ _ h => h) (Or.inl ⟨by rfl, ?_⟩) ?_ ?_
    rotate_left
    ·intro w'
     go_simp
     with_reducible rfl
    rotate_left
    ·exact qq_2
    refine one_ (i := 6) (N := some 11) #[true, true, true, true, true, true, true, false, false] rfl rfl (Qfu HT_.out qq_7) (by decide) (fun K hK => ?_)
    refine Qff Tryz.func104 qq_7 rfl #[.string a0_2] (by rfl) rfl rfl qq_1 ?_
    with_reducible refine (Qau.calls k a0_2 t301 _ A5.out).mono ?_
    rintro e w11 ⟨rfl, hb⟩
    refine ⟨_, rfl, ?_⟩
    have n0_ := QA (Qeb (g := gb299) (o := .cells #[.bool true, .int .u64 a0_1, .string a0_2, .string a0_3] 39 (0, 0)) qq_0 hb)
    have n1_ := QA (Qem qq_b hb)
    clear BK299
    clear HB
    have BK299 := n0_
    have HB := n1_
    clear n0_ n1_
    (try clear hb)
    (try clear hb2)
    (try clear hk)
    (try clear hi)
    refine hK.out _ _ ⟨(Qds BK299.out 0).trans rfl, (Qds BK299.out 1).trans rfl, (Qds BK299.out 2).trans rfl, (Qds BK299.out 3).trans rfl⟩ (fun hHeld => ?_)
    clear hK K
    refine Qfe (a' := ?_) ?_ ?_
    rotate_left
    ·show Act.put _ (some 11) _ = _
     simp only [Act.put, List.setIfInBounds_toArray, List.set_cons_zero, List.set_cons_succ, Qfi, Qfj]
     rfl
    refine Qfa (i := 7) (N := some 12) (v := ?_) (a' := ?_) #[true, true, true, true, true, true, true, true, false] rfl rfl (Qft HT_.out qq_7) (fun _ _ _ h => h) (Or.inl ⟨by rfl, ?_⟩) ?_ ?_
    rotate_left
    ·intro w'
     go_simp
     with_reducible rfl
    rotate_left
    ·exact qq_2
    refine Qfa (i := 8) (N := some 2) (v := ?_) (a' := ?_) #[true, true, true, true, true, true, true, true, true] rfl rfl (Qft HT_.out qq_7) (fun _ _ _ h => h) (Or.inl ⟨by rfl, ?_⟩) ?_ ?_
    rotate_left
    ·intro w'
     go_simp
     with_reducible rfl
    rotate_left
    ·exact qq_2
    refine Qfc (Qfw HT_.out qq_7) ?_
    try go_wp2
    go_ret
    exact ⟨by first | rfl | (simp [Qgu, Qgv] <;> rfl) | (simp [*, Qgu, Qgv] <;> rfl), qq_b⟩
   ·rw [if_neg c6] at H
    exact absurd H (by simp)
  ·rw [if_neg c4] at H
   exact absurd H (by simp)
 ·replace c2 := Bool.eq_false_iff.mpr c2
  subst c2
  have H1 : ((Qat.f k a0_1).bind fun t302 => (if 1 + t302.size ≤ 9223372036854775807 then ((Qau.f k a0_2).bind fun t303 => (if ((⟨#[2]⟩ : ByteArray) ++ t302).size + t303.size ≤ 9223372036854775807 then ((Qau.f k a0_3).bind fun t304 => (if (((⟨#[2]⟩ : ByteArray) ++ t302) ++ t303).size + t304.size ≤ 9223372036854775807 then (some ((((⟨#[2]⟩ : ByteArray) ++ t302) ++ t303) ++ t304)) else (none))) else (none))) else (none))) = some r := by rw [if_neg (show ¬ (false = true) by decide)] at H; exact H
  clear H
  have H := H1
  clear H1
  replace H := Option.bind_eq_some_iff.mp H
  obtain ⟨t302, A120, H⟩ := H
  replace H : (if 1 + t302.size ≤ 9223372036854775807 then ((Qau.f k a0_2).bind fun t303 => (if ((⟨#[2]⟩ : ByteArray) ++ t302).size + t303.size ≤ 9223372036854775807 then ((Qau.f k a0_3).bind fun t304 => (if (((⟨#[2]⟩ : ByteArray) ++ t302) ++ t303).size + t304.size ≤ 9223372036854775807 then (some ((((⟨#[2]⟩ : ByteArray) ++ t302) ++ t303) ++ t304)) else (none))) else (none))) else (none)) = some r := H
  have A12 := QA A120
  clear A120
  by_cases c13 : 1 + t302.size ≤ 9223372036854775807
  ·rw [if_pos c13] at H
   have c13b0 := eq_true c13
   have c13b1 : decide (1 + t302.size ≤ 9223372036854775807) = true := decide_eq_true c13
   try have c13b2 : (9223372036854775807 < 1 + t302.size) = False := eq_false (Nat.not_lt.2 c13)
   replace H := Option.bind_eq_some_iff.mp H
   obtain ⟨t303, A140, H⟩ := H
   replace H : (if ((⟨#[2]⟩ : ByteArray) ++ t302).size + t303.size ≤ 9223372036854775807 then ((Qau.f k a0_3).bind fun t304 => (if (((⟨#[2]⟩ : ByteArray) ++ t302) ++ t303).size + t304.size ≤ 9223372036854775807 then (some ((((⟨#[2]⟩ : ByteArray) ++ t302) ++ t303) ++ t304)) else (none))) else (none)) = some r := H
   have A14 := QA A140
   clear A140
   by_cases c15 : ((⟨#[2]⟩ : ByteArray) ++ t302).size + t303.size ≤ 9223372036854775807
   ·rw [if_pos c15] at H
    have c15b0 := eq_true c15
    have c15b1 : decide (((⟨#[2]⟩ : ByteArray) ++ t302).size + t303.size ≤ 9223372036854775807) = true := decide_eq_true c15
    try have c15b2 : (9223372036854775807 < ((⟨#[2]⟩ : ByteArray) ++ t302).size + t303.size) = False := eq_false (Nat.not_lt.2 c15)
    try have c15b3 := c15b2
    try simp only [ByteArray.size_append, (show ∀ x_ : UInt8, (⟨#[x_]⟩ : ByteArray).size = 1 from fun _ => rfl), (show ∀ x_ y_ : UInt8, (⟨#[x_, y_]⟩ : ByteArray).size = 2 from fun _ _ => rfl)] at c15b3
    replace H := Option.bind_eq_some_iff.mp H
    obtain ⟨t304, A160, H⟩ := H
    replace H : (if (((⟨#[2]⟩ : ByteArray) ++ t302) ++ t303).size + t304.size ≤ 9223372036854775807 then (some ((((⟨#[2]⟩ : ByteArray) ++ t302) ++ t303) ++ t304)) else (none)) = some r := H
    have A16 := QA A160
    clear A160
    by_cases c17 : (((⟨#[2]⟩ : ByteArray) ++ t302) ++ t303).size + t304.size ≤ 9223372036854775807
    ·rw [if_pos c17] at H
     have c17b0 := eq_true c17
     have c17b1 : decide ((((⟨#[2]⟩ : ByteArray) ++ t302) ++ t303).size + t304.size ≤ 9223372036854775807) = true := decide_eq_true c17
     try have c17b2 : (9223372036854775807 < (((⟨#[2]⟩ : ByteArray) ++ t302) ++ t303).size + t304.size) = False := eq_false (Nat.not_lt.2 c17)
     try have c17b3 := c17b2
     try simp only [ByteArray.size_append, (show ∀ x_ : UInt8, (⟨#[x_]⟩ : ByteArray).size = 1 from fun _ => rfl), (show ∀ x_ y_ : UInt8, (⟨#[x_, y_]⟩ : ByteArray).size = 2 from fun _ _ => rfl)] at c17b3
     obtain rfl := Option.some.inj H
     go_enter Tryz.func62, Tryz.ntmps62
     try go_wp2_with (first | ((with_reducible refine Qer (N := 1) rfl ?_); refine qq_e 1 #[.bool false, .int .u64 a0_1, .string a0_2, .string a0_3] 39 ?_; intro gb299 hg w18 hbox hb; have n0_ := QA (Qem qq_b hb); have n1_ := QA (hbox); have n2_ := QA ((qq_s hg : w.heap.size ≤ gb299)); have n3_ := QA ((qq_s hg : w.heap.size ≤ gb299)); clear HB; have HB := n0_; have BK299 := n1_; have GW299 := n2_; have GE299 := n3_; clear n0_ n1_ n2_ n3_; clear hb hbox hg; have hcz19_0 := qq_c (.bool false) BK299.out 0 rfl; have hcz19_1 := qq_c (.int .u64 a0_1) BK299.out 1 rfl; have hcz19_2 := qq_c (.string a0_2) BK299.out 2 rfl; have hcz19_3 := qq_c (.string a0_3) BK299.out 3 rfl; have hfz19_0 := Qdt BK299.out 0; have hfz19_1 := Qdt BK299.out 1; have hfz19_2 := Qdt BK299.out 2; have hfz19_3 := Qdt BK299.out 3))
     have n0_ := QA (Qdz BK299.out)
     have n1_ := QA (Qeq HB.out)
     clear BK299
     clear HB
     have BK299 := n0_
     have HB := n1_
     clear n0_ n1_
     refine Qez (n := 13) (S := fun w' => w'.cell? ⟨gb299, 0, none⟩ = some (.bool false) ∧ w'.cell? ⟨gb299, 1, none⟩ = some (.int .u64 a0_1) ∧ w'.cell? ⟨gb299, 2, none⟩ = some (.string a0_2) ∧ w'.cell? ⟨gb299, 3, none⟩ = some (.string a0_3)) (ds := []) #[false, false, false, false, false, false, false, false, false, false, false, false, false] qq_7 rfl rfl ⟨(Qds BK299.out 0).trans rfl, (Qds BK299.out 1).trans rfl, (Qds BK299.out 2).trans rfl, (Qds BK299.out 3).trans rfl⟩ (fun hHeld => ?_); refine Qfz Qbb.tab3 Qbb.bits3 (fun HT_ HW_ => ?_)
     generalize w18.drew = w20 at BK299 HB hHeld ⊢
     refine Qfa (i := 0) (N := some 13) (v := ?_) (a' := ?_) #[true, false, false, false, false, false, false, false, false, false, false, false, false] rfl rfl (Qft HT_.out qq_7) (fun _ _ _ h => h) (Or.inl ⟨by rfl, ?_⟩) ?_ ?_
     rotate_left
     ·intro w'
      go_simp
      with_reducible rfl
     rotate_left
     ·exact qq_2
     refine Qfa (i := 4) (N := some 17) (v := ?_) (a' := ?_) #[true, false, false, false, true, false, false, false, false, false, false, false, false] rfl rfl (Qft HT_.out qq_7) (fun _ _ _ h => h) (Or.inl ⟨by rfl, ?_⟩) ?_ ?_
     rotate_left
     ·intro w'
      go_simp
      with_reducible rfl
     rotate_left
     ·exact qq_2
     refine Qfa (i := 8) (N := some 21) (v := ?_) (a' := ?_) #[true, false, false, false, true, false, false, false, true, false, false, false, false] rfl rfl (Qft HT_.out qq_7) (fun _ _ _ h => h) (Or.inl ⟨by rfl, ?_⟩) ?_ ?_
     rotate_left
     ·intro w'
      go_simp
      with_reducible rfl
     rotate_left
     ·exact qq_2
     refine take_ (i := 1) (N := some 14) (v := ?_) (a' := ?_) #[true, true, false, false, true, false, false, false, true, false, false, false, false] rfl rfl (Qfy HT_.out HW_.out qq_7) (fun _ _ _ h => h) (Or.inl ⟨by rfl, ?_⟩) hHeld ?_ ?_
     rotate_left
     ·rintro w' ⟨s0, s1, s2, s3⟩
      go_simp
      with_reducible rfl
     rotate_left
     ·exact qq_2
     refine take_ (i := 5) (N := some 18) (v := ?_) (a' := ?_) #[true, true, false, false, true, true, false, false, true, false, false, false, false] rfl rfl (Qfy HT_.out HW_.out qq_7) (fun _ _ _ h => h) (Or.inl ⟨by rfl, ?_⟩) hHeld ?_ ?_
     rotate_left
     ·rintro w' ⟨s0, s1, s2, s3⟩
      go_simp
      with_reducible rfl
     rotate_left
     ·exact qq_2
     refine take_ (i := 9) (N := some 22) (v := ?_) (a' := ?_) #[true, true, false, false, true, true, false, false, true, true, false, false, false] rfl rfl (Qfy HT_.out HW_.out qq_7) (fun _ _ _ h => h) (Or.inl ⟨by rfl, ?_⟩) hHeld ?_ ?_
     rotate_left
     ·rintro w' ⟨s0, s1, s2, s3⟩
      go_simp
      with_reducible rfl
     rotate_left
     ·exact qq_2
     refine one_ (i := 2) (N := some 15) #[true, true, true, false, true, true, false, false, true, true, false, false, false] rfl rfl (Qfu HT_.out qq_7) (by decide) (fun K hK => ?_)
     refine Qff Tryz.func98 qq_7 rfl #[.int .u64 a0_1] (by rfl) rfl rfl qq_1 ?_
     with_reducible refine (Qat.calls k a0_1 t302 _ A12.out).mono ?_
     rintro e w21 ⟨rfl, hb⟩
     refine ⟨_, rfl, ?_⟩
     have n0_ := QA (Qeb (g := gb299) (o := .cells #[.bool false, .int .u64 a0_1, .string a0_2, .string a0_3] 39 (0, 0)) qq_0 hb)
     have n1_ := QA (Qem qq_b hb)
     clear BK299
     clear HB
     have BK299 := n0_
     have HB := n1_
     clear n0_ n1_
     (try clear hb)
     (try clear hb2)
     (try clear hk)
     (try clear hi)
     refine hK.out _ _ ⟨(Qds BK299.out 0).trans rfl, (Qds BK299.out 1).trans rfl, (Qds BK299.out 2).trans rfl, (Qds BK299.out 3).trans rfl⟩ (fun hHeld => ?_)
     clear hK K
     refine Qfe (a' := ?_) ?_ ?_
     rotate_left
     ·show Act.put _ (some 15) _ = _
      simp only [Act.put, List.setIfInBounds_toArray, List.set_cons_zero, List.set_cons_succ, Qfi, Qfj]
      rfl
     refine Qfa (i := 3) (N := some 16) (v := ?_) (a' := ?_) #[true, true, true, true, true, true, false, false, true, true, false, false, false] rfl rfl (Qft HT_.out qq_7) (fun _ _ _ h => h) (Or.inl ⟨by rfl, ?_⟩) ?_ ?_
     rotate_left
     ·intro w'
      go_simp
      with_reducible rfl
     rotate_left
     ·exact qq_2
     refine one_ (i := 6) (N := some 19) #[true, true, true, true, true, true, true, false, true, true, false, false, false] rfl rfl (Qfu HT_.out qq_7) (by decide) (fun K hK => ?_)
     refine Qff Tryz.func104 qq_7 rfl #[.string a0_2] (by rfl) rfl rfl qq_1 ?_
     with_reducible refine (Qau.calls k a0_2 t303 _ A14.out).mono ?_
     rintro e w22 ⟨rfl, hb⟩
     refine ⟨_, rfl, ?_⟩
     have n0_ := QA (Qeb (g := gb299) (o := .cells #[.bool false, .int .u64 a0_1, .string a0_2, .string a0_3] 39 (0, 0)) qq_0 hb)
     have n1_ := QA (Qem qq_b hb)
     clear BK299
     clear HB
     have BK299 := n0_
     have HB := n1_
     clear n0_ n1_
     (try clear hb)
     (try clear hb2)
     (try clear hk)
     (try clear hi)
     refine hK.out _ _ ⟨(Qds BK299.out 0).trans rfl, (Qds BK299.out 1).trans rfl, (Qds BK299.out 2).trans rfl, (Qds BK299.out 3).trans rfl⟩ (fun hHeld => ?_)
     clear hK K
     refine Qfe (a' := ?_) ?_ ?_
     rotate_left
     ·show Act.put _ (some 19) _ = _
      simp only [Act.put, List.setIfInBounds_toArray, List.set_cons_zero, List.set_cons_succ, Qfi, Qfj]
      rfl
     refine Qfa (i := 7) (N := some 20) (v := ?_) (a' := ?_) #[true, true, true, true, true, true, true, true, true, true, false, false, false] rfl rfl (Qft HT_.out qq_7) (fun _ _ _ h => h) (Or.inl ⟨by rfl, ?_⟩) ?_ ?_
     rotate_left
     ·intro w'
      go_simp
      with_reducible rfl
     rotate_left
     ·exact qq_2
     refine one_ (i := 10) (N := some 23) #[true, true, true, true, true, true, true, true, true, true, true, false, false] rfl rfl (Qfu HT_.out qq_7) (by decide) (fun K hK => ?_)
     refine Qff Tryz.func104 qq_7 rfl #[.string a0_3] (by rfl) rfl rfl qq_1 ?_
     with_reducible refine (Qau.calls k a0_3 t304 _ A16.out).mono ?_
     rintro e w23 ⟨rfl, hb⟩
     refine ⟨_, rfl, ?_⟩
     have n0_ := QA (Qeb (g := gb299) (o := .cells #[.bool false, .int .u64 a0_1, .string a0_2, .string a0_3] 39 (0, 0)) qq_0 hb)
     have n1_ := QA (Qem qq_b hb)
     clear BK299
     clear HB
     have BK299 := n0_
     have HB := n1_
     clear n0_ n1_
     (try clear hb)
     (try clear hb2)
     (try clear hk)
     (try clear hi)
     refine hK.out _ _ ⟨(Qds BK299.out 0).trans rfl, (Qds BK299.out 1).trans rfl, (Qds BK299.out 2).trans rfl, (Qds BK299.out 3).trans rfl⟩ (fun hHeld => ?_)
     clear hK K
     refine Qfe (a' := ?_) ?_ ?_
     rotate_left
     ·show Act.put _ (some 23) _ = _
      simp only [Act.put, List.setIfInBounds_toArray, List.set_cons_zero, List.set_cons_succ, Qfi, Qfj]
      rfl
     refine Qfa (i := 11) (N := some 24) (v := ?_) (a' := ?_) #[true, true, true, true, true, true, true, true, true, true, true, true, false] rfl rfl (Qft HT_.out qq_7) (fun _ _ _ h => h) (Or.inl ⟨by rfl, ?_⟩) ?_ ?_
     rotate_left
     ·intro w'
      go_simp
      with_reducible rfl
     rotate_left
     ·exact qq_2
     refine Qfa (i := 12) (N := some 2) (v := ?_) (a' := ?_) #[true, true, true, true, true, true, true, true, true, true, true, true, true] rfl rfl (Qft HT_.out qq_7) (fun _ _ _ h => h) (Or.inl ⟨by rfl, ?_⟩) ?_ ?_
     rotate_left
     ·intro w'
      go_simp
      with_reducible rfl
     rotate_left
     ·exact qq_2
     refine Qfc (Qfw HT_.out qq_7) ?_
     try go_wp2
     go_ret
     exact ⟨by first | rfl | (simp [Qgu, Qgv] <;> rfl) | (simp [*, Qgu, Qgv] <;> rfl), qq_b⟩
    ·rw [if_neg c17] at H
     exact absurd H (by simp)
   ·rw [if_neg c15] at H
    exact absurd H (by simp)
  ·rw [if_neg c13] at H
   exact absurd H (by simp)
def Qbh.f (k : Nat) (a0_0 : Bool) (a0_1 : Int) (a0_2 : ByteArray) (a0_3 : ByteArray) : Option (ByteArray) := (Qbb.f k a0_0 a0_1 a0_2 a0_3).bind fun t306 => ((Qbi.f k t306).bind fun t307 => (some t307))
theorem Qbh.calls (k : Nat) (a0_0 : Bool) (a0_1 : Int) (a0_2 : ByteArray) (a0_3 : ByteArray) (r : ByteArray) (w : World) (h : Qbh.f k a0_0 a0_1 a0_2 a0_3 = some r) :
  Calls Tryz.prog 22 #[.agg #[.bool a0_0, .int .u64 a0_1, .string a0_2, .string a0_3]] w fun e w' => e = .returned (.string r) ∧ Below w.heap.size w w' := by
 have hu39 := Tryz.underlying39
 have HB := QA (Below.refl w.heap.size w)
 have H : ((Qbb.f k a0_0 a0_1 a0_2 a0_3).bind fun t306 => ((Qbi.f k t306).bind fun t307 => (some t307))) = some r := h
 clear h
 replace H := Option.bind_eq_some_iff.mp H
 obtain ⟨t306, A20, H⟩ := H
 replace H : ((Qbi.f k t306).bind fun t307 => (some t307)) = some r := H
 have A2 := QA A20
 clear A20
 replace H := Option.bind_eq_some_iff.mp H
 obtain ⟨t307, A30, H⟩ := H
 replace H : (some t307) = some r := H
 have A3 := QA A30
 clear A30
 obtain rfl := Option.some.inj H
 go_enter Tryz.func22, Tryz.ntmps22
 go_wp2_with (first | ((with_reducible refine Qer (N := 1) rfl ?_); refine qq_e 1 #[.bool a0_0, .int .u64 a0_1, .string a0_2, .string a0_3] 39 ?_; intro gb305 hg w4 hbox hb; have n0_ := QA (Qem qq_b hb); have n1_ := QA (hbox); have n2_ := QA ((qq_s hg : w.heap.size ≤ gb305)); have n3_ := QA ((qq_s hg : w.heap.size ≤ gb305)); clear HB; have HB := n0_; have BK305 := n1_; have GW305 := n2_; have GE305 := n3_; clear n0_ n1_ n2_ n3_; clear hb hbox hg; have hcz5_0 := qq_c (.bool a0_0) BK305.out 0 rfl; have hcz5_1 := qq_c (.int .u64 a0_1) BK305.out 1 rfl; have hcz5_2 := qq_c (.string a0_2) BK305.out 2 rfl; have hcz5_3 := qq_c (.string a0_3) BK305.out 3 rfl; have hfz5_0 := Qdt BK305.out 0; have hfz5_1 := Qdt BK305.out 1; have hfz5_2 := Qdt BK305.out 2; have hfz5_3 := Qdt BK305.out 3) | ((with_reducible refine Qgp (f := 62) rfl ?_); refine Qfg (some 4) rfl rfl Tryz.func62 qq_7 rfl #[.agg #[.bool a0_0, .int .u64 a0_1, .string a0_2, .string a0_3]] rfl qq_1 ?_; (with_reducible refine (Qbb.calls k a0_0 a0_1 a0_2 a0_3 t306 _ A2.out).mono ?_); rintro e w6 ⟨rfl, hb⟩; refine ⟨_, rfl, ?_⟩; have n0_ := QA (Qeb (g := gb305) (o := .cells #[.bool a0_0, .int .u64 a0_1, .string a0_2, .string a0_3] 39 (0, 0)) qq_0 hb); have n1_ := QA (Qem qq_b hb); clear BK305; clear HB; have BK305 := n0_; have HB := n1_; clear n0_ n1_; (try clear hb); (try clear hb2); (try clear hk); (try clear hi)) | ((with_reducible refine Qgp (f := 61) rfl ?_); refine Qfg (some 5) rfl rfl Tryz.func61 qq_7 rfl #[.string t306] rfl qq_1 ?_; (with_reducible refine (Qbi.calls k t306 t307 _ A3.out).mono ?_); rintro e w7 ⟨rfl, hb⟩; refine ⟨_, rfl, ?_⟩; have n0_ := QA (Qeb (g := gb305) (o := .cells #[.bool a0_0, .int .u64 a0_1, .string a0_2, .string a0_3] 39 (0, 0)) qq_0 hb); have n1_ := QA (Qem qq_b hb); clear BK305; clear HB; have BK305 := n0_; have HB := n1_; clear n0_ n1_; (try clear hb); (try clear hb2); (try clear hk); (try clear hi)))
 go_ret
 exact ⟨by first | rfl | (simp [Qgu, Qgv] <;> rfl) | (simp [*, Qgu, Qgv] <;> rfl), qq_b⟩
theorem eqA122 (d : Nat) (w : World) (x0 y0 : Int) (x1 y1 : Int) :
  (Op.equalIn (d + 2) 122 (.agg #[.int .u64 x0, .int .u32 x1]) (.agg #[.int .u64 y0, .int .u32 y1])).run Tryz.prog w = .ok (x0 == y0 && (x1 == y1)) w := by
 refine eqA_of Tryz.underlying122 qq_7 ?_
 refine eqf_cons (by rfl) (by go_simp; rfl) (by go_simp; rfl) (by go_simp) ?_
 exact eqf_last (by rfl) (by go_simp; rfl) (by go_simp; rfl) (by go_simp)
def Qbm.f (a0_0 : Int) (a0_1 : Int) (a1_0 : Int) (a1_1 : Int) : Option (Bool) := if a0_0 < a1_0 then (some true) else (if a0_0 = a1_0 then (some (decide (a0_1 < a1_1))) else (some false))
theorem Qbm.calls (a0_0 : Int) (a0_1 : Int) (a1_0 : Int) (a1_1 : Int) (r : Bool) (w : World) (h : Qbm.f a0_0 a0_1 a1_0 a1_1 = some r) :
  Calls Tryz.prog 158 #[.agg #[.int .u64 a0_0, .int .u32 a0_1], .agg #[.int .u64 a1_0, .int .u32 a1_1]] w fun e w' => e = .returned (.bool r) ∧ Below w.heap.size w w' := by
 have hu122 := Tryz.underlying122
 have HB := QA (Below.refl w.heap.size w)
 have H : (if a0_0 < a1_0 then (some true) else (if a0_0 = a1_0 then (some (decide (a0_1 < a1_1))) else (some false))) = some r := h
 clear h
 by_cases c3 : a0_0 < a1_0
 ·rw [if_pos c3] at H
  have c3b0 : decide (a0_0 < a1_0) = true := decide_eq_true c3
  clear c3
  obtain rfl := Option.some.inj H
  go_enter Tryz.func158, Tryz.ntmps158
  go_wp2_with (first | ((with_reducible refine Qer (N := 2) rfl ?_); refine qq_e 2 #[.int .u64 a0_0, .int .u32 a0_1] 122 ?_; intro gb422 hg w4 hbox hb; have n0_ := QA (Qem qq_b hb); have n1_ := QA (hbox); have n2_ := QA ((qq_s hg : w.heap.size ≤ gb422)); have n3_ := QA ((qq_s hg : w.heap.size ≤ gb422)); clear HB; have HB := n0_; have BK422 := n1_; have GW422 := n2_; have GE422 := n3_; clear n0_ n1_ n2_ n3_; clear hb hbox hg) | ((with_reducible refine Qer (N := 3) rfl ?_); refine qq_e 3 #[.int .u64 a1_0, .int .u32 a1_1] 122 ?_; intro gb423 hg w5 hbox hb; have n0_ := QA (Qeb (g := gb422) (o := .cells #[.int .u64 a0_0, .int .u32 a0_1] 122 (0, 0)) qq_0 hb); have n1_ := QA (Qem qq_b hb); have n2_ := QA (hbox); have n3_ := QA ((qq_s hg : w.heap.size ≤ gb423)); have n4_ := QA ((qq_s hg : w.heap.size ≤ gb423)); have n5_ := QA ((by rw [hg]; exact Nat.ne_of_lt (Qdr (g := gb422) (o := .cells #[.int .u64 a0_0, .int .u32 a0_1] 122 (0, 0)) qq_0) : gb422 ≠ gb423)); have n6_ := QA ((by rw [hg]; exact Nat.ne_of_gt (Qdr (g := gb422) (o := .cells #[.int .u64 a0_0, .int .u32 a0_1] 122 (0, 0)) qq_0) : gb423 ≠ gb422)); clear BK422; clear HB; have BK422 := n0_; have HB := n1_; have BK423 := n2_; have GW423 := n3_; have GE423 := n4_; have NB422_423 := n5_; have NB423_422 := n6_; clear n0_ n1_ n2_ n3_ n4_ n5_ n6_; clear hb hbox hg; have hnb6 := NB422_423.out; have hnc6 := NB423_422.out; have hcz7_0 := qq_c (.int .u64 a0_0) BK422.out 0 rfl; have hcz7_1 := qq_c (.int .u32 a0_1) BK422.out 1 rfl; have hfz7_0 := Qdt BK422.out 0; have hfz7_1 := Qdt BK422.out 1; have hcz8_0 := qq_c (.int .u64 a1_0) BK423.out 0 rfl; have hcz8_1 := qq_c (.int .u32 a1_1) BK423.out 1 rfl; have hfz8_0 := Qdt BK423.out 0; have hfz8_1 := Qdt BK423.out 1))
  go_ret
  exact ⟨by first | rfl | (simp [Qgu, Qgv] <;> rfl) | (simp [*, Qgu, Qgv] <;> rfl), qq_b⟩
 ·rw [if_neg c3] at H
  have c3b0 : decide (a0_0 < a1_0) = false := decide_eq_false c3
  clear c3
  by_cases c9 : a0_0 = a1_0
  ·rw [if_pos c9] at H
   have c9b0 : (a0_0 == a1_0) = true := beq_iff_eq.mpr c9
   have c9b1 : (a0_0 != a1_0) = false := bne_eq_false_iff_eq.mpr c9
   clear c9
   obtain rfl := Option.some.inj H
   go_enter Tryz.func158, Tryz.ntmps158
   go_wp2_with (first | ((with_reducible refine Qer (N := 2) rfl ?_); refine qq_e 2 #[.int .u64 a0_0, .int .u32 a0_1] 122 ?_; intro gb422 hg w10 hbox hb; have n0_ := QA (Qem qq_b hb); have n1_ := QA (hbox); have n2_ := QA ((qq_s hg : w.heap.size ≤ gb422)); have n3_ := QA ((qq_s hg : w.heap.size ≤ gb422)); clear HB; have HB := n0_; have BK422 := n1_; have GW422 := n2_; have GE422 := n3_; clear n0_ n1_ n2_ n3_; clear hb hbox hg) | ((with_reducible refine Qer (N := 3) rfl ?_); refine qq_e 3 #[.int .u64 a1_0, .int .u32 a1_1] 122 ?_; intro gb423 hg w11 hbox hb; have n0_ := QA (Qeb (g := gb422) (o := .cells #[.int .u64 a0_0, .int .u32 a0_1] 122 (0, 0)) qq_0 hb); have n1_ := QA (Qem qq_b hb); have n2_ := QA (hbox); have n3_ := QA ((qq_s hg : w.heap.size ≤ gb423)); have n4_ := QA ((qq_s hg : w.heap.size ≤ gb423)); have n5_ := QA ((by rw [hg]; exact Nat.ne_of_lt (Qdr (g := gb422) (o := .cells #[.int .u64 a0_0, .int .u32 a0_1] 122 (0, 0)) qq_0) : gb422 ≠ gb423)); have n6_ := QA ((by rw [hg]; exact Nat.ne_of_gt (Qdr (g := gb422) (o := .cells #[.int .u64 a0_0, .int .u32 a0_1] 122 (0, 0)) qq_0) : gb423 ≠ gb422)); clear BK422; clear HB; have BK422 := n0_; have HB := n1_; have BK423 := n2_; have GW423 := n3_; have GE423 := n4_; have NB422_423 := n5_; have NB423_422 := n6_; clear n0_ n1_ n2_ n3_ n4_ n5_ n6_; clear hb hbox hg; have hnb12 := NB422_423.out; have hnc12 := NB423_422.out; have hcz13_0 := qq_c (.int .u64 a0_0) BK422.out 0 rfl; have hcz13_1 := qq_c (.int .u32 a0_1) BK422.out 1 rfl; have hfz13_0 := Qdt BK422.out 0; have hfz13_1 := Qdt BK422.out 1; have hcz14_0 := qq_c (.int .u64 a1_0) BK423.out 0 rfl; have hcz14_1 := qq_c (.int .u32 a1_1) BK423.out 1 rfl; have hfz14_0 := Qdt BK423.out 0; have hfz14_1 := Qdt BK423.out 1))
   go_ret
   exact ⟨by first | rfl | (simp [Qgu, Qgv] <;> rfl) | (simp [*, Qgu, Qgv] <;> rfl), qq_b⟩
  ·rw [if_neg c9] at H
   have c9b0 : (a0_0 == a1_0) = false := beq_eq_false_iff_ne.mpr c9
   have c9b1 : (a0_0 != a1_0) = true := bne_iff_ne.mpr c9
   obtain rfl := Option.some.inj H
   go_enter Tryz.func158, Tryz.ntmps158
   go_wp2_with (first | ((with_reducible refine Qer (N := 2) rfl ?_); refine qq_e 2 #[.int .u64 a0_0, .int .u32 a0_1] 122 ?_; intro gb422 hg w15 hbox hb; have n0_ := QA (Qem qq_b hb); have n1_ := QA (hbox); have n2_ := QA ((qq_s hg : w.heap.size ≤ gb422)); have n3_ := QA ((qq_s hg : w.heap.size ≤ gb422)); clear HB; have HB := n0_; have BK422 := n1_; have GW422 := n2_; have GE422 := n3_; clear n0_ n1_ n2_ n3_; clear hb hbox hg) | ((with_reducible refine Qer (N := 3) rfl ?_); refine qq_e 3 #[.int .u64 a1_0, .int .u32 a1_1] 122 ?_; intro gb423 hg w16 hbox hb; have n0_ := QA (Qeb (g := gb422) (o := .cells #[.int .u64 a0_0, .int .u32 a0_1] 122 (0, 0)) qq_0 hb); have n1_ := QA (Qem qq_b hb); have n2_ := QA (hbox); have n3_ := QA ((qq_s hg : w.heap.size ≤ gb423)); have n4_ := QA ((qq_s hg : w.heap.size ≤ gb423)); have n5_ := QA ((by rw [hg]; exact Nat.ne_of_lt (Qdr (g := gb422) (o := .cells #[.int .u64 a0_0, .int .u32 a0_1] 122 (0, 0)) qq_0) : gb422 ≠ gb423)); have n6_ := QA ((by rw [hg]; exact Nat.ne_of_gt (Qdr (g := gb422) (o := .cells #[.int .u64 a0_0, .int .u32 a0_1] 122 (0, 0)) qq_0) : gb423 ≠ gb422)); clear BK422; clear HB; have BK422 := n0_; have HB := n1_; have BK423 := n2_; have GW423 := n3_; have GE423 := n4_; have NB422_423 := n5_; have NB423_422 := n6_; clear n0_ n1_ n2_ n3_ n4_ n5_ n6_; clear hb hbox hg; have hnb17 := NB422_423.out; have hnc17 := NB423_422.out; have hcz18_0 := qq_c (.int .u64 a0_0) BK422.out 0 rfl; have hcz18_1 := qq_c (.int .u32 a0_1) BK422.out 1 rfl; have hfz18_0 := Qdt BK422.out 0; have hfz18_1 := Qdt BK422.out 1; have hcz19_0 := qq_c (.int .u64 a1_0) BK423.out 0 rfl; have hcz19_1 := qq_c (.int .u32 a1_1) BK423.out 1 rfl; have hfz19_0 := Qdt BK423.out 0; have hfz19_1 := Qdt BK423.out 1))
   go_ret
   exact ⟨by first | rfl | (simp [Qgu, Qgv] <;> rfl) | (simp [*, Qgu, Qgv] <;> rfl), qq_b⟩
end Go.Proofs.YtnnofopfbeklbaaGreat.C
end
