/- Texts of this claim's author and of the print of its functions, merged by merge.py. -/
import Derived.Test.YtnnofopfbeklbaaGreatMG02
import Derived.Test.YtnnofopfbeklbaaGreatMG13
set_option linter.unusedVariables false
set_option linter.unusedSimpArgs false
set_option maxHeartbeats 8000000
set_option maxRecDepth 100000
section
namespace Go.Proofs.YtnnofopfbeklbaaGreat.C
open Go.RowKit Go.Proofs.YtnnofopfbeklbaaGreatW.PrintWords Go.Proofs.YtnnofopfbeklbaaGreatW.PrintLast Go.Proofs.YtnnofopfbeklbaaGreatW.PrintMore
attribute [local go_sem] Qfx Qfy Qfz Qga Qgb Qgc Qgd Qge
def Qba.f (k : Nat) (a0_0 : Bool) (a0_1 : Int) (a0_2 : ByteArray) (a0_3 : ByteArray) : Option (ByteArray) := if a0_0 = true then ((Qas.f k a0_1).bind fun t300 => (if 1 + t300.size ≤ 9223372036854775807 then ((Qat.f k a0_2).bind fun t301 => (if ((⟨#[3]⟩ : ByteArray) ++ t300).size + t301.size ≤ 9223372036854775807 then (some (((⟨#[3]⟩ : ByteArray) ++ t300) ++ t301)) else (none))) else (none))) else ((Qas.f k a0_1).bind fun t302 => (if 1 + t302.size ≤ 9223372036854775807 then ((Qat.f k a0_2).bind fun t303 => (if ((⟨#[2]⟩ : ByteArray) ++ t302).size + t303.size ≤ 9223372036854775807 then ((Qat.f k a0_3).bind fun t304 => (if (((⟨#[2]⟩ : ByteArray) ++ t302) ++ t303).size + t304.size ≤ 9223372036854775807 then (some ((((⟨#[2]⟩ : ByteArray) ++ t302) ++ t303) ++ t304)) else (none))) else (none))) else (none)))
def Qba.T2 : Bool × List (List Nat × List Nat) := (true, [([], []), ([0], [0]), ([1], [1]), ([2], [2]), ([], []), ([4], [4]), ([5, 2], [5]), ([3, 6], [3, 6]), ([7, 6, 0, 1, 2, 3, 4, 5, 6, 7], [7])])
def Qba.B2 : List Nat := [0, 1, 3, 7, 0, 16, 55, 127, 255]
theorem Qba.tab2 : rtab .any (Qfp Tryz.f62 2) = Qba.T2 := by kernel_rfl
theorem Qba.bits2 : Qfl Qba.T2.2 Qba.B2 = true := by kernel_rfl
def Qba.T3 : Bool × List (List Nat × List Nat) := (true, [([], []), ([0], [0]), ([1], [1]), ([2], [2]), ([], []), ([4], [4]), ([5, 2], [5]), ([3, 6], [3, 6]), ([], []), ([8], [8]), ([9, 6], [9]), ([7, 10], [7, 10]), ([11, 10, 0, 1, 2, 3, 4, 5, 6, 7, 8, 9, 10, 11], [11])])
def Qba.B3 : List Nat := [0, 1, 3, 7, 0, 16, 55, 127, 0, 256, 887, 2047, 4095]
theorem Qba.tab3 : rtab .any (Qfp Tryz.f62 3) = Qba.T3 := by kernel_rfl
theorem Qba.bits3 : Qfl Qba.T3.2 Qba.B3 = true := by kernel_rfl
theorem Qba.calls (k : Nat) (a0_0 : Bool) (a0_1 : Int) (a0_2 : ByteArray) (a0_3 : ByteArray) (r : ByteArray) (w : World) (h : Qba.f k a0_0 a0_1 a0_2 a0_3 = some r) :
  Calls Tryz.prog 62 #[.agg #[.bool a0_0, .int .u64 a0_1, .string a0_2, .string a0_3]] w fun e w' => e = .returned (.string r) ∧ Below w.heap.size w w' := by
 have hu39 := Tryz.underlying39
 have HB := QA (Below.refl w.heap.size w)
 have H : (if a0_0 = true then ((Qas.f k a0_1).bind fun t300 => (if 1 + t300.size ≤ 9223372036854775807 then ((Qat.f k a0_2).bind fun t301 => (if ((⟨#[3]⟩ : ByteArray) ++ t300).size + t301.size ≤ 9223372036854775807 then (some (((⟨#[3]⟩ : ByteArray) ++ t300) ++ t301)) else (none))) else (none))) else ((Qas.f k a0_1).bind fun t302 => (if 1 + t302.size ≤ 9223372036854775807 then ((Qat.f k a0_2).bind fun t303 => (if ((⟨#[2]⟩ : ByteArray) ++ t302).size + t303.size ≤ 9223372036854775807 then ((Qat.f k a0_3).bind fun t304 => (if (((⟨#[2]⟩ : ByteArray) ++ t302) ++ t303).size + t304.size ≤ 9223372036854775807 then (some ((((⟨#[2]⟩ : ByteArray) ++ t302) ++ t303) ++ t304)) else (none))) else (none))) else (none)))) = some r := h
 clear h
 by_cases c2 : a0_0 = true
 ·subst c2
  have H1 : ((Qas.f k a0_1).bind fun t300 => (if 1 + t300.size ≤ 9223372036854775807 then ((Qat.f k a0_2).bind fun t301 => (if ((⟨#[3]⟩ : ByteArray) ++ t300).size + t301.size ≤ 9223372036854775807 then (some (((⟨#[3]⟩ : ByteArray) ++ t300) ++ t301)) else (none))) else (none))) = some r := by rw [if_pos rfl] at H; exact H
  clear H
  have H := H1
  clear H1
  replace H := Option.bind_eq_some_iff.mp H
  obtain ⟨t300, A30, H⟩ := H
  replace H : (if 1 + t300.size ≤ 9223372036854775807 then ((Qat.f k a0_2).bind fun t301 => (if ((⟨#[3]⟩ : ByteArray) ++ t300).size + t301.size ≤ 9223372036854775807 then (some (((⟨#[3]⟩ : ByteArray) ++ t300) ++ t301)) else (none))) else (none)) = some r := H
  have A3 := QA A30
  clear A30
  by_cases c4 : 1 + t300.size ≤ 9223372036854775807
  ·rw [if_pos c4] at H
   have c4b0 := eq_true c4
   have c4b1 : decide (1 + t300.size ≤ 9223372036854775807) = true := decide_eq_true c4
   try have c4b2 : (9223372036854775807 < 1 + t300.size) = False := eq_false (Nat.not_lt.2 c4)
   replace H := Option.bind_eq_some_iff.mp H
   obtain ⟨t301, A50, H⟩ := H
   replace H : (if ((⟨#[3]⟩ : ByteArray) ++ t300).size + t301.size ≤ 9223372036854775807 then (some (((⟨#[3]⟩ : ByteArray) ++ t300) ++ t301)) else (none)) = some r := H
   have A5 := QA A50
   clear A50
   by_cases c6 : ((⟨#[3]⟩ : ByteArray) ++ t300).size + t301.size ≤ 9223372036854775807
   ·rw [if_pos c6] at H
    have c6b0 := eq_true c6
    have c6b1 : decide (((⟨#[3]⟩ : ByteArray) ++ t300).size + t301.size ≤ 9223372036854775807) = true := decide_eq_true c6
    try have c6b2 : (9223372036854775807 < ((⟨#[3]⟩ : ByteArray) ++ t300).size + t301.size) = False := eq_false (Nat.not_lt.2 c6)
    try have c6b3 := c6b2
    try simp only [ByteArray.size_append, (show ∀ x_ : UInt8, (⟨#[x_]⟩ : ByteArray).size = 1 from fun _ => rfl), (show ∀ x_ y_ : UInt8, (⟨#[x_, y_]⟩ : ByteArray).size = 2 from fun _ _ => rfl)] at c6b3
    try have c6b4 := c6b2
    try simp only [ByteArray.size_append, ByteArray.size_extract, (show ∀ x_ : UInt8, (⟨#[x_]⟩ : ByteArray).size = 1 from fun _ => rfl), (show ∀ x_ y_ : UInt8, (⟨#[x_, y_]⟩ : ByteArray).size = 2 from fun _ _ => rfl)] at c6b4
    obtain rfl := Option.some.inj H
    go_enter Tryz.func62, Tryz.ntmps62
    try go_wp2_with (first | ((with_reducible refine Qef (N := 1) rfl ?_); refine qq_e 1 #[.bool true, .int .u64 a0_1, .string a0_2, .string a0_3] 39 ?_; intro gb299 hg w7 hbox hb; have n0_ := QA (Qea qq_b hb); have n1_ := QA (hbox); have n2_ := QA ((qq_s hg : w.heap.size ≤ gb299)); have n3_ := QA ((qq_s hg : w.heap.size ≤ gb299)); clear HB; have HB := n0_; have BK299 := n1_; have GW299 := n2_; have GE299 := n3_; clear n0_ n1_ n2_ n3_; clear hb hbox hg; have hcz8_0 := qq_c (.bool true) BK299.out 0 rfl; have hcz8_1 := qq_c (.int .u64 a0_1) BK299.out 1 rfl; have hcz8_2 := qq_c (.string a0_2) BK299.out 2 rfl; have hcz8_3 := qq_c (.string a0_3) BK299.out 3 rfl; have hfz8_0 := Qdk BK299.out 0; have hfz8_1 := Qdk BK299.out 1; have hfz8_2 := Qdk BK299.out 2; have hfz8_3 := Qdk BK299.out 3))
    have n0_ := QA (Qdr BK299.out)
    have n1_ := QA (Qee HB.out)
    clear BK299
    clear HB
    have BK299 := n0_
    have HB := n1_
    clear n0_ n1_
    refine Qen (n := 9) (S := fun w' => w'.cell? ⟨gb299, 0, none⟩ = some (.bool true) ∧ w'.cell? ⟨gb299, 1, none⟩ = some (.int .u64 a0_1) ∧ w'.cell? ⟨gb299, 2, none⟩ = some (.string a0_2) ∧ w'.cell? ⟨gb299, 3, none⟩ = some (.string a0_3)) (ds := []) #[false, false, false, false, false, false, false, false, false] qq_6 rfl rfl ⟨(Qdj BK299.out 0).trans rfl, (Qdj BK299.out 1).trans rfl, (Qdj BK299.out 2).trans rfl, (Qdj BK299.out 3).trans rfl⟩ (fun hHeld => ?_); refine Qfn Qba.tab2 Qba.bits2 (fun HT_ HW_ => ?_)
    generalize w7.drew = w9 at BK299 HB hHeld ⊢
    refine Qeo (i := 0) (N := some 5) (v := ?_) (a' := ?_) #[true, false, false, false, false, false, false, false, false] rfl rfl (Qfh HT_.out qq_6) (fun _ _ _ h => h) (Or.inl ⟨by rfl, ?_⟩) ?_ ?_
    rotate_left
    ·intro w'
     go_simp
     with_reducible rfl
    rotate_left
    ·exact qq_2
    refine Qeo (i := 4) (N := some 9) (v := ?_) (a' := ?_) #[true, false, false, false, true, false, false, false, false] rfl rfl (Qfh HT_.out qq_6) (fun _ _ _ h => h) (Or.inl ⟨by rfl, ?_⟩) ?_ ?_
    rotate_left
    ·intro w'
     go_simp
     with_reducible rfl
    rotate_left
    ·exact qq_2
    refine take_ (i := 1) (N := some 6) (v := ?_) (a' := ?_) #[true, true, false, false, true, false, false, false, false] rfl rfl (Qfm HT_.out HW_.out qq_6) (fun _ _ _ h => h) (Or.inl ⟨by rfl, ?_⟩) hHeld ?_ ?_
    rotate_left
    ·rintro w' ⟨s0, s1, s2, s3⟩
     go_simp
     with_reducible rfl
    rotate_left
    ·exact qq_2
    refine take_ (i := 5) (N := some 10) (v := ?_) (a' := ?_) #[true, true, false, false, true, true, false, false, false] rfl rfl (Qfm HT_.out HW_.out qq_6) (fun _ _ _ h => h) (Or.inl ⟨by rfl, ?_⟩) hHeld ?_ ?_
    rotate_left
    ·rintro w' ⟨s0, s1, s2, s3⟩
     go_simp
     with_reducible rfl
    rotate_left
    ·exact qq_2
    refine one_ (i := 2) (N := some 7) #[true, true, true, false, true, true, false, false, false] rfl rfl (Qfi HT_.out qq_6) (by decide) (fun K hK => ?_)
    refine Qet Tryz.func98 qq_6 rfl #[.int .u64 a0_1] (by rfl) rfl rfl qq_1 ?_
    with_reducible refine (Qas.calls k a0_1 t300 _ A3.out).mono ?_
    rintro e w10 ⟨rfl, hb⟩
    refine ⟨_, rfl, ?_⟩
    have n0_ := QA (Qdt (g := gb299) (o := .cells #[.bool true, .int .u64 a0_1, .string a0_2, .string a0_3] 39 (0, 0)) qq_0 hb)
    have n1_ := QA (Qea qq_b hb)
    clear BK299
    clear HB
    have BK299 := n0_
    have HB := n1_
    clear n0_ n1_
    (try clear hb)
    (try clear hb2)
    (try clear hk)
    (try clear hi)
    refine hK.out _ _ ⟨(Qdj BK299.out 0).trans rfl, (Qdj BK299.out 1).trans rfl, (Qdj BK299.out 2).trans rfl, (Qdj BK299.out 3).trans rfl⟩ (fun hHeld => ?_)
    clear hK K
    refine Qes (a' := ?_) ?_ ?_
    rotate_left
    ·show Act.put _ (some 7) _ = _
     simp only [Act.put, List.setIfInBounds_toArray, List.set_cons_zero, List.set_cons_succ, Qew, Qex]
     rfl
    refine Qeo (i := 3) (N := some 8) (v := ?_) (a' := ?_) #[true, true, true, true, true, true, false, false, false] rfl rfl (Qfh HT_.out qq_6) (fun _ _ _ h => h) (Or.inl ⟨by rfl, ?_⟩) ?_ ?_
    rotate_left
    ·intro w'
     go_simp
     with_reducible rfl
    rotate_left
    ·exact qq_2
    refine one_ (i := 6) (N := some 11) #[true, true, true, true, true, true, true, false, false] rfl rfl (Qfi HT_.out qq_6) (by decide) (fun K hK => ?_)
    refine Qet Tryz.func104 qq_6 rfl #[.string a0_2] (by rfl) rfl rfl qq_1 ?_
    with_reducible refine (Qat.calls k a0_2 t301 _ A5.out).mono ?_
    rintro e w11 ⟨rfl, hb⟩
    refine ⟨_, rfl, ?_⟩
    have n0_ := QA (Qdt (g := gb299) (o := .cells #[.bool true, .int .u64 a0_1, .string a0_2, .string a0_3] 39 (0, 0)) qq_0 hb)
    have n1_ := QA (Qea qq_b hb)
    clear BK299
    clear HB
    have BK299 := n0_
    have HB := n1_
    clear n0_ n1_
    (try clear hb)
    (try clear hb2)
    (try clear hk)
    (try clear hi)
    refine hK.out _ _ ⟨(Qdj BK299.out 0).trans rfl, (Qdj BK299.out 1).trans rfl, (Qdj BK299.out 2).trans rfl, (Qdj BK299.out 3).trans rfl⟩ (fun hHeld => ?_)
    clear hK K
    refine Qes (a' := ?_) ?_ ?_
    rotate_left
    ·show Act.put _ (some 11) _ = _
     simp only [Act.put, List.setIfInBounds_toArray, List.set_cons_zero, List.set_cons_succ, Qew, Qex]
     rfl
    refine Qeo (i := 7) (N := some 12) (v := ?_) (a' := ?_) #[true, true, true, true, true, true, true, true, false] rfl rfl (Qfh HT_.out qq_6) (fun _ _ _ h => h) (Or.inl ⟨by rfl, ?_⟩) ?_ ?_
    rotate_left
    ·intro w'
     go_simp
     with_reducible rfl
    rotate_left
    ·exact qq_2
    refine Qeo (i := 8) (N := some 2) (v := ?_) (a' := ?_) #[true, true, true, true, true, true, true, true, true] rfl rfl (Qfh HT_.out qq_6) (fun _ _ _ h => h) (Or.inl ⟨by rfl, ?_⟩) ?_ ?_
    rotate_left
    ·intro w'
     go_simp
     with_reducible rfl
    rotate_left
    ·exact qq_2
    refine Qep (Qfk HT_.out qq_6) ?_
    try go_wp2
    go_ret
    exact ⟨by first | rfl | (simp [Qgi, Qgj] <;> rfl) | (simp [*, Qgi, Qgj] <;> rfl), qq_b⟩
   ·rw [if_neg c6] at H
    exact absurd H (by simp)
  ·rw [if_neg c4] at H
   exact absurd H (by simp)
 ·replace c2 := Bool.eq_false_iff.mpr c2
  subst c2
  have H1 : ((Qas.f k a0_1).bind fun t302 => (if 1 + t302.size ≤ 9223372036854775807 then ((Qat.f k a0_2).bind fun t303 => (if ((⟨#[2]⟩ : ByteArray) ++ t302).size + t303.size ≤ 9223372036854775807 then ((Qat.f k a0_3).bind fun t304 => (if (((⟨#[2]⟩ : ByteArray) ++ t302) ++ t303).size + t304.size ≤ 9223372036854775807 then (some ((((⟨#[2]⟩ : ByteArray) ++ t302) ++ t303) ++ t304)) else (none))) else (none))) else (none))) = some r := by rw [if_neg (show ¬ (false = true) by decide)] at H; exact H
  clear H
  have H := H1
  clear H1
  replace H := Option.bind_eq_some_iff.mp H
  obtain ⟨t302, A120, H⟩ := H
  replace H : (if 1 + t302.size ≤ 9223372036854775807 then ((Qat.f k a0_2).bind fun t303 => (if ((⟨#[2]⟩ : ByteArray) ++ t302).size + t303.size ≤ 9223372036854775807 then ((Qat.f k a0_3).bind fun t304 => (if (((⟨#[2]⟩ : ByteArray) ++ t302) ++ t303).size + t304.size ≤ 9223372036854775807 then (some ((((⟨#[2]⟩ : ByteArray) ++ t302) ++ t303) ++ t304)) else (none))) else (none))) else (none)) = some r := H
  have A12 := QA A120
  clear A120
  by_cases c13 : 1 + t302.size ≤ 9223372036854775807
  ·rw [if_pos c13] at H
   have c13b0 := eq_true c13
   have c13b1 : decide (1 + t302.size ≤ 9223372036854775807) = true := decide_eq_true c13
   try have c13b2 : (9223372036854775807 < 1 + t302.size) = False := eq_false (Nat.not_lt.2 c13)
   replace H := Option.bind_eq_some_iff.mp H
   obtain ⟨t303, A140, H⟩ := H
   replace H : (if ((⟨#[2]⟩ : ByteArray) ++ t302).size + t303.size ≤ 9223372036854775807 then ((Qat.f k a0_3).bind fun t304 => (if (((⟨#[2]⟩ : ByteArray) ++ t302) ++ t303).size + t304.size ≤ 9223372036854775807 then (some ((((⟨#[2]⟩ : ByteArray) ++ t302) ++ t303) ++ t304)) else (none))) else (none)) = some r := H
   have A14 := QA A140
   clear A140
   by_cases c15 : ((⟨#[2]⟩ : ByteArray) ++ t302).size + t303.size ≤ 9223372036854775807
   ·rw [if_pos c15] at H
    have c15b0 := eq_true c15
    have c15b1 : decide (((⟨#[2]⟩ : ByteArray) ++ t302).size + t303.size ≤ 9223372036854775807) = true := decide_eq_true c15
    try have c15b2 : (9223372036854775807 < ((⟨#[2]⟩ : ByteArray) ++ t302).size + t303.size) = False := eq_false (Nat.not_lt.2 c15)
    try have c15b3 := c15b2
    try simp only [ByteArray.size_append, (show ∀ x_ : UInt8, (⟨#[x_]⟩ : ByteArray).size = 1 from fun _ => rfl), (show ∀ x_ y_ : UInt8, (⟨#[x_, y_]⟩ : ByteArray).size = 2 from fun _ _ => rfl)] at c15b3
    try have c15b4 := c15b2
    try simp only [ByteArray.size_append, ByteArray.size_extract, (show ∀ x_ : UInt8, (⟨#[x_]⟩ : ByteArray).size = 1 from fun _ => rfl), (show ∀ x_ y_ : UInt8, (⟨#[x_, y_]⟩ : ByteArray).size = 2 from fun _ _ => rfl)] at c15b4
    replace H := Option.bind_eq_some_iff.mp H
    obtain ⟨t304, A160, H⟩ := H
    replace H : (if (((⟨#[2]⟩ : ByteArray) ++ t302) ++ t303).size + t304.size ≤ 9223372036854775807 then (some ((((⟨#[2]⟩ : ByteArray) ++ t302) ++ t303) ++ t304)) else (none)) = some r := H
    have A16 := QA A160
    clear A160
    by_cases c17 : (((⟨#[2]⟩ : ByteArray) ++ t302) ++ t303).size + t304.size ≤ 9223372036854775807
    ·rw [if_pos c17] at H
     have c17b0 := eq_true c17
     have c17b1 : decide ((((⟨#[2]⟩ : ByteArray) ++ t302) ++ t303).size + t304.size ≤ 9223372036854775807) = true := decide_eq_true c17
     try have c17b2 : (9223372036854775807 < (((⟨#[2]⟩ : ByteArray) ++ t302) ++ t303).size + t304.size) = False := eq_false (Nat.not_lt.2 c17)
     try have c17b3 := c17b2
     try simp only [ByteArray.size_append, (show ∀ x_ : UInt8, (⟨#[x_]⟩ : ByteArray).size = 1 from fun _ => rfl), (show ∀ x_ y_ : UInt8, (⟨#[x_, y_]⟩ : ByteArray).size = 2 from fun _ _ => rfl)] at c17b3
     try have c17b4 := c17b2
     try simp only [ByteArray.size_append, ByteArray.size_extract, (show ∀ x_ : UInt8, (⟨#[x_]⟩ : ByteArray).size = 1 from fun _ => rfl), (show ∀ x_ y_ : UInt8, (⟨#[x_, y_]⟩ : ByteArray).size = 2 from fun _ _ => rfl)] at c17b4
     obtain rfl := Option.some.inj H
     go_enter Tryz.func62, Tryz.ntmps62
     try go_wp2_with (first | ((with_reducible refine Qef (N := 1) rfl ?_); refine qq_e 1 #[.bool false, .int .u64 a0_1, .string a0_2, .string a0_3] 39 ?_; intro gb299 hg w18 hbox hb; have n0_ := QA (Qea qq_b hb); have n1_ := QA (hbox); have n2_ := QA ((qq_s hg : w.heap.size ≤ gb299)); have n3_ := QA ((qq_s hg : w.heap.size ≤ gb299)); clear HB; have HB := n0_; have BK299 := n1_; have GW299 := n2_; have GE299 := n3_; clear n0_ n1_ n2_ n3_; clear hb hbox hg; have hcz19_0 := qq_c (.bool false) BK299.out 0 rfl; have hcz19_1 := qq_c (.int .u64 a0_1) BK299.out 1 rfl; have hcz19_2 := qq_c (.string a0_2) BK299.out 2 rfl; have hcz19_3 := qq_c (.string a0_3) BK299.out 3 rfl; have hfz19_0 := Qdk BK299.out 0; have hfz19_1 := Qdk BK299.out 1; have hfz19_2 := Qdk BK299.out 2; have hfz19_3 := Qdk BK299.out 3))
     have n0_ := QA (Qdr BK299.out)
     have n1_ := QA (Qee HB.out)
     clear BK299
     clear HB
     have BK299 := n0_
     have HB := n1_
     clear n0_ n1_
     refine Qen (n := 13) (S := fun w' => w'.cell? ⟨gb299, 0, none⟩ = some (.bool false) ∧ w'.cell? ⟨gb299, 1, none⟩ = some (.int .u64 a0_1) ∧ w'.cell? ⟨gb299, 2, none⟩ = some (.string a0_2) ∧ w'.cell? ⟨gb299, 3, none⟩ = some (.string a0_3)) (ds := []) #[false, false, false, false, false, false, false, false, false, false, false, false, false] qq_6 rfl rfl ⟨(Qdj BK299.out 0).trans rfl, (Qdj BK299.out 1).trans rfl, (Qdj BK299.out 2).trans rfl, (Qdj BK299.out 3).trans rfl⟩ (fun hHeld => ?_); refine Qfn Qba.tab3 Qba.bits3 (fun HT_ HW_ => ?_)
     generalize w18.drew = w20 at BK299 HB hHeld ⊢
     refine Qeo (i := 0) (N := some 13) (v := ?_) (a' := ?_) #[true, false, false, false, false, false, false, false, false, false, false, false, false] rfl rfl (Qfh HT_.out qq_6) (fun _ _ _ h => h) (Or.inl ⟨by rfl, ?_⟩) ?_ ?_
     rotate_left
     ·intro w'
      go_simp
      with_reducible rfl
     rotate_left
     ·exact qq_2
     refine Qeo (i := 4) (N := some 17) (v := ?_) (a' := ?_) #[true, false, false, false, true, false, false, false, false, false, false, false, false] rfl rfl (Qfh HT_.out qq_6) (fun _ _ _ h => h) (Or.inl ⟨by rfl, ?_⟩) ?_ ?_
     rotate_left
     ·intro w'
      go_simp
      with_reducible rfl
     rotate_left
     ·exact qq_2
     refine Qeo (i := 8) (N := some 21) (v := ?_) (a' := ?_) #[true, false, false, false, true, false, false, false, true, false, false, false, false] rfl rfl (Qfh HT_.out qq_6) (fun _ _ _ h => h) (Or.inl ⟨by rfl, ?_⟩) ?_ ?_
     rotate_left
     ·intro w'
      go_simp
      with_reducible rfl
     rotate_left
     ·exact qq_2
     refine take_ (i := 1) (N := some 14) (v := ?_) (a' := ?_) #[true, true, false, false, true, false, false, false, true, false, false, false, false] rfl rfl (Qfm HT_.out HW_.out qq_6) (fun _ _ _ h => h) (Or.inl ⟨by rfl, ?_⟩) hHeld ?_ ?_
     rotate_left
     ·rintro w' ⟨s0, s1, s2, s3⟩
      go_simp
      with_reducible rfl
     rotate_left
     ·exact qq_2
     refine take_ (i := 5) (N := some 18) (v := ?_) (a' := ?_) #[true, true, false, false, true, true, false, false, true, false, false, false, false] rfl rfl (Qfm HT_.out HW_.out qq_6) (fun _ _ _ h => h) (Or.inl ⟨by rfl, ?_⟩) hHeld ?_ ?_
     rotate_left
     ·rintro w' ⟨s0, s1, s2, s3⟩
      go_simp
      with_reducible rfl
     rotate_left
     ·exact qq_2
     refine take_ (i := 9) (N := some 22) (v := ?_) (a' := ?_) #[true, true, false, false, true, true, false, false, true, true, false, false, false] rfl rfl (Qfm HT_.out HW_.out qq_6) (fun _ _ _ h => h) (Or.inl ⟨by rfl, ?_⟩) hHeld ?_ ?_
     rotate_left
     ·rintro w' ⟨s0, s1, s2, s3⟩
      go_simp
      with_reducible rfl
     rotate_left
     ·exact qq_2
     refine one_ (i := 2) (N := some 15) #[true, true, true, false, true, true, false, false, true, true, false, false, false] rfl rfl (Qfi HT_.out qq_6) (by decide) (fun K hK => ?_)
     refine Qet Tryz.func98 qq_6 rfl #[.int .u64 a0_1] (by rfl) rfl rfl qq_1 ?_
     with_reducible refine (Qas.calls k a0_1 t302 _ A12.out).mono ?_
     rintro e w21 ⟨rfl, hb⟩
     refine ⟨_, rfl, ?_⟩
     have n0_ := QA (Qdt (g := gb299) (o := .cells #[.bool false, .int .u64 a0_1, .string a0_2, .string a0_3] 39 (0, 0)) qq_0 hb)
     have n1_ := QA (Qea qq_b hb)
     clear BK299
     clear HB
     have BK299 := n0_
     have HB := n1_
     clear n0_ n1_
     (try clear hb)
     (try clear hb2)
     (try clear hk)
     (try clear hi)
     refine hK.out _ _ ⟨(Qdj BK299.out 0).trans rfl, (Qdj BK299.out 1).trans rfl, (Qdj BK299.out 2).trans rfl, (Qdj BK299.out 3).trans rfl⟩ (fun hHeld => ?_)
     clear hK K
     refine Qes (a' := ?_) ?_ ?_
     rotate_left
     ·show Act.put _ (some 15) _ = _
      simp only [Act.put, List.setIfInBounds_toArray, List.set_cons_zero, List.set_cons_succ, Qew, Qex]
      rfl
     refine Qeo (i := 3) (N := some 16) (v := ?_) (a' := ?_) #[true, true, true, true, true, true, false, false, true, true, false, false, false] rfl rfl (Qfh HT_.out qq_6) (fun _ _ _ h => h) (Or.inl ⟨by rfl, ?_⟩) ?_ ?_
     rotate_left
     ·intro w'
      go_simp
      with_reducible rfl
     rotate_left
     ·exact qq_2
     refine one_ (i := 6) (N := some 19) #[true, true, true, true, true, true, true, false, true, true, false, false, false] rfl rfl (Qfi HT_.out qq_6) (by decide) (fun K hK => ?_)
     refine Qet Tryz.func104 qq_6 rfl #[.string a0_2] (by rfl) rfl rfl qq_1 ?_
     with_reducible refine (Qat.calls k a0_2 t303 _ A14.out).mono ?_
     rintro e w22 ⟨rfl, hb⟩
     refine ⟨_, rfl, ?_⟩
     have n0_ := QA (Qdt (g := gb299) (o := .cells #[.bool false, .int .u64 a0_1, .string a0_2, .string a0_3] 39 (0, 0)) qq_0 hb)
     have n1_ := QA (Qea qq_b hb)
     clear BK299
     clear HB
     have BK299 := n0_
     have HB := n1_
     clear n0_ n1_
     (try clear hb)
     (try clear hb2)
     (try clear hk)
     (try clear hi)
     refine hK.out _ _ ⟨(Qdj BK299.out 0).trans rfl, (Qdj BK299.out 1).trans rfl, (Qdj BK299.out 2).trans rfl, (Qdj BK299.out 3).trans rfl⟩ (fun hHeld => ?_)
     clear hK K
     refine Qes (a' := ?_) ?_ ?_
     rotate_left
     ·show Act.put _ (some 19) _ = _
      simp only [Act.put, List.setIfInBounds_toArray, List.set_cons_zero, List.set_cons_succ, Qew, Qex]
      rfl
     refine Qeo (i := 7) (N := some 20) (v := ?_) (a' := ?_) #[true, true, true, true, true, true, true, true, true, true, false, false, false] rfl rfl (Qfh HT_.out qq_6) (fun _ _ _ h => h) (Or.inl ⟨by rfl, ?_⟩) ?_ ?_
     rotate_left
     ·intro w'
      go_simp
      with_reducible rfl
     rotate_left
     ·exact qq_2
     refine one_ (i := 10) (N := some 23) #[true, true, true, true, true, true, true, true, true, true, true, false, false] rfl rfl (Qfi HT_.out qq_6) (by decide) (fun K hK => ?_)
     refine Qet Tryz.func104 qq_6 rfl #[.string a0_3] (by rfl) rfl rfl qq_1 ?_
     with_reducible refine (Qat.calls k a0_3 t304 _ A16.out).mono ?_
     rintro e w23 ⟨rfl, hb⟩
     refine ⟨_, rfl, ?_⟩
     have n0_ := QA (Qdt (g := gb299) (o := .cells #[.bool false, .int .u64 a0_1, .string a0_2, .string a0_3] 39 (0, 0)) qq_0 hb)
     have n1_ := QA (Qea qq_b hb)
     clear BK299
     clear HB
     have BK299 := n0_
     have HB := n1_
     clear n0_ n1_
     (try clear hb)
     (try clear hb2)
     (try clear hk)
     (try clear hi)
     refine hK.out _ _ ⟨(Qdj BK299.out 0).trans rfl, (Qdj BK299.out 1).trans rfl, (Qdj BK299.out 2).trans rfl, (Qdj BK299.out 3).trans rfl⟩ (fun hHeld => ?_)
     clear hK K
     refine Qes (a' := ?_) ?_ ?_
     rotate_left
     ·show Act.put _ (some 23) _ = _
      simp only [Act.put, List.setIfInBounds_toArray, List.set_cons_zero, List.set_cons_succ, Qew, Qex]
      rfl
     refine Qeo (i := 11) (N := some 24) (v := ?_) (a' := ?_) #[true, true, true, true, true, true, true, true, true, true, true, true, false] rfl rfl (Qfh HT_.out qq_6) (fun _ _ _ h => h) (Or.inl ⟨by rfl, ?_⟩) ?_ ?_
     rotate_left
     ·intro w'
      go_simp
      with_reducible rfl
     rotate_left
     ·exact qq_2
     refine Qeo (i := 12) (N := some 2) (v := ?_) (a' := ?_) #[true, true, true, true, true, true, true, true, true, true, true, true, true] rfl rfl (Qfh HT_.out qq_6) (fun _ _ _ h => h) (Or.inl ⟨by rfl, ?_⟩) ?_ ?_
     rotate_left
     ·intro w'
      go_simp
      with_reducible rfl
     rotate_left
     ·exact qq_2
     refine Qep (Qfk HT_.out qq_6) ?_
     try go_wp2
     go_ret
     exact ⟨by first | rfl | (simp [Qgi, Qgj] <;> rfl) | (simp [*, Qgi, Qgj] <;> rfl), qq_b⟩
    ·rw [if_neg c17] at H
     exact absurd H (by simp)
   ·rw [if_neg c15] at H
    exact absurd H (by simp)
  ·rw [if_neg c13] at H
   exact absurd H (by simp)
def Qaq.l0 : Nat → Int → ByteArray → Int → Int → Option (ByteArray)
 | 0, _, _, _, _ => none
 | k + 1, x0, x5, x6, x7 => if x7 < x6 then ((some (([(Int.tmod x0 256) % 256] : List Int) : List Int)).bind fun y286 => (if x5.size + (strOfNums y286).size ≤ 9223372036854775807 then (Qaq.l0 k (IntKind.u64.wrap (Int.tdiv x0 256)) (x5 ++ (strOfNums y286)) x6 (wrap64 (x7 + 1))) else (none))) else (some x5)
def Qaq.f (k : Nat) (a0 : Int) (a1 : Int) : Option (ByteArray) := Qaq.l0 k a0 (⟨#[]⟩ : ByteArray) a1 0
theorem Qaq.calls (k : Nat) (a0 : Int) (a1 : Int) (r : ByteArray) (w : World) (h : Qaq.f k a0 a1 = some r) :
  Calls Tryz.prog 103 #[.int .u64 a0, .int .i64 a1] w fun e w' => e = .returned (.string r) ∧ Below w.heap.size w w' := by
 have HB := QA (Below.refl w.heap.size w)
 have H : (Qaq.l0 k a0 (⟨#[]⟩ : ByteArray) a1 0) = some r := h
 clear h
 have H' := QA H
 clear H
 go_enter Tryz.func103, Tryz.ntmps103
 go_wp2
 go_loopg [0, 5, 7] k (fun kq v0 v5 v7 w' => ∃ (x0_1 : Int) (x5_1 : ByteArray) (x7_1 : Int), v0 = .int .u64 x0_1 ∧ v5 = .string x5_1 ∧ v7 = .int .i64 x7_1 ∧ Aside0 (Qaq.l0 kq x0_1 x5_1 a1 x7_1 = some r) ∧ Aside0 (kq ≤ k) ∧ Aside0 (Below w.heap.size w w'))
 case atStart => exact ⟨(a0), ((⟨#[]⟩ : ByteArray)), (0), qq_5, qq_5, qq_5, H', ⟨Nat.le_refl _⟩, ⟨qq_b⟩⟩
 case round =>
  clear H'
  obtain ⟨x0_1, x5_1, x7_1, rfl, rfl, rfl, HA, HK1, HB⟩ := hrel
  cases gk with
  | zero => exact absurd HA.out (by simp [Qaq.l0])
  | succ k1 =>
   have H := HA.out
   clear HA
   simp only [Qaq.l0] at H
   by_cases c3 : x7_1 < a1
   ·rw [if_pos c3] at H
    have c3b0 : decide (x7_1 < a1) = true := decide_eq_true c3
    clear c3
    obtain ⟨y286, hy286⟩ : ∃ y_ : List Int, y_ = (([(Int.tmod x0_1 256) % 256] : List Int)) := ⟨_, rfl⟩
    replace H : (if x5_1.size + (strOfNums y286).size ≤ 9223372036854775807 then (Qaq.l0 k1 (IntKind.u64.wrap (Int.tdiv x0_1 256)) (x5_1 ++ (strOfNums y286)) a1 (wrap64 (x7_1 + 1))) else (none)) = some r := by first | (rw [hy286]; with_reducible exact H) | (have H2_ := (Option.bind_some _ _).symm.trans H; rw [hy286]; with_reducible exact H2_) | (have H2_ := (Option.bind_some _ _).symm.trans H; with_reducible exact H2_) | with_reducible exact H | (rw [hy286]; exact H) | exact H
    have Ny286 := QA hy286
    clear hy286
    by_cases c4 : x5_1.size + (strOfNums y286).size ≤ 9223372036854775807
    ·rw [if_pos c4] at H
     have c4b0 := eq_true c4
     have c4b1 : decide (x5_1.size + (strOfNums y286).size ≤ 9223372036854775807) = true := decide_eq_true c4
     try have c4b2 : (9223372036854775807 < x5_1.size + (strOfNums y286).size) = False := eq_false (Nat.not_lt.2 c4)
     have H' := QA H
     clear H
     go_wp2_with (first | ((with_reducible refine Qef (N := 13) rfl ?_); refine Kd.R_lit (Kd.int .u8) _ 5 ?hg (N := 13) ?hd (xs := ([(Int.tmod x0_1 256) % 256] : List Int)) (inner := [.int .u8 ((Int.tmod x0_1 256) % 256)]) (ok := fun _ => True) (okp := fun _ => True) ?hr ?hp (fun _ hk => hk) trivial (Below.refl _ _) (Nat.le_refl _) (by simp) ?_; (case hd => rfl); (case hg => rfl); (case hr => exact qq_12); (case hp => exact (Reps.one (show Kd.M (Kd.int .u8) _ _ _ ((Int.tmod x0_1 256) % 256) [.int .u8 ((Int.tmod x0_1 256) % 256)] from rfl) (Reps.none _ _))); intro v287 w5 ho6 hb hg_ hnew_; clear hg_ hnew_; (first | rw [← Ny286.out] at ho6 | (simp only [Int.reduceToNat] at ho6; rw [← Ny286.out] at ho6)); have n0_ := QA (Kd.R_lower ho6 (Qdz qq_b)); have n1_ := QA (Qea qq_b hb); clear HB; have HO288 := n0_; have HB := n1_; clear n0_ n1_; clear hb ho6; have hcv7 := Qcw (P := Tryz.prog) Tryz.underlying52 Tryz.underlying5 Tryz.underlying9 (Kd.own_of_R HO288.out)))
     go_roundg k1
     case measure => have := HK1.out; omega
     case rel => exact ⟨(IntKind.u64.wrap (Int.tdiv x0_1 256)), (x5_1 ++ (strOfNums y286)), (wrap64 (x7_1 + 1)), qq_5, qq_5, qq_5, H', ⟨by have := HK1.out; omega⟩, ⟨qq_b⟩⟩
    ·rw [if_neg c4] at H
     exact absurd H (by simp)
   ·rw [if_neg c3] at H
    have c3b0 : decide (x7_1 < a1) = false := decide_eq_false c3
    clear c3
    obtain rfl := Option.some.inj H
    go_wp2
    go_ret
    exact ⟨by first | rfl | (simp [Qgi, Qgj] <;> rfl) | (simp [*, Qgi, Qgj] <;> rfl), qq_b⟩
def Qar.l0 : Nat → ByteArray → Int → Int → Option (Int)
 | 0, _, _, _ => none
 | k + 1, x0, x3, x4 => if x4 ≥ 0 then (if 0 ≤ x4 then (if x4 < (x0.size : Int) then (Qar.l0 k x0 (IntKind.u64.wrap ((IntKind.u64.wrap (x3 * 256)) + (IntKind.u64.wrap (bt x0 x4)))) (wrap64 (x4 - 1))) else (none)) else (none)) else (some x3)
def Qar.f (k : Nat) (a0 : ByteArray) : Option (Int) := Qar.l0 k a0 0 (wrap64 ((a0.size : Int) - 1))
theorem Qar.mono_l : ∀ k, (∀ y0 y1 y2, LeO (Qar.l0 k y0 y1 y2) (Qar.l0 (k + 1) y0 y1 y2))
 | 0 => fun _ _ _ r h => by simp [Qar.l0] at h
 | k + 1 => by
  have ih0 := Qar.mono_l k
  ·intro y0 y1 y2
   unfold Qar.l0
   repeat' first
   | (with_reducible exact ih0 _ _ _)
   | (with_reducible exact LeO.refl _)
   | (with_reducible exact LeO.none _)
   | (with_reducible refine LeO.ite ?_ ?_)
   | (with_reducible refine LeO.bind ?_ (fun _ => ?_))
   | exact ih0 _ _ _
   | exact LeO.none _
   | refine LeO.ite ?_ ?_
   | refine LeO.bind ?_ (fun _ => ?_)
theorem Qar.mono : ∀ a0 k, LeO (Qar.f k a0) (Qar.f (k + 1) a0) := by
 intro a0 k
 have ih0 := Qar.mono_l k
 unfold Qar.f
 repeat' first
   | (with_reducible exact ih0 _ _ _)
   | (with_reducible exact LeO.refl _)
   | (with_reducible exact LeO.none _)
   | (with_reducible refine LeO.ite ?_ ?_)
   | (with_reducible refine LeO.bind ?_ (fun _ => ?_))
   | exact ih0 _ _ _
   | exact LeO.none _
   | refine LeO.ite ?_ ?_
   | refine LeO.bind ?_ (fun _ => ?_)
theorem Qar.calls (k : Nat) (a0 : ByteArray) (r : Int) (w : World) (h : Qar.f k a0 = some r) :
  Calls Tryz.prog 107 #[.string a0] w fun e w' => e = .returned (.int .u64 r) ∧ Drawn0 w w' := by
 have H : (Qar.l0 k a0 0 (wrap64 ((a0.size : Int) - 1))) = some r := h
 clear h
 have H' := QA H
 clear H
 go_enter Tryz.func107, Tryz.ntmps107
 go_wp2
 go_loopg [3, 4] k (fun kq v3 v4 w' => ∃ (x3_1 : Int) (x4_1 : Int), v3 = .int .u64 x3_1 ∧ v4 = .int .i64 x4_1 ∧ Aside0 (Qar.l0 kq a0 x3_1 x4_1 = some r) ∧ Aside0 (kq ≤ k) ∧ Drawn0 w w')
 case atStart => exact ⟨(0), (wrap64 ((a0.size : Int) - 1)), qq_5, qq_5, H', ⟨Nat.le_refl _⟩, by repeat (first | exact Drawn0.refl _ | apply Drawn0.step)⟩
 case round =>
  clear H'
  obtain ⟨x3_1, x4_1, rfl, rfl, HA, HK1, ⟨m1, rfl⟩⟩ := hrel
  cases gk with
  | zero => exact absurd HA.out (by simp [Qar.l0])
  | succ k1 =>
   have H := HA.out
   clear HA
   simp only [Qar.l0] at H
   by_cases c2 : x4_1 ≥ 0
   ·rw [if_pos c2] at H
    have c2b0 : decide (0 ≤ x4_1) = true := decide_eq_true c2
    clear c2
    by_cases c3 : 0 ≤ x4_1
    ·rw [if_pos c3] at H
     have c3b0 : decide (0 ≤ x4_1) = true := decide_eq_true c3
     clear c3
     by_cases c4 : x4_1 < (a0.size : Int)
     ·rw [if_pos c4] at H
      have c4b0 : decide (x4_1 < (a0.size : Int)) = true := decide_eq_true c4
      clear c4
      have H' := QA H
      clear H
      have p5 : 0 ≤ (x4_1 : Int) := of_decide_eq_true qq_7
      have q5 : x4_1 < (a0.size : Int) := of_decide_eq_true qq_7
      have hx5 := bt_at a0 x4_1
      replace p5 := eq_true p5
      replace q5 := eq_true q5
      go_wp2
      go_roundg k1
      case measure => have := HK1.out; omega
      case rel => exact ⟨(IntKind.u64.wrap ((IntKind.u64.wrap (x3_1 * 256)) + (IntKind.u64.wrap (bt a0 x4_1)))), (wrap64 (x4_1 - 1)), qq_5, qq_5, H', ⟨by have := HK1.out; omega⟩, by repeat (first | exact Drawn0.refl _ | apply Drawn0.step)⟩
     ·rw [if_neg c4] at H
      exact absurd H (by simp)
    ·rw [if_neg c3] at H
     exact absurd H (by simp)
   ·rw [if_neg c2] at H
    have c2b0 : decide (0 ≤ x4_1) = false := decide_eq_false c2
    clear c2
    obtain rfl := Option.some.inj H
    go_wp2
    go_ret
    exact ⟨by first | rfl | (simp; done) | (simp [*]; done), by repeat (first | exact Drawn0.refl _ | apply Drawn0.step)⟩
def Qay.l0 : Nat → Int → Int → Int → Option (Int)
 | 0, _, _, _ => none
 | k + 1, x0, x6, x7 => if x7 < x6 then (Qay.l0 k (IntKind.u64.wrap ((IntKind.u64.wrap (2 * x0)) + (IntKind.u64.wrap (Int.tdiv x0 9223372036854775808)))) x6 (wrap64 (x7 + 1))) else (some x0)
def Qay.f (k : Nat) (a0 : Int) (a1 : Int) : Option (Int) := Qay.l0 k a0 a1 0
theorem Qay.mono_l : ∀ k, (∀ y0 y1 y2, LeO (Qay.l0 k y0 y1 y2) (Qay.l0 (k + 1) y0 y1 y2))
 | 0 => fun _ _ _ r h => by simp [Qay.l0] at h
 | k + 1 => by
  have ih0 := Qay.mono_l k
  ·intro y0 y1 y2
   unfold Qay.l0
   repeat' first
   | (with_reducible exact ih0 _ _ _)
   | (with_reducible exact LeO.refl _)
   | (with_reducible exact LeO.none _)
   | (with_reducible refine LeO.ite ?_ ?_)
   | (with_reducible refine LeO.bind ?_ (fun _ => ?_))
   | exact ih0 _ _ _
   | exact LeO.none _
   | refine LeO.ite ?_ ?_
   | refine LeO.bind ?_ (fun _ => ?_)
theorem Qay.mono : ∀ a0 a1 k, LeO (Qay.f k a0 a1) (Qay.f (k + 1) a0 a1) := by
 intro a0 a1 k
 have ih0 := Qay.mono_l k
 unfold Qay.f
 repeat' first
   | (with_reducible exact ih0 _ _ _)
   | (with_reducible exact LeO.refl _)
   | (with_reducible exact LeO.none _)
   | (with_reducible refine LeO.ite ?_ ?_)
   | (with_reducible refine LeO.bind ?_ (fun _ => ?_))
   | exact ih0 _ _ _
   | exact LeO.none _
   | refine LeO.ite ?_ ?_
   | refine LeO.bind ?_ (fun _ => ?_)
theorem Qay.calls (k : Nat) (a0 : Int) (a1 : Int) (r : Int) (w : World) (h : Qay.f k a0 a1 = some r) :
  Calls Tryz.prog 108 #[.int .u64 a0, .int .i64 a1] w fun e w' => e = .returned (.int .u64 r) ∧ Drawn0 w w' := by
 have H : (Qay.l0 k a0 a1 0) = some r := h
 clear h
 have H' := QA H
 clear H
 go_enter Tryz.func108, Tryz.ntmps108
 go_wp2
 go_loopg [0, 7] k (fun kq v0 v7 w' => ∃ (x0_1 : Int) (x7_1 : Int), v0 = .int .u64 x0_1 ∧ v7 = .int .i64 x7_1 ∧ Aside0 (Qay.l0 kq x0_1 a1 x7_1 = some r) ∧ Aside0 (kq ≤ k) ∧ Drawn0 w w')
 case atStart => exact ⟨(a0), (0), qq_5, qq_5, H', ⟨Nat.le_refl _⟩, by repeat (first | exact Drawn0.refl _ | apply Drawn0.step)⟩
 case round =>
  clear H'
  obtain ⟨x0_1, x7_1, rfl, rfl, HA, HK1, ⟨m1, rfl⟩⟩ := hrel
  cases gk with
  | zero => exact absurd HA.out (by simp [Qay.l0])
  | succ k1 =>
   have H := HA.out
   clear HA
   simp only [Qay.l0] at H
   by_cases c3 : x7_1 < a1
   ·rw [if_pos c3] at H
    have c3b0 : decide (x7_1 < a1) = true := decide_eq_true c3
    clear c3
    have H' := QA H
    clear H
    go_wp2
    go_roundg k1
    case measure => have := HK1.out; omega
    case rel => exact ⟨(IntKind.u64.wrap ((IntKind.u64.wrap (2 * x0_1)) + (IntKind.u64.wrap (Int.tdiv x0_1 9223372036854775808)))), (wrap64 (x7_1 + 1)), qq_5, qq_5, H', ⟨by have := HK1.out; omega⟩, by repeat (first | exact Drawn0.refl _ | apply Drawn0.step)⟩
   ·rw [if_neg c3] at H
    have c3b0 : decide (x7_1 < a1) = false := decide_eq_false c3
    clear c3
    obtain rfl := Option.some.inj H
    go_wp2
    go_ret
    exact ⟨by first | rfl | (simp; done) | (simp [*]; done), by repeat (first | exact Drawn0.refl _ | apply Drawn0.step)⟩
def Qaw.f (k : Nat) (a0 : Int) (a1 : Int) : Option (Int) := (Qay.f k (IntKind.u64.wrap (a0 + (IntKind.u64.wrap (a1 * 14029467366897019727)))) 31).bind fun t271 => (some (IntKind.u64.wrap (t271 * 11400714785074694791)))
theorem Qaw.mono : ∀ a0 a1 k, LeO (Qaw.f k a0 a1) (Qaw.f (k + 1) a0 a1) := by
 intro a0 a1 k
 unfold Qaw.f
 repeat' first
   | (with_reducible exact Qay.mono _ _ _)
   | (with_reducible exact LeO.refl _)
   | (with_reducible exact LeO.none _)
   | (with_reducible refine LeO.ite ?_ ?_)
   | (with_reducible refine LeO.bind ?_ (fun _ => ?_))
   | exact Qay.mono _ _ _
   | exact LeO.none _
   | refine LeO.ite ?_ ?_
   | refine LeO.bind ?_ (fun _ => ?_)
theorem Qaw.calls (k : Nat) (a0 : Int) (a1 : Int) (r : Int) (w : World) (h : Qaw.f k a0 a1 = some r) :
  Calls Tryz.prog 106 #[.int .u64 a0, .int .u64 a1] w fun e w' => e = .returned (.int .u64 r) ∧ Drawn0 w w' := by
 have H : ((Qay.f k (IntKind.u64.wrap (a0 + (IntKind.u64.wrap (a1 * 14029467366897019727)))) 31).bind fun t271 => (some (IntKind.u64.wrap (t271 * 11400714785074694791)))) = some r := h
 clear h
 replace H := Option.bind_eq_some_iff.mp H
 obtain ⟨t271, A30, H⟩ := H
 replace H : (some (IntKind.u64.wrap (t271 * 11400714785074694791))) = some r := H
 have A3 := QA A30
 clear A30
 obtain rfl := Option.some.inj H
 go_enter Tryz.func106, Tryz.ntmps106
 go_wp2_with (first | ((with_reducible refine Qgf (f := 108) rfl ?_); refine Qeu (some 9) rfl rfl Tryz.func108 qq_6 rfl #[.int .u64 (IntKind.u64.wrap (a0 + (IntKind.u64.wrap (a1 * 14029467366897019727)))), .int .i64 31] rfl qq_1 ?_; (with_reducible refine (Qay.calls k (IntKind.u64.wrap (a0 + (IntKind.u64.wrap (a1 * 14029467366897019727)))) 31 t271 _ A3.out).mono ?_); rintro e w' ⟨rfl, ⟨nd, rfl⟩⟩; refine ⟨_, rfl, ?_⟩))
 go_ret
 exact ⟨by first | rfl | (simp; done) | (simp [*]; done), by repeat (first | exact Drawn0.refl _ | apply Drawn0.step)⟩
def Qax.l0 : Nat → Int → Int → Int → Int → Option (Int)
 | 0, _, _, _, _ => none
 | k + 1, x0, x5, x7, x8 => if x8 < x7 then (Qax.l0 k x0 (IntKind.u64.wrap (Int.tdiv x5 2)) x7 (wrap64 (x8 + 1))) else (some (Go.bits .xor .u64 x0 x5))
def Qax.f (k : Nat) (a0 : Int) (a1 : Int) : Option (Int) := Qax.l0 k a0 a0 a1 0
theorem Qax.mono_l : ∀ k, (∀ y0 y1 y2 y3, LeO (Qax.l0 k y0 y1 y2 y3) (Qax.l0 (k + 1) y0 y1 y2 y3))
 | 0 => fun _ _ _ _ r h => by simp [Qax.l0] at h
 | k + 1 => by
  have ih0 := Qax.mono_l k
  ·intro y0 y1 y2 y3
   unfold Qax.l0
   repeat' first
   | (with_reducible exact ih0 _ _ _ _)
   | (with_reducible exact LeO.refl _)
   | (with_reducible exact LeO.none _)
   | (with_reducible refine LeO.ite ?_ ?_)
   | (with_reducible refine LeO.bind ?_ (fun _ => ?_))
   | exact ih0 _ _ _ _
   | exact LeO.none _
   | refine LeO.ite ?_ ?_
   | refine LeO.bind ?_ (fun _ => ?_)
theorem Qax.mono : ∀ a0 a1 k, LeO (Qax.f k a0 a1) (Qax.f (k + 1) a0 a1) := by
 intro a0 a1 k
 have ih0 := Qax.mono_l k
 unfold Qax.f
 repeat' first
   | (with_reducible exact ih0 _ _ _ _)
   | (with_reducible exact LeO.refl _)
   | (with_reducible exact LeO.none _)
   | (with_reducible refine LeO.ite ?_ ?_)
   | (with_reducible refine LeO.bind ?_ (fun _ => ?_))
   | exact ih0 _ _ _ _
   | exact LeO.none _
   | refine LeO.ite ?_ ?_
   | refine LeO.bind ?_ (fun _ => ?_)
theorem Qax.calls (k : Nat) (a0 : Int) (a1 : Int) (r : Int) (w : World) (h : Qax.f k a0 a1 = some r) :
  Calls Tryz.prog 109 #[.int .u64 a0, .int .i64 a1] w fun e w' => e = .returned (.int .u64 r) ∧ Drawn0 w w' := by
 have H : (Qax.l0 k a0 a0 a1 0) = some r := h
 clear h
 have H' := QA H
 clear H
 go_enter Tryz.func109, Tryz.ntmps109
 go_wp2
 go_loopg [5, 8] k (fun kq v5 v8 w' => ∃ (x5_1 : Int) (x8_1 : Int), v5 = .int .u64 x5_1 ∧ v8 = .int .i64 x8_1 ∧ Aside0 (Qax.l0 kq a0 x5_1 a1 x8_1 = some r) ∧ Aside0 (kq ≤ k) ∧ Drawn0 w w')
 case atStart => exact ⟨(a0), (0), qq_5, qq_5, H', ⟨Nat.le_refl _⟩, by repeat (first | exact Drawn0.refl _ | apply Drawn0.step)⟩
 case round =>
  clear H'
  obtain ⟨x5_1, x8_1, rfl, rfl, HA, HK1, ⟨m1, rfl⟩⟩ := hrel
  cases gk with
  | zero => exact absurd HA.out (by simp [Qax.l0])
  | succ k1 =>
   have H := HA.out
   clear HA
   simp only [Qax.l0] at H
   by_cases c3 : x8_1 < a1
   ·rw [if_pos c3] at H
    have c3b0 : decide (x8_1 < a1) = true := decide_eq_true c3
    clear c3
    have H' := QA H
    clear H
    go_wp2
    go_roundg k1
    case measure => have := HK1.out; omega
    case rel => exact ⟨(IntKind.u64.wrap (Int.tdiv x5_1 2)), (wrap64 (x8_1 + 1)), qq_5, qq_5, H', ⟨by have := HK1.out; omega⟩, by repeat (first | exact Drawn0.refl _ | apply Drawn0.step)⟩
   ·rw [if_neg c3] at H
    have c3b0 : decide (x8_1 < a1) = false := decide_eq_false c3
    clear c3
    obtain rfl := Option.some.inj H
    go_wp2
    go_ret
    exact ⟨by first | rfl | (simp; done) | (simp [*]; done), by repeat (first | exact Drawn0.refl _ | apply Drawn0.step)⟩
end Go.Proofs.YtnnofopfbeklbaaGreat.C
end
