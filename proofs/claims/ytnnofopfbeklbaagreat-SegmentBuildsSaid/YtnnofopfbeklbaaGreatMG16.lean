/- Texts of this claim's author and of the print of its functions, merged by merge.py. -/
import Derived.Test.YtnnofopfbeklbaaGreatMG02
import Derived.Test.YtnnofopfbeklbaaGreatMG14
import Derived.Test.YtnnofopfbeklbaaGreatMG15
set_option linter.unusedVariables false
set_option linter.unusedSimpArgs false
set_option maxHeartbeats 8000000
set_option maxRecDepth 100000
section
namespace Go.Proofs.YtnnofopfbeklbaaGreat.C
open Go.RowKit Go.Proofs.YtnnofopfbeklbaaGreatW.PrintWords Go.Proofs.YtnnofopfbeklbaaGreatW.PrintLast Go.Proofs.YtnnofopfbeklbaaGreatW.PrintMore
attribute [local go_sem] Qfx Qfy Qfz Qga Qgb Qgc Qgd Qge
mutual
def Qaz.l0 : Nat → ByteArray → ByteArray → ByteArray → Int → Option (ByteArray)
 | 0, _, _, _, _ => none
 | k + 1, x3, x4, x5, x6 => if x6 < (x3.size : Int) then (if 0 ≤ x6 then (if (bt x3 x6) = 0 then (if x6 = (wrap64 ((x3.size : Int) - 1)) then (if x5.toList = ([] : List UInt8) then (if x6 > 0 then (if 0 ≤ (wrap64 (x6 - 1)) then (if (wrap64 (x6 - 1)) < (x3.size : Int) then (Qaz.j1 k x3 x4 x5 x6 ((bt x3 (wrap64 (x6 - 1))) != 0)) else (none)) else (none)) else (Qaz.j1 k x3 x4 x5 x6 false)) else (Qaz.j1 k x3 x4 x5 x6 false)) else (Qaz.j1 k x3 x4 x5 x6 false)) else (if x6 ≤ (wrap64 (x6 + 1)) then (if (wrap64 (x6 + 1)) ≤ (x3.size : Int) then (if x5.size + (x3.extract (x6 : Int).toNat ((wrap64 (x6 + 1)) : Int).toNat).size ≤ 9223372036854775807 then (if ((x5 ++ (x3.extract (x6 : Int).toNat ((wrap64 (x6 + 1)) : Int).toNat)).size : Int) = 254 then (if x4.size + 1 ≤ 9223372036854775807 then (if (x4 ++ (⟨#[255]⟩ : ByteArray)).size + (x5 ++ (x3.extract (x6 : Int).toNat ((wrap64 (x6 + 1)) : Int).toNat)).size ≤ 9223372036854775807 then (Qaz.l0 k x3 ((x4 ++ (⟨#[255]⟩ : ByteArray)) ++ (x5 ++ (x3.extract (x6 : Int).toNat ((wrap64 (x6 + 1)) : Int).toNat))) (⟨#[]⟩ : ByteArray) (wrap64 (x6 + 1))) else (none)) else (none)) else (Qaz.l0 k x3 x4 (x5 ++ (x3.extract (x6 : Int).toNat ((wrap64 (x6 + 1)) : Int).toNat)) (wrap64 (x6 + 1)))) else (none)) else (none)) else (none))) else (none)) else (some x4)
def Qaz.j1 : Nat → ByteArray → ByteArray → ByteArray → Int → Bool → Option (ByteArray)
 | 0, _, _, _, _, _ => none
 | k + 1, x3, x4, x5, x6, x38 => if x38 = true then (some x4) else ((some (([(wrap64 ((x5.size : Int) + 1)) % 256] : List Int) : List Int)).bind fun y283 => (if x4.size + (strOfNums y283).size ≤ 9223372036854775807 then (if (x4 ++ (strOfNums y283)).size + x5.size ≤ 9223372036854775807 then (Qaz.l0 k x3 ((x4 ++ (strOfNums y283)) ++ x5) (⟨#[]⟩ : ByteArray) (wrap64 (x6 + 1))) else (none)) else (none)))
end
def Qaz.f (k : Nat) (a0 : ByteArray) : Option (ByteArray) := if a0.size + 1 ≤ 9223372036854775807 then (Qaz.l0 k (a0 ++ (⟨#[0]⟩ : ByteArray)) (⟨#[]⟩ : ByteArray) (⟨#[]⟩ : ByteArray) 0) else (none)
theorem Qaz.calls (k : Nat) (a0 : ByteArray) (r : ByteArray) (w : World) (h : Qaz.f k a0 = some r) :
  Calls Tryz.prog 102 #[.string a0] w fun e w' => e = .returned (.string r) ∧ Below w.heap.size w w' := by
 have HB := QA (Below.refl w.heap.size w)
 have H : (if a0.size + 1 ≤ 9223372036854775807 then (Qaz.l0 k (a0 ++ (⟨#[0]⟩ : ByteArray)) (⟨#[]⟩ : ByteArray) (⟨#[]⟩ : ByteArray) 0) else (none)) = some r := h
 clear h
 by_cases c2 : a0.size + 1 ≤ 9223372036854775807
 ·rw [if_pos c2] at H
  have c2b0 := eq_true c2
  have c2b1 : decide (a0.size + 1 ≤ 9223372036854775807) = true := decide_eq_true c2
  try have c2b2 : (9223372036854775807 < a0.size + 1) = False := eq_false (Nat.not_lt.2 c2)
  have H' := QA H
  clear H
  go_enter Tryz.func102, Tryz.ntmps102
  go_wp2
  generalize hal : a0 ++ (⟨#[0]⟩ : ByteArray) = al at *
  clear hal
  go_loopg [4, 5, 6] k (fun kq v4 v5 v6 w' => ∃ (x4_1 : ByteArray) (x5_1 : ByteArray) (x6_1 : Int), v4 = .string x4_1 ∧ v5 = .string x5_1 ∧ v6 = .int .i64 x6_1 ∧ Aside0 (Qaz.l0 kq al x4_1 x5_1 x6_1 = some r) ∧ Aside0 (kq ≤ k) ∧ Aside0 (Below w.heap.size w w'))
  case atStart => exact ⟨((⟨#[]⟩ : ByteArray)), ((⟨#[]⟩ : ByteArray)), (0), qq_5, qq_5, qq_5, H', ⟨Nat.le_refl _⟩, ⟨qq_b⟩⟩
  case round =>
   clear H'
   try clear c2
   try clear c2b0
   try clear c2b1
   try clear c2b2
   obtain ⟨x4_1, x5_1, x6_1, rfl, rfl, rfl, HA, HK1, HB⟩ := hrel
   cases gk with
   | zero => exact absurd HA.out (by simp [Qaz.l0])
   | succ k1 =>
    have H := HA.out
    clear HA
    simp only [Qaz.l0] at H
    by_cases c3 : x6_1 < (al.size : Int)
    ·rw [if_pos c3] at H
     have c3b0 : decide (x6_1 < (al.size : Int)) = true := decide_eq_true c3
     clear c3
     by_cases c4 : 0 ≤ x6_1
     ·rw [if_pos c4] at H
      have c4b0 : decide (0 ≤ x6_1) = true := decide_eq_true c4
      clear c4
      by_cases c6 : (bt al x6_1) = 0
      ·rw [if_pos c6] at H
       have c6b0 : ((bt al x6_1) == 0) = true := beq_iff_eq.mpr c6
       have c6b1 : ((bt al x6_1) != 0) = false := bne_eq_false_iff_eq.mpr c6
       clear c6
       have HC7 := QA H
       clear H
       have p5 : 0 ≤ (x6_1 : Int) := of_decide_eq_true qq_7
       have q5 : x6_1 < (al.size : Int) := of_decide_eq_true qq_7
       have hx5 := bt_at al x6_1
       replace p5 := eq_true p5
       replace q5 := eq_true q5
       go_upto_region 8 with (fail)
       go_cut [38] (fun v38 wc => ∃ (kq : Nat) (x38_6 : Bool), v38 = .bool x38_6 ∧ Aside0 (Qaz.j1 kq al x4_1 x5_1 x6_1 x38_6 = some r) ∧ Aside0 (kq ≤ k1) ∧ Aside0 (Below w.heap.size w wc))
       case first =>
        have H := HC7.out
        clear HC7
        by_cases c8 : x6_1 = (wrap64 ((al.size : Int) - 1))
        ·rw [if_pos c8] at H
         have c8b0 : (x6_1 == (wrap64 ((al.size : Int) - 1))) = true := beq_iff_eq.mpr c8
         have c8b1 : (x6_1 != (wrap64 ((al.size : Int) - 1))) = false := bne_eq_false_iff_eq.mpr c8
         clear c8
         (first | rw [c8b0] | (simp only [Qew, Qex]; rw [c8b0]) | skip)
         by_cases c9 : x5_1.toList = ([] : List UInt8)
         ·rw [if_pos c9] at H
          have c9b0 : (x5_1.toList == ([] : List UInt8)) = true := beq_iff_eq.mpr c9
          have c9b1 : (x5_1.toList != ([] : List UInt8)) = false := bne_eq_false_iff_eq.mpr c9
          clear c9
          by_cases c10 : x6_1 > 0
          ·rw [if_pos c10] at H
           have c10b0 : decide (0 < x6_1) = true := decide_eq_true c10
           clear c10
           obtain ⟨ji11, hji11⟩ : ∃ j_ : Int, (wrap64 (x6_1 - 1)) = j_ := ⟨_, rfl⟩
           replace H : (if 0 ≤ (ji11) then (if (ji11) < (al.size : Int) then (Qaz.j1 k1 al x4_1 x5_1 x6_1 ((bt al (ji11)) != 0)) else (none)) else (none)) = some r := by first | (rw [hji11] at H; exact H) | (simp only [hji11] at H ⊢; exact H)
           have hji11w : (IntKind.i64.wrap (x6_1 - 1)) = ji11 := (Qew _).trans hji11
           by_cases c12 : 0 ≤ (ji11)
           ·rw [if_pos c12] at H
            have c12b0 : decide (0 ≤ (ji11)) = true := decide_eq_true c12
            clear c12
            by_cases c13 : (ji11) < (al.size : Int)
            ·rw [if_pos c13] at H
             have c13b0 : decide ((ji11) < (al.size : Int)) = true := decide_eq_true c13
             clear c13
             have H' := QA H
             clear H
             have p14 : 0 ≤ ((ji11) : Int) := of_decide_eq_true qq_7
             have q14 : (ji11) < (al.size : Int) := of_decide_eq_true qq_7
             have hx14 := bt_at al (ji11)
             replace p14 := eq_true p14
             replace q14 := eq_true q14
             go_wp2
             go_meet
             case rel => exact ⟨_, (((bt al (ji11)) != 0)), (by first | rfl | (simp; done) | (simp only [← hji11] <;> (first | rfl | simp)) | (simp [*]; done)), H', ⟨by have := HK1.out; first | omega | exact Nat.le_refl _⟩, ⟨qq_b⟩⟩
            ·rw [if_neg c13] at H
             exact absurd H (by simp)
           ·rw [if_neg c12] at H
            exact absurd H (by simp)
          ·rw [if_neg c10] at H
           have c10b0 : decide (0 < x6_1) = false := decide_eq_false c10
           clear c10
           have H' := QA H
           clear H
           go_wp2
           go_meet
           case rel => exact ⟨_, (false), qq_5, H', ⟨by have := HK1.out; first | omega | exact Nat.le_refl _⟩, ⟨qq_b⟩⟩
         ·rw [if_neg c9] at H
          have c9b0 : (x5_1.toList == ([] : List UInt8)) = false := beq_eq_false_iff_ne.mpr c9
          have c9b1 : (x5_1.toList != ([] : List UInt8)) = true := bne_iff_ne.mpr c9
          have H' := QA H
          clear H
          go_wp2
          go_meet
          case rel => exact ⟨_, (false), qq_5, H', ⟨by have := HK1.out; first | omega | exact Nat.le_refl _⟩, ⟨qq_b⟩⟩
        ·rw [if_neg c8] at H
         have c8b0 : (x6_1 == (wrap64 ((al.size : Int) - 1))) = false := beq_eq_false_iff_ne.mpr c8
         have c8b1 : (x6_1 != (wrap64 ((al.size : Int) - 1))) = true := bne_iff_ne.mpr c8
         (first | rw [c8b0] | (simp only [Qew, Qex]; rw [c8b0]) | skip)
         have H' := QA H
         clear H
         go_wp2
         go_meet
         case rel => exact ⟨_, (false), qq_5, H', ⟨by have := HK1.out; first | omega | exact Nat.le_refl _⟩, ⟨qq_b⟩⟩
       case rest =>
        clear HC7
        try clear c2
        try clear c2b0
        try clear c2b1
        try clear c2b2
        try clear c3
        try clear c3b0
        try clear c4
        try clear c4b0
        try clear p5
        try clear q5
        try clear hx5
        try clear c6
        try clear c6b0
        try clear c6b1
        try clear c8
        try clear c8b0
        try clear c8b1
        try clear c9
        try clear c9b0
        try clear c9b1
        try clear c10
        try clear c10b0
        try clear c12
        try clear c12b0
        try clear c13
        try clear c13b0
        try clear p14
        try clear q14
        try clear hx14
        try clear p14
        try clear p5
        try clear q14
        try clear q5
        obtain ⟨kq, x38_6, rfl, HA, HJ6, HB⟩ := hcut
        cases kq with
        | zero => exact absurd HA.out (by simp [Qaz.j1])
        | succ kj6 =>
         have H := HA.out
         clear HA
         simp only [Qaz.j1] at H
         by_cases c15 : x38_6 = true
         ·subst c15
          have H1 : (some x4_1) = some r := by rw [if_pos rfl] at H; exact H
          clear H
          have H := H1
          clear H1
          obtain rfl := Option.some.inj H
          go_wp2
          go_ret
          exact ⟨by first | rfl | (simp [Qgi, Qgj] <;> rfl) | (simp [*, Qgi, Qgj] <;> rfl), qq_b⟩
         ·replace c15 := Bool.eq_false_iff.mpr c15
          subst c15
          have H1 : ((some (([(wrap64 ((x5_1.size : Int) + 1)) % 256] : List Int) : List Int)).bind fun y283 => (if x4_1.size + (strOfNums y283).size ≤ 9223372036854775807 then (if (x4_1 ++ (strOfNums y283)).size + x5_1.size ≤ 9223372036854775807 then (Qaz.l0 kj6 al ((x4_1 ++ (strOfNums y283)) ++ x5_1) (⟨#[]⟩ : ByteArray) (wrap64 (x6_1 + 1))) else (none)) else (none))) = some r := by rw [if_neg (show ¬ (false = true) by decide)] at H; exact H
          clear H
          have H := H1
          clear H1
          obtain ⟨y283, hy283⟩ : ∃ y_ : List Int, y_ = (([(wrap64 ((x5_1.size : Int) + 1)) % 256] : List Int)) := ⟨_, rfl⟩
          replace H : (if x4_1.size + (strOfNums y283).size ≤ 9223372036854775807 then (if (x4_1 ++ (strOfNums y283)).size + x5_1.size ≤ 9223372036854775807 then (Qaz.l0 kj6 al ((x4_1 ++ (strOfNums y283)) ++ x5_1) (⟨#[]⟩ : ByteArray) (wrap64 (x6_1 + 1))) else (none)) else (none)) = some r := by first | (rw [hy283]; with_reducible exact H) | (have H2_ := (Option.bind_some _ _).symm.trans H; rw [hy283]; with_reducible exact H2_) | (have H2_ := (Option.bind_some _ _).symm.trans H; with_reducible exact H2_) | with_reducible exact H | (rw [hy283]; exact H) | exact H
          have Ny283 := QA hy283
          clear hy283
          by_cases c16 : x4_1.size + (strOfNums y283).size ≤ 9223372036854775807
          ·rw [if_pos c16] at H
           have c16b0 := eq_true c16
           have c16b1 : decide (x4_1.size + (strOfNums y283).size ≤ 9223372036854775807) = true := decide_eq_true c16
           try have c16b2 : (9223372036854775807 < x4_1.size + (strOfNums y283).size) = False := eq_false (Nat.not_lt.2 c16)
           by_cases c17 : (x4_1 ++ (strOfNums y283)).size + x5_1.size ≤ 9223372036854775807
           ·rw [if_pos c17] at H
            have c17b0 := eq_true c17
            have c17b1 : decide ((x4_1 ++ (strOfNums y283)).size + x5_1.size ≤ 9223372036854775807) = true := decide_eq_true c17
            try have c17b2 : (9223372036854775807 < (x4_1 ++ (strOfNums y283)).size + x5_1.size) = False := eq_false (Nat.not_lt.2 c17)
            try have c17b3 := c17b2
            try simp only [ByteArray.size_append, (show ∀ x_ : UInt8, (⟨#[x_]⟩ : ByteArray).size = 1 from fun _ => rfl), (show ∀ x_ y_ : UInt8, (⟨#[x_, y_]⟩ : ByteArray).size = 2 from fun _ _ => rfl)] at c17b3
            try have c17b4 := c17b2
            try simp only [ByteArray.size_append, ByteArray.size_extract, (show ∀ x_ : UInt8, (⟨#[x_]⟩ : ByteArray).size = 1 from fun _ => rfl), (show ∀ x_ y_ : UInt8, (⟨#[x_, y_]⟩ : ByteArray).size = 2 from fun _ _ => rfl)] at c17b4
            have H' := QA H
            clear H
            go_wp2_with (first | ((with_reducible refine Qef (N := 44) rfl ?_); refine Kd.R_lit (Kd.int .u8) _ 5 ?hg (N := 44) ?hd (xs := ([(wrap64 ((x5_1.size : Int) + 1)) % 256] : List Int)) (inner := [.int .u8 ((wrap64 ((x5_1.size : Int) + 1)) % 256)]) (ok := fun _ => True) (okp := fun _ => True) ?hr ?hp (fun _ hk => hk) trivial (Below.refl _ _) (Nat.le_refl _) (by simp) ?_; (case hd => rfl); (case hg => rfl); (case hr => exact qq_12); (case hp => exact (Reps.one (show Kd.M (Kd.int .u8) _ _ _ ((wrap64 ((x5_1.size : Int) + 1)) % 256) [.int .u8 ((wrap64 ((x5_1.size : Int) + 1)) % 256)] from rfl) (Reps.none _ _))); intro v284 w18 ho19 hb hg_ hnew_; clear hg_ hnew_; (first | rw [← Ny283.out] at ho19 | (simp only [Int.reduceToNat] at ho19; rw [← Ny283.out] at ho19)); have n0_ := QA (Kd.R_lower ho19 (Qdz qq_b)); have n1_ := QA (Qea qq_b hb); clear HB; have HO285 := n0_; have HB := n1_; clear n0_ n1_; clear hb ho19; have hcv20 := Qcw (P := Tryz.prog) Tryz.underlying52 Tryz.underlying5 Tryz.underlying9 (Kd.own_of_R HO285.out)))
            go_roundg kj6
            case measure => have := HK1.out; have := HJ6.out; omega
            case rel => exact ⟨((x4_1 ++ (strOfNums y283)) ++ x5_1), ((⟨#[]⟩ : ByteArray)), (wrap64 (x6_1 + 1)), qq_5, qq_5, qq_5, H', ⟨by have := HK1.out; have := HJ6.out; omega⟩, ⟨qq_b⟩⟩
           ·rw [if_neg c17] at H
            exact absurd H (by simp)
          ·rw [if_neg c16] at H
           exact absurd H (by simp)
      ·rw [if_neg c6] at H
       have c6b0 : ((bt al x6_1) == 0) = false := beq_eq_false_iff_ne.mpr c6
       have c6b1 : ((bt al x6_1) != 0) = true := bne_iff_ne.mpr c6
       have c21b0 := eq_true (of_decide_eq_true qq_7 : 0 ≤ x6_1)
       by_cases c22 : x6_1 ≤ (wrap64 (x6_1 + 1))
       ·rw [if_pos c22] at H
        have c22b0 := eq_true c22
        have c22b1 : decide (x6_1 ≤ (wrap64 (x6_1 + 1))) = true := decide_eq_true c22
        by_cases c23 : (wrap64 (x6_1 + 1)) ≤ (al.size : Int)
        ·rw [if_pos c23] at H
         have c23b0 := eq_true c23
         have c23b1 : decide ((wrap64 (x6_1 + 1)) ≤ (al.size : Int)) = true := decide_eq_true c23
         by_cases c24 : x5_1.size + (al.extract (x6_1 : Int).toNat ((wrap64 (x6_1 + 1)) : Int).toNat).size ≤ 9223372036854775807
         ·rw [if_pos c24] at H
          have c24b0 := eq_true c24
          have c24b1 : decide (x5_1.size + (al.extract (x6_1 : Int).toNat ((wrap64 (x6_1 + 1)) : Int).toNat).size ≤ 9223372036854775807) = true := decide_eq_true c24
          try have c24b2 : (9223372036854775807 < x5_1.size + (al.extract (x6_1 : Int).toNat ((wrap64 (x6_1 + 1)) : Int).toNat).size) = False := eq_false (Nat.not_lt.2 c24)
          generalize hnw : (x5_1 ++ (al.extract (x6_1 : Int).toNat ((wrap64 (x6_1 + 1)) : Int).toNat)) = nw at *
          by_cases c25 : (nw.size : Int) = 254
          ·rw [if_pos c25] at H
           have c25b0 : ((nw.size : Int) == 254) = true := beq_iff_eq.mpr c25
           have c25b1 : ((nw.size : Int) != 254) = false := bne_eq_false_iff_eq.mpr c25
           clear c25
           by_cases c26 : x4_1.size + 1 ≤ 9223372036854775807
           ·rw [if_pos c26] at H
            have c26b0 := eq_true c26
            have c26b1 : decide (x4_1.size + 1 ≤ 9223372036854775807) = true := decide_eq_true c26
            try have c26b2 : (9223372036854775807 < x4_1.size + 1) = False := eq_false (Nat.not_lt.2 c26)
            by_cases c27 : (x4_1 ++ (⟨#[255]⟩ : ByteArray)).size + nw.size ≤ 9223372036854775807
            ·rw [if_pos c27] at H
             have c27b0 := eq_true c27
             have c27b1 : decide ((x4_1 ++ (⟨#[255]⟩ : ByteArray)).size + nw.size ≤ 9223372036854775807) = true := decide_eq_true c27
             try have c27b2 : (9223372036854775807 < (x4_1 ++ (⟨#[255]⟩ : ByteArray)).size + nw.size) = False := eq_false (Nat.not_lt.2 c27)
             try have c27b3 := c27b2
             try simp only [ByteArray.size_append, (show ∀ x_ : UInt8, (⟨#[x_]⟩ : ByteArray).size = 1 from fun _ => rfl), (show ∀ x_ y_ : UInt8, (⟨#[x_, y_]⟩ : ByteArray).size = 2 from fun _ _ => rfl)] at c27b3
             try have c27b4 := c27b2
             try simp only [ByteArray.size_append, ByteArray.size_extract, (show ∀ x_ : UInt8, (⟨#[x_]⟩ : ByteArray).size = 1 from fun _ => rfl), (show ∀ x_ y_ : UInt8, (⟨#[x_, y_]⟩ : ByteArray).size = 2 from fun _ _ => rfl)] at c27b4
             have H' := QA H
             clear H
             have p5 : 0 ≤ (x6_1 : Int) := of_decide_eq_true qq_7
             have q5 : x6_1 < (al.size : Int) := of_decide_eq_true qq_7
             have hx5 := bt_at al x6_1
             replace p5 := eq_true p5
             replace q5 := eq_true q5
             go_wp2
             go_roundg k1
             case measure => have := HK1.out; omega
             case rel => exact ⟨((x4_1 ++ (⟨#[255]⟩ : ByteArray)) ++ nw), ((⟨#[]⟩ : ByteArray)), (wrap64 (x6_1 + 1)), qq_5, qq_5, qq_5, H', ⟨by have := HK1.out; omega⟩, ⟨qq_b⟩⟩
            ·rw [if_neg c27] at H
             exact absurd H (by simp)
           ·rw [if_neg c26] at H
            exact absurd H (by simp)
          ·rw [if_neg c25] at H
           have c25b0 : ((nw.size : Int) == 254) = false := beq_eq_false_iff_ne.mpr c25
           have c25b1 : ((nw.size : Int) != 254) = true := bne_iff_ne.mpr c25
           have H' := QA H
           clear H
           have p5 : 0 ≤ (x6_1 : Int) := of_decide_eq_true qq_7
           have q5 : x6_1 < (al.size : Int) := of_decide_eq_true qq_7
           have hx5 := bt_at al x6_1
           replace p5 := eq_true p5
           replace q5 := eq_true q5
           go_wp2
           go_roundg k1
           case measure => have := HK1.out; omega
           case rel => exact ⟨(x4_1), nw, (wrap64 (x6_1 + 1)), qq_5, qq_5, qq_5, H', ⟨by have := HK1.out; omega⟩, ⟨qq_b⟩⟩
         ·rw [if_neg c24] at H
          exact absurd H (by simp)
        ·rw [if_neg c23] at H
         exact absurd H (by simp)
       ·rw [if_neg c22] at H
        exact absurd H (by simp)
     ·rw [if_neg c4] at H
      exact absurd H (by simp)
    ·rw [if_neg c3] at H
     have c3b0 : decide (x6_1 < (al.size : Int)) = false := decide_eq_false c3
     clear c3
     obtain rfl := Option.some.inj H
     go_wp2
     go_ret
     exact ⟨by first | rfl | (simp [Qgi, Qgj] <;> rfl) | (simp [*, Qgi, Qgj] <;> rfl), qq_b⟩
 ·rw [if_neg c2] at H
  exact absurd H (by simp)
def Qbh.f (k : Nat) (a0 : ByteArray) : Option (ByteArray) := (Qau.f k 0 a0).bind fun t289 => ((Qaq.f k t289 8).bind fun t290 => (if a0.size + t290.size ≤ 9223372036854775807 then ((Qaz.f k (a0 ++ t290)).bind fun t291 => (if t291.size + 1 ≤ 9223372036854775807 then (some (t291 ++ (⟨#[0]⟩ : ByteArray))) else (none))) else (none)))
theorem Qbh.calls (k : Nat) (a0 : ByteArray) (r : ByteArray) (w : World) (h : Qbh.f k a0 = some r) :
  Calls Tryz.prog 61 #[.string a0] w fun e w' => e = .returned (.string r) ∧ Below w.heap.size w w' := by
 have HB := QA (Below.refl w.heap.size w)
 have H : ((Qau.f k 0 a0).bind fun t289 => ((Qaq.f k t289 8).bind fun t290 => (if a0.size + t290.size ≤ 9223372036854775807 then ((Qaz.f k (a0 ++ t290)).bind fun t291 => (if t291.size + 1 ≤ 9223372036854775807 then (some (t291 ++ (⟨#[0]⟩ : ByteArray))) else (none))) else (none)))) = some r := h
 clear h
 replace H := Option.bind_eq_some_iff.mp H
 obtain ⟨t289, A20, H⟩ := H
 replace H : ((Qaq.f k t289 8).bind fun t290 => (if a0.size + t290.size ≤ 9223372036854775807 then ((Qaz.f k (a0 ++ t290)).bind fun t291 => (if t291.size + 1 ≤ 9223372036854775807 then (some (t291 ++ (⟨#[0]⟩ : ByteArray))) else (none))) else (none))) = some r := H
 have A2 := QA A20
 clear A20
 replace H := Option.bind_eq_some_iff.mp H
 obtain ⟨t290, A30, H⟩ := H
 replace H : (if a0.size + t290.size ≤ 9223372036854775807 then ((Qaz.f k (a0 ++ t290)).bind fun t291 => (if t291.size + 1 ≤ 9223372036854775807 then (some (t291 ++ (⟨#[0]⟩ : ByteArray))) else (none))) else (none)) = some r := H
 have A3 := QA A30
 clear A30
 by_cases c4 : a0.size + t290.size ≤ 9223372036854775807
 ·rw [if_pos c4] at H
  have c4b0 := eq_true c4
  have c4b1 : decide (a0.size + t290.size ≤ 9223372036854775807) = true := decide_eq_true c4
  try have c4b2 : (9223372036854775807 < a0.size + t290.size) = False := eq_false (Nat.not_lt.2 c4)
  replace H := Option.bind_eq_some_iff.mp H
  obtain ⟨t291, A50, H⟩ := H
  replace H : (if t291.size + 1 ≤ 9223372036854775807 then (some (t291 ++ (⟨#[0]⟩ : ByteArray))) else (none)) = some r := H
  have A5 := QA A50
  clear A50
  by_cases c6 : t291.size + 1 ≤ 9223372036854775807
  ·rw [if_pos c6] at H
   have c6b0 := eq_true c6
   have c6b1 : decide (t291.size + 1 ≤ 9223372036854775807) = true := decide_eq_true c6
   try have c6b2 : (9223372036854775807 < t291.size + 1) = False := eq_false (Nat.not_lt.2 c6)
   obtain rfl := Option.some.inj H
   go_enter Tryz.func61, Tryz.ntmps61
   go_wp2_with (first | ((with_reducible refine Qgf (f := 65) rfl ?_); refine Qeu (some 5) rfl rfl Tryz.func65 qq_6 rfl #[.int .u64 0, .string a0] rfl qq_1 ?_; (with_reducible refine (Qau.calls k 0 a0 t289 _ A2.out).mono ?_); rintro e w7 ⟨rfl, hb⟩; refine ⟨_, rfl, ?_⟩; have n0_ := QA (Qea qq_b hb); clear HB; have HB := n0_; clear n0_; (try clear hb); (try clear hb2); (try clear hk); (try clear hi)) | ((with_reducible refine Qgf (f := 103) rfl ?_); refine Qeu (some 6) rfl rfl Tryz.func103 qq_6 rfl #[.int .u64 t289, .int .i64 8] rfl qq_1 ?_; (with_reducible refine (Qaq.calls k t289 8 t290 _ A3.out).mono ?_); rintro e w8 ⟨rfl, hb⟩; refine ⟨_, rfl, ?_⟩; have n0_ := QA (Qea qq_b hb); clear HB; have HB := n0_; clear n0_; (try clear hb); (try clear hb2); (try clear hk); (try clear hi)) | ((with_reducible refine Qgf (f := 102) rfl ?_); refine Qeu (some 8) rfl rfl Tryz.func102 qq_6 rfl #[.string (a0 ++ t290)] rfl qq_1 ?_; (with_reducible refine (Qaz.calls k (a0 ++ t290) t291 _ A5.out).mono ?_); rintro e w9 ⟨rfl, hb⟩; refine ⟨_, rfl, ?_⟩; have n0_ := QA (Qea qq_b hb); clear HB; have HB := n0_; clear n0_; (try clear hb); (try clear hb2); (try clear hk); (try clear hi)))
   go_ret
   exact ⟨by first | rfl | (simp [Qgi, Qgj] <;> rfl) | (simp [*, Qgi, Qgj] <;> rfl), qq_b⟩
  ·rw [if_neg c6] at H
   exact absurd H (by simp)
 ·rw [if_neg c4] at H
  exact absurd H (by simp)
def Qbg.f (k : Nat) (a0_0 : Bool) (a0_1 : Int) (a0_2 : ByteArray) (a0_3 : ByteArray) : Option (ByteArray) := (Qba.f k a0_0 a0_1 a0_2 a0_3).bind fun t306 => ((Qbh.f k t306).bind fun t307 => (some t307))
theorem Qbg.calls (k : Nat) (a0_0 : Bool) (a0_1 : Int) (a0_2 : ByteArray) (a0_3 : ByteArray) (r : ByteArray) (w : World) (h : Qbg.f k a0_0 a0_1 a0_2 a0_3 = some r) :
  Calls Tryz.prog 22 #[.agg #[.bool a0_0, .int .u64 a0_1, .string a0_2, .string a0_3]] w fun e w' => e = .returned (.string r) ∧ Below w.heap.size w w' := by
 have hu39 := Tryz.underlying39
 have HB := QA (Below.refl w.heap.size w)
 have H : ((Qba.f k a0_0 a0_1 a0_2 a0_3).bind fun t306 => ((Qbh.f k t306).bind fun t307 => (some t307))) = some r := h
 clear h
 replace H := Option.bind_eq_some_iff.mp H
 obtain ⟨t306, A20, H⟩ := H
 replace H : ((Qbh.f k t306).bind fun t307 => (some t307)) = some r := H
 have A2 := QA A20
 clear A20
 replace H := Option.bind_eq_some_iff.mp H
 obtain ⟨t307, A30, H⟩ := H
 replace H : (some t307) = some r := H
 have A3 := QA A30
 clear A30
 obtain rfl := Option.some.inj H
 go_enter Tryz.func22, Tryz.ntmps22
 go_wp2_with (first | ((with_reducible refine Qef (N := 1) rfl ?_); refine qq_e 1 #[.bool a0_0, .int .u64 a0_1, .string a0_2, .string a0_3] 39 ?_; intro gb305 hg w4 hbox hb; have n0_ := QA (Qea qq_b hb); have n1_ := QA (hbox); have n2_ := QA ((qq_s hg : w.heap.size ≤ gb305)); have n3_ := QA ((qq_s hg : w.heap.size ≤ gb305)); clear HB; have HB := n0_; have BK305 := n1_; have GW305 := n2_; have GE305 := n3_; clear n0_ n1_ n2_ n3_; clear hb hbox hg; have hcz5_0 := qq_c (.bool a0_0) BK305.out 0 rfl; have hcz5_1 := qq_c (.int .u64 a0_1) BK305.out 1 rfl; have hcz5_2 := qq_c (.string a0_2) BK305.out 2 rfl; have hcz5_3 := qq_c (.string a0_3) BK305.out 3 rfl; have hfz5_0 := Qdk BK305.out 0; have hfz5_1 := Qdk BK305.out 1; have hfz5_2 := Qdk BK305.out 2; have hfz5_3 := Qdk BK305.out 3) | ((with_reducible refine Qgf (f := 62) rfl ?_); refine Qeu (some 4) rfl rfl Tryz.func62 qq_6 rfl #[.agg #[.bool a0_0, .int .u64 a0_1, .string a0_2, .string a0_3]] rfl qq_1 ?_; (with_reducible refine (Qba.calls k a0_0 a0_1 a0_2 a0_3 t306 _ A2.out).mono ?_); rintro e w6 ⟨rfl, hb⟩; refine ⟨_, rfl, ?_⟩; have n0_ := QA (Qdt (g := gb305) (o := .cells #[.bool a0_0, .int .u64 a0_1, .string a0_2, .string a0_3] 39 (0, 0)) qq_0 hb); have n1_ := QA (Qea qq_b hb); clear BK305; clear HB; have BK305 := n0_; have HB := n1_; clear n0_ n1_; (try clear hb); (try clear hb2); (try clear hk); (try clear hi)) | ((with_reducible refine Qgf (f := 61) rfl ?_); refine Qeu (some 5) rfl rfl Tryz.func61 qq_6 rfl #[.string t306] rfl qq_1 ?_; (with_reducible refine (Qbh.calls k t306 t307 _ A3.out).mono ?_); rintro e w7 ⟨rfl, hb⟩; refine ⟨_, rfl, ?_⟩; have n0_ := QA (Qdt (g := gb305) (o := .cells #[.bool a0_0, .int .u64 a0_1, .string a0_2, .string a0_3] 39 (0, 0)) qq_0 hb); have n1_ := QA (Qea qq_b hb); clear BK305; clear HB; have BK305 := n0_; have HB := n1_; clear n0_ n1_; (try clear hb); (try clear hb2); (try clear hk); (try clear hi)))
 go_ret
 exact ⟨by first | rfl | (simp [Qgi, Qgj] <;> rfl) | (simp [*, Qgi, Qgj] <;> rfl), qq_b⟩
end Go.Proofs.YtnnofopfbeklbaaGreat.C
end
