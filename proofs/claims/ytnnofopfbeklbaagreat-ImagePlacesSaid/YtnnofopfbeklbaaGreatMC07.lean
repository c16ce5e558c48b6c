/- Texts of this claim's author and of the print of its functions, merged by merge.py. -/
import Derived.Test.YtnnofopfbeklbaaGreatMC02
import Derived.Test.YtnnofopfbeklbaaGreatMC04
import Derived.Test.YtnnofopfbeklbaaGreatMC06
set_option linter.unusedVariables false
set_option linter.unusedSimpArgs false
section
namespace Go.Proofs.YtnnofopfbeklbaaGreat.C
open Go.RowKit Go.Proofs.YtnnofopfbeklbaaGreatW.PrintWords Go.Proofs.YtnnofopfbeklbaaGreatW.PrintLast Go.Proofs.YtnnofopfbeklbaaGreatW.PrintMore
attribute [local go_sem] Qfg Qfh Qfi Qfj Qfk Qfl Qfm Qfn
mutual
def Qba.l0 : Nat → ByteArray → ByteArray → ByteArray → Int → Option (ByteArray)
 | 0, _, _, _, _ => none
 | k + 1, x3, x4, x5, x6 => if x6 < (x3.size : Int) then (if 0 ≤ x6 then (if (bt x3 x6) = 0 then (if x6 = (wrap64 ((x3.size : Int) - 1)) then (if x5.toList = ([] : List UInt8) then (if x6 > 0 then (if 0 ≤ (wrap64 (x6 - 1)) then (if (wrap64 (x6 - 1)) < (x3.size : Int) then (Qba.j1 k x3 x4 x5 x6 ((bt x3 (wrap64 (x6 - 1))) != 0)) else (none)) else (none)) else (Qba.j1 k x3 x4 x5 x6 false)) else (Qba.j1 k x3 x4 x5 x6 false)) else (Qba.j1 k x3 x4 x5 x6 false)) else (if x6 ≤ (wrap64 (x6 + 1)) then (if (wrap64 (x6 + 1)) ≤ (x3.size : Int) then (if x5.size + (x3.extract (x6 : Int).toNat ((wrap64 (x6 + 1)) : Int).toNat).size ≤ 9223372036854775807 then (if ((x5 ++ (x3.extract (x6 : Int).toNat ((wrap64 (x6 + 1)) : Int).toNat)).size : Int) = 254 then (if x4.size + 1 ≤ 9223372036854775807 then (if (x4 ++ (⟨#[255]⟩ : ByteArray)).size + (x5 ++ (x3.extract (x6 : Int).toNat ((wrap64 (x6 + 1)) : Int).toNat)).size ≤ 9223372036854775807 then (Qba.l0 k x3 ((x4 ++ (⟨#[255]⟩ : ByteArray)) ++ (x5 ++ (x3.extract (x6 : Int).toNat ((wrap64 (x6 + 1)) : Int).toNat))) (⟨#[]⟩ : ByteArray) (wrap64 (x6 + 1))) else (none)) else (none)) else (Qba.l0 k x3 x4 (x5 ++ (x3.extract (x6 : Int).toNat ((wrap64 (x6 + 1)) : Int).toNat)) (wrap64 (x6 + 1)))) else (none)) else (none)) else (none))) else (none)) else (some x4)
def Qba.j1 : Nat → ByteArray → ByteArray → ByteArray → Int → Bool → Option (ByteArray)
 | 0, _, _, _, _, _ => none
 | k + 1, x3, x4, x5, x6, x38 => if x38 = true then (some x4) else ((some (([(wrap64 ((x5.size : Int) + 1)) % 256] : List Int) : List Int)).bind fun y283 => (if x4.size + (strOfNums y283).size ≤ 9223372036854775807 then (if (x4 ++ (strOfNums y283)).size + x5.size ≤ 9223372036854775807 then (Qba.l0 k x3 ((x4 ++ (strOfNums y283)) ++ x5) (⟨#[]⟩ : ByteArray) (wrap64 (x6 + 1))) else (none)) else (none)))
end
def Qba.f (k : Nat) (a0 : ByteArray) : Option (ByteArray) := if a0.size + 1 ≤ 9223372036854775807 then (Qba.l0 k (a0 ++ (⟨#[0]⟩ : ByteArray)) (⟨#[]⟩ : ByteArray) (⟨#[]⟩ : ByteArray) 0) else (none)
set_option maxHeartbeats 8000000 in
set_option maxRecDepth 100000 in
theorem Qba.calls (k : Nat) (a0 : ByteArray) (r : ByteArray) (w : World) (h : Qba.f k a0 = some r) :
  Calls Tryz.prog 102 #[.string a0] w fun e w' => e = .returned (.string r) ∧ Below w.heap.size w w' := by
 have HB := QA (Below.refl w.heap.size w)
 have H : (if a0.size + 1 ≤ 9223372036854775807 then (Qba.l0 k (a0 ++ (⟨#[0]⟩ : ByteArray)) (⟨#[]⟩ : ByteArray) (⟨#[]⟩ : ByteArray) 0) else (none)) = some r := h
 clear h
 by_cases c2 : a0.size + 1 ≤ 9223372036854775807
 ·rw [if_pos c2] at H
  have c2b0 := eq_true c2
  have c2b1 : decide (a0.size + 1 ≤ 9223372036854775807) = true := decide_eq_true c2
  try have c2b2 : (9223372036854775807 < a0.size + 1) = False := eq_false (Nat.not_lt.2 c2)
  have H' := QA H
  clear H
  go_enter Tryz.func102, Tryz.ntmps102
  go_wp2
  generalize hal : a0 ++ (⟨#[0]⟩ : ByteArray) = al at *
  clear hal
  go_loopg [4, 5, 6] k (fun kq v4 v5 v6 w' => ∃ (x4_1 : ByteArray) (x5_1 : ByteArray) (x6_1 : Int), v4 = .string x4_1 ∧ v5 = .string x5_1 ∧ v6 = .int .i64 x6_1 ∧ Aside0 (Qba.l0 kq al x4_1 x5_1 x6_1 = some r) ∧ Aside0 (kq ≤ k) ∧ Aside0 (Below w.heap.size w w'))
  case atStart => exact ⟨((⟨#[]⟩ : ByteArray)), ((⟨#[]⟩ : ByteArray)), (0), (by first | rfl | (simp; done) | (simp [*]; done)), (by first | rfl | (simp; done) | (simp [*]; done)), (by first | rfl | (simp; done) | (simp [*]; done)), H', ⟨Nat.le_refl _⟩, ⟨by repeat (first | (with_reducible first | exact HB.out | apply Qcc | apply Qce | apply Qdt) | exact HB.out)⟩⟩
  case round =>
   clear H'
   try clear c2
   try clear c2b0
   try clear c2b1
   try clear c2b2
   obtain ⟨x4_1, x5_1, x6_1, rfl, rfl, rfl, HA, HK1, HB⟩ := hrel
   cases gk with
   | zero => exact absurd HA.out (by simp [Qba.l0])
   | succ k1 =>
    have H := HA.out
    clear HA
    simp only [Qba.l0] at H
    by_cases c3 : x6_1 < (al.size : Int)
    ·rw [if_pos c3] at H
     have c3b0 : decide (x6_1 < (al.size : Int)) = true := decide_eq_true c3
     clear c3
     by_cases c4 : 0 ≤ x6_1
     ·rw [if_pos c4] at H
      have c4b0 : decide (0 ≤ x6_1) = true := decide_eq_true c4
      clear c4
      by_cases c6 : (bt al x6_1) = 0
      ·rw [if_pos c6] at H
       have c6b0 : ((bt al x6_1) == 0) = true := beq_iff_eq.mpr c6
       have c6b1 : ((bt al x6_1) != 0) = false := bne_eq_false_iff_eq.mpr c6
       clear c6
       have HC7 := QA H
       clear H
       have p5 : 0 ≤ (x6_1 : Int) := of_decide_eq_true (by first | (with_reducible assumption) | assumption)
       have q5 : x6_1 < (al.size : Int) := of_decide_eq_true (by first | (with_reducible assumption) | assumption)
       have hx5 := bt_at al x6_1
       replace p5 := eq_true p5
       replace q5 := eq_true q5
       go_upto_region 8 with (fail)
       go_cut [38] (fun v38 wc => ∃ (kq : Nat) (x38_6 : Bool), v38 = .bool x38_6 ∧ Aside0 (Qba.j1 kq al x4_1 x5_1 x6_1 x38_6 = some r) ∧ Aside0 (kq ≤ k1) ∧ Aside0 (Below w.heap.size w wc))
       case first =>
        have H := HC7.out
        clear HC7
        by_cases c8 : x6_1 = (wrap64 ((al.size : Int) - 1))
        ·rw [if_pos c8] at H
         have c8b0 : (x6_1 == (wrap64 ((al.size : Int) - 1))) = true := beq_iff_eq.mpr c8
         have c8b1 : (x6_1 != (wrap64 ((al.size : Int) - 1))) = false := bne_eq_false_iff_eq.mpr c8
         clear c8
         (first | rw [c8b0] | (simp only [Qek, Qel]; rw [c8b0]) | skip)
         by_cases c9 : x5_1.toList = ([] : List UInt8)
         ·rw [if_pos c9] at H
          have c9b0 : (x5_1.toList == ([] : List UInt8)) = true := beq_iff_eq.mpr c9
          have c9b1 : (x5_1.toList != ([] : List UInt8)) = false := bne_eq_false_iff_eq.mpr c9
          clear c9
          by_cases c10 : x6_1 > 0
          ·rw [if_pos c10] at H
           have c10b0 : decide (0 < x6_1) = true := decide_eq_true c10
           clear c10
           obtain ⟨ji11, hji11⟩ : ∃ j_ : Int, (wrap64 (x6_1 - 1)) = j_ := ⟨_, rfl⟩
           replace H : (if 0 ≤ (ji11) then (if (ji11) < (al.size : Int) then (Qba.j1 k1 al x4_1 x5_1 x6_1 ((bt al (ji11)) != 0)) else (none)) else (none)) = some r := by first | (rw [hji11] at H; exact H) | (simp only [hji11] at H ⊢; exact H)
           have hji11w : (IntKind.i64.wrap (x6_1 - 1)) = ji11 := (Qek _).trans hji11
           by_cases c12 : 0 ≤ (ji11)
           ·rw [if_pos c12] at H
            have c12b0 : decide (0 ≤ (ji11)) = true := decide_eq_true c12
            clear c12
            by_cases c13 : (ji11) < (al.size : Int)
            ·rw [if_pos c13] at H
             have c13b0 : decide ((ji11) < (al.size : Int)) = true := decide_eq_true c13
             clear c13
             have H' := QA H
             clear H
             have p14 : 0 ≤ ((ji11) : Int) := of_decide_eq_true (by first | (with_reducible assumption) | assumption)
             have q14 : (ji11) < (al.size : Int) := of_decide_eq_true (by first | (with_reducible assumption) | assumption)
             have hx14 := bt_at al (ji11)
             replace p14 := eq_true p14
             replace q14 := eq_true q14
             go_wp2
             go_meet
             case rel => exact ⟨_, (((bt al (ji11)) != 0)), (by first | rfl | (simp; done) | (simp only [← hji11] <;> (first | rfl | simp)) | (simp [*]; done)), H', ⟨by have := HK1.out; first | omega | exact Nat.le_refl _⟩, ⟨by repeat (first | (with_reducible first | exact HB.out | apply Qcc | apply Qce | apply Qdt) | exact HB.out)⟩⟩
            ·rw [if_neg c13] at H
             exact absurd H (by simp)
           ·rw [if_neg c12] at H
            exact absurd H (by simp)
          ·rw [if_neg c10] at H
           have c10b0 : decide (0 < x6_1) = false := decide_eq_false c10
           clear c10
           have H' := QA H
           clear H
           go_wp2
           go_meet
           case rel => exact ⟨_, (false), (by first | rfl | (simp; done) | (simp [*]; done)), H', ⟨by have := HK1.out; first | omega | exact Nat.le_refl _⟩, ⟨by repeat (first | (with_reducible first | exact HB.out | apply Qcc | apply Qce | apply Qdt) | exact HB.out)⟩⟩
         ·rw [if_neg c9] at H
          have c9b0 : (x5_1.toList == ([] : List UInt8)) = false := beq_eq_false_iff_ne.mpr c9
          have c9b1 : (x5_1.toList != ([] : List UInt8)) = true := bne_iff_ne.mpr c9
          have H' := QA H
          clear H
          go_wp2
          go_meet
          case rel => exact ⟨_, (false), (by first | rfl | (simp; done) | (simp [*]; done)), H', ⟨by have := HK1.out; first | omega | exact Nat.le_refl _⟩, ⟨by repeat (first | (with_reducible first | exact HB.out | apply Qcc | apply Qce | apply Qdt) | exact HB.out)⟩⟩
        ·rw [if_neg c8] at H
         have c8b0 : (x6_1 == (wrap64 ((al.size : Int) - 1))) = false := beq_eq_false_iff_ne.mpr c8
         have c8b1 : (x6_1 != (wrap64 ((al.size : Int) - 1))) = true := bne_iff_ne.mpr c8
         (first | rw [c8b0] | (simp only [Qek, Qel]; rw [c8b0]) | skip)
         have H' := QA H
         clear H
         go_wp2
         go_meet
         case rel => exact ⟨_, (false), (by first | rfl | (simp; done) | (simp [*]; done)), H', ⟨by have := HK1.out; first | omega | exact Nat.le_refl _⟩, ⟨by repeat (first | (with_reducible first | exact HB.out | apply Qcc | apply Qce | apply Qdt) | exact HB.out)⟩⟩
       case rest =>
        clear HC7
        try clear c2
        try clear c2b0
        try clear c2b1
        try clear c2b2
        try clear c3
        try clear c3b0
        try clear c4
        try clear c4b0
        try clear p5
        try clear q5
        try clear hx5
        try clear c6
        try clear c6b0
        try clear c6b1
        try clear c8
        try clear c8b0
        try clear c8b1
        try clear c9
        try clear c9b0
        try clear c9b1
        try clear c10
        try clear c10b0
        try clear c12
        try clear c12b0
        try clear c13
        try clear c13b0
        try clear p14
        try clear q14
        try clear hx14
        try clear p14
        try clear p5
        try clear q14
        try clear q5
        obtain ⟨kq, x38_6, rfl, HA, HJ6, HB⟩ := hcut
        cases kq with
        | zero => exact absurd HA.out (by simp [Qba.j1])
        | succ kj6 =>
         have H := HA.out
         clear HA
         simp only [Qba.j1] at H
         by_cases c15 : x38_6 = true
         ·subst c15
          have H1 : (some x4_1) = some r := by rw [if_pos rfl] at H; exact H
          clear H
          have H := H1
          clear H1
          obtain rfl := Option.some.inj H
          go_wp2
          go_ret
          exact ⟨by first | rfl | (simp [Qfr, Qfs] <;> rfl) | (simp [*, Qfr, Qfs] <;> rfl), by repeat (first | (with_reducible first | exact HB.out | apply Qcc | apply Qce | apply Qdt) | exact HB.out)⟩
         ·replace c15 := Bool.eq_false_iff.mpr c15
          subst c15
          have H1 : ((some (([(wrap64 ((x5_1.size : Int) + 1)) % 256] : List Int) : List Int)).bind fun y283 => (if x4_1.size + (strOfNums y283).size ≤ 9223372036854775807 then (if (x4_1 ++ (strOfNums y283)).size + x5_1.size ≤ 9223372036854775807 then (Qba.l0 kj6 al ((x4_1 ++ (strOfNums y283)) ++ x5_1) (⟨#[]⟩ : ByteArray) (wrap64 (x6_1 + 1))) else (none)) else (none))) = some r := by rw [if_neg (show ¬ (false = true) by decide)] at H; exact H
          clear H
          have H := H1
          clear H1
          obtain ⟨y283, hy283⟩ : ∃ y_ : List Int, y_ = (([(wrap64 ((x5_1.size : Int) + 1)) % 256] : List Int)) := ⟨_, rfl⟩
          replace H : (if x4_1.size + (strOfNums y283).size ≤ 9223372036854775807 then (if (x4_1 ++ (strOfNums y283)).size + x5_1.size ≤ 9223372036854775807 then (Qba.l0 kj6 al ((x4_1 ++ (strOfNums y283)) ++ x5_1) (⟨#[]⟩ : ByteArray) (wrap64 (x6_1 + 1))) else (none)) else (none)) = some r := by first | (rw [hy283]; with_reducible exact H) | (have H2_ := (Option.bind_some _ _).symm.trans H; rw [hy283]; with_reducible exact H2_) | (have H2_ := (Option.bind_some _ _).symm.trans H; with_reducible exact H2_) | with_reducible exact H | (rw [hy283]; exact H) | exact H
          have Ny283 := QA hy283
          clear hy283
          by_cases c16 : x4_1.size + (strOfNums y283).size ≤ 9223372036854775807
          ·rw [if_pos c16] at H
           have c16b0 := eq_true c16
           have c16b1 : decide (x4_1.size + (strOfNums y283).size ≤ 9223372036854775807) = true := decide_eq_true c16
           try have c16b2 : (9223372036854775807 < x4_1.size + (strOfNums y283).size) = False := eq_false (Nat.not_lt.2 c16)
           by_cases c17 : (x4_1 ++ (strOfNums y283)).size + x5_1.size ≤ 9223372036854775807
           ·rw [if_pos c17] at H
            have c17b0 := eq_true c17
            have c17b1 : decide ((x4_1 ++ (strOfNums y283)).size + x5_1.size ≤ 9223372036854775807) = true := decide_eq_true c17
            try have c17b2 : (9223372036854775807 < (x4_1 ++ (strOfNums y283)).size + x5_1.size) = False := eq_false (Nat.not_lt.2 c17)
            try have c17b3 := c17b2
            try simp only [ByteArray.size_append, (show ∀ x_ : UInt8, (⟨#[x_]⟩ : ByteArray).size = 1 from fun _ => rfl), (show ∀ x_ y_ : UInt8, (⟨#[x_, y_]⟩ : ByteArray).size = 2 from fun _ _ => rfl)] at c17b3
            have H' := QA H
            clear H
            go_wp2_with (first | ((with_reducible refine Qdw (N := 44) rfl ?_); refine Kd.R_lit (Kd.int .u8) _ 5 ?hg (N := 44) ?hd (xs := ([(wrap64 ((x5_1.size : Int) + 1)) % 256] : List Int)) (inner := [.int .u8 ((wrap64 ((x5_1.size : Int) + 1)) % 256)]) (ok := fun _ => True) (okp := fun _ => True) ?hr ?hp (fun _ hk => hk) trivial (Below.refl _ _) (Nat.le_refl _) (by simp) ?_; (case hd => rfl); (case hg => rfl); (case hr => first | (go_simp; done) | (go_simp; rfl)); (case hp => exact (Reps.one (show Kd.M (Kd.int .u8) _ _ _ ((wrap64 ((x5_1.size : Int) + 1)) % 256) [.int .u8 ((wrap64 ((x5_1.size : Int) + 1)) % 256)] from rfl) (Reps.none _ _))); intro v284 w18 ho19 hb hg_ hnew_; clear hg_ hnew_; (first | rw [← Ny283.out] at ho19 | (simp only [Int.reduceToNat] at ho19; rw [← Ny283.out] at ho19)); have n0_ := QA (Kd.R_lower ho19 (Qdn (by repeat (first | (with_reducible first | exact HB.out | apply Qcc | apply Qce | apply Qdt) | exact HB.out)))); have n1_ := QA (Qdo (by repeat (first | (with_reducible first | exact HB.out | apply Qcc | apply Qce | apply Qdt) | exact HB.out)) hb); clear HB; have HO285 := n0_; have HB := n1_; clear n0_ n1_; clear hb ho19; have hcv20 := Qck (P := Tryz.prog) Tryz.underlying52 Tryz.underlying5 Tryz.underlying9 (Kd.own_of_R HO285.out)))
            go_roundg kj6
            case measure => have := HK1.out; have := HJ6.out; omega
            case rel => exact ⟨((x4_1 ++ (strOfNums y283)) ++ x5_1), ((⟨#[]⟩ : ByteArray)), (wrap64 (x6_1 + 1)), (by first | rfl | (simp; done) | (simp [*]; done)), (by first | rfl | (simp; done) | (simp [*]; done)), (by first | rfl | (simp; done) | (simp [*]; done)), H', ⟨by have := HK1.out; have := HJ6.out; omega⟩, ⟨by repeat (first | (with_reducible first | exact HB.out | apply Qcc | apply Qce | apply Qdt) | exact HB.out)⟩⟩
           ·rw [if_neg c17] at H
            exact absurd H (by simp)
          ·rw [if_neg c16] at H
           exact absurd H (by simp)
      ·rw [if_neg c6] at H
       have c6b0 : ((bt al x6_1) == 0) = false := beq_eq_false_iff_ne.mpr c6
       have c6b1 : ((bt al x6_1) != 0) = true := bne_iff_ne.mpr c6
       have c21b0 := eq_true (of_decide_eq_true (by first | (with_reducible assumption) | assumption) : 0 ≤ x6_1)
       by_cases c22 : x6_1 ≤ (wrap64 (x6_1 + 1))
       ·rw [if_pos c22] at H
        have c22b0 := eq_true c22
        have c22b1 : decide (x6_1 ≤ (wrap64 (x6_1 + 1))) = true := decide_eq_true c22
        by_cases c23 : (wrap64 (x6_1 + 1)) ≤ (al.size : Int)
        ·rw [if_pos c23] at H
         have c23b0 := eq_true c23
         have c23b1 : decide ((wrap64 (x6_1 + 1)) ≤ (al.size : Int)) = true := decide_eq_true c23
         by_cases c24 : x5_1.size + (al.extract (x6_1 : Int).toNat ((wrap64 (x6_1 + 1)) : Int).toNat).size ≤ 9223372036854775807
         ·rw [if_pos c24] at H
          have c24b0 := eq_true c24
          have c24b1 : decide (x5_1.size + (al.extract (x6_1 : Int).toNat ((wrap64 (x6_1 + 1)) : Int).toNat).size ≤ 9223372036854775807) = true := decide_eq_true c24
          try have c24b2 : (9223372036854775807 < x5_1.size + (al.extract (x6_1 : Int).toNat ((wrap64 (x6_1 + 1)) : Int).toNat).size) = False := eq_false (Nat.not_lt.2 c24)
          generalize hnw : (x5_1 ++ (al.extract (x6_1 : Int).toNat ((wrap64 (x6_1 + 1)) : Int).toNat)) = nw at *
          by_cases c25 : (nw.size : Int) = 254
          ·rw [if_pos c25] at H
           have c25b0 : ((nw.size : Int) == 254) = true := beq_iff_eq.mpr c25
           have c25b1 : ((nw.size : Int) != 254) = false := bne_eq_false_iff_eq.mpr c25
           clear c25
           by_cases c26 : x4_1.size + 1 ≤ 9223372036854775807
           ·rw [if_pos c26] at H
            have c26b0 := eq_true c26
            have c26b1 : decide (x4_1.size + 1 ≤ 9223372036854775807) = true := decide_eq_true c26
            try have c26b2 : (9223372036854775807 < x4_1.size + 1) = False := eq_false (Nat.not_lt.2 c26)
            by_cases c27 : (x4_1 ++ (⟨#[255]⟩ : ByteArray)).size + nw.size ≤ 9223372036854775807
            ·rw [if_pos c27] at H
             have c27b0 := eq_true c27
             have c27b1 : decide ((x4_1 ++ (⟨#[255]⟩ : ByteArray)).size + nw.size ≤ 9223372036854775807) = true := decide_eq_true c27
             try have c27b2 : (9223372036854775807 < (x4_1 ++ (⟨#[255]⟩ : ByteArray)).size + nw.size) = False := eq_false (Nat.not_lt.2 c27)
             try have c27b3 := c27b2
             try simp only [ByteArray.size_append, (show ∀ x_ : UInt8, (⟨#[x_]⟩ : ByteArray).size = 1 from fun _ => rfl), (show ∀ x_ y_ : UInt8, (⟨#[x_, y_]⟩ : ByteArray).size = 2 from fun _ _ => rfl)] at c27b3
             have H' := QA H
             clear H
             have p5 : 0 ≤ (x6_1 : Int) := of_decide_eq_true (by first | (with_reducible assumption) | assumption)
             have q5 : x6_1 < (al.size : Int) := of_decide_eq_true (by first | (with_reducible assumption) | assumption)
             have hx5 := bt_at al x6_1
             replace p5 := eq_true p5
             replace q5 := eq_true q5
             go_wp2
             go_roundg k1
             case measure => have := HK1.out; omega
             case rel => exact ⟨((x4_1 ++ (⟨#[255]⟩ : ByteArray)) ++ nw), ((⟨#[]⟩ : ByteArray)), (wrap64 (x6_1 + 1)), (by first | rfl | (simp; done) | (simp [*]; done)), (by first | rfl | (simp; done) | (simp [*]; done)), (by first | rfl | (simp; done) | (simp [*]; done)), H', ⟨by have := HK1.out; omega⟩, ⟨by repeat (first | (with_reducible first | exact HB.out | apply Qcc | apply Qce | apply Qdt) | exact HB.out)⟩⟩
            ·rw [if_neg c27] at H
             exact absurd H (by simp)
           ·rw [if_neg c26] at H
            exact absurd H (by simp)
          ·rw [if_neg c25] at H
           have c25b0 : ((nw.size : Int) == 254) = false := beq_eq_false_iff_ne.mpr c25
           have c25b1 : ((nw.size : Int) != 254) = true := bne_iff_ne.mpr c25
           have H' := QA H
           clear H
           have p5 : 0 ≤ (x6_1 : Int) := of_decide_eq_true (by first | (with_reducible assumption) | assumption)
           have q5 : x6_1 < (al.size : Int) := of_decide_eq_true (by first | (with_reducible assumption) | assumption)
           have hx5 := bt_at al x6_1
           replace p5 := eq_true p5
           replace q5 := eq_true q5
           go_wp2
           go_roundg k1
           case measure => have := HK1.out; omega
           case rel => exact ⟨(x4_1), nw, (wrap64 (x6_1 + 1)), (by first | rfl | (simp; done) | (simp [*]; done)), (by first | rfl | (simp; done) | (simp [*]; done)), (by first | rfl | (simp; done) | (simp [*]; done)), H', ⟨by have := HK1.out; omega⟩, ⟨by repeat (first | (with_reducible first | exact HB.out | apply Qcc | apply Qce | apply Qdt) | exact HB.out)⟩⟩
         ·rw [if_neg c24] at H
          exact absurd H (by simp)
        ·rw [if_neg c23] at H
         exact absurd H (by simp)
       ·rw [if_neg c22] at H
        exact absurd H (by simp)
     ·rw [if_neg c4] at H
      exact absurd H (by simp)
    ·rw [if_neg c3] at H
     have c3b0 : decide (x6_1 < (al.size : Int)) = false := decide_eq_false c3
     clear c3
     obtain rfl := Option.some.inj H
     go_wp2
     go_ret
     exact ⟨by first | rfl | (simp [Qfr, Qfs] <;> rfl) | (simp [*, Qfr, Qfs] <;> rfl), by repeat (first | (with_reducible first | exact HB.out | apply Qcc | apply Qce | apply Qdt) | exact HB.out)⟩
 ·rw [if_neg c2] at H
  exact absurd H (by simp)
def Qbd.f (k : Nat) (a0 : ByteArray) : Option (ByteArray) := (Qav.f k 0 a0).bind fun t289 => ((Qar.f k t289 8).bind fun t290 => (if a0.size + t290.size ≤ 9223372036854775807 then ((Qba.f k (a0 ++ t290)).bind fun t291 => (if t291.size + 1 ≤ 9223372036854775807 then (some (t291 ++ (⟨#[0]⟩ : ByteArray))) else (none))) else (none)))
set_option maxHeartbeats 8000000 in
set_option maxRecDepth 100000 in
theorem Qbd.calls (k : Nat) (a0 : ByteArray) (r : ByteArray) (w : World) (h : Qbd.f k a0 = some r) :
  Calls Tryz.prog 61 #[.string a0] w fun e w' => e = .returned (.string r) ∧ Below w.heap.size w w' := by
 have HB := QA (Below.refl w.heap.size w)
 have H : ((Qav.f k 0 a0).bind fun t289 => ((Qar.f k t289 8).bind fun t290 => (if a0.size + t290.size ≤ 9223372036854775807 then ((Qba.f k (a0 ++ t290)).bind fun t291 => (if t291.size + 1 ≤ 9223372036854775807 then (some (t291 ++ (⟨#[0]⟩ : ByteArray))) else (none))) else (none)))) = some r := h
 clear h
 replace H := Option.bind_eq_some_iff.mp H
 obtain ⟨t289, A20, H⟩ := H
 replace H : ((Qar.f k t289 8).bind fun t290 => (if a0.size + t290.size ≤ 9223372036854775807 then ((Qba.f k (a0 ++ t290)).bind fun t291 => (if t291.size + 1 ≤ 9223372036854775807 then (some (t291 ++ (⟨#[0]⟩ : ByteArray))) else (none))) else (none))) = some r := H
 have A2 := QA A20
 clear A20
 replace H := Option.bind_eq_some_iff.mp H
 obtain ⟨t290, A30, H⟩ := H
 replace H : (if a0.size + t290.size ≤ 9223372036854775807 then ((Qba.f k (a0 ++ t290)).bind fun t291 => (if t291.size + 1 ≤ 9223372036854775807 then (some (t291 ++ (⟨#[0]⟩ : ByteArray))) else (none))) else (none)) = some r := H
 have A3 := QA A30
 clear A30
 by_cases c4 : a0.size + t290.size ≤ 9223372036854775807
 ·rw [if_pos c4] at H
  have c4b0 := eq_true c4
  have c4b1 : decide (a0.size + t290.size ≤ 9223372036854775807) = true := decide_eq_true c4
  try have c4b2 : (9223372036854775807 < a0.size + t290.size) = False := eq_false (Nat.not_lt.2 c4)
  replace H := Option.bind_eq_some_iff.mp H
  obtain ⟨t291, A50, H⟩ := H
  replace H : (if t291.size + 1 ≤ 9223372036854775807 then (some (t291 ++ (⟨#[0]⟩ : ByteArray))) else (none)) = some r := H
  have A5 := QA A50
  clear A50
  by_cases c6 : t291.size + 1 ≤ 9223372036854775807
  ·rw [if_pos c6] at H
   have c6b0 := eq_true c6
   have c6b1 : decide (t291.size + 1 ≤ 9223372036854775807) = true := decide_eq_true c6
   try have c6b2 : (9223372036854775807 < t291.size + 1) = False := eq_false (Nat.not_lt.2 c6)
   obtain rfl := Option.some.inj H
   go_enter Tryz.func61, Tryz.ntmps61
   go_wp2_with (first | ((with_reducible refine Qfo (f := 65) rfl ?_); refine Qej (some 5) rfl rfl Tryz.func65 (by kernel_rfl) rfl #[.int .u64 0, .string a0] rfl (by (try simp only [List.map_toArray, List.map_cons, List.map_nil]); first | done | rfl | (simp only [List.length_drop, List.length_take]; rfl)) ?_; (with_reducible refine (Qav.calls k 0 a0 t289 _ A2.out).mono ?_); rintro e w7 ⟨rfl, hb⟩; refine ⟨_, rfl, ?_⟩; have n0_ := QA (Qdo (by repeat (first | (with_reducible first | exact HB.out | apply Qcc | apply Qce | apply Qdt) | exact HB.out)) hb); clear HB; have HB := n0_; clear n0_; (try clear hb); (try clear hb2); (try clear hk); (try clear hi)) | ((with_reducible refine Qfo (f := 103) rfl ?_); refine Qej (some 6) rfl rfl Tryz.func103 (by kernel_rfl) rfl #[.int .u64 t289, .int .i64 8] rfl (by (try simp only [List.map_toArray, List.map_cons, List.map_nil]); first | done | rfl | (simp only [List.length_drop, List.length_take]; rfl)) ?_; (with_reducible refine (Qar.calls k t289 8 t290 _ A3.out).mono ?_); rintro e w8 ⟨rfl, hb⟩; refine ⟨_, rfl, ?_⟩; have n0_ := QA (Qdo (by repeat (first | (with_reducible first | exact HB.out | apply Qcc | apply Qce | apply Qdt) | exact HB.out)) hb); clear HB; have HB := n0_; clear n0_; (try clear hb); (try clear hb2); (try clear hk); (try clear hi)) | ((with_reducible refine Qfo (f := 102) rfl ?_); refine Qej (some 8) rfl rfl Tryz.func102 (by kernel_rfl) rfl #[.string (a0 ++ t290)] rfl (by (try simp only [List.map_toArray, List.map_cons, List.map_nil]); first | done | rfl | (simp only [List.length_drop, List.length_take]; rfl)) ?_; (with_reducible refine (Qba.calls k (a0 ++ t290) t291 _ A5.out).mono ?_); rintro e w9 ⟨rfl, hb⟩; refine ⟨_, rfl, ?_⟩; have n0_ := QA (Qdo (by repeat (first | (with_reducible first | exact HB.out | apply Qcc | apply Qce | apply Qdt) | exact HB.out)) hb); clear HB; have HB := n0_; clear n0_; (try clear hb); (try clear hb2); (try clear hk); (try clear hi)))
   go_ret
   exact ⟨by first | rfl | (simp [Qfr, Qfs] <;> rfl) | (simp [*, Qfr, Qfs] <;> rfl), by repeat (first | (with_reducible first | exact HB.out | apply Qcc | apply Qce | apply Qdt) | exact HB.out)⟩
  ·rw [if_neg c6] at H
   exact absurd H (by simp)
 ·rw [if_neg c4] at H
  exact absurd H (by simp)
def Qbc.f (k : Nat) (a0_0 : Bool) (a0_1 : Int) (a0_2 : ByteArray) (a0_3 : ByteArray) : Option (ByteArray) := (Qbb.f k a0_0 a0_1 a0_2 a0_3).bind fun t306 => ((Qbd.f k t306).bind fun t307 => (some t307))
set_option maxHeartbeats 8000000 in
set_option maxRecDepth 100000 in
theorem Qbc.calls (k : Nat) (a0_0 : Bool) (a0_1 : Int) (a0_2 : ByteArray) (a0_3 : ByteArray) (r : ByteArray) (w : World) (h : Qbc.f k a0_0 a0_1 a0_2 a0_3 = some r) :
  Calls Tryz.prog 22 #[.agg #[.bool a0_0, .int .u64 a0_1, .string a0_2, .string a0_3]] w fun e w' => e = .returned (.string r) ∧ Below w.heap.size w w' := by
 have hu39 := Tryz.underlying39
 have HB := QA (Below.refl w.heap.size w)
 have H : ((Qbb.f k a0_0 a0_1 a0_2 a0_3).bind fun t306 => ((Qbd.f k t306).bind fun t307 => (some t307))) = some r := h
 clear h
 replace H := Option.bind_eq_some_iff.mp H
 obtain ⟨t306, A20, H⟩ := H
 replace H : ((Qbd.f k t306).bind fun t307 => (some t307)) = some r := H
 have A2 := QA A20
 clear A20
 replace H := Option.bind_eq_some_iff.mp H
 obtain ⟨t307, A30, H⟩ := H
 replace H : (some t307) = some r := H
 have A3 := QA A30
 clear A30
 obtain rfl := Option.some.inj H
 go_enter Tryz.func22, Tryz.ntmps22
 go_wp2_with (first | ((with_reducible refine Qdw (N := 1) rfl ?_); refine Qdv ?hg (N := 1) ?hd (cs := #[.bool a0_0, .int .u64 a0_1, .string a0_2, .string a0_3]) (t := 39) ?hr ?_; (case hd => rfl); (case hg => rfl); (case hr => first | (go_simp; done) | (go_simp; rfl)); intro gb305 hg w4 hbox hb; have n0_ := QA (Qdo (by repeat (first | (with_reducible first | exact HB.out | apply Qcc | apply Qce | apply Qdt) | exact HB.out)) hb); have n1_ := QA (hbox); have n2_ := QA ((by rw [hg]; exact (Qdn (by repeat (first | (with_reducible first | exact HB.out | apply Qcc | apply Qce | apply Qdt) | exact HB.out))) : w.heap.size ≤ gb305)); have n3_ := QA ((by rw [hg]; exact (Qdn (by repeat (first | (with_reducible first | exact HB.out | apply Qcc | apply Qce | apply Qdt) | exact HB.out))) : w.heap.size ≤ gb305)); clear HB; have HB := n0_; have BK305 := n1_; have GW305 := n2_; have GE305 := n3_; clear n0_ n1_ n2_ n3_; clear hb hbox hg; have hcz5_0 : w4.cell? ⟨gb305, 0, none⟩ = some (.bool a0_0) := (Qcx BK305.out 0).trans rfl; have hcz5_1 : w4.cell? ⟨gb305, 1, none⟩ = some (.int .u64 a0_1) := (Qcx BK305.out 1).trans rfl; have hcz5_2 : w4.cell? ⟨gb305, 2, none⟩ = some (.string a0_2) := (Qcx BK305.out 2).trans rfl; have hcz5_3 : w4.cell? ⟨gb305, 3, none⟩ = some (.string a0_3) := (Qcx BK305.out 3).trans rfl; have hfz5_0 := Qcy BK305.out 0; have hfz5_1 := Qcy BK305.out 1; have hfz5_2 := Qcy BK305.out 2; have hfz5_3 := Qcy BK305.out 3) | ((with_reducible refine Qfo (f := 62) rfl ?_); refine Qej (some 4) rfl rfl Tryz.func62 (by kernel_rfl) rfl #[.agg #[.bool a0_0, .int .u64 a0_1, .string a0_2, .string a0_3]] rfl (by (try simp only [List.map_toArray, List.map_cons, List.map_nil]); first | done | rfl | (simp only [List.length_drop, List.length_take]; rfl)) ?_; (with_reducible refine (Qbb.calls k a0_0 a0_1 a0_2 a0_3 t306 _ A2.out).mono ?_); rintro e w6 ⟨rfl, hb⟩; refine ⟨_, rfl, ?_⟩; have n0_ := QA (Qdg (g := gb305) (o := .cells #[.bool a0_0, .int .u64 a0_1, .string a0_2, .string a0_3] 39 (0, 0)) (by (with_reducible repeat (first | apply Qdf | apply Qde | apply Qdd)); exact BK305.out) hb); have n1_ := QA (Qdo (by repeat (first | (with_reducible first | exact HB.out | apply Qcc | apply Qce | apply Qdt | refine Qdp ?_ GE305.out) | exact HB.out)) hb); clear BK305; clear HB; have BK305 := n0_; have HB := n1_; clear n0_ n1_; (try clear hb); (try clear hb2); (try clear hk); (try clear hi)) | ((with_reducible refine Qfo (f := 61) rfl ?_); refine Qej (some 5) rfl rfl Tryz.func61 (by kernel_rfl) rfl #[.string t306] rfl (by (try simp only [List.map_toArray, List.map_cons, List.map_nil]); first | done | rfl | (simp only [List.length_drop, List.length_take]; rfl)) ?_; (with_reducible refine (Qbd.calls k t306 t307 _ A3.out).mono ?_); rintro e w7 ⟨rfl, hb⟩; refine ⟨_, rfl, ?_⟩; have n0_ := QA (Qdg (g := gb305) (o := .cells #[.bool a0_0, .int .u64 a0_1, .string a0_2, .string a0_3] 39 (0, 0)) (by (with_reducible repeat (first | apply Qdf | apply Qde | apply Qdd)); exact BK305.out) hb); have n1_ := QA (Qdo (by repeat (first | (with_reducible first | exact HB.out | apply Qcc | apply Qce | apply Qdt | refine Qdp ?_ GE305.out) | exact HB.out)) hb); clear BK305; clear HB; have BK305 := n0_; have HB := n1_; clear n0_ n1_; (try clear hb); (try clear hb2); (try clear hk); (try clear hi)))
 go_ret
 exact ⟨by first | rfl | (simp [Qfr, Qfs] <;> rfl) | (simp [*, Qfr, Qfs] <;> rfl), by repeat (first | (with_reducible first | exact HB.out | apply Qcc | apply Qce | apply Qdt | refine Qdp ?_ GE305.out) | exact HB.out)⟩
def Qak.f (a0_0 : Int) (a0_1 : Int) : Option (Int) := if a0_0 < 12 then (some 1) else (if a0_0 > 24 then (some 1) else (if a0_1 < 1 then (some 1) else (if a0_1 > 65536 then (some 1) else (some 0))))
set_option maxHeartbeats 8000000 in
set_option maxRecDepth 100000 in
theorem Qak.calls (a0_0 : Int) (a0_1 : Int) (r : Int) (w : World) (h : Qak.f a0_0 a0_1 = some r) :
  Calls Tryz.prog 85 #[.agg #[.int .u8 a0_0, .int .u32 a0_1]] w fun e w' => e = .returned (.int .i64 r) ∧ Below w.heap.size w w' := by
 have hu27 := Tryz.underlying27
 have HB := QA (Below.refl w.heap.size w)
 have H : (if a0_0 < 12 then (some 1) else (if a0_0 > 24 then (some 1) else (if a0_1 < 1 then (some 1) else (if a0_1 > 65536 then (some 1) else (some 0))))) = some r := h
 clear h
 by_cases c2 : a0_0 < 12
 ·rw [if_pos c2] at H
  have c2b0 : decide (a0_0 < 12) = true := decide_eq_true c2
  clear c2
  obtain rfl := Option.some.inj H
  go_enter Tryz.func85, Tryz.ntmps85
  go_wp2_with (first | ((with_reducible refine Qdw (N := 1) rfl ?_); refine Qdv ?hg (N := 1) ?hd (cs := #[.int .u8 a0_0, .int .u32 a0_1]) (t := 27) ?hr ?_; (case hd => rfl); (case hg => rfl); (case hr => first | (go_simp; done) | (go_simp; rfl)); intro gb103 hg w3 hbox hb; have n0_ := QA (Qdo (by repeat (first | (with_reducible first | exact HB.out | apply Qcc | apply Qce | apply Qdt) | exact HB.out)) hb); have n1_ := QA (hbox); have n2_ := QA ((by rw [hg]; exact (Qdn (by repeat (first | (with_reducible first | exact HB.out | apply Qcc | apply Qce | apply Qdt) | exact HB.out))) : w.heap.size ≤ gb103)); have n3_ := QA ((by rw [hg]; exact (Qdn (by repeat (first | (with_reducible first | exact HB.out | apply Qcc | apply Qce | apply Qdt) | exact HB.out))) : w.heap.size ≤ gb103)); clear HB; have HB := n0_; have BK103 := n1_; have GW103 := n2_; have GE103 := n3_; clear n0_ n1_ n2_ n3_; clear hb hbox hg; have hcz4_0 : w3.cell? ⟨gb103, 0, none⟩ = some (.int .u8 a0_0) := (Qcx BK103.out 0).trans rfl; have hcz4_1 : w3.cell? ⟨gb103, 1, none⟩ = some (.int .u32 a0_1) := (Qcx BK103.out 1).trans rfl; have hfz4_0 := Qcy BK103.out 0; have hfz4_1 := Qcy BK103.out 1))
  go_ret
  exact ⟨by first | rfl | (simp [Qfr, Qfs] <;> rfl) | (simp [*, Qfr, Qfs] <;> rfl), by repeat (first | (with_reducible first | exact HB.out | apply Qcc | apply Qce | apply Qdt | refine Qdp ?_ GE103.out) | exact HB.out)⟩
 ·rw [if_neg c2] at H
  have c2b0 : decide (a0_0 < 12) = false := decide_eq_false c2
  clear c2
  by_cases c5 : a0_0 > 24
  ·rw [if_pos c5] at H
   have c5b0 : decide (24 < a0_0) = true := decide_eq_true c5
   clear c5
   obtain rfl := Option.some.inj H
   go_enter Tryz.func85, Tryz.ntmps85
   go_wp2_with (first | ((with_reducible refine Qdw (N := 1) rfl ?_); refine Qdv ?hg (N := 1) ?hd (cs := #[.int .u8 a0_0, .int .u32 a0_1]) (t := 27) ?hr ?_; (case hd => rfl); (case hg => rfl); (case hr => first | (go_simp; done) | (go_simp; rfl)); intro gb103 hg w6 hbox hb; have n0_ := QA (Qdo (by repeat (first | (with_reducible first | exact HB.out | apply Qcc | apply Qce | apply Qdt) | exact HB.out)) hb); have n1_ := QA (hbox); have n2_ := QA ((by rw [hg]; exact (Qdn (by repeat (first | (with_reducible first | exact HB.out | apply Qcc | apply Qce | apply Qdt) | exact HB.out))) : w.heap.size ≤ gb103)); have n3_ := QA ((by rw [hg]; exact (Qdn (by repeat (first | (with_reducible first | exact HB.out | apply Qcc | apply Qce | apply Qdt) | exact HB.out))) : w.heap.size ≤ gb103)); clear HB; have HB := n0_; have BK103 := n1_; have GW103 := n2_; have GE103 := n3_; clear n0_ n1_ n2_ n3_; clear hb hbox hg; have hcz7_0 : w6.cell? ⟨gb103, 0, none⟩ = some (.int .u8 a0_0) := (Qcx BK103.out 0).trans rfl; have hcz7_1 : w6.cell? ⟨gb103, 1, none⟩ = some (.int .u32 a0_1) := (Qcx BK103.out 1).trans rfl; have hfz7_0 := Qcy BK103.out 0; have hfz7_1 := Qcy BK103.out 1))
   go_ret
   exact ⟨by first | rfl | (simp [Qfr, Qfs] <;> rfl) | (simp [*, Qfr, Qfs] <;> rfl), by repeat (first | (with_reducible first | exact HB.out | apply Qcc | apply Qce | apply Qdt | refine Qdp ?_ GE103.out) | exact HB.out)⟩
  ·rw [if_neg c5] at H
   have c5b0 : decide (24 < a0_0) = false := decide_eq_false c5
   clear c5
   by_cases c8 : a0_1 < 1
   ·rw [if_pos c8] at H
    have c8b0 : decide (a0_1 < 1) = true := decide_eq_true c8
    clear c8
    obtain rfl := Option.some.inj H
    go_enter Tryz.func85, Tryz.ntmps85
    go_wp2_with (first | ((with_reducible refine Qdw (N := 1) rfl ?_); refine Qdv ?hg (N := 1) ?hd (cs := #[.int .u8 a0_0, .int .u32 a0_1]) (t := 27) ?hr ?_; (case hd => rfl); (case hg => rfl); (case hr => first | (go_simp; done) | (go_simp; rfl)); intro gb103 hg w9 hbox hb; have n0_ := QA (Qdo (by repeat (first | (with_reducible first | exact HB.out | apply Qcc | apply Qce | apply Qdt) | exact HB.out)) hb); have n1_ := QA (hbox); have n2_ := QA ((by rw [hg]; exact (Qdn (by repeat (first | (with_reducible first | exact HB.out | apply Qcc | apply Qce | apply Qdt) | exact HB.out))) : w.heap.size ≤ gb103)); have n3_ := QA ((by rw [hg]; exact (Qdn (by repeat (first | (with_reducible first | exact HB.out | apply Qcc | apply Qce | apply Qdt) | exact HB.out))) : w.heap.size ≤ gb103)); clear HB; have HB := n0_; have BK103 := n1_; have GW103 := n2_; have GE103 := n3_; clear n0_ n1_ n2_ n3_; clear hb hbox hg; have hcz10_0 : w9.cell? ⟨gb103, 0, none⟩ = some (.int .u8 a0_0) := (Qcx BK103.out 0).trans rfl; have hcz10_1 : w9.cell? ⟨gb103, 1, none⟩ = some (.int .u32 a0_1) := (Qcx BK103.out 1).trans rfl; have hfz10_0 := Qcy BK103.out 0; have hfz10_1 := Qcy BK103.out 1))
    go_ret
    exact ⟨by first | rfl | (simp [Qfr, Qfs] <;> rfl) | (simp [*, Qfr, Qfs] <;> rfl), by repeat (first | (with_reducible first | exact HB.out | apply Qcc | apply Qce | apply Qdt | refine Qdp ?_ GE103.out) | exact HB.out)⟩
   ·rw [if_neg c8] at H
    have c8b0 : decide (a0_1 < 1) = false := decide_eq_false c8
    clear c8
    by_cases c11 : a0_1 > 65536
    ·rw [if_pos c11] at H
     have c11b0 : decide (65536 < a0_1) = true := decide_eq_true c11
     clear c11
     obtain rfl := Option.some.inj H
     go_enter Tryz.func85, Tryz.ntmps85
     go_wp2_with (first | ((with_reducible refine Qdw (N := 1) rfl ?_); refine Qdv ?hg (N := 1) ?hd (cs := #[.int .u8 a0_0, .int .u32 a0_1]) (t := 27) ?hr ?_; (case hd => rfl); (case hg => rfl); (case hr => first | (go_simp; done) | (go_simp; rfl)); intro gb103 hg w12 hbox hb; have n0_ := QA (Qdo (by repeat (first | (with_reducible first | exact HB.out | apply Qcc | apply Qce | apply Qdt) | exact HB.out)) hb); have n1_ := QA (hbox); have n2_ := QA ((by rw [hg]; exact (Qdn (by repeat (first | (with_reducible first | exact HB.out | apply Qcc | apply Qce | apply Qdt) | exact HB.out))) : w.heap.size ≤ gb103)); have n3_ := QA ((by rw [hg]; exact (Qdn (by repeat (first | (with_reducible first | exact HB.out | apply Qcc | apply Qce | apply Qdt) | exact HB.out))) : w.heap.size ≤ gb103)); clear HB; have HB := n0_; have BK103 := n1_; have GW103 := n2_; have GE103 := n3_; clear n0_ n1_ n2_ n3_; clear hb hbox hg; have hcz13_0 : w12.cell? ⟨gb103, 0, none⟩ = some (.int .u8 a0_0) := (Qcx BK103.out 0).trans rfl; have hcz13_1 : w12.cell? ⟨gb103, 1, none⟩ = some (.int .u32 a0_1) := (Qcx BK103.out 1).trans rfl; have hfz13_0 := Qcy BK103.out 0; have hfz13_1 := Qcy BK103.out 1))
     go_ret
     exact ⟨by first | rfl | (simp [Qfr, Qfs] <;> rfl) | (simp [*, Qfr, Qfs] <;> rfl), by repeat (first | (with_reducible first | exact HB.out | apply Qcc | apply Qce | apply Qdt | refine Qdp ?_ GE103.out) | exact HB.out)⟩
    ·rw [if_neg c11] at H
     have c11b0 : decide (65536 < a0_1) = false := decide_eq_false c11
     clear c11
     obtain rfl := Option.some.inj H
     go_enter Tryz.func85, Tryz.ntmps85
     go_wp2_with (first | ((with_reducible refine Qdw (N := 1) rfl ?_); refine Qdv ?hg (N := 1) ?hd (cs := #[.int .u8 a0_0, .int .u32 a0_1]) (t := 27) ?hr ?_; (case hd => rfl); (case hg => rfl); (case hr => first | (go_simp; done) | (go_simp; rfl)); intro gb103 hg w14 hbox hb; have n0_ := QA (Qdo (by repeat (first | (with_reducible first | exact HB.out | apply Qcc | apply Qce | apply Qdt) | exact HB.out)) hb); have n1_ := QA (hbox); have n2_ := QA ((by rw [hg]; exact (Qdn (by repeat (first | (with_reducible first | exact HB.out | apply Qcc | apply Qce | apply Qdt) | exact HB.out))) : w.heap.size ≤ gb103)); have n3_ := QA ((by rw [hg]; exact (Qdn (by repeat (first | (with_reducible first | exact HB.out | apply Qcc | apply Qce | apply Qdt) | exact HB.out))) : w.heap.size ≤ gb103)); clear HB; have HB := n0_; have BK103 := n1_; have GW103 := n2_; have GE103 := n3_; clear n0_ n1_ n2_ n3_; clear hb hbox hg; have hcz15_0 : w14.cell? ⟨gb103, 0, none⟩ = some (.int .u8 a0_0) := (Qcx BK103.out 0).trans rfl; have hcz15_1 : w14.cell? ⟨gb103, 1, none⟩ = some (.int .u32 a0_1) := (Qcx BK103.out 1).trans rfl; have hfz15_0 := Qcy BK103.out 0; have hfz15_1 := Qcy BK103.out 1))
     go_ret
     exact ⟨by first | rfl | (simp [Qfr, Qfs] <;> rfl) | (simp [*, Qfr, Qfs] <;> rfl), by repeat (first | (with_reducible first | exact HB.out | apply Qcc | apply Qce | apply Qdt | refine Qdp ?_ GE103.out) | exact HB.out)⟩
end Go.Proofs.YtnnofopfbeklbaaGreat.C
end
