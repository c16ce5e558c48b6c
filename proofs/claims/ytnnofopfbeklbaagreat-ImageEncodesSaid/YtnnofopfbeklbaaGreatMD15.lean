/- Texts of this claim's author and of the print of its functions, merged by merge.py. -/
import Derived.Test.YtnnofopfbeklbaaGreatMD03
import Derived.Test.YtnnofopfbeklbaaGreatMD14
set_option linter.unusedVariables false
set_option linter.unusedSimpArgs false
set_option maxHeartbeats 8000000
set_option maxRecDepth 100000
section
namespace Go.Proofs.YtnnofopfbeklbaaGreat.C
open Go.RowKit Go.Proofs.YtnnofopfbeklbaaGreatW.PrintWords Go.Proofs.YtnnofopfbeklbaaGreatW.PrintLast Go.Proofs.YtnnofopfbeklbaaGreatW.PrintMore
attribute [local go_sem] Qgh Qgi Qgj Qgk Qgl Qgm Qgn Qgo
mutual
def Qbd.l0 : Nat → List (S39) → List (S39) → Int → Int → Option (Int)
 | 0, _, _, _, _ => none
 | k + 1, x0, x8, x9, x10 => if x10 < x9 then (if 0 ≤ x10 then (if x10 < (x8.length : Int) then ((Qbc.f k ((Qgy x8 x10).f0) ((Qgy x8 x10).f1) ((Qgy x8 x10).f2) ((Qgy x8 x10).f3)).bind fun t312 => (if t312 = 0 then (Qbd.l0 k x0 x8 x9 (wrap64 (x10 + 1))) else (some t312))) else (none)) else (none)) else (Qbd.l1 k x0 x0 (x0.length : Int) 0)
def Qbd.l1 : Nat → List (S39) → List (S39) → Int → Int → Option (Int)
 | 0, _, _, _, _ => none
 | k + 1, x0, x20, x21, x22 => if x22 < x21 then (if 0 ≤ x22 then (if x22 < (x20.length : Int) then (if x22 > 0 then (if 0 ≤ (wrap64 (x22 - 1)) then (if (wrap64 (x22 - 1)) < (x0.length : Int) then (if ((Qgy x20 x22).f1) ≤ ((Qgy x0 (wrap64 (x22 - 1))).f1) then (some 8) else (Qbd.l1 k x0 x20 x21 (wrap64 (x22 + 1)))) else (none)) else (none)) else (Qbd.l1 k x0 x20 x21 (wrap64 (x22 + 1)))) else (none)) else (none)) else (some 0)
end
def Qbd.f (k : Nat) (l0 : List (S39)) : Option (Int) := Qbd.l0 k l0 l0 (l0.length : Int) 0
theorem Qbd.calls (k : Nat) (A0 : Option Addr) (c0 : Nat) (l0 : List (S39)) (r : Int) (w : World) (hr0 : Kd.C k39 w A0 l0.length l0) (hc0 : l0.length ≤ c0) (h : Qbd.f k l0 = some r) :
  Calls Tryz.prog 76 #[.slice A0 l0.length c0] w fun e w' => e = .returned (.int .i64 r) ∧ Below w.heap.size w w' := by
 have hu39 := Tryz.underlying39
 have HR0 := QA hr0
 have HC0 := QA hc0
 clear hr0 hc0
 have HB := QA (Below.refl w.heap.size w)
 have H : (Qbd.l0 k l0 l0 (l0.length : Int) 0) = some r := h
 clear h
 have H' := QA H
 clear H
 go_enter Tryz.func76, Tryz.ntmps76
 go_wp2
 repeat (go_quiet (fail); try go_wp2)
 go_loopg [10] k (fun kq v10 w' => ∃ (x10_1 : Int), v10 = .int .i64 x10_1 ∧ Aside0 (Qbd.l0 kq l0 l0 (l0.length : Int) x10_1 = some r) ∧ Aside0 (kq ≤ k) ∧ Aside0 (Below w.heap.size w w'))
 case atStart => exact ⟨(0), qq_6, H', ⟨Nat.le_refl _⟩, ⟨qq_b⟩⟩
 case round =>
  clear H'
  obtain ⟨x10_1, rfl, HA, HK1, HB⟩ := hrel
  cases gk with
  | zero => exact absurd HA.out (by simp [Qbd.l0])
  | succ k1 =>
   have H := HA.out
   clear HA
   simp only [Qbd.l0] at H
   by_cases c2 : x10_1 < (l0.length : Int)
   ·rw [if_pos c2] at H
    have c2b0 : decide (x10_1 < (l0.length : Int)) = true := decide_eq_true c2
    clear c2
    by_cases c3 : 0 ≤ x10_1
    ·rw [if_pos c3] at H
     have c3b0 : decide (0 ≤ x10_1) = true := decide_eq_true c3
     clear c3
     by_cases c4 : x10_1 < (l0.length : Int)
     ·rw [if_pos c4] at H
      have c4b0 : decide (x10_1 < (l0.length : Int)) = true := decide_eq_true c4
      clear c4
      replace H := Option.bind_eq_some_iff.mp H
      obtain ⟨t312, A50, H⟩ := H
      replace H : (if t312 = 0 then (Qbd.l0 k1 l0 l0 (l0.length : Int) (wrap64 (x10_1 + 1))) else (some t312)) = some r := H
      have A5 := QA A50
      clear A50
      by_cases c6 : t312 = 0
      ·rw [if_pos c6] at H
       have c6b0 : (t312 == 0) = true := beq_iff_eq.mpr c6
       have c6b1 : (t312 != 0) = false := bne_eq_false_iff_eq.mpr c6
       clear c6
       have H' := QA H
       clear H
       have p310 : 0 ≤ (x10_1 : Int) := of_decide_eq_true qq_5
       have q310 : x10_1 < (l0.length : Int) := of_decide_eq_true qq_5
       obtain ⟨ad310, e310, hx310_0, hx310_1, hx310_2, hx310_3⟩ := Qgz HR0.out x10_1 p310 q310
       cases e310
       replace hx310_0 := qq_h HB.out hx310_0
       replace hx310_1 := qq_h HB.out hx310_1
       replace hx310_2 := qq_h HB.out hx310_2
       replace hx310_3 := qq_h HB.out hx310_3
       replace p310 := eq_true p310
       replace q310 := eq_true q310
       go_wp2_with (first | ((with_reducible refine Qer (N := 4) rfl ?_); refine qq_e 4 #[.bool false, .int .u64 0, .string (⟨#[]⟩ : ByteArray), .string (⟨#[]⟩ : ByteArray)] 39 ?_; intro gb311 hg w7 hbox hb; have n0_ := QA (Qem qq_b hb); have n1_ := QA (hbox); have n2_ := QA ((qq_s hg : w.heap.size ≤ gb311)); have n3_ := QA ((qq_s hg : w.heap.size ≤ gb311)); clear HB; have HB := n0_; have BK311 := n1_; have GW311 := n2_; have GE311 := n3_; clear n0_ n1_ n2_ n3_; clear hb hbox hg; have hcz8_0 := qq_c (.bool false) BK311.out 0 rfl; have hcz8_1 := qq_c (.int .u64 0) BK311.out 1 rfl; have hcz8_2 := qq_c (.string (⟨#[]⟩ : ByteArray)) BK311.out 2 rfl; have hcz8_3 := qq_c (.string (⟨#[]⟩ : ByteArray)) BK311.out 3 rfl; have hfz8_0 := Qdt BK311.out 0; have hfz8_1 := Qdt BK311.out 1; have hfz8_2 := Qdt BK311.out 2; have hfz8_3 := Qdt BK311.out 3) | (go_at_call 23; (with_reducible refine (Qbc.calls k1 ((Qgy l0 x10_1).f0) ((Qgy l0 x10_1).f1) ((Qgy l0 x10_1).f2) ((Qgy l0 x10_1).f3) t312 _ A5.out).mono ?_); rintro e w9 ⟨rfl, hb⟩; have n0_ := QA (Qeb (g := gb311) (o := .cells #[.bool ((Qgy l0 x10_1).f0), .int .u64 ((Qgy l0 x10_1).f1), .string ((Qgy l0 x10_1).f2), .string ((Qgy l0 x10_1).f3)] 39 (0, 0)) (by (with_reducible repeat (first | apply Qea | apply Qdz | apply Qdy)); refine Qep (cs := #[.bool ((Qgy l0 x10_1).f0), .int .u64 ((Qgy l0 x10_1).f1), .string ((Qgy l0 x10_1).f2), .string (⟨#[]⟩ : ByteArray)]) ?_ 3 _ rfl; (with_reducible repeat (first | apply Qea | apply Qdz | apply Qdy)); refine Qep (cs := #[.bool ((Qgy l0 x10_1).f0), .int .u64 ((Qgy l0 x10_1).f1), .string (⟨#[]⟩ : ByteArray), .string (⟨#[]⟩ : ByteArray)]) ?_ 2 _ rfl; (with_reducible repeat (first | apply Qea | apply Qdz | apply Qdy)); refine Qep (cs := #[.bool ((Qgy l0 x10_1).f0), .int .u64 0, .string (⟨#[]⟩ : ByteArray), .string (⟨#[]⟩ : ByteArray)]) ?_ 1 _ rfl; (with_reducible repeat (first | apply Qea | apply Qdz | apply Qdy)); refine Qep (cs := #[.bool false, .int .u64 0, .string (⟨#[]⟩ : ByteArray), .string (⟨#[]⟩ : ByteArray)]) ?_ 0 _ rfl; (with_reducible repeat (first | apply Qea | apply Qdz | apply Qdy)); exact BK311.out) hb); have n1_ := QA (Qem qq_b hb); clear BK311; clear HB; have BK311 := n0_; have HB := n1_; clear n0_ n1_; (try clear hb); (try clear hb2); (try clear hk); (try clear hi)))
       go_roundg k1
       case measure => have := HK1.out; omega
       case rel => exact ⟨(wrap64 (x10_1 + 1)), qq_6, H', ⟨by have := HK1.out; omega⟩, ⟨qq_b⟩⟩
      ·rw [if_neg c6] at H
       have c6b0 : (t312 == 0) = false := beq_eq_false_iff_ne.mpr c6
       have c6b1 : (t312 != 0) = true := bne_iff_ne.mpr c6
       obtain rfl := Option.some.inj H
       have p310 : 0 ≤ (x10_1 : Int) := of_decide_eq_true qq_5
       have q310 : x10_1 < (l0.length : Int) := of_decide_eq_true qq_5
       obtain ⟨ad310, e310, hx310_0, hx310_1, hx310_2, hx310_3⟩ := Qgz HR0.out x10_1 p310 q310
       cases e310
       replace hx310_0 := qq_h HB.out hx310_0
       replace hx310_1 := qq_h HB.out hx310_1
       replace hx310_2 := qq_h HB.out hx310_2
       replace hx310_3 := qq_h HB.out hx310_3
       replace p310 := eq_true p310
       replace q310 := eq_true q310
       go_wp2_with (first | ((with_reducible refine Qer (N := 4) rfl ?_); refine qq_e 4 #[.bool false, .int .u64 0, .string (⟨#[]⟩ : ByteArray), .string (⟨#[]⟩ : ByteArray)] 39 ?_; intro gb311 hg w10 hbox hb; have n0_ := QA (Qem qq_b hb); have n1_ := QA (hbox); have n2_ := QA ((qq_s hg : w.heap.size ≤ gb311)); have n3_ := QA ((qq_s hg : w.heap.size ≤ gb311)); clear HB; have HB := n0_; have BK311 := n1_; have GW311 := n2_; have GE311 := n3_; clear n0_ n1_ n2_ n3_; clear hb hbox hg; have hcz11_0 := qq_c (.bool false) BK311.out 0 rfl; have hcz11_1 := qq_c (.int .u64 0) BK311.out 1 rfl; have hcz11_2 := qq_c (.string (⟨#[]⟩ : ByteArray)) BK311.out 2 rfl; have hcz11_3 := qq_c (.string (⟨#[]⟩ : ByteArray)) BK311.out 3 rfl; have hfz11_0 := Qdt BK311.out 0; have hfz11_1 := Qdt BK311.out 1; have hfz11_2 := Qdt BK311.out 2; have hfz11_3 := Qdt BK311.out 3) | (go_at_call 23; (with_reducible refine (Qbc.calls k1 ((Qgy l0 x10_1).f0) ((Qgy l0 x10_1).f1) ((Qgy l0 x10_1).f2) ((Qgy l0 x10_1).f3) t312 _ A5.out).mono ?_); rintro e w12 ⟨rfl, hb⟩; have n0_ := QA (Qeb (g := gb311) (o := .cells #[.bool ((Qgy l0 x10_1).f0), .int .u64 ((Qgy l0 x10_1).f1), .string ((Qgy l0 x10_1).f2), .string ((Qgy l0 x10_1).f3)] 39 (0, 0)) (by (with_reducible repeat (first | apply Qea | apply Qdz | apply Qdy)); refine Qep (cs := #[.bool ((Qgy l0 x10_1).f0), .int .u64 ((Qgy l0 x10_1).f1), .string ((Qgy l0 x10_1).f2), .string (⟨#[]⟩ : ByteArray)]) ?_ 3 _ rfl; (with_reducible repeat (first | apply Qea | apply Qdz | apply Qdy)); refine Qep (cs := #[.bool ((Qgy l0 x10_1).f0), .int .u64 ((Qgy l0 x10_1).f1), .string (⟨#[]⟩ : ByteArray), .string (⟨#[]⟩ : ByteArray)]) ?_ 2 _ rfl; (with_reducible repeat (first | apply Qea | apply Qdz | apply Qdy)); refine Qep (cs := #[.bool ((Qgy l0 x10_1).f0), .int .u64 0, .string (⟨#[]⟩ : ByteArray), .string (⟨#[]⟩ : ByteArray)]) ?_ 1 _ rfl; (with_reducible repeat (first | apply Qea | apply Qdz | apply Qdy)); refine Qep (cs := #[.bool false, .int .u64 0, .string (⟨#[]⟩ : ByteArray), .string (⟨#[]⟩ : ByteArray)]) ?_ 0 _ rfl; (with_reducible repeat (first | apply Qea | apply Qdz | apply Qdy)); exact BK311.out) hb); have n1_ := QA (Qem qq_b hb); clear BK311; clear HB; have BK311 := n0_; have HB := n1_; clear n0_ n1_; (try clear hb); (try clear hb2); (try clear hk); (try clear hi)))
       go_ret
       exact ⟨by first | rfl | (simp [Qgu, Qgv] <;> rfl) | (simp [*, Qgu, Qgv] <;> rfl), qq_b⟩
     ·rw [if_neg c4] at H
      exact absurd H (by simp)
    ·rw [if_neg c3] at H
     exact absurd H (by simp)
   ·rw [if_neg c2] at H
    have c2b0 : decide (x10_1 < (l0.length : Int)) = false := decide_eq_false c2
    clear c2
    have H' := QA H
    clear H
    go_wp2
    repeat (go_quiet (fail); try go_wp2)
    go_loopg [22] k1 (fun kq v22 w' => ∃ (x22_2 : Int), v22 = .int .i64 x22_2 ∧ Aside0 (Qbd.l1 kq l0 l0 (l0.length : Int) x22_2 = some r) ∧ Aside0 (kq ≤ k1) ∧ Aside0 (Below w.heap.size w w'))
    case atStart => exact ⟨(0), qq_6, H', ⟨Nat.le_refl _⟩, ⟨qq_b⟩⟩
    case round =>
     clear H'
     try clear c2
     try clear c2b0
     try clear c3
     try clear c3b0
     try clear c4
     try clear c4b0
     try clear c6
     try clear c6b0
     try clear c6b1
     try clear hcz11_0
     try clear hcz11_1
     try clear hcz11_2
     try clear hcz11_3
     try clear hcz8_0
     try clear hcz8_1
     try clear hcz8_2
     try clear hcz8_3
     try clear hfz11_0
     try clear hfz11_1
     try clear hfz11_2
     try clear hfz11_3
     try clear hfz8_0
     try clear hfz8_1
     try clear hfz8_2
     try clear hfz8_3
     try clear hx310_0
     try clear hx310_1
     try clear hx310_2
     try clear hx310_3
     try clear p310
     try clear q310
     obtain ⟨x22_2, rfl, HA, HK2, HB⟩ := hrel
     cases gk with
     | zero => exact absurd HA.out (by simp [Qbd.l1])
     | succ k2 =>
      have H := HA.out
      clear HA
      simp only [Qbd.l1] at H
      by_cases c13 : x22_2 < (l0.length : Int)
      ·rw [if_pos c13] at H
       have c13b0 : decide (x22_2 < (l0.length : Int)) = true := decide_eq_true c13
       clear c13
       by_cases c14 : 0 ≤ x22_2
       ·rw [if_pos c14] at H
        have c14b0 : decide (0 ≤ x22_2) = true := decide_eq_true c14
        clear c14
        by_cases c15 : x22_2 < (l0.length : Int)
        ·rw [if_pos c15] at H
         have c15b0 : decide (x22_2 < (l0.length : Int)) = true := decide_eq_true c15
         clear c15
         by_cases c16 : x22_2 > 0
         ·rw [if_pos c16] at H
          have c16b0 : decide (0 < x22_2) = true := decide_eq_true c16
          clear c16
          obtain ⟨ji17, hji17⟩ : ∃ j_ : Int, (wrap64 (x22_2 - 1)) = j_ := ⟨_, rfl⟩
          replace H : (if 0 ≤ (ji17) then (if (ji17) < (l0.length : Int) then (if ((Qgy l0 x22_2).f1) ≤ ((Qgy l0 (ji17)).f1) then (some 8) else (Qbd.l1 k2 l0 l0 (l0.length : Int) (wrap64 (x22_2 + 1)))) else (none)) else (none)) = some r := by first | (rw [hji17] at H; exact H) | (simp only [hji17] at H ⊢; exact H)
          have hji17w : (IntKind.i64.wrap (x22_2 - 1)) = ji17 := (Qfi _).trans hji17
          by_cases c18 : 0 ≤ (ji17)
          ·rw [if_pos c18] at H
           have c18b0 : decide (0 ≤ (ji17)) = true := decide_eq_true c18
           clear c18
           by_cases c19 : (ji17) < (l0.length : Int)
           ·rw [if_pos c19] at H
            have c19b0 : decide ((ji17) < (l0.length : Int)) = true := decide_eq_true c19
            clear c19
            by_cases c20 : ((Qgy l0 x22_2).f1) ≤ ((Qgy l0 (ji17)).f1)
            ·rw [if_pos c20] at H
             have c20b0 : decide (((Qgy l0 x22_2).f1) ≤ ((Qgy l0 (ji17)).f1)) = true := decide_eq_true c20
             clear c20
             obtain rfl := Option.some.inj H
             have p313 : 0 ≤ (x22_2 : Int) := of_decide_eq_true qq_5
             have q313 : x22_2 < (l0.length : Int) := of_decide_eq_true qq_5
             obtain ⟨ad313, e313, hx313_0, hx313_1, hx313_2, hx313_3⟩ := Qgz HR0.out x22_2 p313 q313
             cases e313
             replace hx313_0 := qq_h HB.out hx313_0
             replace hx313_1 := qq_h HB.out hx313_1
             replace hx313_2 := qq_h HB.out hx313_2
             replace hx313_3 := qq_h HB.out hx313_3
             replace p313 := eq_true p313
             replace q313 := eq_true q313
             go_wp2_with (first | ((with_reducible refine Qer (N := 7) rfl ?_); refine qq_e 7 #[.bool false, .int .u64 0, .string (⟨#[]⟩ : ByteArray), .string (⟨#[]⟩ : ByteArray)] 39 ?_; intro gb314 hg w21 hbox hb; have n0_ := QA (Qem qq_b hb); have n1_ := QA (hbox); have n2_ := QA ((qq_s hg : w.heap.size ≤ gb314)); have n3_ := QA ((qq_s hg : w.heap.size ≤ gb314)); clear HB; have HB := n0_; have BK314 := n1_; have GW314 := n2_; have GE314 := n3_; clear n0_ n1_ n2_ n3_; clear hb hbox hg; have hcz22_0 := qq_c (.bool false) BK314.out 0 rfl; have hcz22_1 := qq_c (.int .u64 0) BK314.out 1 rfl; have hcz22_2 := qq_c (.string (⟨#[]⟩ : ByteArray)) BK314.out 2 rfl; have hcz22_3 := qq_c (.string (⟨#[]⟩ : ByteArray)) BK314.out 3 rfl; have hfz22_0 := Qdt BK314.out 0; have hfz22_1 := Qdt BK314.out 1; have hfz22_2 := Qdt BK314.out 2; have hfz22_3 := Qdt BK314.out 3; have p315 : 0 ≤ ((ji17) : Int) := of_decide_eq_true qq_5; have q315 : (ji17) < (l0.length : Int) := of_decide_eq_true qq_5; obtain ⟨ad315, e315, hx315_0, hx315_1, hx315_2, hx315_3⟩ := Qgz HR0.out (ji17) p315 q315; obtain rfl : ad313 = ad315 := (by injection e315); have hn315_0 : ad313.block ≠ gb314 := Nat.ne_of_lt (Nat.lt_of_lt_of_le qq_11 GW314.out); have hn315_1 : ad313.block ≠ gb314 := Nat.ne_of_lt (Nat.lt_of_lt_of_le qq_11 GW314.out); have hn315_2 : ad313.block ≠ gb314 := Nat.ne_of_lt (Nat.lt_of_lt_of_le qq_11 GW314.out); have hn315_3 : ad313.block ≠ gb314 := Nat.ne_of_lt (Nat.lt_of_lt_of_le qq_11 GW314.out); replace hx315_0 := qq_h HB.out hx315_0; replace hx315_1 := qq_h HB.out hx315_1; replace hx315_2 := qq_h HB.out hx315_2; replace hx315_3 := qq_h HB.out hx315_3; replace hx315_0 := (Qeo (p := ⟨gb314, 0, none⟩) qq_3 (.bool ((Qgy l0 x22_2).f0))).trans hx315_0; replace hx315_1 := (Qeo (p := ⟨gb314, 0, none⟩) qq_3 (.bool ((Qgy l0 x22_2).f0))).trans hx315_1; replace hx315_2 := (Qeo (p := ⟨gb314, 0, none⟩) qq_3 (.bool ((Qgy l0 x22_2).f0))).trans hx315_2; replace hx315_3 := (Qeo (p := ⟨gb314, 0, none⟩) qq_3 (.bool ((Qgy l0 x22_2).f0))).trans hx315_3; replace hx315_0 := (Qeo (p := ⟨gb314, 1, none⟩) qq_3 (.int .u64 ((Qgy l0 x22_2).f1))).trans hx315_0; replace hx315_1 := (Qeo (p := ⟨gb314, 1, none⟩) qq_3 (.int .u64 ((Qgy l0 x22_2).f1))).trans hx315_1; replace hx315_2 := (Qeo (p := ⟨gb314, 1, none⟩) qq_3 (.int .u64 ((Qgy l0 x22_2).f1))).trans hx315_2; replace hx315_3 := (Qeo (p := ⟨gb314, 1, none⟩) qq_3 (.int .u64 ((Qgy l0 x22_2).f1))).trans hx315_3; replace hx315_0 := (Qeo (p := ⟨gb314, 2, none⟩) qq_3 (.string ((Qgy l0 x22_2).f2))).trans hx315_0; replace hx315_1 := (Qeo (p := ⟨gb314, 2, none⟩) qq_3 (.string ((Qgy l0 x22_2).f2))).trans hx315_1; replace hx315_2 := (Qeo (p := ⟨gb314, 2, none⟩) qq_3 (.string ((Qgy l0 x22_2).f2))).trans hx315_2; replace hx315_3 := (Qeo (p := ⟨gb314, 2, none⟩) qq_3 (.string ((Qgy l0 x22_2).f2))).trans hx315_3; replace hx315_0 := (Qeo (p := ⟨gb314, 3, none⟩) qq_3 (.string ((Qgy l0 x22_2).f3))).trans hx315_0; replace hx315_1 := (Qeo (p := ⟨gb314, 3, none⟩) qq_3 (.string ((Qgy l0 x22_2).f3))).trans hx315_1; replace hx315_2 := (Qeo (p := ⟨gb314, 3, none⟩) qq_3 (.string ((Qgy l0 x22_2).f3))).trans hx315_2; replace hx315_3 := (Qeo (p := ⟨gb314, 3, none⟩) qq_3 (.string ((Qgy l0 x22_2).f3))).trans hx315_3; (try have hy315_0 := fun (n_ : Nat) => (show ((((((w21.drewN n_).setCell ⟨gb314, 0, none⟩ (.bool ((Qgy l0 x22_2).f0))).setCell ⟨gb314, 1, none⟩ (.int .u64 ((Qgy l0 x22_2).f1))).setCell ⟨gb314, 2, none⟩ (.string ((Qgy l0 x22_2).f2))).setCell ⟨gb314, 3, none⟩ (.string ((Qgy l0 x22_2).f3)))).cell? _ = some _ from hx315_0)); (try have hy315_1 := fun (n_ : Nat) => (show ((((((w21.drewN n_).setCell ⟨gb314, 0, none⟩ (.bool ((Qgy l0 x22_2).f0))).setCell ⟨gb314, 1, none⟩ (.int .u64 ((Qgy l0 x22_2).f1))).setCell ⟨gb314, 2, none⟩ (.string ((Qgy l0 x22_2).f2))).setCell ⟨gb314, 3, none⟩ (.string ((Qgy l0 x22_2).f3)))).cell? _ = some _ from hx315_1)); (try have hy315_2 := fun (n_ : Nat) => (show ((((((w21.drewN n_).setCell ⟨gb314, 0, none⟩ (.bool ((Qgy l0 x22_2).f0))).setCell ⟨gb314, 1, none⟩ (.int .u64 ((Qgy l0 x22_2).f1))).setCell ⟨gb314, 2, none⟩ (.string ((Qgy l0 x22_2).f2))).setCell ⟨gb314, 3, none⟩ (.string ((Qgy l0 x22_2).f3)))).cell? _ = some _ from hx315_2)); (try have hy315_3 := fun (n_ : Nat) => (show ((((((w21.drewN n_).setCell ⟨gb314, 0, none⟩ (.bool ((Qgy l0 x22_2).f0))).setCell ⟨gb314, 1, none⟩ (.int .u64 ((Qgy l0 x22_2).f1))).setCell ⟨gb314, 2, none⟩ (.string ((Qgy l0 x22_2).f2))).setCell ⟨gb314, 3, none⟩ (.string ((Qgy l0 x22_2).f3)))).cell? _ = some _ from hx315_3)); clear hn315_0; clear hn315_1; clear hn315_2; clear hn315_3; replace p315 := eq_true p315; replace q315 := eq_true q315))
             repeat (go_quiet (first | ((with_reducible refine Qer (N := 7) rfl ?_); refine qq_e 7 #[.bool false, .int .u64 0, .string (⟨#[]⟩ : ByteArray), .string (⟨#[]⟩ : ByteArray)] 39 ?_; intro gb314 hg w21 hbox hb; have n0_ := QA (Qem qq_b hb); have n1_ := QA (hbox); have n2_ := QA ((qq_s hg : w.heap.size ≤ gb314)); have n3_ := QA ((qq_s hg : w.heap.size ≤ gb314)); clear HB; have HB := n0_; have BK314 := n1_; have GW314 := n2_; have GE314 := n3_; clear n0_ n1_ n2_ n3_; clear hb hbox hg; have hcz22_0 := qq_c (.bool false) BK314.out 0 rfl; have hcz22_1 := qq_c (.int .u64 0) BK314.out 1 rfl; have hcz22_2 := qq_c (.string (⟨#[]⟩ : ByteArray)) BK314.out 2 rfl; have hcz22_3 := qq_c (.string (⟨#[]⟩ : ByteArray)) BK314.out 3 rfl; have hfz22_0 := Qdt BK314.out 0; have hfz22_1 := Qdt BK314.out 1; have hfz22_2 := Qdt BK314.out 2; have hfz22_3 := Qdt BK314.out 3; have p315 : 0 ≤ ((ji17) : Int) := of_decide_eq_true qq_5; have q315 : (ji17) < (l0.length : Int) := of_decide_eq_true qq_5; obtain ⟨ad315, e315, hx315_0, hx315_1, hx315_2, hx315_3⟩ := Qgz HR0.out (ji17) p315 q315; obtain rfl : ad313 = ad315 := (by injection e315); have hn315_0 : ad313.block ≠ gb314 := Nat.ne_of_lt (Nat.lt_of_lt_of_le qq_11 GW314.out); have hn315_1 : ad313.block ≠ gb314 := Nat.ne_of_lt (Nat.lt_of_lt_of_le qq_11 GW314.out); have hn315_2 : ad313.block ≠ gb314 := Nat.ne_of_lt (Nat.lt_of_lt_of_le qq_11 GW314.out); have hn315_3 : ad313.block ≠ gb314 := Nat.ne_of_lt (Nat.lt_of_lt_of_le qq_11 GW314.out); replace hx315_0 := qq_h HB.out hx315_0; replace hx315_1 := qq_h HB.out hx315_1; replace hx315_2 := qq_h HB.out hx315_2; replace hx315_3 := qq_h HB.out hx315_3; replace hx315_0 := (Qeo (p := ⟨gb314, 0, none⟩) qq_3 (.bool ((Qgy l0 x22_2).f0))).trans hx315_0; replace hx315_1 := (Qeo (p := ⟨gb314, 0, none⟩) qq_3 (.bool ((Qgy l0 x22_2).f0))).trans hx315_1; replace hx315_2 := (Qeo (p := ⟨gb314, 0, none⟩) qq_3 (.bool ((Qgy l0 x22_2).f0))).trans hx315_2; replace hx315_3 := (Qeo (p := ⟨gb314, 0, none⟩) qq_3 (.bool ((Qgy l0 x22_2).f0))).trans hx315_3; replace hx315_0 := (Qeo (p := ⟨gb314, 1, none⟩) qq_3 (.int .u64 ((Qgy l0 x22_2).f1))).trans hx315_0; replace hx315_1 := (Qeo (p := ⟨gb314, 1, none⟩) qq_3 (.int .u64 ((Qgy l0 x22_2).f1))).trans hx315_1; replace hx315_2 := (Qeo (p := ⟨gb314, 1, none⟩) qq_3 (.int .u64 ((Qgy l0 x22_2).f1))).trans hx315_2; replace hx315_3 := (Qeo (p := ⟨gb314, 1, none⟩) qq_3 (.int .u64 ((Qgy l0 x22_2).f1))).trans hx315_3; replace hx315_0 := (Qeo (p := ⟨gb314, 2, none⟩) qq_3 (.string ((Qgy l0 x22_2).f2))).trans hx315_0; replace hx315_1 := (Qeo (p := ⟨gb314, 2, none⟩) qq_3 (.string ((Qgy l0 x22_2).f2))).trans hx315_1; replace hx315_2 := (Qeo (p := ⟨gb314, 2, none⟩) qq_3 (.string ((Qgy l0 x22_2).f2))).trans hx315_2; replace hx315_3 := (Qeo (p := ⟨gb314, 2, none⟩) qq_3 (.string ((Qgy l0 x22_2).f2))).trans hx315_3; replace hx315_0 := (Qeo (p := ⟨gb314, 3, none⟩) qq_3 (.string ((Qgy l0 x22_2).f3))).trans hx315_0; replace hx315_1 := (Qeo (p := ⟨gb314, 3, none⟩) qq_3 (.string ((Qgy l0 x22_2).f3))).trans hx315_1; replace hx315_2 := (Qeo (p := ⟨gb314, 3, none⟩) qq_3 (.string ((Qgy l0 x22_2).f3))).trans hx315_2; replace hx315_3 := (Qeo (p := ⟨gb314, 3, none⟩) qq_3 (.string ((Qgy l0 x22_2).f3))).trans hx315_3; (try have hy315_0 := fun (n_ : Nat) => (show ((((((w21.drewN n_).setCell ⟨gb314, 0, none⟩ (.bool ((Qgy l0 x22_2).f0))).setCell ⟨gb314, 1, none⟩ (.int .u64 ((Qgy l0 x22_2).f1))).setCell ⟨gb314, 2, none⟩ (.string ((Qgy l0 x22_2).f2))).setCell ⟨gb314, 3, none⟩ (.string ((Qgy l0 x22_2).f3)))).cell? _ = some _ from hx315_0)); (try have hy315_1 := fun (n_ : Nat) => (show ((((((w21.drewN n_).setCell ⟨gb314, 0, none⟩ (.bool ((Qgy l0 x22_2).f0))).setCell ⟨gb314, 1, none⟩ (.int .u64 ((Qgy l0 x22_2).f1))).setCell ⟨gb314, 2, none⟩ (.string ((Qgy l0 x22_2).f2))).setCell ⟨gb314, 3, none⟩ (.string ((Qgy l0 x22_2).f3)))).cell? _ = some _ from hx315_1)); (try have hy315_2 := fun (n_ : Nat) => (show ((((((w21.drewN n_).setCell ⟨gb314, 0, none⟩ (.bool ((Qgy l0 x22_2).f0))).setCell ⟨gb314, 1, none⟩ (.int .u64 ((Qgy l0 x22_2).f1))).setCell ⟨gb314, 2, none⟩ (.string ((Qgy l0 x22_2).f2))).setCell ⟨gb314, 3, none⟩ (.string ((Qgy l0 x22_2).f3)))).cell? _ = some _ from hx315_2)); (try have hy315_3 := fun (n_ : Nat) => (show ((((((w21.drewN n_).setCell ⟨gb314, 0, none⟩ (.bool ((Qgy l0 x22_2).f0))).setCell ⟨gb314, 1, none⟩ (.int .u64 ((Qgy l0 x22_2).f1))).setCell ⟨gb314, 2, none⟩ (.string ((Qgy l0 x22_2).f2))).setCell ⟨gb314, 3, none⟩ (.string ((Qgy l0 x22_2).f3)))).cell? _ = some _ from hx315_3)); clear hn315_0; clear hn315_1; clear hn315_2; clear hn315_3; replace p315 := eq_true p315; replace q315 := eq_true q315)); try go_wp2_with (first | ((with_reducible refine Qer (N := 7) rfl ?_); refine qq_e 7 #[.bool false, .int .u64 0, .string (⟨#[]⟩ : ByteArray), .string (⟨#[]⟩ : ByteArray)] 39 ?_; intro gb314 hg w21 hbox hb; have n0_ := QA (Qem qq_b hb); have n1_ := QA (hbox); have n2_ := QA ((qq_s hg : w.heap.size ≤ gb314)); have n3_ := QA ((qq_s hg : w.heap.size ≤ gb314)); clear HB; have HB := n0_; have BK314 := n1_; have GW314 := n2_; have GE314 := n3_; clear n0_ n1_ n2_ n3_; clear hb hbox hg; have hcz22_0 := qq_c (.bool false) BK314.out 0 rfl; have hcz22_1 := qq_c (.int .u64 0) BK314.out 1 rfl; have hcz22_2 := qq_c (.string (⟨#[]⟩ : ByteArray)) BK314.out 2 rfl; have hcz22_3 := qq_c (.string (⟨#[]⟩ : ByteArray)) BK314.out 3 rfl; have hfz22_0 := Qdt BK314.out 0; have hfz22_1 := Qdt BK314.out 1; have hfz22_2 := Qdt BK314.out 2; have hfz22_3 := Qdt BK314.out 3; have p315 : 0 ≤ ((ji17) : Int) := of_decide_eq_true qq_5; have q315 : (ji17) < (l0.length : Int) := of_decide_eq_true qq_5; obtain ⟨ad315, e315, hx315_0, hx315_1, hx315_2, hx315_3⟩ := Qgz HR0.out (ji17) p315 q315; obtain rfl : ad313 = ad315 := (by injection e315); have hn315_0 : ad313.block ≠ gb314 := Nat.ne_of_lt (Nat.lt_of_lt_of_le qq_11 GW314.out); have hn315_1 : ad313.block ≠ gb314 := Nat.ne_of_lt (Nat.lt_of_lt_of_le qq_11 GW314.out); have hn315_2 : ad313.block ≠ gb314 := Nat.ne_of_lt (Nat.lt_of_lt_of_le qq_11 GW314.out); have hn315_3 : ad313.block ≠ gb314 := Nat.ne_of_lt (Nat.lt_of_lt_of_le qq_11 GW314.out); replace hx315_0 := qq_h HB.out hx315_0; replace hx315_1 := qq_h HB.out hx315_1; replace hx315_2 := qq_h HB.out hx315_2; replace hx315_3 := qq_h HB.out hx315_3; replace hx315_0 := (Qeo (p := ⟨gb314, 0, none⟩) qq_3 (.bool ((Qgy l0 x22_2).f0))).trans hx315_0; replace hx315_1 := (Qeo (p := ⟨gb314, 0, none⟩) qq_3 (.bool ((Qgy l0 x22_2).f0))).trans hx315_1; replace hx315_2 := (Qeo (p := ⟨gb314, 0, none⟩) qq_3 (.bool ((Qgy l0 x22_2).f0))).trans hx315_2; replace hx315_3 := (Qeo (p := ⟨gb314, 0, none⟩) qq_3 (.bool ((Qgy l0 x22_2).f0))).trans hx315_3; replace hx315_0 := (Qeo (p := ⟨gb314, 1, none⟩) qq_3 (.int .u64 ((Qgy l0 x22_2).f1))).trans hx315_0; replace hx315_1 := (Qeo (p := ⟨gb314, 1, none⟩) qq_3 (.int .u64 ((Qgy l0 x22_2).f1))).trans hx315_1; replace hx315_2 := (Qeo (p := ⟨gb314, 1, none⟩) qq_3 (.int .u64 ((Qgy l0 x22_2).f1))).trans hx315_2; replace hx315_3 := (Qeo (p := ⟨gb314, 1, none⟩) qq_3 (.int .u64 ((Qgy l0 x22_2).f1))).trans hx315_3; replace hx315_0 := (Qeo (p := ⟨gb314, 2, none⟩) qq_3 (.string ((Qgy l0 x22_2).f2))).trans hx315_0; replace hx315_1 := (Qeo (p := ⟨gb314, 2, none⟩) qq_3 (.string ((Qgy l0 x22_2).f2))).trans hx315_1; replace hx315_2 := (Qeo (p := ⟨gb314, 2, none⟩) qq_3 (.string ((Qgy l0 x22_2).f2))).trans hx315_2; replace hx315_3 := (Qeo (p := ⟨gb314, 2, none⟩) qq_3 (.string ((Qgy l0 x22_2).f2))).trans hx315_3; replace hx315_0 := (Qeo (p := ⟨gb314, 3, none⟩) qq_3 (.string ((Qgy l0 x22_2).f3))).trans hx315_0; replace hx315_1 := (Qeo (p := ⟨gb314, 3, none⟩) qq_3 (.string ((Qgy l0 x22_2).f3))).trans hx315_1; replace hx315_2 := (Qeo (p := ⟨gb314, 3, none⟩) qq_3 (.string ((Qgy l0 x22_2).f3))).trans hx315_2; replace hx315_3 := (Qeo (p := ⟨gb314, 3, none⟩) qq_3 (.string ((Qgy l0 x22_2).f3))).trans hx315_3; (try have hy315_0 := fun (n_ : Nat) => (show ((((((w21.drewN n_).setCell ⟨gb314, 0, none⟩ (.bool ((Qgy l0 x22_2).f0))).setCell ⟨gb314, 1, none⟩ (.int .u64 ((Qgy l0 x22_2).f1))).setCell ⟨gb314, 2, none⟩ (.string ((Qgy l0 x22_2).f2))).setCell ⟨gb314, 3, none⟩ (.string ((Qgy l0 x22_2).f3)))).cell? _ = some _ from hx315_0)); (try have hy315_1 := fun (n_ : Nat) => (show ((((((w21.drewN n_).setCell ⟨gb314, 0, none⟩ (.bool ((Qgy l0 x22_2).f0))).setCell ⟨gb314, 1, none⟩ (.int .u64 ((Qgy l0 x22_2).f1))).setCell ⟨gb314, 2, none⟩ (.string ((Qgy l0 x22_2).f2))).setCell ⟨gb314, 3, none⟩ (.string ((Qgy l0 x22_2).f3)))).cell? _ = some _ from hx315_1)); (try have hy315_2 := fun (n_ : Nat) => (show ((((((w21.drewN n_).setCell ⟨gb314, 0, none⟩ (.bool ((Qgy l0 x22_2).f0))).setCell ⟨gb314, 1, none⟩ (.int .u64 ((Qgy l0 x22_2).f1))).setCell ⟨gb314, 2, none⟩ (.string ((Qgy l0 x22_2).f2))).setCell ⟨gb314, 3, none⟩ (.string ((Qgy l0 x22_2).f3)))).cell? _ = some _ from hx315_2)); (try have hy315_3 := fun (n_ : Nat) => (show ((((((w21.drewN n_).setCell ⟨gb314, 0, none⟩ (.bool ((Qgy l0 x22_2).f0))).setCell ⟨gb314, 1, none⟩ (.int .u64 ((Qgy l0 x22_2).f1))).setCell ⟨gb314, 2, none⟩ (.string ((Qgy l0 x22_2).f2))).setCell ⟨gb314, 3, none⟩ (.string ((Qgy l0 x22_2).f3)))).cell? _ = some _ from hx315_3)); clear hn315_0; clear hn315_1; clear hn315_2; clear hn315_3; replace p315 := eq_true p315; replace q315 := eq_true q315)))
             go_ret
             exact ⟨by first | rfl | (simp [Qgu, Qgv] <;> rfl) | (simp only [← hji17]; first | rfl | (simp [Qgu, Qgv] <;> rfl)) | (simp [*, Qgu, Qgv] <;> rfl), qq_b⟩
            ·rw [if_neg c20] at H
             have c20b0 : decide (((Qgy l0 x22_2).f1) ≤ ((Qgy l0 (ji17)).f1)) = false := decide_eq_false c20
             clear c20
             have H' := QA H
             clear H
             have p313 : 0 ≤ (x22_2 : Int) := of_decide_eq_true qq_5
             have q313 : x22_2 < (l0.length : Int) := of_decide_eq_true qq_5
             obtain ⟨ad313, e313, hx313_0, hx313_1, hx313_2, hx313_3⟩ := Qgz HR0.out x22_2 p313 q313
             cases e313
             replace hx313_0 := qq_h HB.out hx313_0
             replace hx313_1 := qq_h HB.out hx313_1
             replace hx313_2 := qq_h HB.out hx313_2
             replace hx313_3 := qq_h HB.out hx313_3
             replace p313 := eq_true p313
             replace q313 := eq_true q313
             go_wp2_with (first | ((with_reducible refine Qer (N := 7) rfl ?_); refine qq_e 7 #[.bool false, .int .u64 0, .string (⟨#[]⟩ : ByteArray), .string (⟨#[]⟩ : ByteArray)] 39 ?_; intro gb314 hg w23 hbox hb; have n0_ := QA (Qem qq_b hb); have n1_ := QA (hbox); have n2_ := QA ((qq_s hg : w.heap.size ≤ gb314)); have n3_ := QA ((qq_s hg : w.heap.size ≤ gb314)); clear HB; have HB := n0_; have BK314 := n1_; have GW314 := n2_; have GE314 := n3_; clear n0_ n1_ n2_ n3_; clear hb hbox hg; have hcz24_0 := qq_c (.bool false) BK314.out 0 rfl; have hcz24_1 := qq_c (.int .u64 0) BK314.out 1 rfl; have hcz24_2 := qq_c (.string (⟨#[]⟩ : ByteArray)) BK314.out 2 rfl; have hcz24_3 := qq_c (.string (⟨#[]⟩ : ByteArray)) BK314.out 3 rfl; have hfz24_0 := Qdt BK314.out 0; have hfz24_1 := Qdt BK314.out 1; have hfz24_2 := Qdt BK314.out 2; have hfz24_3 := Qdt BK314.out 3; have p315 : 0 ≤ ((ji17) : Int) := of_decide_eq_true qq_5; have q315 : (ji17) < (l0.length : Int) := of_decide_eq_true qq_5; obtain ⟨ad315, e315, hx315_0, hx315_1, hx315_2, hx315_3⟩ := Qgz HR0.out (ji17) p315 q315; obtain rfl : ad313 = ad315 := (by injection e315); have hn315_0 : ad313.block ≠ gb314 := Nat.ne_of_lt (Nat.lt_of_lt_of_le qq_11 GW314.out); have hn315_1 : ad313.block ≠ gb314 := Nat.ne_of_lt (Nat.lt_of_lt_of_le qq_11 GW314.out); have hn315_2 : ad313.block ≠ gb314 := Nat.ne_of_lt (Nat.lt_of_lt_of_le qq_11 GW314.out); have hn315_3 : ad313.block ≠ gb314 := Nat.ne_of_lt (Nat.lt_of_lt_of_le qq_11 GW314.out); replace hx315_0 := qq_h HB.out hx315_0; replace hx315_1 := qq_h HB.out hx315_1; replace hx315_2 := qq_h HB.out hx315_2; replace hx315_3 := qq_h HB.out hx315_3; replace hx315_0 := (Qeo (p := ⟨gb314, 0, none⟩) qq_3 (.bool ((Qgy l0 x22_2).f0))).trans hx315_0; replace hx315_1 := (Qeo (p := ⟨gb314, 0, none⟩) qq_3 (.bool ((Qgy l0 x22_2).f0))).trans hx315_1; replace hx315_2 := (Qeo (p := ⟨gb314, 0, none⟩) qq_3 (.bool ((Qgy l0 x22_2).f0))).trans hx315_2; replace hx315_3 := (Qeo (p := ⟨gb314, 0, none⟩) qq_3 (.bool ((Qgy l0 x22_2).f0))).trans hx315_3; replace hx315_0 := (Qeo (p := ⟨gb314, 1, none⟩) qq_3 (.int .u64 ((Qgy l0 x22_2).f1))).trans hx315_0; replace hx315_1 := (Qeo (p := ⟨gb314, 1, none⟩) qq_3 (.int .u64 ((Qgy l0 x22_2).f1))).trans hx315_1; replace hx315_2 := (Qeo (p := ⟨gb314, 1, none⟩) qq_3 (.int .u64 ((Qgy l0 x22_2).f1))).trans hx315_2; replace hx315_3 := (Qeo (p := ⟨gb314, 1, none⟩) qq_3 (.int .u64 ((Qgy l0 x22_2).f1))).trans hx315_3; replace hx315_0 := (Qeo (p := ⟨gb314, 2, none⟩) qq_3 (.string ((Qgy l0 x22_2).f2))).trans hx315_0; replace hx315_1 := (Qeo (p := ⟨gb314, 2, none⟩) qq_3 (.string ((Qgy l0 x22_2).f2))).trans hx315_1; replace hx315_2 := (Qeo (p := ⟨gb314, 2, none⟩) qq_3 (.string ((Qgy l0 x22_2).f2))).trans hx315_2; replace hx315_3 := (Qeo (p := ⟨gb314, 2, none⟩) qq_3 (.string ((Qgy l0 x22_2).f2))).trans hx315_3; replace hx315_0 := (Qeo (p := ⟨gb314, 3, none⟩) qq_3 (.string ((Qgy l0 x22_2).f3))).trans hx315_0; replace hx315_1 := (Qeo (p := ⟨gb314, 3, none⟩) qq_3 (.string ((Qgy l0 x22_2).f3))).trans hx315_1; replace hx315_2 := (Qeo (p := ⟨gb314, 3, none⟩) qq_3 (.string ((Qgy l0 x22_2).f3))).trans hx315_2; replace hx315_3 := (Qeo (p := ⟨gb314, 3, none⟩) qq_3 (.string ((Qgy l0 x22_2).f3))).trans hx315_3; (try have hy315_0 := fun (n_ : Nat) => (show ((((((w23.drewN n_).setCell ⟨gb314, 0, none⟩ (.bool ((Qgy l0 x22_2).f0))).setCell ⟨gb314, 1, none⟩ (.int .u64 ((Qgy l0 x22_2).f1))).setCell ⟨gb314, 2, none⟩ (.string ((Qgy l0 x22_2).f2))).setCell ⟨gb314, 3, none⟩ (.string ((Qgy l0 x22_2).f3)))).cell? _ = some _ from hx315_0)); (try have hy315_1 := fun (n_ : Nat) => (show ((((((w23.drewN n_).setCell ⟨gb314, 0, none⟩ (.bool ((Qgy l0 x22_2).f0))).setCell ⟨gb314, 1, none⟩ (.int .u64 ((Qgy l0 x22_2).f1))).setCell ⟨gb314, 2, none⟩ (.string ((Qgy l0 x22_2).f2))).setCell ⟨gb314, 3, none⟩ (.string ((Qgy l0 x22_2).f3)))).cell? _ = some _ from hx315_1)); (try have hy315_2 := fun (n_ : Nat) => (show ((((((w23.drewN n_).setCell ⟨gb314, 0, none⟩ (.bool ((Qgy l0 x22_2).f0))).setCell ⟨gb314, 1, none⟩ (.int .u64 ((Qgy l0 x22_2).f1))).setCell ⟨gb314, 2, none⟩ (.string ((Qgy l0 x22_2).f2))).setCell ⟨gb314, 3, none⟩ (.string ((Qgy l0 x22_2).f3)))).cell? _ = some _ from hx315_2)); (try have hy315_3 := fun (n_ : Nat) => (show ((((((w23.drewN n_).setCell ⟨gb314, 0, none⟩ (.bool ((Qgy l0 x22_2).f0))).setCell ⟨gb314, 1, none⟩ (.int .u64 ((Qgy l0 x22_2).f1))).setCell ⟨gb314, 2, none⟩ (.string ((Qgy l0 x22_2).f2))).setCell ⟨gb314, 3, none⟩ (.string ((Qgy l0 x22_2).f3)))).cell? _ = some _ from hx315_3)); clear hn315_0; clear hn315_1; clear hn315_2; clear hn315_3; replace p315 := eq_true p315; replace q315 := eq_true q315))
             repeat (go_quiet (first | ((with_reducible refine Qer (N := 7) rfl ?_); refine qq_e 7 #[.bool false, .int .u64 0, .string (⟨#[]⟩ : ByteArray), .string (⟨#[]⟩ : ByteArray)] 39 ?_; intro gb314 hg w23 hbox hb; have n0_ := QA (Qem qq_b hb); have n1_ := QA (hbox); have n2_ := QA ((qq_s hg : w.heap.size ≤ gb314)); have n3_ := QA ((qq_s hg : w.heap.size ≤ gb314)); clear HB; have HB := n0_; have BK314 := n1_; have GW314 := n2_; have GE314 := n3_; clear n0_ n1_ n2_ n3_; clear hb hbox hg; have hcz24_0 := qq_c (.bool false) BK314.out 0 rfl; have hcz24_1 := qq_c (.int .u64 0) BK314.out 1 rfl; have hcz24_2 := qq_c (.string (⟨#[]⟩ : ByteArray)) BK314.out 2 rfl; have hcz24_3 := qq_c (.string (⟨#[]⟩ : ByteArray)) BK314.out 3 rfl; have hfz24_0 := Qdt BK314.out 0; have hfz24_1 := Qdt BK314.out 1; have hfz24_2 := Qdt BK314.out 2; have hfz24_3 := Qdt BK314.out 3; have p315 : 0 ≤ ((ji17) : Int) := of_decide_eq_true qq_5; have q315 : (ji17) < (l0.length : Int) := of_decide_eq_true qq_5; obtain ⟨ad315, e315, hx315_0, hx315_1, hx315_2, hx315_3⟩ := Qgz HR0.out (ji17) p315 q315; obtain rfl : ad313 = ad315 := (by injection e315); have hn315_0 : ad313.block ≠ gb314 := Nat.ne_of_lt (Nat.lt_of_lt_of_le qq_11 GW314.out); have hn315_1 : ad313.block ≠ gb314 := Nat.ne_of_lt (Nat.lt_of_lt_of_le qq_11 GW314.out); have hn315_2 : ad313.block ≠ gb314 := Nat.ne_of_lt (Nat.lt_of_lt_of_le qq_11 GW314.out); have hn315_3 : ad313.block ≠ gb314 := Nat.ne_of_lt (Nat.lt_of_lt_of_le qq_11 GW314.out); replace hx315_0 := qq_h HB.out hx315_0; replace hx315_1 := qq_h HB.out hx315_1; replace hx315_2 := qq_h HB.out hx315_2; replace hx315_3 := qq_h HB.out hx315_3; replace hx315_0 := (Qeo (p := ⟨gb314, 0, none⟩) qq_3 (.bool ((Qgy l0 x22_2).f0))).trans hx315_0; replace hx315_1 := (Qeo (p := ⟨gb314, 0, none⟩) qq_3 (.bool ((Qgy l0 x22_2).f0))).trans hx315_1; replace hx315_2 := (Qeo (p := ⟨gb314, 0, none⟩) qq_3 (.bool ((Qgy l0 x22_2).f0))).trans hx315_2; replace hx315_3 := (Qeo (p := ⟨gb314, 0, none⟩) qq_3 (.bool ((Qgy l0 x22_2).f0))).trans hx315_3; replace hx315_0 := (Qeo (p := ⟨gb314, 1, none⟩) qq_3 (.int .u64 ((Qgy l0 x22_2).f1))).trans hx315_0; replace hx315_1 := (Qeo (p := ⟨gb314, 1, none⟩) qq_3 (.int .u64 ((Qgy l0 x22_2).f1))).trans hx315_1; replace hx315_2 := (Qeo (p := ⟨gb314, 1, none⟩) qq_3 (.int .u64 ((Qgy l0 x22_2).f1))).trans hx315_2; replace hx315_3 := (Qeo (p := ⟨gb314, 1, none⟩) qq_3 (.int .u64 ((Qgy l0 x22_2).f1))).trans hx315_3; replace hx315_0 := (Qeo (p := ⟨gb314, 2, none⟩) qq_3 (.string ((Qgy l0 x22_2).f2))).trans hx315_0; replace hx315_1 := (Qeo (p := ⟨gb314, 2, none⟩) qq_3 (.string ((Qgy l0 x22_2).f2))).trans hx315_1; replace hx315_2 := (Qeo (p := ⟨gb314, 2, none⟩) qq_3 (.string ((Qgy l0 x22_2).f2))).trans hx315_2; replace hx315_3 := (Qeo (p := ⟨gb314, 2, none⟩) qq_3 (.string ((Qgy l0 x22_2).f2))).trans hx315_3; replace hx315_0 := (Qeo (p := ⟨gb314, 3, none⟩) qq_3 (.string ((Qgy l0 x22_2).f3))).trans hx315_0; replace hx315_1 := (Qeo (p := ⟨gb314, 3, none⟩) qq_3 (.string ((Qgy l0 x22_2).f3))).trans hx315_1; replace hx315_2 := (Qeo (p := ⟨gb314, 3, none⟩) qq_3 (.string ((Qgy l0 x22_2).f3))).trans hx315_2; replace hx315_3 := (Qeo (p := ⟨gb314, 3, none⟩) qq_3 (.string ((Qgy l0 x22_2).f3))).trans hx315_3; (try have hy315_0 := fun (n_ : Nat) => (show ((((((w23.drewN n_).setCell ⟨gb314, 0, none⟩ (.bool ((Qgy l0 x22_2).f0))).setCell ⟨gb314, 1, none⟩ (.int .u64 ((Qgy l0 x22_2).f1))).setCell ⟨gb314, 2, none⟩ (.string ((Qgy l0 x22_2).f2))).setCell ⟨gb314, 3, none⟩ (.string ((Qgy l0 x22_2).f3)))).cell? _ = some _ from hx315_0)); (try have hy315_1 := fun (n_ : Nat) => (show ((((((w23.drewN n_).setCell ⟨gb314, 0, none⟩ (.bool ((Qgy l0 x22_2).f0))).setCell ⟨gb314, 1, none⟩ (.int .u64 ((Qgy l0 x22_2).f1))).setCell ⟨gb314, 2, none⟩ (.string ((Qgy l0 x22_2).f2))).setCell ⟨gb314, 3, none⟩ (.string ((Qgy l0 x22_2).f3)))).cell? _ = some _ from hx315_1)); (try have hy315_2 := fun (n_ : Nat) => (show ((((((w23.drewN n_).setCell ⟨gb314, 0, none⟩ (.bool ((Qgy l0 x22_2).f0))).setCell ⟨gb314, 1, none⟩ (.int .u64 ((Qgy l0 x22_2).f1))).setCell ⟨gb314, 2, none⟩ (.string ((Qgy l0 x22_2).f2))).setCell ⟨gb314, 3, none⟩ (.string ((Qgy l0 x22_2).f3)))).cell? _ = some _ from hx315_2)); (try have hy315_3 := fun (n_ : Nat) => (show ((((((w23.drewN n_).setCell ⟨gb314, 0, none⟩ (.bool ((Qgy l0 x22_2).f0))).setCell ⟨gb314, 1, none⟩ (.int .u64 ((Qgy l0 x22_2).f1))).setCell ⟨gb314, 2, none⟩ (.string ((Qgy l0 x22_2).f2))).setCell ⟨gb314, 3, none⟩ (.string ((Qgy l0 x22_2).f3)))).cell? _ = some _ from hx315_3)); clear hn315_0; clear hn315_1; clear hn315_2; clear hn315_3; replace p315 := eq_true p315; replace q315 := eq_true q315)); try go_wp2_with (first | ((with_reducible refine Qer (N := 7) rfl ?_); refine qq_e 7 #[.bool false, .int .u64 0, .string (⟨#[]⟩ : ByteArray), .string (⟨#[]⟩ : ByteArray)] 39 ?_; intro gb314 hg w23 hbox hb; have n0_ := QA (Qem qq_b hb); have n1_ := QA (hbox); have n2_ := QA ((qq_s hg : w.heap.size ≤ gb314)); have n3_ := QA ((qq_s hg : w.heap.size ≤ gb314)); clear HB; have HB := n0_; have BK314 := n1_; have GW314 := n2_; have GE314 := n3_; clear n0_ n1_ n2_ n3_; clear hb hbox hg; have hcz24_0 := qq_c (.bool false) BK314.out 0 rfl; have hcz24_1 := qq_c (.int .u64 0) BK314.out 1 rfl; have hcz24_2 := qq_c (.string (⟨#[]⟩ : ByteArray)) BK314.out 2 rfl; have hcz24_3 := qq_c (.string (⟨#[]⟩ : ByteArray)) BK314.out 3 rfl; have hfz24_0 := Qdt BK314.out 0; have hfz24_1 := Qdt BK314.out 1; have hfz24_2 := Qdt BK314.out 2; have hfz24_3 := Qdt BK314.out 3; have p315 : 0 ≤ ((ji17) : Int) := of_decide_eq_true qq_5; have q315 : (ji17) < (l0.length : Int) := of_decide_eq_true qq_5; obtain ⟨ad315, e315, hx315_0, hx315_1, hx315_2, hx315_3⟩ := Qgz HR0.out (ji17) p315 q315; obtain rfl : ad313 = ad315 := (by injection e315); have hn315_0 : ad313.block ≠ gb314 := Nat.ne_of_lt (Nat.lt_of_lt_of_le qq_11 GW314.out); have hn315_1 : ad313.block ≠ gb314 := Nat.ne_of_lt (Nat.lt_of_lt_of_le qq_11 GW314.out); have hn315_2 : ad313.block ≠ gb314 := Nat.ne_of_lt (Nat.lt_of_lt_of_le qq_11 GW314.out); have hn315_3 : ad313.block ≠ gb314 := Nat.ne_of_lt (Nat.lt_of_lt_of_le qq_11 GW314.out); replace hx315_0 := qq_h HB.out hx315_0; replace hx315_1 := qq_h HB.out hx315_1; replace hx315_2 := qq_h HB.out hx315_2; replace hx315_3 := qq_h HB.out hx315_3; replace hx315_0 := (Qeo (p := ⟨gb314, 0, none⟩) qq_3 (.bool ((Qgy l0 x22_2).f0))).trans hx315_0; replace hx315_1 := (Qeo (p := ⟨gb314, 0, none⟩) qq_3 (.bool ((Qgy l0 x22_2).f0))).trans hx315_1; replace hx315_2 := (Qeo (p := ⟨gb314, 0, none⟩) qq_3 (.bool ((Qgy l0 x22_2).f0))).trans hx315_2; replace hx315_3 := (Qeo (p := ⟨gb314, 0, none⟩) qq_3 (.bool ((Qgy l0 x22_2).f0))).trans hx315_3; replace hx315_0 := (Qeo (p := ⟨gb314, 1, none⟩) qq_3 (.int .u64 ((Qgy l0 x22_2).f1))).trans hx315_0; replace hx315_1 := (Qeo (p := ⟨gb314, 1, none⟩) qq_3 (.int .u64 ((Qgy l0 x22_2).f1))).trans hx315_1; replace hx315_2 := (Qeo (p := ⟨gb314, 1, none⟩) qq_3 (.int .u64 ((Qgy l0 x22_2).f1))).trans hx315_2; replace hx315_3 := (Qeo (p := ⟨gb314, 1, none⟩) qq_3 (.int .u64 ((Qgy l0 x22_2).f1))).trans hx315_3; replace hx315_0 := (Qeo (p := ⟨gb314, 2, none⟩) qq_3 (.string ((Qgy l0 x22_2).f2))).trans hx315_0; replace hx315_1 := (Qeo (p := ⟨gb314, 2, none⟩) qq_3 (.string ((Qgy l0 x22_2).f2))).trans hx315_1; replace hx315_2 := (Qeo (p := ⟨gb314, 2, none⟩) qq_3 (.string ((Qgy l0 x22_2).f2))).trans hx315_2; replace hx315_3 := (Qeo (p := ⟨gb314, 2, none⟩) qq_3 (.string ((Qgy l0 x22_2).f2))).trans hx315_3; replace hx315_0 := (Qeo (p := ⟨gb314, 3, none⟩) qq_3 (.string ((Qgy l0 x22_2).f3))).trans hx315_0; replace hx315_1 := (Qeo (p := ⟨gb314, 3, none⟩) qq_3 (.string ((Qgy l0 x22_2).f3))).trans hx315_1; replace hx315_2 := (Qeo (p := ⟨gb314, 3, none⟩) qq_3 (.string ((Qgy l0 x22_2).f3))).trans hx315_2; replace hx315_3 := (Qeo (p := ⟨gb314, 3, none⟩) qq_3 (.string ((Qgy l0 x22_2).f3))).trans hx315_3; (try have hy315_0 := fun (n_ : Nat) => (show ((((((w23.drewN n_).setCell ⟨gb314, 0, none⟩ (.bool ((Qgy l0 x22_2).f0))).setCell ⟨gb314, 1, none⟩ (.int .u64 ((Qgy l0 x22_2).f1))).setCell ⟨gb314, 2, none⟩ (.string ((Qgy l0 x22_2).f2))).setCell ⟨gb314, 3, none⟩ (.string ((Qgy l0 x22_2).f3)))).cell? _ = some _ from hx315_0)); (try have hy315_1 := fun (n_ : Nat) => (show ((((((w23.drewN n_).setCell ⟨gb314, 0, none⟩ (.bool ((Qgy l0 x22_2).f0))).setCell ⟨gb314, 1, none⟩ (.int .u64 ((Qgy l0 x22_2).f1))).setCell ⟨gb314, 2, none⟩ (.string ((Qgy l0 x22_2).f2))).setCell ⟨gb314, 3, none⟩ (.string ((Qgy l0 x22_2).f3)))).cell? _ = some _ from hx315_1)); (try have hy315_2 := fun (n_ : Nat) => (show ((((((w23.drewN n_).setCell ⟨gb314, 0, none⟩ (.bool ((Qgy l0 x22_2).f0))).setCell ⟨gb314, 1, none⟩ (.int .u64 ((Qgy l0 x22_2).f1))).setCell ⟨gb314, 2, none⟩ (.string ((Qgy l0 x22_2).f2))).setCell ⟨gb314, 3, none⟩ (.string ((Qgy l0 x22_2).f3)))).cell? _ = some _ from hx315_2)); (try have hy315_3 := fun (n_ : Nat) => (show ((((((w23.drewN n_).setCell ⟨gb314, 0, none⟩ (.bool ((Qgy l0 x22_2).f0))).setCell ⟨gb314, 1, none⟩ (.int .u64 ((Qgy l0 x22_2).f1))).setCell ⟨gb314, 2, none⟩ (.string ((Qgy l0 x22_2).f2))).setCell ⟨gb314, 3, none⟩ (.string ((Qgy l0 x22_2).f3)))).cell? _ = some _ from hx315_3)); clear hn315_0; clear hn315_1; clear hn315_2; clear hn315_3; replace p315 := eq_true p315; replace q315 := eq_true q315)))
             go_roundg k2
             case measure => have := HK1.out; have := HK2.out; omega
             case rel => exact ⟨(wrap64 (x22_2 + 1)), qq_6, H', ⟨by have := HK1.out; have := HK2.out; omega⟩, ⟨qq_b⟩⟩
           ·rw [if_neg c19] at H
            exact absurd H (by simp)
          ·rw [if_neg c18] at H
           exact absurd H (by simp)
         ·rw [if_neg c16] at H
          have c16b0 : decide (0 < x22_2) = false := decide_eq_false c16
          clear c16
          have H' := QA H
          clear H
          have p313 : 0 ≤ (x22_2 : Int) := of_decide_eq_true qq_5
          have q313 : x22_2 < (l0.length : Int) := of_decide_eq_true qq_5
          obtain ⟨ad313, e313, hx313_0, hx313_1, hx313_2, hx313_3⟩ := Qgz HR0.out x22_2 p313 q313
          cases e313
          replace hx313_0 := qq_h HB.out hx313_0
          replace hx313_1 := qq_h HB.out hx313_1
          replace hx313_2 := qq_h HB.out hx313_2
          replace hx313_3 := qq_h HB.out hx313_3
          replace p313 := eq_true p313
          replace q313 := eq_true q313
          go_wp2_with (first | ((with_reducible refine Qer (N := 7) rfl ?_); refine qq_e 7 #[.bool false, .int .u64 0, .string (⟨#[]⟩ : ByteArray), .string (⟨#[]⟩ : ByteArray)] 39 ?_; intro gb314 hg w25 hbox hb; have n0_ := QA (Qem qq_b hb); have n1_ := QA (hbox); have n2_ := QA ((qq_s hg : w.heap.size ≤ gb314)); have n3_ := QA ((qq_s hg : w.heap.size ≤ gb314)); clear HB; have HB := n0_; have BK314 := n1_; have GW314 := n2_; have GE314 := n3_; clear n0_ n1_ n2_ n3_; clear hb hbox hg; have hcz26_0 := qq_c (.bool false) BK314.out 0 rfl; have hcz26_1 := qq_c (.int .u64 0) BK314.out 1 rfl; have hcz26_2 := qq_c (.string (⟨#[]⟩ : ByteArray)) BK314.out 2 rfl; have hcz26_3 := qq_c (.string (⟨#[]⟩ : ByteArray)) BK314.out 3 rfl; have hfz26_0 := Qdt BK314.out 0; have hfz26_1 := Qdt BK314.out 1; have hfz26_2 := Qdt BK314.out 2; have hfz26_3 := Qdt BK314.out 3))
          repeat (go_quiet (first | ((with_reducible refine Qer (N := 7) rfl ?_); refine qq_e 7 #[.bool false, .int .u64 0, .string (⟨#[]⟩ : ByteArray), .string (⟨#[]⟩ : ByteArray)] 39 ?_; intro gb314 hg w25 hbox hb; have n0_ := QA (Qem qq_b hb); have n1_ := QA (hbox); have n2_ := QA ((qq_s hg : w.heap.size ≤ gb314)); have n3_ := QA ((qq_s hg : w.heap.size ≤ gb314)); clear HB; have HB := n0_; have BK314 := n1_; have GW314 := n2_; have GE314 := n3_; clear n0_ n1_ n2_ n3_; clear hb hbox hg; have hcz26_0 := qq_c (.bool false) BK314.out 0 rfl; have hcz26_1 := qq_c (.int .u64 0) BK314.out 1 rfl; have hcz26_2 := qq_c (.string (⟨#[]⟩ : ByteArray)) BK314.out 2 rfl; have hcz26_3 := qq_c (.string (⟨#[]⟩ : ByteArray)) BK314.out 3 rfl; have hfz26_0 := Qdt BK314.out 0; have hfz26_1 := Qdt BK314.out 1; have hfz26_2 := Qdt BK314.out 2; have hfz26_3 := Qdt BK314.out 3)); try go_wp2_with (first | ((with_reducible refine Qer (N := 7) rfl ?_); refine qq_e 7 #[.bool false, .int .u64 0, .string (⟨#[]⟩ : ByteArray), .string (⟨#[]⟩ : ByteArray)] 39 ?_; intro gb314 hg w25 hbox hb; have n0_ := QA (Qem qq_b hb); have n1_ := QA (hbox); have n2_ := QA ((qq_s hg : w.heap.size ≤ gb314)); have n3_ := QA ((qq_s hg : w.heap.size ≤ gb314)); clear HB; have HB := n0_; have BK314 := n1_; have GW314 := n2_; have GE314 := n3_; clear n0_ n1_ n2_ n3_; clear hb hbox hg; have hcz26_0 := qq_c (.bool false) BK314.out 0 rfl; have hcz26_1 := qq_c (.int .u64 0) BK314.out 1 rfl; have hcz26_2 := qq_c (.string (⟨#[]⟩ : ByteArray)) BK314.out 2 rfl; have hcz26_3 := qq_c (.string (⟨#[]⟩ : ByteArray)) BK314.out 3 rfl; have hfz26_0 := Qdt BK314.out 0; have hfz26_1 := Qdt BK314.out 1; have hfz26_2 := Qdt BK314.out 2; have hfz26_3 := Qdt BK314.out 3)))
          go_roundg k2
          case measure => have := HK1.out; have := HK2.out; omega
          case rel => exact ⟨(wrap64 (x22_2 + 1)), qq_6, H', ⟨by have := HK1.out; have := HK2.out; omega⟩, ⟨qq_b⟩⟩
        ·rw [if_neg c15] at H
         exact absurd H (by simp)
       ·rw [if_neg c14] at H
        exact absurd H (by simp)
      ·rw [if_neg c13] at H
       have c13b0 : decide (x22_2 < (l0.length : Int)) = false := decide_eq_false c13
       clear c13
       obtain rfl := Option.some.inj H
       go_wp2
       repeat (go_quiet (fail); try go_wp2)
       go_ret
       exact ⟨by first | rfl | (simp [Qgu, Qgv] <;> rfl) | (simp [*, Qgu, Qgv] <;> rfl), qq_b⟩
end Go.Proofs.YtnnofopfbeklbaaGreat.C
end
