/- Texts of this claim's author and of the print of its functions, merged by merge.py. -/
import Derived.Test.YtnnofopfbeklbaaGreatMD03
set_option linter.unusedVariables false
set_option linter.unusedSimpArgs false
set_option maxHeartbeats 8000000
set_option maxRecDepth 100000
section
namespace Go.Proofs.YtnnofopfbeklbaaGreat.C
open Go.RowKit Go.Proofs.YtnnofopfbeklbaaGreatW.PrintWords Go.Proofs.YtnnofopfbeklbaaGreatW.PrintLast Go.Proofs.YtnnofopfbeklbaaGreatW.PrintMore
attribute [local go_sem] Qgh Qgi Qgj Qgk Qgl Qgm Qgn Qgo
def Qbc.j0 : Nat → Bool → Bool → Int → ByteArray → ByteArray → Option (Int)
 | 0, _, _, _, _, _ => none
 | k + 1, x18, x310000, x310001, x310002, x310003 => if x18 = true then (some 4) else (if (x310003.size : Int) > 1048576 then (some 3) else (some 0))
def Qbc.f (k : Nat) (a0_0 : Bool) (a0_1 : Int) (a0_2 : ByteArray) (a0_3 : ByteArray) : Option (Int) := if (a0_2.size : Int) = 0 then (some 4) else (if (a0_2.size : Int) > 4096 then (some 3) else (if a0_0 = true then (Qbc.j0 k (decide ((a0_3.size : Int) > 0)) a0_0 a0_1 a0_2 a0_3) else (Qbc.j0 k false a0_0 a0_1 a0_2 a0_3)))
theorem Qbc.calls (k : Nat) (a0_0 : Bool) (a0_1 : Int) (a0_2 : ByteArray) (a0_3 : ByteArray) (r : Int) (w : World) (h : Qbc.f k a0_0 a0_1 a0_2 a0_3 = some r) :
  Calls Tryz.prog 23 #[.agg #[.bool a0_0, .int .u64 a0_1, .string a0_2, .string a0_3]] w fun e w' => e = .returned (.int .i64 r) ∧ Below w.heap.size w w' := by
 have hu39 := Tryz.underlying39
 have HB := QA (Below.refl w.heap.size w)
 have H : (if (a0_2.size : Int) = 0 then (some 4) else (if (a0_2.size : Int) > 4096 then (some 3) else (if a0_0 = true then (Qbc.j0 k (decide ((a0_3.size : Int) > 0)) a0_0 a0_1 a0_2 a0_3) else (Qbc.j0 k false a0_0 a0_1 a0_2 a0_3)))) = some r := h
 clear h
 by_cases c2 : (a0_2.size : Int) = 0
 ·rw [if_pos c2] at H
  have c2b0 : ((a0_2.size : Int) == 0) = true := beq_iff_eq.mpr c2
  have c2b1 : ((a0_2.size : Int) != 0) = false := bne_eq_false_iff_eq.mpr c2
  clear c2
  obtain rfl := Option.some.inj H
  go_enter Tryz.func23, Tryz.ntmps23
  go_wp2_with (first | ((with_reducible refine Qer (N := 1) rfl ?_); (try (refine Qgg (by rfl) ?_; dsimp only)); refine qq_e 1 #[.bool a0_0, .int .u64 a0_1, .string a0_2, .string a0_3] 39 ?_; intro gb309 hg w3 hbox hb; have n0_ := QA (Qem qq_b hb); have n1_ := QA (hbox); have n2_ := QA ((qq_s hg : w.heap.size ≤ gb309)); have n3_ := QA ((qq_s hg : w.heap.size ≤ gb309)); clear HB; have HB := n0_; have BK309 := n1_; have GW309 := n2_; have GE309 := n3_; clear n0_ n1_ n2_ n3_; clear hb hbox hg; have hcz4_0 := qq_c (.bool a0_0) BK309.out 0 rfl; have hcz4_1 := qq_c (.int .u64 a0_1) BK309.out 1 rfl; have hcz4_2 := qq_c (.string a0_2) BK309.out 2 rfl; have hcz4_3 := qq_c (.string a0_3) BK309.out 3 rfl; have hfz4_0 := Qdt BK309.out 0; have hfz4_1 := Qdt BK309.out 1; have hfz4_2 := Qdt BK309.out 2; have hfz4_3 := Qdt BK309.out 3))
  go_ret
  exact ⟨by first | rfl | (simp [Qgu, Qgv] <;> rfl) | (simp [*, Qgu, Qgv] <;> rfl), qq_b⟩
 ·rw [if_neg c2] at H
  have c2b0 : ((a0_2.size : Int) == 0) = false := beq_eq_false_iff_ne.mpr c2
  have c2b1 : ((a0_2.size : Int) != 0) = true := bne_iff_ne.mpr c2
  by_cases c5 : (a0_2.size : Int) > 4096
  ·rw [if_pos c5] at H
   have c5b0 : decide (4096 < (a0_2.size : Int)) = true := decide_eq_true c5
   have c5b1 : decide (4096 < a0_2.size) = true := decide_eq_true (by omega)
   clear c5
   obtain rfl := Option.some.inj H
   go_enter Tryz.func23, Tryz.ntmps23
   go_wp2_with (first | ((with_reducible refine Qer (N := 1) rfl ?_); (try (refine Qgg (by rfl) ?_; dsimp only)); refine qq_e 1 #[.bool a0_0, .int .u64 a0_1, .string a0_2, .string a0_3] 39 ?_; intro gb309 hg w6 hbox hb; have n0_ := QA (Qem qq_b hb); have n1_ := QA (hbox); have n2_ := QA ((qq_s hg : w.heap.size ≤ gb309)); have n3_ := QA ((qq_s hg : w.heap.size ≤ gb309)); clear HB; have HB := n0_; have BK309 := n1_; have GW309 := n2_; have GE309 := n3_; clear n0_ n1_ n2_ n3_; clear hb hbox hg; have hcz7_0 := qq_c (.bool a0_0) BK309.out 0 rfl; have hcz7_1 := qq_c (.int .u64 a0_1) BK309.out 1 rfl; have hcz7_2 := qq_c (.string a0_2) BK309.out 2 rfl; have hcz7_3 := qq_c (.string a0_3) BK309.out 3 rfl; have hfz7_0 := Qdt BK309.out 0; have hfz7_1 := Qdt BK309.out 1; have hfz7_2 := Qdt BK309.out 2; have hfz7_3 := Qdt BK309.out 3))
   go_ret
   exact ⟨by first | rfl | (simp [Qgu, Qgv] <;> rfl) | (simp [*, Qgu, Qgv] <;> rfl), qq_b⟩
  ·rw [if_neg c5] at H
   have c5b0 : decide (4096 < (a0_2.size : Int)) = false := decide_eq_false c5
   have c5b1 : decide (4096 < a0_2.size) = false := decide_eq_false (by omega)
   clear c5
   have HC8 := QA H
   clear H
   go_enter Tryz.func23, Tryz.ntmps23
   go_upto_region 5 with (first | ((with_reducible refine Qer (N := 1) rfl ?_); (try (refine Qgg (by rfl) ?_; dsimp only)); refine qq_e 1 #[.bool a0_0, .int .u64 a0_1, .string a0_2, .string a0_3] 39 ?_; intro gb309 hg w9 hbox hb; have n0_ := QA (Qem qq_b hb); have n1_ := QA (hbox); have n2_ := QA ((qq_s hg : w.heap.size ≤ gb309)); have n3_ := QA ((qq_s hg : w.heap.size ≤ gb309)); clear HB; have HB := n0_; have BK309 := n1_; have GW309 := n2_; have GE309 := n3_; clear n0_ n1_ n2_ n3_; clear hb hbox hg; have hcz10_0 := qq_c (.bool a0_0) BK309.out 0 rfl; have hcz10_1 := qq_c (.int .u64 a0_1) BK309.out 1 rfl; have hcz10_2 := qq_c (.string a0_2) BK309.out 2 rfl; have hcz10_3 := qq_c (.string a0_3) BK309.out 3 rfl; have hfz10_0 := Qdt BK309.out 0; have hfz10_1 := Qdt BK309.out 1; have hfz10_2 := Qdt BK309.out 2; have hfz10_3 := Qdt BK309.out 3))
   (try simp only [Act.put, List.setIfInBounds_toArray, List.set_cons_zero, List.set_cons_succ])
   go_cut [18] (fun v18 wc => ∃ (kq : Nat) (x18_7 : Bool), v18 = .bool x18_7 ∧ Aside0 (Qbc.j0 kq x18_7 a0_0 a0_1 a0_2 a0_3 = some r) ∧ Aside0 (kq ≤ k) ∧ Aside0 (wc.heap[gb309]? = some (.cells #[.bool a0_0, .int .u64 a0_1, .string a0_2, .string a0_3] 39 (0, 0))) ∧ Aside0 (Below w.heap.size w wc))
   case first =>
    have H := HC8.out
    clear HC8
    by_cases c11 : a0_0 = true
    ·subst c11
     have H1 : (Qbc.j0 k (decide ((a0_3.size : Int) > 0)) true a0_1 a0_2 a0_3) = some r := by rw [if_pos rfl] at H; exact H
     clear H
     have H := H1
     clear H1
     have H' := QA H
     clear H
     have hcz12_0 := qq_c (.bool true) BK309.out 0 rfl
     have hcz12_1 := qq_c (.int .u64 a0_1) BK309.out 1 rfl
     have hcz12_2 := qq_c (.string a0_2) BK309.out 2 rfl
     have hcz12_3 := qq_c (.string a0_3) BK309.out 3 rfl
     have hfz12_0 := Qdt BK309.out 0
     have hfz12_1 := Qdt BK309.out 1
     have hfz12_2 := Qdt BK309.out 2
     have hfz12_3 := Qdt BK309.out 3
     go_wp2
     go_meet
     case rel => exact ⟨_, (decide ((a0_3.size : Int) > 0)), qq_6, H', ⟨by first | omega | exact Nat.le_refl _⟩, ⟨by (with_reducible repeat (first | apply Qea | apply Qdz | apply Qdy)); exact BK309.out⟩, ⟨qq_b⟩⟩
    ·replace c11 := Bool.eq_false_iff.mpr c11
     subst c11
     have H1 : (Qbc.j0 k false false a0_1 a0_2 a0_3) = some r := by rw [if_neg (show ¬ (false = true) by decide)] at H; exact H
     clear H
     have H := H1
     clear H1
     have H' := QA H
     clear H
     have hcz13_0 := qq_c (.bool false) BK309.out 0 rfl
     have hcz13_1 := qq_c (.int .u64 a0_1) BK309.out 1 rfl
     have hcz13_2 := qq_c (.string a0_2) BK309.out 2 rfl
     have hcz13_3 := qq_c (.string a0_3) BK309.out 3 rfl
     have hfz13_0 := Qdt BK309.out 0
     have hfz13_1 := Qdt BK309.out 1
     have hfz13_2 := Qdt BK309.out 2
     have hfz13_3 := Qdt BK309.out 3
     go_wp2
     go_meet
     case rel => exact ⟨_, (false), qq_6, H', ⟨by first | omega | exact Nat.le_refl _⟩, ⟨by (with_reducible repeat (first | apply Qea | apply Qdz | apply Qdy)); exact BK309.out⟩, ⟨qq_b⟩⟩
   case rest =>
    clear HC8
    try clear c2
    try clear c2b0
    try clear c2b1
    try clear c5
    try clear c5b0
    try clear c5b1
    try clear c11
    try clear hcz10_0
    try clear hcz10_1
    try clear hcz10_2
    try clear hcz10_3
    try clear hcz12_0
    try clear hcz12_1
    try clear hcz12_2
    try clear hcz12_3
    try clear hcz13_0
    try clear hcz13_1
    try clear hcz13_2
    try clear hcz13_3
    try clear hcz4_0
    try clear hcz4_1
    try clear hcz4_2
    try clear hcz4_3
    try clear hcz7_0
    try clear hcz7_1
    try clear hcz7_2
    try clear hcz7_3
    try clear hfz10_0
    try clear hfz10_1
    try clear hfz10_2
    try clear hfz10_3
    try clear hfz12_0
    try clear hfz12_1
    try clear hfz12_2
    try clear hfz12_3
    try clear hfz13_0
    try clear hfz13_1
    try clear hfz13_2
    try clear hfz13_3
    try clear hfz4_0
    try clear hfz4_1
    try clear hfz4_2
    try clear hfz4_3
    try clear hfz7_0
    try clear hfz7_1
    try clear hfz7_2
    try clear hfz7_3
    obtain ⟨kq, x18_7, rfl, HA, HJ7, BK309, HB⟩ := hcut
    cases kq with
    | zero => exact absurd HA.out (by simp [Qbc.j0])
    | succ kj7 =>
     have H := HA.out
     clear HA
     simp only [Qbc.j0] at H
     by_cases c14 : x18_7 = true
     ·subst c14
      have H1 : (some 4) = some r := by rw [if_pos rfl] at H; exact H
      clear H
      have H := H1
      clear H1
      obtain rfl := Option.some.inj H
      go_wp2
      go_ret
      exact ⟨by first | rfl | (simp [Qgu, Qgv] <;> rfl) | (simp [*, Qgu, Qgv] <;> rfl), qq_b⟩
     ·replace c14 := Bool.eq_false_iff.mpr c14
      subst c14
      have H1 : (if (a0_3.size : Int) > 1048576 then (some 3) else (some 0)) = some r := by rw [if_neg (show ¬ (false = true) by decide)] at H; exact H
      clear H
      have H := H1
      clear H1
      by_cases c15 : (a0_3.size : Int) > 1048576
      ·rw [if_pos c15] at H
       have c15b0 : decide (1048576 < (a0_3.size : Int)) = true := decide_eq_true c15
       have c15b1 : decide (1048576 < a0_3.size) = true := decide_eq_true (by omega)
       clear c15
       obtain rfl := Option.some.inj H
       have hcz16_0 := qq_c (.bool a0_0) BK309.out 0 rfl
       have hcz16_1 := qq_c (.int .u64 a0_1) BK309.out 1 rfl
       have hcz16_2 := qq_c (.string a0_2) BK309.out 2 rfl
       have hcz16_3 := qq_c (.string a0_3) BK309.out 3 rfl
       have hfz16_0 := Qdt BK309.out 0
       have hfz16_1 := Qdt BK309.out 1
       have hfz16_2 := Qdt BK309.out 2
       have hfz16_3 := Qdt BK309.out 3
       go_wp2
       go_ret
       exact ⟨by first | rfl | (simp [Qgu, Qgv] <;> rfl) | (simp [*, Qgu, Qgv] <;> rfl), qq_b⟩
      ·rw [if_neg c15] at H
       have c15b0 : decide (1048576 < (a0_3.size : Int)) = false := decide_eq_false c15
       have c15b1 : decide (1048576 < a0_3.size) = false := decide_eq_false (by omega)
       clear c15
       obtain rfl := Option.some.inj H
       have hcz17_0 := qq_c (.bool a0_0) BK309.out 0 rfl
       have hcz17_1 := qq_c (.int .u64 a0_1) BK309.out 1 rfl
       have hcz17_2 := qq_c (.string a0_2) BK309.out 2 rfl
       have hcz17_3 := qq_c (.string a0_3) BK309.out 3 rfl
       have hfz17_0 := Qdt BK309.out 0
       have hfz17_1 := Qdt BK309.out 1
       have hfz17_2 := Qdt BK309.out 2
       have hfz17_3 := Qdt BK309.out 3
       go_wp2
       go_ret
       exact ⟨by first | rfl | (simp [Qgu, Qgv] <;> rfl) | (simp [*, Qgu, Qgv] <;> rfl), qq_b⟩
end Go.Proofs.YtnnofopfbeklbaaGreat.C
end
