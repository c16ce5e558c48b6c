/- Texts of this claim's author and of the print of its functions, merged by merge.py. -/
import Derived.Test.YtnnofopfbeklbaaGreatMC02
import Derived.Shelf.Bytes.SlIndexAt
import Derived.Lib.IndexLaws
import Derived.Deep.RegionLaw
import Derived.Test.YtnnofopfbeklbaaGreatMC05
set_option linter.unusedVariables false
set_option linter.unusedSimpArgs false
section
namespace Go.Proofs.YtnnofopfbeklbaaGreat.C
open Go.RowKit Go.Proofs.YtnnofopfbeklbaaGreatW.PrintWords Go.Proofs.YtnnofopfbeklbaaGreatW.PrintLast Go.Proofs.YtnnofopfbeklbaaGreatW.PrintMore
attribute [local go_sem] Qfg Qfh Qfi Qfj Qfk Qfl Qfm Qfn
def Qbw.j0 : Nat → Bool → Bool → Int → ByteArray → ByteArray → Option (Int)
 | 0, _, _, _, _, _ => none
 | k + 1, x12, x117000, x117001, x117002, x117003 => if x12 = true then (some 4) else (if (x117003.size : Int) > 1048576 then (some 3) else (some 0))
def Qbw.f (k : Nat) (a0_0 : Bool) (a0_1 : Int) (a0_2 : ByteArray) (a0_3 : ByteArray) : Option (Int) := if a0_2.toList = ([] : List UInt8) then (some 4) else (if (a0_2.size : Int) > 4096 then (some 3) else (if a0_0 = true then (Qbw.j0 k (a0_3.toList != ([] : List UInt8)) a0_0 a0_1 a0_2 a0_3) else (Qbw.j0 k false a0_0 a0_1 a0_2 a0_3)))
theorem Qbw.mono_l : ∀ k, (∀ y0 y1 y2 y3 y4, LeO (Qbw.j0 k y0 y1 y2 y3 y4) (Qbw.j0 (k + 1) y0 y1 y2 y3 y4))
 | 0 => fun _ _ _ _ _ r h => by simp [Qbw.j0] at h
 | k + 1 => by
  have ih0 := Qbw.mono_l k
  ·intro y0 y1 y2 y3 y4
   unfold Qbw.j0
   repeat' first
   | (with_reducible exact ih0 _ _ _ _ _)
   | (with_reducible exact LeO.refl _)
   | (with_reducible exact LeO.none _)
   | (with_reducible refine LeO.ite ?_ ?_)
   | (with_reducible refine LeO.bind ?_ (fun _ => ?_))
   | exact ih0 _ _ _ _ _
   | exact LeO.none _
   | refine LeO.ite ?_ ?_
   | refine LeO.bind ?_ (fun _ => ?_)
theorem Qbw.mono : ∀ a0 a1 a2 a3 k, LeO (Qbw.f k a0 a1 a2 a3) (Qbw.f (k + 1) a0 a1 a2 a3) := by
 intro a0 a1 a2 a3 k
 have ih0 := Qbw.mono_l k
 unfold Qbw.f
 repeat' first
   | (with_reducible exact ih0 _ _ _ _ _)
   | (with_reducible exact LeO.refl _)
   | (with_reducible exact LeO.none _)
   | (with_reducible refine LeO.ite ?_ ?_)
   | (with_reducible refine LeO.bind ?_ (fun _ => ?_))
   | exact ih0 _ _ _ _ _
   | exact LeO.none _
   | refine LeO.ite ?_ ?_
   | refine LeO.bind ?_ (fun _ => ?_)
set_option maxHeartbeats 8000000 in
set_option maxRecDepth 100000 in
theorem Qbw.calls (k : Nat) (a0_0 : Bool) (a0_1 : Int) (a0_2 : ByteArray) (a0_3 : ByteArray) (r : Int) (w : World) (h : Qbw.f k a0_0 a0_1 a0_2 a0_3 = some r) :
  Calls Tryz.prog 56 #[.agg #[.bool a0_0, .int .u64 a0_1, .string a0_2, .string a0_3]] w fun e w' => e = .returned (.int .i64 r) ∧ Below w.heap.size w w' := by
 have hu39 := Tryz.underlying39
 have HB := QA (Below.refl w.heap.size w)
 have H : (if a0_2.toList = ([] : List UInt8) then (some 4) else (if (a0_2.size : Int) > 4096 then (some 3) else (if a0_0 = true then (Qbw.j0 k (a0_3.toList != ([] : List UInt8)) a0_0 a0_1 a0_2 a0_3) else (Qbw.j0 k false a0_0 a0_1 a0_2 a0_3)))) = some r := h
 clear h
 by_cases c2 : a0_2.toList = ([] : List UInt8)
 ·rw [if_pos c2] at H
  have c2b0 : (a0_2.toList == ([] : List UInt8)) = true := beq_iff_eq.mpr c2
  have c2b1 : (a0_2.toList != ([] : List UInt8)) = false := bne_eq_false_iff_eq.mpr c2
  clear c2
  obtain rfl := Option.some.inj H
  go_enter Tryz.func56, Tryz.ntmps56
  go_wp2_with (first | ((with_reducible refine Qdw (N := 1) rfl ?_); refine Qdv ?hg (N := 1) ?hd (cs := #[.bool a0_0, .int .u64 a0_1, .string a0_2, .string a0_3]) (t := 39) ?hr ?_; (case hd => rfl); (case hg => rfl); (case hr => first | (go_simp; done) | (go_simp; rfl)); intro gb116 hg w3 hbox hb; have n0_ := QA (Qdo (by repeat (first | (with_reducible first | exact HB.out | apply Qcc | apply Qce | apply Qdt) | exact HB.out)) hb); have n1_ := QA (hbox); have n2_ := QA ((by rw [hg]; exact (Qdn (by repeat (first | (with_reducible first | exact HB.out | apply Qcc | apply Qce | apply Qdt) | exact HB.out))) : w.heap.size ≤ gb116)); have n3_ := QA ((by rw [hg]; exact (Qdn (by repeat (first | (with_reducible first | exact HB.out | apply Qcc | apply Qce | apply Qdt) | exact HB.out))) : w.heap.size ≤ gb116)); clear HB; have HB := n0_; have BK116 := n1_; have GW116 := n2_; have GE116 := n3_; clear n0_ n1_ n2_ n3_; clear hb hbox hg; have hcz4_0 : w3.cell? ⟨gb116, 0, none⟩ = some (.bool a0_0) := (Qcx BK116.out 0).trans rfl; have hcz4_1 : w3.cell? ⟨gb116, 1, none⟩ = some (.int .u64 a0_1) := (Qcx BK116.out 1).trans rfl; have hcz4_2 : w3.cell? ⟨gb116, 2, none⟩ = some (.string a0_2) := (Qcx BK116.out 2).trans rfl; have hcz4_3 : w3.cell? ⟨gb116, 3, none⟩ = some (.string a0_3) := (Qcx BK116.out 3).trans rfl; have hfz4_0 := Qcy BK116.out 0; have hfz4_1 := Qcy BK116.out 1; have hfz4_2 := Qcy BK116.out 2; have hfz4_3 := Qcy BK116.out 3))
  go_ret
  exact ⟨by first | rfl | (simp [Qfr, Qfs] <;> rfl) | (simp [*, Qfr, Qfs] <;> rfl), by repeat (first | (with_reducible first | exact HB.out | apply Qcc | apply Qce | apply Qdt | refine Qdp ?_ GE116.out) | exact HB.out)⟩
 ·rw [if_neg c2] at H
  have c2b0 : (a0_2.toList == ([] : List UInt8)) = false := beq_eq_false_iff_ne.mpr c2
  have c2b1 : (a0_2.toList != ([] : List UInt8)) = true := bne_iff_ne.mpr c2
  by_cases c5 : (a0_2.size : Int) > 4096
  ·rw [if_pos c5] at H
   have c5b0 : decide (4096 < (a0_2.size : Int)) = true := decide_eq_true c5
   have c5b1 : decide (4096 < a0_2.size) = true := decide_eq_true (by omega)
   clear c5
   obtain rfl := Option.some.inj H
   go_enter Tryz.func56, Tryz.ntmps56
   go_wp2_with (first | ((with_reducible refine Qdw (N := 1) rfl ?_); refine Qdv ?hg (N := 1) ?hd (cs := #[.bool a0_0, .int .u64 a0_1, .string a0_2, .string a0_3]) (t := 39) ?hr ?_; (case hd => rfl); (case hg => rfl); (case hr => first | (go_simp; done) | (go_simp; rfl)); intro gb116 hg w6 hbox hb; have n0_ := QA (Qdo (by repeat (first | (with_reducible first | exact HB.out | apply Qcc | apply Qce | apply Qdt) | exact HB.out)) hb); have n1_ := QA (hbox); have n2_ := QA ((by rw [hg]; exact (Qdn (by repeat (first | (with_reducible first | exact HB.out | apply Qcc | apply Qce | apply Qdt) | exact HB.out))) : w.heap.size ≤ gb116)); have n3_ := QA ((by rw [hg]; exact (Qdn (by repeat (first | (with_reducible first | exact HB.out | apply Qcc | apply Qce | apply Qdt) | exact HB.out))) : w.heap.size ≤ gb116)); clear HB; have HB := n0_; have BK116 := n1_; have GW116 := n2_; have GE116 := n3_; clear n0_ n1_ n2_ n3_; clear hb hbox hg; have hcz7_0 : w6.cell? ⟨gb116, 0, none⟩ = some (.bool a0_0) := (Qcx BK116.out 0).trans rfl; have hcz7_1 : w6.cell? ⟨gb116, 1, none⟩ = some (.int .u64 a0_1) := (Qcx BK116.out 1).trans rfl; have hcz7_2 : w6.cell? ⟨gb116, 2, none⟩ = some (.string a0_2) := (Qcx BK116.out 2).trans rfl; have hcz7_3 : w6.cell? ⟨gb116, 3, none⟩ = some (.string a0_3) := (Qcx BK116.out 3).trans rfl; have hfz7_0 := Qcy BK116.out 0; have hfz7_1 := Qcy BK116.out 1; have hfz7_2 := Qcy BK116.out 2; have hfz7_3 := Qcy BK116.out 3))
   go_ret
   exact ⟨by first | rfl | (simp [Qfr, Qfs] <;> rfl) | (simp [*, Qfr, Qfs] <;> rfl), by repeat (first | (with_reducible first | exact HB.out | apply Qcc | apply Qce | apply Qdt | refine Qdp ?_ GE116.out) | exact HB.out)⟩
  ·rw [if_neg c5] at H
   have c5b0 : decide (4096 < (a0_2.size : Int)) = false := decide_eq_false c5
   have c5b1 : decide (4096 < a0_2.size) = false := decide_eq_false (by omega)
   clear c5
   have HC8 := QA H
   clear H
   go_enter Tryz.func56, Tryz.ntmps56
   go_upto_region 5 with (first | ((with_reducible refine Qdw (N := 1) rfl ?_); refine Qdv ?hg (N := 1) ?hd (cs := #[.bool a0_0, .int .u64 a0_1, .string a0_2, .string a0_3]) (t := 39) ?hr ?_; (case hd => rfl); (case hg => rfl); (case hr => first | (go_simp; done) | (go_simp; rfl)); intro gb116 hg w9 hbox hb; have n0_ := QA (Qdo (by repeat (first | (with_reducible first | exact HB.out | apply Qcc | apply Qce | apply Qdt) | exact HB.out)) hb); have n1_ := QA (hbox); have n2_ := QA ((by rw [hg]; exact (Qdn (by repeat (first | (with_reducible first | exact HB.out | apply Qcc | apply Qce | apply Qdt) | exact HB.out))) : w.heap.size ≤ gb116)); have n3_ := QA ((by rw [hg]; exact (Qdn (by repeat (first | (with_reducible first | exact HB.out | apply Qcc | apply Qce | apply Qdt) | exact HB.out))) : w.heap.size ≤ gb116)); clear HB; have HB := n0_; have BK116 := n1_; have GW116 := n2_; have GE116 := n3_; clear n0_ n1_ n2_ n3_; clear hb hbox hg; have hcz10_0 : w9.cell? ⟨gb116, 0, none⟩ = some (.bool a0_0) := (Qcx BK116.out 0).trans rfl; have hcz10_1 : w9.cell? ⟨gb116, 1, none⟩ = some (.int .u64 a0_1) := (Qcx BK116.out 1).trans rfl; have hcz10_2 : w9.cell? ⟨gb116, 2, none⟩ = some (.string a0_2) := (Qcx BK116.out 2).trans rfl; have hcz10_3 : w9.cell? ⟨gb116, 3, none⟩ = some (.string a0_3) := (Qcx BK116.out 3).trans rfl; have hfz10_0 := Qcy BK116.out 0; have hfz10_1 := Qcy BK116.out 1; have hfz10_2 := Qcy BK116.out 2; have hfz10_3 := Qcy BK116.out 3))
   (try simp only [Act.put, List.setIfInBounds_toArray, List.set_cons_zero, List.set_cons_succ])
   go_cut [12] (fun v12 wc => ∃ (kq : Nat) (x12_7 : Bool), v12 = .bool x12_7 ∧ Aside0 (Qbw.j0 kq x12_7 a0_0 a0_1 a0_2 a0_3 = some r) ∧ Aside0 (kq ≤ k) ∧ Aside0 (wc.heap[gb116]? = some (.cells #[.bool a0_0, .int .u64 a0_1, .string a0_2, .string a0_3] 39 (0, 0))) ∧ Aside0 (Below w.heap.size w wc))
   case first =>
    have H := HC8.out
    clear HC8
    by_cases c11 : a0_0 = true
    ·subst c11
     have H1 : (Qbw.j0 k (a0_3.toList != ([] : List UInt8)) true a0_1 a0_2 a0_3) = some r := by rw [if_pos rfl] at H; exact H
     clear H
     have H := H1
     clear H1
     have H' := QA H
     clear H
     have hcz12_0 : w9.cell? ⟨gb116, 0, none⟩ = some (.bool true) := (Qcx BK116.out 0).trans rfl
     have hcz12_1 : w9.cell? ⟨gb116, 1, none⟩ = some (.int .u64 a0_1) := (Qcx BK116.out 1).trans rfl
     have hcz12_2 : w9.cell? ⟨gb116, 2, none⟩ = some (.string a0_2) := (Qcx BK116.out 2).trans rfl
     have hcz12_3 : w9.cell? ⟨gb116, 3, none⟩ = some (.string a0_3) := (Qcx BK116.out 3).trans rfl
     have hfz12_0 := Qcy BK116.out 0
     have hfz12_1 := Qcy BK116.out 1
     have hfz12_2 := Qcy BK116.out 2
     have hfz12_3 := Qcy BK116.out 3
     go_wp2
     go_meet
     case rel => exact ⟨_, ((a0_3.toList != ([] : List UInt8))), (by first | rfl | (simp; done) | (simp [*]; done) | (cases a0_3.toList <;> rfl)), H', ⟨by first | omega | exact Nat.le_refl _⟩, ⟨by (with_reducible repeat (first | apply Qdf | apply Qde | apply Qdd)); exact BK116.out⟩, ⟨by repeat (first | (with_reducible first | exact HB.out | apply Qcc | apply Qce | apply Qdt | refine Qdp ?_ GE116.out) | exact HB.out)⟩⟩
    ·replace c11 := Bool.eq_false_iff.mpr c11
     subst c11
     have H1 : (Qbw.j0 k false false a0_1 a0_2 a0_3) = some r := by rw [if_neg (show ¬ (false = true) by decide)] at H; exact H
     clear H
     have H := H1
     clear H1
     have H' := QA H
     clear H
     have hcz13_0 : w9.cell? ⟨gb116, 0, none⟩ = some (.bool false) := (Qcx BK116.out 0).trans rfl
     have hcz13_1 : w9.cell? ⟨gb116, 1, none⟩ = some (.int .u64 a0_1) := (Qcx BK116.out 1).trans rfl
     have hcz13_2 : w9.cell? ⟨gb116, 2, none⟩ = some (.string a0_2) := (Qcx BK116.out 2).trans rfl
     have hcz13_3 : w9.cell? ⟨gb116, 3, none⟩ = some (.string a0_3) := (Qcx BK116.out 3).trans rfl
     have hfz13_0 := Qcy BK116.out 0
     have hfz13_1 := Qcy BK116.out 1
     have hfz13_2 := Qcy BK116.out 2
     have hfz13_3 := Qcy BK116.out 3
     go_wp2
     go_meet
     case rel => exact ⟨_, (false), (by first | rfl | (simp; done) | (simp [*]; done) | (cases a0_3.toList <;> rfl)), H', ⟨by first | omega | exact Nat.le_refl _⟩, ⟨by (with_reducible repeat (first | apply Qdf | apply Qde | apply Qdd)); exact BK116.out⟩, ⟨by repeat (first | (with_reducible first | exact HB.out | apply Qcc | apply Qce | apply Qdt | refine Qdp ?_ GE116.out) | exact HB.out)⟩⟩
   case rest =>
    clear HC8
    try clear c2
    try clear c2b0
    try clear c2b1
    try clear c5
    try clear c5b0
    try clear c5b1
    try clear c11
    try clear hcz10_0
    try clear hcz10_1
    try clear hcz10_2
    try clear hcz10_3
    try clear hcz12_0
    try clear hcz12_1
    try clear hcz12_2
    try clear hcz12_3
    try clear hcz13_0
    try clear hcz13_1
    try clear hcz13_2
    try clear hcz13_3
    try clear hcz4_0
    try clear hcz4_1
    try clear hcz4_2
    try clear hcz4_3
    try clear hcz7_0
    try clear hcz7_1
    try clear hcz7_2
    try clear hcz7_3
    try clear hfz10_0
    try clear hfz10_1
    try clear hfz10_2
    try clear hfz10_3
    try clear hfz12_0
    try clear hfz12_1
    try clear hfz12_2
    try clear hfz12_3
    try clear hfz13_0
    try clear hfz13_1
    try clear hfz13_2
    try clear hfz13_3
    try clear hfz4_0
    try clear hfz4_1
    try clear hfz4_2
    try clear hfz4_3
    try clear hfz7_0
    try clear hfz7_1
    try clear hfz7_2
    try clear hfz7_3
    obtain ⟨kq, x12_7, rfl, HA, HJ7, BK116, HB⟩ := hcut
    cases kq with
    | zero => exact absurd HA.out (by simp [Qbw.j0])
    | succ kj7 =>
     have H := HA.out
     clear HA
     simp only [Qbw.j0] at H
     by_cases c14 : x12_7 = true
     ·subst c14
      have H1 : (some 4) = some r := by rw [if_pos rfl] at H; exact H
      clear H
      have H := H1
      clear H1
      obtain rfl := Option.some.inj H
      go_wp2
      go_ret
      exact ⟨by first | rfl | (simp [Qfr, Qfs] <;> rfl) | (simp [*, Qfr, Qfs] <;> rfl), by repeat (first | (with_reducible first | exact HB.out | apply Qcc | apply Qce | apply Qdt | refine Qdp ?_ GE116.out) | exact HB.out)⟩
     ·replace c14 := Bool.eq_false_iff.mpr c14
      subst c14
      have H1 : (if (a0_3.size : Int) > 1048576 then (some 3) else (some 0)) = some r := by rw [if_neg (show ¬ (false = true) by decide)] at H; exact H
      clear H
      have H := H1
      clear H1
      by_cases c15 : (a0_3.size : Int) > 1048576
      ·rw [if_pos c15] at H
       have c15b0 : decide (1048576 < (a0_3.size : Int)) = true := decide_eq_true c15
       have c15b1 : decide (1048576 < a0_3.size) = true := decide_eq_true (by omega)
       clear c15
       obtain rfl := Option.some.inj H
       have hcz16_0 : wc.cell? ⟨gb116, 0, none⟩ = some (.bool a0_0) := (Qcx BK116.out 0).trans rfl
       have hcz16_1 : wc.cell? ⟨gb116, 1, none⟩ = some (.int .u64 a0_1) := (Qcx BK116.out 1).trans rfl
       have hcz16_2 : wc.cell? ⟨gb116, 2, none⟩ = some (.string a0_2) := (Qcx BK116.out 2).trans rfl
       have hcz16_3 : wc.cell? ⟨gb116, 3, none⟩ = some (.string a0_3) := (Qcx BK116.out 3).trans rfl
       have hfz16_0 := Qcy BK116.out 0
       have hfz16_1 := Qcy BK116.out 1
       have hfz16_2 := Qcy BK116.out 2
       have hfz16_3 := Qcy BK116.out 3
       go_wp2
       go_ret
       exact ⟨by first | rfl | (simp [Qfr, Qfs] <;> rfl) | (simp [*, Qfr, Qfs] <;> rfl), by repeat (first | (with_reducible first | exact HB.out | apply Qcc | apply Qce | apply Qdt | refine Qdp ?_ GE116.out) | exact HB.out)⟩
      ·rw [if_neg c15] at H
       have c15b0 : decide (1048576 < (a0_3.size : Int)) = false := decide_eq_false c15
       have c15b1 : decide (1048576 < a0_3.size) = false := decide_eq_false (by omega)
       clear c15
       obtain rfl := Option.some.inj H
       have hcz17_0 : wc.cell? ⟨gb116, 0, none⟩ = some (.bool a0_0) := (Qcx BK116.out 0).trans rfl
       have hcz17_1 : wc.cell? ⟨gb116, 1, none⟩ = some (.int .u64 a0_1) := (Qcx BK116.out 1).trans rfl
       have hcz17_2 : wc.cell? ⟨gb116, 2, none⟩ = some (.string a0_2) := (Qcx BK116.out 2).trans rfl
       have hcz17_3 : wc.cell? ⟨gb116, 3, none⟩ = some (.string a0_3) := (Qcx BK116.out 3).trans rfl
       have hfz17_0 := Qcy BK116.out 0
       have hfz17_1 := Qcy BK116.out 1
       have hfz17_2 := Qcy BK116.out 2
       have hfz17_3 := Qcy BK116.out 3
       go_wp2
       go_ret
       exact ⟨by first | rfl | (simp [Qfr, Qfs] <;> rfl) | (simp [*, Qfr, Qfs] <;> rfl), by repeat (first | (with_reducible first | exact HB.out | apply Qcc | apply Qce | apply Qdt | refine Qdp ?_ GE116.out) | exact HB.out)⟩
def Qaj.f (a0 : Int) : Option (Int) := if a0 ≤ 0 then (some 1) else (some (wrap64 ((wrap64 (a0 + 1)) + (wrap64 (Int.tdiv (wrap64 (a0 - 1)) 254)))))
set_option maxHeartbeats 8000000 in
set_option maxRecDepth 100000 in
theorem Qaj.calls (a0 : Int) (r : Int) (w : World) (h : Qaj.f a0 = some r) :
  Calls Tryz.prog 197 #[.int .i64 a0] w fun e w' => e = .returned (.int .i64 r) ∧ Drawn0 w w' := by
 have H : (if a0 ≤ 0 then (some 1) else (some (wrap64 ((wrap64 (a0 + 1)) + (wrap64 (Int.tdiv (wrap64 (a0 - 1)) 254)))))) = some r := h
 clear h
 by_cases c2 : a0 ≤ 0
 ·rw [if_pos c2] at H
  have c2b0 : decide (a0 ≤ 0) = true := decide_eq_true c2
  clear c2
  obtain rfl := Option.some.inj H
  go_enter Tryz.func197, Tryz.ntmps197
  go_wp2
  go_ret
  exact ⟨by first | rfl | (simp; done) | (simp [*]; done), by repeat (first | exact Drawn0.refl _ | apply Drawn0.step)⟩
 ·rw [if_neg c2] at H
  have c2b0 : decide (a0 ≤ 0) = false := decide_eq_false c2
  clear c2
  obtain rfl := Option.some.inj H
  go_enter Tryz.func197, Tryz.ntmps197
  go_wp2
  go_ret
  exact ⟨by first | rfl | (simp; done) | (simp [*]; done), by repeat (first | exact Drawn0.refl _ | apply Drawn0.step)⟩
end Go.Proofs.YtnnofopfbeklbaaGreat.C
end
section
namespace Go.Proofs.YtnnofopfbeklbaaGreat.C
open Go.RowKit Go.Proofs.YtnnofopfbeklbaaGreatW.PrintWords Go.Proofs.YtnnofopfbeklbaaGreatW.PrintLast Go.Proofs.YtnnofopfbeklbaaGreatW.PrintMore
def ixOf (l : List Int) (c : Int) : Int := Lib.indexByte (Lib.bytesOf l) c.toNat.toUInt8
def Qad.f (l0 : List Int) (a1 : Int) : Option Int := some (ixOf l0 a1)
set_option maxRecDepth 100000 in
set_option maxHeartbeats 1000000 in
theorem Qad.calls (A0 : Option Addr) (c0 : Nat) (l0 : List Int) (a1 : Int) (r : Int) (w : World) (hr0 : Kd.C (Kd.int .u8) w A0 l0.length l0) (hc0 : l0.length ≤ c0) (h : Qad.f l0 a1 = some r) :
  Calls Tryz.prog 80 #[.slice A0 l0.length c0, .int .u8 a1] w fun e w' => e = .returned (.int .i64 r) ∧ Drawn0 w w' := by
 unfold Qad.f at h
 cases h
 have hcall : (callFunc 127 #[.slice A0 l0.length c0, .int .u8 a1]).run Tryz.prog w = .ok (.value (.int .i64 (ixOf l0 a1))) w := by
  rw [run_callFunc_extern Tryz.func127 (by kernel_rfl) (by kernel_rfl) (by kernel_rfl) (e := Extern.BytealgIndexByte.indexByte) (by kernel_rfl)]
  cases A0 with
  | none =>
   obtain rfl : l0 = [] := by
    cases l0 with
    | nil => rfl
    | cons a t => obtain ⟨ad, c, h1, _⟩ := Kd.C_get hr0 0 0 (by omega) (by simp); cases h1
   rw [Lib.run_indexByteNil]
   rfl
  | some ad =>
   rw [Lib.run_indexByteAt w ad l0.length c0 l0 rfl (fun i hi => ?_)]
   ·rfl
   ·obtain ⟨a, ha, hx⟩ := Kd.at_int hr0 (i : Int) (by omega) (by omega)
    cases ha
    simpa [rd] using hx
 go_enter Tryz.func80, Tryz.ntmps80
 go_wp2
 go_ret
 exact ⟨rfl, Drawn0.refl _⟩
end Go.Proofs.YtnnofopfbeklbaaGreat.C
end
section
namespace Go.Proofs.YtnnofopfbeklbaaGreat.C
open Go.RowKit Go.Proofs.YtnnofopfbeklbaaGreatW.PrintWords Go.Proofs.YtnnofopfbeklbaaGreatW.PrintLast Go.Proofs.YtnnofopfbeklbaaGreatW.PrintMore
attribute [local go_sem] Qfg Qfh Qfi Qfj
theorem u8_info : ∃ i, Tryz.prog.info? 5 = some i ∧ i.size = 1 ∧ i.zero = some (.int .u8 0) ∧ i.bytes = 1 := by
 have h := Qft
 cases hh : Tryz.prog.info? 5 with
 | none => rw [hh] at h; cases h
 | some i =>
  rw [hh] at h
  simp only [Option.map_some, Option.some.injEq, Prod.mk.injEq] at h
  exact ⟨i, rfl, h.2.1, h.1, h.2.2⟩
theorem c8_from (A : Option Addr) (n c m : Nat) (j : Int) (hj : j = (m : Int)) (hm : m ≤ n) (hc : n ≤ c) :
  ∃ (A' : Option Addr) (n' c' : Nat), n' = n - m ∧ n' ≤ c' ∧ (∀ W : World, (Instr.slice 52 (.slice A n c) (some (.int .i64 j)) none none).run Tryz.prog W = .ok (.slice A' n' c') W) ∧
   ∀ (W : World) (xs : List Int), Kd.C (Kd.int .u8) W A n xs → Kd.C (Kd.int .u8) W A' n' (xs.drop m) := by
 subst hj
 obtain ⟨i, hi, hsz, _⟩ := u8_info
 refine ⟨if c = m then A else A.map (·.add (m * 1)), n - m, c - m, rfl, by omega, fun W => ?_, fun W xs hq => ?_⟩
 ·have h := cut_from (P := Tryz.prog) 52 5 .i64 Tryz.underlying52 hi 1 hsz A n c (m : Int) (by omega) (by omega) W
  rw [Int.toNat_natCast] at h
  exact h
 ·have hl := hq.1
  subst hl
  have h := Kd.C_drop hq hm hc
  rw [List.length_drop] at h
  exact h
theorem c8_to (A : Option Addr) (n c m : Nat) (j : Int) (hj : j = (m : Int)) (hm : m ≤ n) (hc : n ≤ c) :
  ∃ (n' : Nat), n' = m ∧ n' ≤ c ∧ (∀ W : World, (Instr.slice 52 (.slice A n c) none (some (.int .i64 j)) none).run Tryz.prog W = .ok (.slice A n' c) W) ∧
   ∀ (W : World) (xs : List Int), Kd.C (Kd.int .u8) W A n xs → Kd.C (Kd.int .u8) W A n' (xs.take m) := by
 subst hj
 obtain ⟨i, hi, hsz, _⟩ := u8_info
 refine ⟨m, rfl, by omega, fun W => ?_, fun W xs hq => ?_⟩
 ·have h := cut_to (P := Tryz.prog) 52 5 .i64 Tryz.underlying52 hi A n c (m : Int) (by omega) (by omega) hc W
  rw [Int.toNat_natCast] at h
  exact h
 ·have hl := hq.1
  subst hl
  have h := Kd.C_take hq hm
  rw [List.length_take, Nat.min_eq_left hm] at h
  exact h
theorem ix_at {W : World} {A : Option Addr} {n c : Nat} {l : List Int} (v : Int) (hC : Kd.C (Kd.int .u8) W A n l) (hc : n ≤ c) :
  Calls Tryz.prog 80 #[.slice A n c, .int .u8 v] W fun e w' => e = .returned (.int .i64 (ixOf l v)) ∧ Drawn0 W w' := by
 have hl := hC.1
 subst hl
 exact Qad.calls A c l v _ W hC hc rfl
theorem Qgu (l : List Int) (c : Int) : -1 ≤ ixOf l c ∧ ixOf l c < l.length := by
 unfold ixOf
 refine ⟨Lib.indexByte_ge _ _, ?_⟩
 rcases Int.lt_or_le (Lib.indexByte (Lib.bytesOf l) c.toNat.toUInt8) 0 with h | h
 ·omega
 ·obtain ⟨o, ho⟩ := Int.eq_ofNat_of_zero_le h
  have h1 := (Lib.indexByte_some (o := o) ho).1
  have h2 := (List.getElem?_eq_some_iff.1 h1).1
  have h3 : (Lib.bytesOf l).length = l.length := by simp [Lib.bytesOf]
  omega
theorem R8.cap (W : World) (cs : Array Value) (cap : Nat) (hsz : cs.size = cap * 1) (hm : cap ≤ maxLen) : R8 (W.alloc (.cells cs 5)) W.heap.size (.slice (some ⟨W.heap.size, 0, none⟩) 0 cap) [] :=
 Kd.R_of_own ⟨by simp [encs], .inr ⟨W.heap.size, cap, cs, rfl, Nat.le_refl _, heap_alloc_new W _, Nat.zero_le _, hm, hsz, by simp [encs]⟩⟩ (fun _ _ => trivial)
def Qgv : Nat → List Int → List Int
 | 0, _ => []
 | k + 1, b =>
  if 0 ≤ ixOf (b.take 254) 0 then ((ixOf (b.take 254) 0 + 1) % 256) :: (b.take (ixOf (b.take 254) 0).toNat ++ Qgv k (b.drop ((ixOf (b.take 254) 0).toNat + 1)))
  else if 254 < b.length then 255 :: (b.take 254 ++ Qgv k (b.drop 254))
  else (((b.length : Int) + 1) % 256) :: b
def Qgw (b : List Int) : List Int := Qgv (b.length + 1) b
theorem Qgx : ∀ (k : Nat) (b : List Int), b.length < k → ∀ j, Qgv (k + j) b = Qgv k b
 | 0, b, h, _ => by omega
 | k + 1, b, h, j => by
  rw [show k + 1 + j = (k + j) + 1 by omega]
  unfold Qgv
  split
  ·rename_i h0
   have h1 := (Qgu (b.take 254) 0).2
   rw [List.length_take] at h1
   rw [Qgx k _ (by rw [List.length_drop]; omega) j]
  ·split
   ·rw [Qgx k _ (by rw [List.length_drop]; omega) j]
   ·rfl
theorem Qgy (k : Nat) (b : List Int) (h : b.length < k) : Qgv k b = Qgw b := by
 have e := Qgx (b.length + 1) b (by omega) (k - (b.length + 1))
 rw [show b.length + 1 + (k - (b.length + 1)) = k by omega] at e
 exact e
theorem Qgz {b : List Int} {p : Nat} (h : ixOf (b.take 254) 0 = (p : Int)) : Qgw b = (((p : Int) + 1) % 256) :: (b.take p ++ Qgw (b.drop (p + 1))) := by
 have h1 := (Qgu (b.take 254) 0).2
 rw [List.length_take] at h1
 have hp : p < b.length := by omega
 rw [Qgw, Qgv, if_pos (by omega), h, Int.toNat_natCast, Qgy _ _ (by rw [List.length_drop]; omega)]
theorem Qha {b : List Int} (h : ixOf (b.take 254) 0 < 0) (hl : 254 < b.length) : Qgw b = 255 :: (b.take 254 ++ Qgw (b.drop 254)) := by
 rw [Qgw, Qgv, if_neg (by omega), if_pos hl, Qgy _ _ (by rw [List.length_drop]; omega)]
theorem Qhb {b : List Int} (h : ixOf (b.take 254) 0 < 0) (hl : ¬ 254 < b.length) : Qgw b = (((b.length : Int) + 1) % 256) :: b := by
 rw [Qgw, Qgv, if_neg (by omega), if_neg hl]
def most (n : Nat) : Nat := if n = 0 then 1 else n + 1 + (n - 1) / 254
theorem most_is (n : Nat) (h : n ≤ 140737488355328) : Qaj.f (n : Int) = some (most n : Int) := by
 unfold Qaj.f most
 by_cases h0 : n = 0
 ·subst h0; rfl
 ·rw [if_neg (by omega), if_neg h0]
  have e1 : wrap64 ((n : Int) - 1) = (n : Int) - 1 := by unfold wrap64; omega
  have e2 : wrap64 ((n : Int) + 1) = (n : Int) + 1 := by unfold wrap64; omega
  rw [e1, e2]
  have e3 : Int.tdiv ((n : Int) - 1) 254 = (((n - 1) / 254 : Nat) : Int) := by
   rw [show (n : Int) - 1 = ((n - 1 : Nat) : Int) by omega]
   rfl
  rw [e3]
  have e4 : wrap64 (((n - 1) / 254 : Nat) : Int) = (((n - 1) / 254 : Nat) : Int) := by unfold wrap64; omega
  rw [e4]
  have e5 : wrap64 ((n : Int) + 1 + (((n - 1) / 254 : Nat) : Int)) = (n : Int) + 1 + (((n - 1) / 254 : Nat) : Int) := by unfold wrap64; omega
  rw [e5]
  simp
set_option maxRecDepth 100000 in
set_option maxHeartbeats 4000000 in
theorem stuff_of (A0 : Option Addr) (c0 : Nat) (l0 : List Int) (w : World) (hr0 : Kd.C (Kd.int .u8) w A0 l0.length l0) (hc0 : l0.length ≤ c0) (hl : l0.length ≤ 35184372088832) :
  Calls Tryz.prog 152 #[.slice A0 l0.length c0] w fun e w' => ∃ v0_ : Value, e = .returned (v0_) ∧ R8 w' w.heap.size v0_ (Qgw l0) ∧ Below w.heap.size w w' := by
 obtain ⟨i8, hi8, hs8, hz8, hb8⟩ := u8_info
 have hmost : most l0.length ≤ 140737488355328 := by unfold most; split <;> omega
 have hrun := fun W => run_make (P := Tryz.prog) W 52 5 i8 (.int .u8 0) Tryz.underlying52 hi8 hz8 .i64 .i64 0 (most l0.length : Int) (by omega) (by omega) (by rw [hb8]; omega) (by omega)
 simp only [hs8] at hrun
 have HC0 := QA hr0
 clear hr0
 go_enter Tryz.func152, Tryz.ntmps152
 go_wp2_with (first | (go_at_call 197; refine (Qaj.calls _ _ _ (most_is l0.length (by omega))).mono ?_; rintro e w' ⟨rfl, hd⟩; obtain ⟨q, rfl⟩ := hd.out; clear hd))
 obtain ⟨W0, hW0⟩ : ∃ W0, W0 = (w.drewN q).alloc (.cells (madeCells #[.int .u8 0] (most l0.length)) 5) := ⟨_, rfl⟩
 have HR0 := QA (show R8 W0 w.heap.size (.slice (some ⟨w.heap.size, 0, none⟩) 0 (most l0.length)) [] by rw [hW0]; exact R8.cap (w.drewN q) _ _ (by simp [madeCells]) (by unfold maxLen; omega))
 have HB0 := QA (show Below w.heap.size w W0 by rw [hW0]; exact Qcf (Qce (Below.refl _ _) q) (Nat.le_refl _) (Qcc (Below.refl _ _) _))
 rw [← hW0]
 clear hW0 hrun
 go_loopw [0, 3, 4, 24, 41] (fun v0 v3 v4 v24 v41 wr => ∃ (l' out : List Int) (A : Option Addr) (n c : Nat), v0 = .slice A n c ∧ n ≤ c ∧ Aside0 (n = l'.length) ∧ n ≤ l0.length ∧ out.length + 2 * n ≤ 2 * l0.length ∧ Aside0 (Qgw l0 = out ++ Qgw l') ∧ Aside0 (Kd.C (Kd.int .u8) w A n l') ∧ Aside0 (R8 wr w.heap.size v3 out) ∧ Aside0 (Below w.heap.size w wr))
  (fun v0 _ _ _ _ _ => lenV v0)
 case atStart => exact ⟨l0, [], A0, l0.length, c0, rfl, hc0, ⟨rfl⟩, Nat.le_refl _, by simp, ⟨rfl⟩, HC0, HR0, HB0⟩
 case round =>
  obtain ⟨l', out, A, n, c, rfl, hnc, HN, hn0, hout, HS, HC, HR, HB⟩ := hrel
  clear HR0 HB0
  obtain ⟨x, hx⟩ : ∃ x, x = ixOf (l'.take 254) 0 := ⟨_, rfl⟩
  have hxr := Qgu (l'.take 254) 0
  rw [← hx] at hxr
  have hlt := HN.out
  have hx1 : x < (n : Int) ∧ x < 254 := by have := hxr.2; rw [List.length_take] at this; omega
  have hx0 := hxr.1
  have HX := QA hx
  clear hxr hlt hx
  obtain ⟨m, hm, hC1, hmc⟩ : ∃ m, (m = if 254 < n then 254 else n) ∧ Aside0 (Kd.C (Kd.int .u8) w A m (l'.take 254)) ∧ m ≤ c := by
   by_cases h : 254 < n
   ·refine ⟨254, by rw [if_pos h], ⟨?_⟩, by omega⟩
    have h1 := HC.out
    rw [HN.out] at h1
    have h2 := Kd.C_take h1 (m := 254) (by have := HN.out; omega)
    rw [List.length_take, Nat.min_eq_left (by have := HN.out; omega)] at h2
    exact h2
   ·refine ⟨n, by rw [if_neg h], ⟨?_⟩, hnc⟩
    rw [List.take_of_length_le (by have := HN.out; omega)]
    exact HC.out
  have HM := QA hm
  by_cases hxz : 0 ≤ x
  ·obtain ⟨p, rfl⟩ := Int.eq_ofNat_of_zero_le hxz
   have hpn : (p : Int) ≤ (n : Int) := by omega
   have hp8 : p < 254 := by omega
   have hwp : IntKind.i64.wrap ((p : Int) + 1) = (p : Int) + 1 := IntWalk.i64_in _ (by omega)
   have hCp := QA (show Kd.C (Kd.int .u8) w A p (l'.take p) by
    have h1 := HC.out
    rw [HN.out] at h1
    have h2 := Kd.C_take h1 (m := p) (by have := HN.out; omega)
    rw [List.length_take, Nat.min_eq_left (by have := HN.out; omega)] at h2
    exact h2)
   obtain ⟨p', hp', _, hcutp, _⟩ := c8_to A n c p p rfl (by omega) hnc
   subst hp'
   obtain ⟨A4, n4, c4, hn4, hnc4, hcut4, hC4⟩ := c8_from A n c (p' + 1) ((p' : Int) + 1) (by omega) (by omega) hnc
   have HN4 := QA hn4
   have hn4n : n4 < n := by omega
   clear hn4
   by_cases hbig : 254 < n
   all_goals first | rw [if_pos hbig] at hm | rw [if_neg hbig] at hm
   all_goals
    subst hm
    go_wp2_with (first | (go_at_call 80; refine (ix_at 0 (Kd.C_below hC1.out HB.out) hmc).mono ?_; rw [← HX.out]; rintro e w2 ⟨rfl, hd⟩; obtain ⟨q2, rfl⟩ := hd.out; clear hd))
    obtain ⟨W, hW⟩ : ∃ W, W = (wr.drewN q2).drew := ⟨_, rfl⟩
    go_region_law (first
     | (refine Kd.R_append_step (Kd.int .u8) (w0 := w) w.heap.size (by rfl) (.tmp 27) (.tmp 31) 52 5 (.int .u8 0) 1 rfl Tryz.underlying52 Qft rfl (by decide) (by omega) u3 out (((p' : Int) + 1) % 256) [.int .u8 (((p' : Int) + 1) % 256)] (fun _ => True) (fun _ => False) rfl ?ax ?aP (fun _ hk => hk.elim) (fun _ _ => trivial) ?aO ?aB ?aS ?aL ?_; (case ax => rfl); (case aP => rfl); (case aO => exact Kd.R_drew (Kd.R_drewN HR.out q2)); (case aB => exact Qcd (Qce HB.out q2)); (case aS => exact HB.out.size); (case aL => omega); intro v1 w1 HR1 hb1 hg1 hat1)
     | (refine Kd.R_append_rows_step (Kd.int .u8) (Rr := fun x cs => cs = [.int .u8 x]) (w0 := w) w.heap.size (by rfl) (.tmp 32) (.tmp 35) 52 5 (.int .u8 0) 1 rfl Tryz.underlying52 Qft rfl (by decide) (by omega) v1 (out ++ [((p' : Int) + 1) % 256]) (l'.take p') A p' c (fun _ => True) (fun _ => False) rfl rfl HR1 ?bR (fun _ _ h => h) (fun _ hk => hk.elim) (fun _ _ => trivial) hb1 hb1.size ?bL ?_; (case bR => exact Kd.C_below hCp.out hb1); (case bL => simp; omega); intro v2 w2 HR2 hb2 hg2 hat2))
    all_goals
     have HR2' := QA HR2
     have HB2' := QA hb2
     clear HR1 hb1 hg1 hat1 HR2 hb2 hg2 hat2
     go_wp2_with fail
     go_roundw
     case rel => exact ⟨l'.drop (p' + 1), out ++ [((p' : Int) + 1) % 256] ++ l'.take p', A4, n4, c4, rfl, hnc4, ⟨by rw [List.length_drop]; have := HN4.out; have := HN.out; omega⟩, by omega, by
       have := HN.out
       have := HN4.out
       simp only [List.length_append, List.length_singleton, List.length_take]
       omega, ⟨by
       rw [HS.out, Qgz HX.out.symm]
       simp⟩, ⟨hC4 _ _ HC.out⟩, HR2', HB2'⟩
     case measure => simp [lenV]; omega
  ·have hxm : x = -1 := by omega
   subst hxm
   have hix : ixOf (l'.take 254) 0 < 0 := by have := HX.out; omega
   have HIX := QA hix
   clear hix
   by_cases hbig : 254 < n
   ·rw [if_pos hbig] at hm
    subst hm
    have hbi : (254 : Int) < (n : Int) := by omega
    obtain ⟨p', hp', _, hcutp, _⟩ := c8_to A n c 254 254 rfl (by omega) hnc
    subst hp'
    obtain ⟨A4, n4, c4, hn4, hnc4, hcut4, hC4⟩ := c8_from A n c 254 254 rfl (by omega) hnc
    have HN4 := QA hn4
    have hn4n : n4 < n := by omega
    clear hn4
    go_wp2_with (first | (go_at_call 80; refine (ix_at 0 (Kd.C_below hC1.out HB.out) hmc).mono ?_; rw [← HX.out]; rintro e w2 ⟨rfl, hd⟩; obtain ⟨q2, rfl⟩ := hd.out; clear hd))
    go_region_law (first
     | (refine Kd.R_append_step (Kd.int .u8) (w0 := w) w.heap.size (by rfl) (.tmp 45) (.tmp 46) 52 5 (.int .u8 0) 1 rfl Tryz.underlying52 Qft rfl (by decide) (by omega) u3 out 255 [.int .u8 255] (fun _ => True) (fun _ => False) rfl ?ax ?aP (fun _ hk => hk.elim) (fun _ _ => trivial) ?aO ?aB ?aS ?aL ?_; (case ax => rfl); (case aP => rfl); (case aO => exact Kd.R_drew (Kd.R_drewN HR.out q2)); (case aB => exact Qcd (Qce HB.out q2)); (case aS => exact HB.out.size); (case aL => omega); intro v1 w1 HR1 hb1 hg1 hat1)
     | (refine Kd.R_append_rows_step (Kd.int .u8) (Rr := fun x cs => cs = [.int .u8 x]) (w0 := w) w.heap.size (by rfl) (.tmp 47) (.tmp 49) 52 5 (.int .u8 0) 1 rfl Tryz.underlying52 Qft rfl (by decide) (by omega) v1 (out ++ [255]) (l'.take 254) A 254 c (fun _ => True) (fun _ => False) rfl rfl HR1 ?bR (fun _ _ h => h) (fun _ hk => hk.elim) (fun _ _ => trivial) hb1 hb1.size ?bL ?_; (case bR => exact Kd.C_below hC1.out hb1); (case bL => simp; omega); intro v2 w2 HR2 hb2 hg2 hat2))
    all_goals
     have HR2' := QA HR2
     have HB2' := QA hb2
     clear HR1 hb1 hg1 hat1 HR2 hb2 hg2 hat2
     go_wp2_with fail
     go_roundw
     case rel => exact ⟨l'.drop 254, out ++ [255] ++ l'.take 254, A4, n4, c4, rfl, hnc4, ⟨by rw [List.length_drop]; have := HN4.out; have := HN.out; omega⟩, by omega, by
       have := HN.out
       have := HN4.out
       simp only [List.length_append, List.length_singleton, List.length_take]
       omega, ⟨by
       rw [HS.out, Qha HIX.out (by have := HN.out; omega)]
       simp⟩, ⟨hC4 _ _ HC.out⟩, HR2', HB2'⟩
     case measure => simp [lenV]; omega
   ·rw [if_neg hbig] at hm
    subst hm
    have hbi : (m : Int) ≤ 254 := by omega
    go_wp2_with (first
     | (go_at_call 80; refine (ix_at 0 (Kd.C_below hC1.out HB.out) hmc).mono ?_; rw [← HX.out]; rintro e w2 ⟨rfl, hd⟩; obtain ⟨q2, rfl⟩ := hd.out; clear hd)
     | (at_builtin; refine Kd.R_append (Kd.int .u8) (w0 := w) w.heap.size rfl (.tmp 15) (.tmp 20) 52 5 (.int .u8 0) 1 rfl Tryz.underlying52 Qft rfl (by decide) (by omega) u3 out ((m : Int) + 1) [.int .u8 ((m : Int) + 1)] (fun _ => True) (fun _ => False) rfl ?ax ?aP (fun _ hk => hk.elim) ?aF ?aO ?aB ?aS ?aL ?_; (case ax => rfl); (case aP => rfl); (case aF => exact fun _ _ => trivial); (case aO => exact Kd.R_drewN HR.out q2); (case aB => exact Qce HB.out q2); (case aS => exact HB.out.size); (case aL => omega); intro v1 w1 HR1 hb1 hg1 hat1)
     | (at_builtin; refine Kd.R_append_rows (Kd.int .u8) (Rr := fun x cs => cs = [.int .u8 x]) (w0 := w) w.heap.size rfl (.tmp 21) (.tmp 22) 52 5 (.int .u8 0) 1 rfl Tryz.underlying52 Qft rfl (by decide) (by omega) v1 (out ++ [(m : Int) + 1]) (l'.take 254) A m c (fun _ => True) (fun _ => False) rfl rfl HR1 ?bR (fun _ _ h => h) (fun _ hk => hk.elim) (fun _ _ => trivial) hb1 hb1.size ?bL ?_; (case bR => exact Kd.C_below hC1.out hb1); (case bL => simp; omega); intro v2 w2 HR2 hb2 hg2 hat2))
    go_ret
    refine ⟨v2, rfl, ?_, hb2⟩
    have hlm := HN.out
    rw [HS.out, Qhb HIX.out (by omega), ← hlm]
    rw [List.take_of_length_le (by omega)] at HR2
    rw [show ((m : Int) + 1) % 256 = (m : Int) + 1 by omega]
    simpa using HR2
end Go.Proofs.YtnnofopfbeklbaaGreat.C
end
