/- Texts of this claim's author and of the print of its functions, merged by merge.py. -/
import Derived.Test.YtnnofopfbeklbaaGreatMD03
import Derived.Shelf.Bytes.SlIndexAt
import Derived.Lib.IndexLaws
import Derived.Deep.RegionLaw
import Derived.Test.YtnnofopfbeklbaaGreatMD04
set_option linter.unusedVariables false
set_option linter.unusedSimpArgs false
set_option maxHeartbeats 8000000
set_option maxRecDepth 100000
section
namespace Go.Proofs.YtnnofopfbeklbaaGreat.C
open Go.RowKit Go.Proofs.YtnnofopfbeklbaaGreatW.PrintWords Go.Proofs.YtnnofopfbeklbaaGreatW.PrintLast Go.Proofs.YtnnofopfbeklbaaGreatW.PrintMore
attribute [local go_sem] Qgh Qgi Qgj Qgk Qgl Qgm Qgn Qgo
def Qcr.j0 : Nat → Bool → Bool → Int → ByteArray → ByteArray → Option (Int)
 | 0, _, _, _, _, _ => none
 | k + 1, x12, x117000, x117001, x117002, x117003 => if x12 = true then (some 4) else (if (x117003.size : Int) > 1048576 then (some 3) else (some 0))
def Qcr.f (k : Nat) (a0_0 : Bool) (a0_1 : Int) (a0_2 : ByteArray) (a0_3 : ByteArray) : Option (Int) := if a0_2.toList = ([] : List UInt8) then (some 4) else (if (a0_2.size : Int) > 4096 then (some 3) else (if a0_0 = true then (Qcr.j0 k (a0_3.toList != ([] : List UInt8)) a0_0 a0_1 a0_2 a0_3) else (Qcr.j0 k false a0_0 a0_1 a0_2 a0_3)))
theorem Qcr.mono_l : ∀ k, (∀ y0 y1 y2 y3 y4, LeO (Qcr.j0 k y0 y1 y2 y3 y4) (Qcr.j0 (k + 1) y0 y1 y2 y3 y4))
 | 0 => fun _ _ _ _ _ r h => by simp [Qcr.j0] at h
 | k + 1 => by
  have ih0 := Qcr.mono_l k
  ·intro y0 y1 y2 y3 y4
   unfold Qcr.j0
   repeat' first
   | (with_reducible exact ih0 _ _ _ _ _)
   | (with_reducible exact LeO.refl _)
   | (with_reducible exact LeO.none _)
   | (with_reducible refine LeO.ite ?_ ?_)
   | (with_reducible refine LeO.bind ?_ (fun _ => ?_))
   | exact ih0 _ _ _ _ _
   | exact LeO.none _
   | refine LeO.ite ?_ ?_
   | refine LeO.bind ?_ (fun _ => ?_)
theorem Qcr.mono : ∀ a0 a1 a2 a3 k, LeO (Qcr.f k a0 a1 a2 a3) (Qcr.f (k + 1) a0 a1 a2 a3) := by
 intro a0 a1 a2 a3 k
 have ih0 := Qcr.mono_l k
 unfold Qcr.f
 repeat' first
   | (with_reducible exact ih0 _ _ _ _ _)
   | (with_reducible exact LeO.refl _)
   | (with_reducible exact LeO.none _)
   | (with_reducible refine LeO.ite ?_ ?_)
   | (with_reducible refine LeO.bind ?_ (fun _ => ?_))
   | exact ih0 _ _ _ _ _
   | exact LeO.none _
   | refine LeO.ite ?_ ?_
   | refine LeO.bind ?_ (fun _ => ?_)
theorem Qcr.calls (k : Nat) (a0_0 : Bool) (a0_1 : Int) (a0_2 : ByteArray) (a0_3 : ByteArray) (r : Int) (w : World) (h : Qcr.f k a0_0 a0_1 a0_2 a0_3 = some r) :
  Calls Tryz.prog 56 #[.agg #[.bool a0_0, .int .u64 a0_1, .string a0_2, .string a0_3]] w fun e w' => e = .returned (.int .i64 r) ∧ Below w.heap.size w w' := by
 have hu39 := Tryz.underlying39
 have HB := QA (Below.refl w.heap.size w)
 have H : (if a0_2.toList = ([] : List UInt8) then (some 4) else (if (a0_2.size : Int) > 4096 then (some 3) else (if a0_0 = true then (Qcr.j0 k (a0_3.toList != ([] : List UInt8)) a0_0 a0_1 a0_2 a0_3) else (Qcr.j0 k false a0_0 a0_1 a0_2 a0_3)))) = some r := h
 clear h
 by_cases c2 : a0_2.toList = ([] : List UInt8)
 ·rw [if_pos c2] at H
  have c2b0 : (a0_2.toList == ([] : List UInt8)) = true := beq_iff_eq.mpr c2
  have c2b1 : (a0_2.toList != ([] : List UInt8)) = false := bne_eq_false_iff_eq.mpr c2
  clear c2
  obtain rfl := Option.some.inj H
  go_enter Tryz.func56, Tryz.ntmps56
  go_wp2_with (first | ((with_reducible refine Qer (N := 1) rfl ?_); refine qq_e 1 #[.bool a0_0, .int .u64 a0_1, .string a0_2, .string a0_3] 39 ?_; intro gb116 hg w3 hbox hb; have n0_ := QA (Qem qq_b hb); have n1_ := QA (hbox); have n2_ := QA ((qq_s hg : w.heap.size ≤ gb116)); have n3_ := QA ((qq_s hg : w.heap.size ≤ gb116)); clear HB; have HB := n0_; have BK116 := n1_; have GW116 := n2_; have GE116 := n3_; clear n0_ n1_ n2_ n3_; clear hb hbox hg; have hcz4_0 := qq_c (.bool a0_0) BK116.out 0 rfl; have hcz4_1 := qq_c (.int .u64 a0_1) BK116.out 1 rfl; have hcz4_2 := qq_c (.string a0_2) BK116.out 2 rfl; have hcz4_3 := qq_c (.string a0_3) BK116.out 3 rfl; have hfz4_0 := Qdt BK116.out 0; have hfz4_1 := Qdt BK116.out 1; have hfz4_2 := Qdt BK116.out 2; have hfz4_3 := Qdt BK116.out 3))
  go_ret
  exact ⟨by first | rfl | (simp [Qgu, Qgv] <;> rfl) | (simp [*, Qgu, Qgv] <;> rfl), qq_b⟩
 ·rw [if_neg c2] at H
  have c2b0 : (a0_2.toList == ([] : List UInt8)) = false := beq_eq_false_iff_ne.mpr c2
  have c2b1 : (a0_2.toList != ([] : List UInt8)) = true := bne_iff_ne.mpr c2
  by_cases c5 : (a0_2.size : Int) > 4096
  ·rw [if_pos c5] at H
   have c5b0 : decide (4096 < (a0_2.size : Int)) = true := decide_eq_true c5
   have c5b1 : decide (4096 < a0_2.size) = true := decide_eq_true (by omega)
   clear c5
   obtain rfl := Option.some.inj H
   go_enter Tryz.func56, Tryz.ntmps56
   go_wp2_with (first | ((with_reducible refine Qer (N := 1) rfl ?_); refine qq_e 1 #[.bool a0_0, .int .u64 a0_1, .string a0_2, .string a0_3] 39 ?_; intro gb116 hg w6 hbox hb; have n0_ := QA (Qem qq_b hb); have n1_ := QA (hbox); have n2_ := QA ((qq_s hg : w.heap.size ≤ gb116)); have n3_ := QA ((qq_s hg : w.heap.size ≤ gb116)); clear HB; have HB := n0_; have BK116 := n1_; have GW116 := n2_; have GE116 := n3_; clear n0_ n1_ n2_ n3_; clear hb hbox hg; have hcz7_0 := qq_c (.bool a0_0) BK116.out 0 rfl; have hcz7_1 := qq_c (.int .u64 a0_1) BK116.out 1 rfl; have hcz7_2 := qq_c (.string a0_2) BK116.out 2 rfl; have hcz7_3 := qq_c (.string a0_3) BK116.out 3 rfl; have hfz7_0 := Qdt BK116.out 0; have hfz7_1 := Qdt BK116.out 1; have hfz7_2 := Qdt BK116.out 2; have hfz7_3 := Qdt BK116.out 3))
   go_ret
   exact ⟨by first | rfl | (simp [Qgu, Qgv] <;> rfl) | (simp [*, Qgu, Qgv] <;> rfl), qq_b⟩
  ·rw [if_neg c5] at H
   have c5b0 : decide (4096 < (a0_2.size : Int)) = false := decide_eq_false c5
   have c5b1 : decide (4096 < a0_2.size) = false := decide_eq_false (by omega)
   clear c5
   have HC8 := QA H
   clear H
   go_enter Tryz.func56, Tryz.ntmps56
   go_upto_region 5 with (first | ((with_reducible refine Qer (N := 1) rfl ?_); refine qq_e 1 #[.bool a0_0, .int .u64 a0_1, .string a0_2, .string a0_3] 39 ?_; intro gb116 hg w9 hbox hb; have n0_ := QA (Qem qq_b hb); have n1_ := QA (hbox); have n2_ := QA ((qq_s hg : w.heap.size ≤ gb116)); have n3_ := QA ((qq_s hg : w.heap.size ≤ gb116)); clear HB; have HB := n0_; have BK116 := n1_; have GW116 := n2_; have GE116 := n3_; clear n0_ n1_ n2_ n3_; clear hb hbox hg; have hcz10_0 := qq_c (.bool a0_0) BK116.out 0 rfl; have hcz10_1 := qq_c (.int .u64 a0_1) BK116.out 1 rfl; have hcz10_2 := qq_c (.string a0_2) BK116.out 2 rfl; have hcz10_3 := qq_c (.string a0_3) BK116.out 3 rfl; have hfz10_0 := Qdt BK116.out 0; have hfz10_1 := Qdt BK116.out 1; have hfz10_2 := Qdt BK116.out 2; have hfz10_3 := Qdt BK116.out 3))
   (try simp only [Act.put, List.setIfInBounds_toArray, List.set_cons_zero, List.set_cons_succ])
   go_cut [12] (fun v12 wc => ∃ (kq : Nat) (x12_7 : Bool), v12 = .bool x12_7 ∧ Aside0 (Qcr.j0 kq x12_7 a0_0 a0_1 a0_2 a0_3 = some r) ∧ Aside0 (kq ≤ k) ∧ Aside0 (wc.heap[gb116]? = some (.cells #[.bool a0_0, .int .u64 a0_1, .string a0_2, .string a0_3] 39 (0, 0))) ∧ Aside0 (Below w.heap.size w wc))
   case first =>
    have H := HC8.out
    clear HC8
    by_cases c11 : a0_0 = true
    ·subst c11
     have H1 : (Qcr.j0 k (a0_3.toList != ([] : List UInt8)) true a0_1 a0_2 a0_3) = some r := by rw [if_pos rfl] at H; exact H
     clear H
     have H := H1
     clear H1
     have H' := QA H
     clear H
     have hcz12_0 := qq_c (.bool true) BK116.out 0 rfl
     have hcz12_1 := qq_c (.int .u64 a0_1) BK116.out 1 rfl
     have hcz12_2 := qq_c (.string a0_2) BK116.out 2 rfl
     have hcz12_3 := qq_c (.string a0_3) BK116.out 3 rfl
     have hfz12_0 := Qdt BK116.out 0
     have hfz12_1 := Qdt BK116.out 1
     have hfz12_2 := Qdt BK116.out 2
     have hfz12_3 := Qdt BK116.out 3
     go_wp2
     go_meet
     case rel => exact ⟨_, ((a0_3.toList != ([] : List UInt8))), (by first | rfl | (simp; done) | (simp [*]; done) | (cases a0_3.toList <;> rfl)), H', ⟨by first | omega | exact Nat.le_refl _⟩, ⟨by (with_reducible repeat (first | apply Qea | apply Qdz | apply Qdy)); exact BK116.out⟩, ⟨qq_b⟩⟩
    ·replace c11 := Bool.eq_false_iff.mpr c11
     subst c11
     have H1 : (Qcr.j0 k false false a0_1 a0_2 a0_3) = some r := by rw [if_neg (show ¬ (false = true) by decide)] at H; exact H
     clear H
     have H := H1
     clear H1
     have H' := QA H
     clear H
     have hcz13_0 := qq_c (.bool false) BK116.out 0 rfl
     have hcz13_1 := qq_c (.int .u64 a0_1) BK116.out 1 rfl
     have hcz13_2 := qq_c (.string a0_2) BK116.out 2 rfl
     have hcz13_3 := qq_c (.string a0_3) BK116.out 3 rfl
     have hfz13_0 := Qdt BK116.out 0
     have hfz13_1 := Qdt BK116.out 1
     have hfz13_2 := Qdt BK116.out 2
     have hfz13_3 := Qdt BK116.out 3
     go_wp2
     go_meet
     case rel => exact ⟨_, (false), (by first | rfl | (simp; done) | (simp [*]; done) | (cases a0_3.toList <;> rfl)), H', ⟨by first | omega | exact Nat.le_refl _⟩, ⟨by (with_reducible repeat (first | apply Qea | apply Qdz | apply Qdy)); exact BK116.out⟩, ⟨qq_b⟩⟩
   case rest =>
    clear HC8
    try clear c2
    try clear c2b0
    try clear c2b1
    try clear c5
    try clear c5b0
    try clear c5b1
    try clear c11
    try clear hcz10_0
    try clear hcz10_1
    try clear hcz10_2
    try clear hcz10_3
    try clear hcz12_0
    try clear hcz12_1
    try clear hcz12_2
    try clear hcz12_3
    try clear hcz13_0
    try clear hcz13_1
    try clear hcz13_2
    try clear hcz13_3
    try clear hcz4_0
    try clear hcz4_1
    try clear hcz4_2
    try clear hcz4_3
    try clear hcz7_0
    try clear hcz7_1
    try clear hcz7_2
    try clear hcz7_3
    try clear hfz10_0
    try clear hfz10_1
    try clear hfz10_2
    try clear hfz10_3
    try clear hfz12_0
    try clear hfz12_1
    try clear hfz12_2
    try clear hfz12_3
    try clear hfz13_0
    try clear hfz13_1
    try clear hfz13_2
    try clear hfz13_3
    try clear hfz4_0
    try clear hfz4_1
    try clear hfz4_2
    try clear hfz4_3
    try clear hfz7_0
    try clear hfz7_1
    try clear hfz7_2
    try clear hfz7_3
    obtain ⟨kq, x12_7, rfl, HA, HJ7, BK116, HB⟩ := hcut
    cases kq with
    | zero => exact absurd HA.out (by simp [Qcr.j0])
    | succ kj7 =>
     have H := HA.out
     clear HA
     simp only [Qcr.j0] at H
     by_cases c14 : x12_7 = true
     ·subst c14
      have H1 : (some 4) = some r := by rw [if_pos rfl] at H; exact H
      clear H
      have H := H1
      clear H1
      obtain rfl := Option.some.inj H
      go_wp2
      go_ret
      exact ⟨by first | rfl | (simp [Qgu, Qgv] <;> rfl) | (simp [*, Qgu, Qgv] <;> rfl), qq_b⟩
     ·replace c14 := Bool.eq_false_iff.mpr c14
      subst c14
      have H1 : (if (a0_3.size : Int) > 1048576 then (some 3) else (some 0)) = some r := by rw [if_neg (show ¬ (false = true) by decide)] at H; exact H
      clear H
      have H := H1
      clear H1
      by_cases c15 : (a0_3.size : Int) > 1048576
      ·rw [if_pos c15] at H
       have c15b0 : decide (1048576 < (a0_3.size : Int)) = true := decide_eq_true c15
       have c15b1 : decide (1048576 < a0_3.size) = true := decide_eq_true (by omega)
       clear c15
       obtain rfl := Option.some.inj H
       have hcz16_0 := qq_c (.bool a0_0) BK116.out 0 rfl
       have hcz16_1 := qq_c (.int .u64 a0_1) BK116.out 1 rfl
       have hcz16_2 := qq_c (.string a0_2) BK116.out 2 rfl
       have hcz16_3 := qq_c (.string a0_3) BK116.out 3 rfl
       have hfz16_0 := Qdt BK116.out 0
       have hfz16_1 := Qdt BK116.out 1
       have hfz16_2 := Qdt BK116.out 2
       have hfz16_3 := Qdt BK116.out 3
       go_wp2
       go_ret
       exact ⟨by first | rfl | (simp [Qgu, Qgv] <;> rfl) | (simp [*, Qgu, Qgv] <;> rfl), qq_b⟩
      ·rw [if_neg c15] at H
       have c15b0 : decide (1048576 < (a0_3.size : Int)) = false := decide_eq_false c15
       have c15b1 : decide (1048576 < a0_3.size) = false := decide_eq_false (by omega)
       clear c15
       obtain rfl := Option.some.inj H
       have hcz17_0 := qq_c (.bool a0_0) BK116.out 0 rfl
       have hcz17_1 := qq_c (.int .u64 a0_1) BK116.out 1 rfl
       have hcz17_2 := qq_c (.string a0_2) BK116.out 2 rfl
       have hcz17_3 := qq_c (.string a0_3) BK116.out 3 rfl
       have hfz17_0 := Qdt BK116.out 0
       have hfz17_1 := Qdt BK116.out 1
       have hfz17_2 := Qdt BK116.out 2
       have hfz17_3 := Qdt BK116.out 3
       go_wp2
       go_ret
       exact ⟨by first | rfl | (simp [Qgu, Qgv] <;> rfl) | (simp [*, Qgu, Qgv] <;> rfl), qq_b⟩
def Qaj.f (a0 : Int) : Option (Int) := if a0 ≤ 0 then (some 1) else (some (wrap64 ((wrap64 (a0 + 1)) + (wrap64 (Int.tdiv (wrap64 (a0 - 1)) 254)))))
theorem Qaj.calls (a0 : Int) (r : Int) (w : World) (h : Qaj.f a0 = some r) :
  Calls Tryz.prog 197 #[.int .i64 a0] w fun e w' => e = .returned (.int .i64 r) ∧ Drawn0 w w' := by
 have H : (if a0 ≤ 0 then (some 1) else (some (wrap64 ((wrap64 (a0 + 1)) + (wrap64 (Int.tdiv (wrap64 (a0 - 1)) 254)))))) = some r := h
 clear h
 by_cases c2 : a0 ≤ 0
 ·rw [if_pos c2] at H
  have c2b0 : decide (a0 ≤ 0) = true := decide_eq_true c2
  clear c2
  obtain rfl := Option.some.inj H
  go_enter Tryz.func197, Tryz.ntmps197
  go_wp2
  go_ret
  exact ⟨by first | rfl | (simp; done) | (simp [*]; done), by repeat (first | exact Drawn0.refl _ | apply Drawn0.step)⟩
 ·rw [if_neg c2] at H
  have c2b0 : decide (a0 ≤ 0) = false := decide_eq_false c2
  clear c2
  obtain rfl := Option.some.inj H
  go_enter Tryz.func197, Tryz.ntmps197
  go_wp2
  go_ret
  exact ⟨by first | rfl | (simp; done) | (simp [*]; done), by repeat (first | exact Drawn0.refl _ | apply Drawn0.step)⟩
end Go.Proofs.YtnnofopfbeklbaaGreat.C
end
section
namespace Go.Proofs.YtnnofopfbeklbaaGreat.C
open Go.RowKit Go.Proofs.YtnnofopfbeklbaaGreatW.PrintWords Go.Proofs.YtnnofopfbeklbaaGreatW.PrintLast Go.Proofs.YtnnofopfbeklbaaGreatW.PrintMore
def ixOf (l : List Int) (c : Int) : Int := Lib.indexByte (Lib.bytesOf l) c.toNat.toUInt8
def Qad.f (l0 : List Int) (a1 : Int) : Option Int := some (ixOf l0 a1)
theorem Qad.calls (A0 : Option Addr) (c0 : Nat) (l0 : List Int) (a1 : Int) (r : Int) (w : World) (hr0 : Kd.C (Kd.int .u8) w A0 l0.length l0) (hc0 : l0.length ≤ c0) (h : Qad.f l0 a1 = some r) :
  Calls Tryz.prog 80 #[.slice A0 l0.length c0, .int .u8 a1] w fun e w' => e = .returned (.int .i64 r) ∧ Drawn0 w w' := by
 unfold Qad.f at h
 cases h
 have hcall : (callFunc 127 #[.slice A0 l0.length c0, .int .u8 a1]).run Tryz.prog w = .ok (.value (.int .i64 (ixOf l0 a1))) w := by
  rw [run_callFunc_extern Tryz.func127 qq_7 qq_7 qq_7 (e := Extern.BytealgIndexByte.indexByte) qq_7]
  cases A0 with
  | none =>
   obtain rfl : l0 = [] := by
    cases l0 with
    | nil => rfl
    | cons a t => obtain ⟨ad, c, h1, _⟩ := Kd.C_get hr0 0 0 (by omega) (by simp); cases h1
   rw [Lib.run_indexByteNil]
   rfl
  | some ad =>
   rw [Lib.run_indexByteAt w ad l0.length c0 l0 rfl (fun i hi => ?_)]
   ·rfl
   ·obtain ⟨a, ha, hx⟩ := Kd.at_int hr0 (i : Int) (by omega) (by omega)
    cases ha
    simpa [rd] using hx
 go_enter Tryz.func80, Tryz.ntmps80
 go_wp2
 go_ret
 exact ⟨rfl, Drawn0.refl _⟩
end Go.Proofs.YtnnofopfbeklbaaGreat.C
end
section
namespace Go.Proofs.YtnnofopfbeklbaaGreat.C
open Go.RowKit Go.Proofs.YtnnofopfbeklbaaGreatW.PrintWords Go.Proofs.YtnnofopfbeklbaaGreatW.PrintLast Go.Proofs.YtnnofopfbeklbaaGreatW.PrintMore
attribute [local go_sem] Qgh Qgi Qgj Qgk
theorem u8_info : ∃ i, Tryz.prog.info? 5 = some i ∧ i.size = 1 ∧ i.zero = some (.int .u8 0) ∧ i.bytes = 1 := by
 have h := Qgw
 cases hh : Tryz.prog.info? 5 with
 | none => rw [hh] at h; cases h
 | some i =>
  rw [hh] at h
  simp only [Option.map_some, Option.some.injEq, Prod.mk.injEq] at h
  exact ⟨i, rfl, h.2.1, h.1, h.2.2⟩
theorem c8_from (A : Option Addr) (n c m : Nat) (j : Int) (hj : j = (m : Int)) (hm : m ≤ n) (hc : n ≤ c) :
  ∃ (A' : Option Addr) (n' c' : Nat), n' = n - m ∧ n' ≤ c' ∧ (∀ W : World, (Instr.slice 52 (.slice A n c) (some (.int .i64 j)) none none).run Tryz.prog W = .ok (.slice A' n' c') W) ∧
   ∀ (W : World) (xs : List Int), Kd.C (Kd.int .u8) W A n xs → Kd.C (Kd.int .u8) W A' n' (xs.drop m) := by
 subst hj
 obtain ⟨i, hi, hsz, _⟩ := u8_info
 refine ⟨if c = m then A else A.map (·.add (m * 1)), n - m, c - m, rfl, by omega, fun W => ?_, fun W xs hq => ?_⟩
 ·have h := cut_from (P := Tryz.prog) 52 5 .i64 Tryz.underlying52 hi 1 hsz A n c (m : Int) (by omega) (by omega) W
  rw [Int.toNat_natCast] at h
  exact h
 ·have hl := hq.1
  subst hl
  have h := Kd.C_drop hq hm hc
  rw [List.length_drop] at h
  exact h
theorem c8_to (A : Option Addr) (n c m : Nat) (j : Int) (hj : j = (m : Int)) (hm : m ≤ n) (hc : n ≤ c) :
  ∃ (n' : Nat), n' = m ∧ n' ≤ c ∧ (∀ W : World, (Instr.slice 52 (.slice A n c) none (some (.int .i64 j)) none).run Tryz.prog W = .ok (.slice A n' c) W) ∧
   ∀ (W : World) (xs : List Int), Kd.C (Kd.int .u8) W A n xs → Kd.C (Kd.int .u8) W A n' (xs.take m) := by
 subst hj
 obtain ⟨i, hi, hsz, _⟩ := u8_info
 refine ⟨m, rfl, by omega, fun W => ?_, fun W xs hq => ?_⟩
 ·have h := cut_to (P := Tryz.prog) 52 5 .i64 Tryz.underlying52 hi A n c (m : Int) (by omega) (by omega) hc W
  rw [Int.toNat_natCast] at h
  exact h
 ·have hl := hq.1
  subst hl
  have h := Kd.C_take hq hm
  rw [List.length_take, Nat.min_eq_left hm] at h
  exact h
theorem ix_at {W : World} {A : Option Addr} {n c : Nat} {l : List Int} (v : Int) (hC : Kd.C (Kd.int .u8) W A n l) (hc : n ≤ c) :
  Calls Tryz.prog 80 #[.slice A n c, .int .u8 v] W fun e w' => e = .returned (.int .i64 (ixOf l v)) ∧ Drawn0 W w' := by
 have hl := hC.1
 subst hl
 exact Qad.calls A c l v _ W hC hc rfl
theorem Qib (l : List Int) (c : Int) : -1 ≤ ixOf l c ∧ ixOf l c < l.length := by
 unfold ixOf
 refine ⟨Lib.indexByte_ge _ _, ?_⟩
 rcases Int.lt_or_le (Lib.indexByte (Lib.bytesOf l) c.toNat.toUInt8) 0 with h | h
 ·omega
 ·obtain ⟨o, ho⟩ := Int.eq_ofNat_of_zero_le h
  have h1 := (Lib.indexByte_some (o := o) ho).1
  have h2 := (List.getElem?_eq_some_iff.1 h1).1
  have h3 : (Lib.bytesOf l).length = l.length := by simp [Lib.bytesOf]
  omega
theorem R8.cap (W : World) (cs : Array Value) (cap : Nat) (hsz : cs.size = cap * 1) (hm : cap ≤ maxLen) : R8 (W.alloc (.cells cs 5)) W.heap.size (.slice (some ⟨W.heap.size, 0, none⟩) 0 cap) [] :=
 Kd.R_of_own ⟨by simp [encs], .inr ⟨W.heap.size, cap, cs, rfl, Nat.le_refl _, heap_alloc_new W _, Nat.zero_le _, hm, hsz, by simp [encs]⟩⟩ (fun _ _ => trivial)
def Qic : Nat → List Int → List Int
 | 0, _ => []
 | k + 1, b =>
  if 0 ≤ ixOf (b.take 254) 0 then ((ixOf (b.take 254) 0 + 1) % 256) :: (b.take (ixOf (b.take 254) 0).toNat ++ Qic k (b.drop ((ixOf (b.take 254) 0).toNat + 1)))
  else if 254 < b.length then 255 :: (b.take 254 ++ Qic k (b.drop 254))
  else (((b.length : Int) + 1) % 256) :: b
def Qid (b : List Int) : List Int := Qic (b.length + 1) b
theorem Qie : ∀ (k : Nat) (b : List Int), b.length < k → ∀ j, Qic (k + j) b = Qic k b
 | 0, b, h, _ => by omega
 | k + 1, b, h, j => by
  rw [show k + 1 + j = (k + j) + 1 by omega]
  unfold Qic
  split
  ·rename_i h0
   have h1 := (Qib (b.take 254) 0).2
   rw [List.length_take] at h1
   rw [Qie k _ qq_15 j]
  ·split
   ·rw [Qie k _ qq_15 j]
   ·rfl
theorem Qif (k : Nat) (b : List Int) (h : b.length < k) : Qic k b = Qid b := by
 have e := Qie (b.length + 1) b (by omega) (k - (b.length + 1))
 rw [show b.length + 1 + (k - (b.length + 1)) = k by omega] at e
 exact e
theorem Qig {b : List Int} {p : Nat} (h : ixOf (b.take 254) 0 = (p : Int)) : Qid b = (((p : Int) + 1) % 256) :: (b.take p ++ Qid (b.drop (p + 1))) := by
 have h1 := (Qib (b.take 254) 0).2
 rw [List.length_take] at h1
 have hp : p < b.length := by omega
 rw [Qid, Qic, if_pos (by omega), h, Int.toNat_natCast, Qif _ _ qq_15]
theorem Qih {b : List Int} (h : ixOf (b.take 254) 0 < 0) (hl : 254 < b.length) : Qid b = 255 :: (b.take 254 ++ Qid (b.drop 254)) := by
 rw [Qid, Qic, if_neg (by omega), if_pos hl, Qif _ _ qq_15]
theorem Qii {b : List Int} (h : ixOf (b.take 254) 0 < 0) (hl : ¬ 254 < b.length) : Qid b = (((b.length : Int) + 1) % 256) :: b := by
 rw [Qid, Qic, if_neg (by omega), if_neg hl]
def most (n : Nat) : Nat := if n = 0 then 1 else n + 1 + (n - 1) / 254
theorem most_is (n : Nat) (h : n ≤ 140737488355328) : Qaj.f (n : Int) = some (most n : Int) := by
 unfold Qaj.f most
 by_cases h0 : n = 0
 ·subst h0; rfl
 ·rw [if_neg (by omega), if_neg h0]
  have e1 : wrap64 ((n : Int) - 1) = (n : Int) - 1 := by unfold wrap64; omega
  have e2 : wrap64 ((n : Int) + 1) = (n : Int) + 1 := by unfold wrap64; omega
  rw [e1, e2]
  have e3 : Int.tdiv ((n : Int) - 1) 254 = (((n - 1) / 254 : Nat) : Int) := by
   rw [show (n : Int) - 1 = ((n - 1 : Nat) : Int) by omega]
   rfl
  rw [e3]
  have e4 : wrap64 (((n - 1) / 254 : Nat) : Int) = (((n - 1) / 254 : Nat) : Int) := by unfold wrap64; omega
  rw [e4]
  have e5 : wrap64 ((n : Int) + 1 + (((n - 1) / 254 : Nat) : Int)) = (n : Int) + 1 + (((n - 1) / 254 : Nat) : Int) := by unfold wrap64; omega
  rw [e5]
  simp
theorem stuff_of (A0 : Option Addr) (c0 : Nat) (l0 : List Int) (w : World) (hr0 : Kd.C (Kd.int .u8) w A0 l0.length l0) (hc0 : l0.length ≤ c0) (hl : l0.length ≤ 35184372088832) :
  Calls Tryz.prog 152 #[.slice A0 l0.length c0] w fun e w' => ∃ v0_ : Value, e = .returned (v0_) ∧ R8 w' w.heap.size v0_ (Qid l0) ∧ Below w.heap.size w w' := by
 obtain ⟨i8, hi8, hs8, hz8, hb8⟩ := u8_info
 have hmost : most l0.length ≤ 140737488355328 := by unfold most; split <;> omega
 have hrun := fun W => run_make (P := Tryz.prog) W 52 5 i8 (.int .u8 0) Tryz.underlying52 hi8 hz8 .i64 .i64 0 (most l0.length : Int) (by omega) (by omega) (by rw [hb8]; omega) (by omega)
 simp only [hs8] at hrun
 have HC0 := QA hr0
 clear hr0
 go_enter Tryz.func152, Tryz.ntmps152
 go_wp2_with (first | (go_at_call 197; refine (Qaj.calls _ _ _ (most_is l0.length (by omega))).mono ?_; rintro e w' ⟨rfl, hd⟩; obtain ⟨q, rfl⟩ := hd.out; clear hd))
 obtain ⟨W0, hW0⟩ : ∃ W0, W0 = (w.drewN q).alloc (.cells (madeCells #[.int .u8 0] (most l0.length)) 5) := ⟨_, rfl⟩
 have HR0 := QA (show R8 W0 w.heap.size (.slice (some ⟨w.heap.size, 0, none⟩) 0 (most l0.length)) [] by rw [hW0]; exact R8.cap (w.drewN q) _ _ (by simp [madeCells]) (by unfold maxLen; omega))
 have HB0 := QA (show Below w.heap.size w W0 by rw [hW0]; exact Qda (Qcz (Below.refl _ _) q) (Nat.le_refl _) (Qcx (Below.refl _ _) _))
 rw [← hW0]
 clear hW0 hrun
 go_loopw [0, 3, 4, 24, 41] (fun v0 v3 v4 v24 v41 wr => ∃ (l' out : List Int) (A : Option Addr) (n c : Nat), v0 = .slice A n c ∧ n ≤ c ∧ Aside0 (n = l'.length) ∧ n ≤ l0.length ∧ out.length + 2 * n ≤ 2 * l0.length ∧ Aside0 (Qid l0 = out ++ Qid l') ∧ Aside0 (Kd.C (Kd.int .u8) w A n l') ∧ Aside0 (R8 wr w.heap.size v3 out) ∧ Aside0 (Below w.heap.size w wr))
  (fun v0 _ _ _ _ _ => lenV v0)
 case atStart => exact ⟨l0, [], A0, l0.length, c0, rfl, hc0, ⟨rfl⟩, Nat.le_refl _, by simp, ⟨rfl⟩, HC0, HR0, HB0⟩
 case round =>
  obtain ⟨l', out, A, n, c, rfl, hnc, HN, hn0, hout, HS, HC, HR, HB⟩ := hrel
  clear HR0 HB0
  obtain ⟨x, hx⟩ : ∃ x, x = ixOf (l'.take 254) 0 := ⟨_, rfl⟩
  have hxr := Qib (l'.take 254) 0
  rw [← hx] at hxr
  have hlt := HN.out
  have hx1 : x < (n : Int) ∧ x < 254 := by have := hxr.2; rw [List.length_take] at this; omega
  have hx0 := hxr.1
  have HX := QA hx
  clear hxr hlt hx
  obtain ⟨m, hm, hC1, hmc⟩ : ∃ m, (m = if 254 < n then 254 else n) ∧ Aside0 (Kd.C (Kd.int .u8) w A m (l'.take 254)) ∧ m ≤ c := by
   by_cases h : 254 < n
   ·refine ⟨254, by rw [if_pos h], ⟨?_⟩, by omega⟩
    have h1 := HC.out
    rw [HN.out] at h1
    have h2 := Kd.C_take h1 (m := 254) qq_17
    rw [List.length_take, Nat.min_eq_left qq_17] at h2
    exact h2
   ·refine ⟨n, by rw [if_neg h], ⟨?_⟩, hnc⟩
    rw [List.take_of_length_le qq_17]
    exact HC.out
  have HM := QA hm
  by_cases hxz : 0 ≤ x
  ·obtain ⟨p, rfl⟩ := Int.eq_ofNat_of_zero_le hxz
   have hpn : (p : Int) ≤ (n : Int) := by omega
   have hp8 : p < 254 := by omega
   have hwp : IntKind.i64.wrap ((p : Int) + 1) = (p : Int) + 1 := IntWalk.i64_in _ (by omega)
   have hCp := QA (show Kd.C (Kd.int .u8) w A p (l'.take p) by
    have h1 := HC.out
    rw [HN.out] at h1
    have h2 := Kd.C_take h1 (m := p) qq_17
    rw [List.length_take, Nat.min_eq_left qq_17] at h2
    exact h2)
   obtain ⟨p', hp', _, hcutp, _⟩ := c8_to A n c p p rfl (by omega) hnc
   subst hp'
   obtain ⟨A4, n4, c4, hn4, hnc4, hcut4, hC4⟩ := c8_from A n c (p' + 1) ((p' : Int) + 1) (by omega) (by omega) hnc
   have HN4 := QA hn4
   have hn4n : n4 < n := by omega
   clear hn4
   by_cases hbig : 254 < n
   all_goals first | rw [if_pos hbig] at hm | rw [if_neg hbig] at hm
   all_goals
    subst hm
    go_wp2_with (first | (go_at_call 80; refine (ix_at 0 (Kd.C_below hC1.out HB.out) hmc).mono ?_; rw [← HX.out]; rintro e w2 ⟨rfl, hd⟩; obtain ⟨q2, rfl⟩ := hd.out; clear hd))
    obtain ⟨W, hW⟩ : ∃ W, W = (wr.drewN q2).drew := ⟨_, rfl⟩
    go_region_law (first
     | (refine Kd.R_append_step (Kd.int .u8) (w0 := w) w.heap.size (by rfl) (.tmp 27) (.tmp 31) 52 5 (.int .u8 0) 1 rfl Tryz.underlying52 Qgw rfl (by decide) (by omega) u3 out (((p' : Int) + 1) % 256) [.int .u8 (((p' : Int) + 1) % 256)] (fun _ => True) (fun _ => False) rfl ?ax ?aP (fun _ hk => hk.elim) (fun _ _ => trivial) ?aO ?aB ?aS ?aL ?_; (case ax => rfl); (case aP => rfl); (case aO => exact Kd.R_drew (Kd.R_drewN HR.out q2)); (case aB => exact Qcy (Qcz HB.out q2)); (case aS => exact HB.out.size); (case aL => omega); intro v1 w1 HR1 hb1 hg1 hat1)
     | (refine Kd.R_append_rows_step (Kd.int .u8) (Rr := fun x cs => cs = [.int .u8 x]) (w0 := w) w.heap.size (by rfl) (.tmp 32) (.tmp 35) 52 5 (.int .u8 0) 1 rfl Tryz.underlying52 Qgw rfl (by decide) (by omega) v1 (out ++ [((p' : Int) + 1) % 256]) (l'.take p') A p' c (fun _ => True) (fun _ => False) rfl rfl HR1 ?bR (fun _ _ h => h) (fun _ hk => hk.elim) (fun _ _ => trivial) hb1 hb1.size ?bL ?_; (case bR => exact Kd.C_below hCp.out hb1); (case bL => simp; omega); intro v2 w2 HR2 hb2 hg2 hat2))
    all_goals
     have HR2' := QA HR2
     have HB2' := QA hb2
     clear HR1 hb1 hg1 hat1 HR2 hb2 hg2 hat2
     go_wp2_with fail
     go_roundw
     case rel => exact ⟨l'.drop (p' + 1), out ++ [((p' : Int) + 1) % 256] ++ l'.take p', A4, n4, c4, rfl, hnc4, ⟨by rw [List.length_drop]; have := HN4.out; have := HN.out; omega⟩, by omega, by
       have := HN.out
       have := HN4.out
       simp only [List.length_append, List.length_singleton, List.length_take]
       omega, ⟨by
       rw [HS.out, Qig HX.out.symm]
       simp⟩, ⟨hC4 _ _ HC.out⟩, HR2', HB2'⟩
     case measure => simp [lenV]; omega
  ·have hxm : x = -1 := by omega
   subst hxm
   have hix : ixOf (l'.take 254) 0 < 0 := by have := HX.out; omega
   have HIX := QA hix
   clear hix
   by_cases hbig : 254 < n
   ·rw [if_pos hbig] at hm
    subst hm
    have hbi : (254 : Int) < (n : Int) := by omega
    obtain ⟨p', hp', _, hcutp, _⟩ := c8_to A n c 254 254 rfl (by omega) hnc
    subst hp'
    obtain ⟨A4, n4, c4, hn4, hnc4, hcut4, hC4⟩ := c8_from A n c 254 254 rfl (by omega) hnc
    have HN4 := QA hn4
    have hn4n : n4 < n := by omega
    clear hn4
    go_wp2_with (first | (go_at_call 80; refine (ix_at 0 (Kd.C_below hC1.out HB.out) hmc).mono ?_; rw [← HX.out]; rintro e w2 ⟨rfl, hd⟩; obtain ⟨q2, rfl⟩ := hd.out; clear hd))
    go_region_law (first
     | (refine Kd.R_append_step (Kd.int .u8) (w0 := w) w.heap.size (by rfl) (.tmp 45) (.tmp 46) 52 5 (.int .u8 0) 1 rfl Tryz.underlying52 Qgw rfl (by decide) (by omega) u3 out 255 [.int .u8 255] (fun _ => True) (fun _ => False) rfl ?ax ?aP (fun _ hk => hk.elim) (fun _ _ => trivial) ?aO ?aB ?aS ?aL ?_; (case ax => rfl); (case aP => rfl); (case aO => exact Kd.R_drew (Kd.R_drewN HR.out q2)); (case aB => exact Qcy (Qcz HB.out q2)); (case aS => exact HB.out.size); (case aL => omega); intro v1 w1 HR1 hb1 hg1 hat1)
     | (refine Kd.R_append_rows_step (Kd.int .u8) (Rr := fun x cs => cs = [.int .u8 x]) (w0 := w) w.heap.size (by rfl) (.tmp 47) (.tmp 49) 52 5 (.int .u8 0) 1 rfl Tryz.underlying52 Qgw rfl (by decide) (by omega) v1 (out ++ [255]) (l'.take 254) A 254 c (fun _ => True) (fun _ => False) rfl rfl HR1 ?bR (fun _ _ h => h) (fun _ hk => hk.elim) (fun _ _ => trivial) hb1 hb1.size ?bL ?_; (case bR => exact Kd.C_below hC1.out hb1); (case bL => simp; omega); intro v2 w2 HR2 hb2 hg2 hat2))
    all_goals
     have HR2' := QA HR2
     have HB2' := QA hb2
     clear HR1 hb1 hg1 hat1 HR2 hb2 hg2 hat2
     go_wp2_with fail
     go_roundw
     case rel => exact ⟨l'.drop 254, out ++ [255] ++ l'.take 254, A4, n4, c4, rfl, hnc4, ⟨by rw [List.length_drop]; have := HN4.out; have := HN.out; omega⟩, by omega, by
       have := HN.out
       have := HN4.out
       simp only [List.length_append, List.length_singleton, List.length_take]
       omega, ⟨by
       rw [HS.out, Qih HIX.out qq_17]
       simp⟩, ⟨hC4 _ _ HC.out⟩, HR2', HB2'⟩
     case measure => simp [lenV]; omega
   ·rw [if_neg hbig] at hm
    subst hm
    have hbi : (m : Int) ≤ 254 := by omega
    go_wp2_with (first
     | (go_at_call 80; refine (ix_at 0 (Kd.C_below hC1.out HB.out) hmc).mono ?_; rw [← HX.out]; rintro e w2 ⟨rfl, hd⟩; obtain ⟨q2, rfl⟩ := hd.out; clear hd)
     | (at_builtin; refine Kd.R_append (Kd.int .u8) (w0 := w) w.heap.size rfl (.tmp 15) (.tmp 20) 52 5 (.int .u8 0) 1 rfl Tryz.underlying52 Qgw rfl (by decide) (by omega) u3 out ((m : Int) + 1) [.int .u8 ((m : Int) + 1)] (fun _ => True) (fun _ => False) rfl ?ax ?aP (fun _ hk => hk.elim) ?aF ?aO ?aB ?aS ?aL ?_; (case ax => rfl); (case aP => rfl); (case aF => exact fun _ _ => trivial); (case aO => exact Kd.R_drewN HR.out q2); (case aB => exact Qcz HB.out q2); (case aS => exact HB.out.size); (case aL => omega); intro v1 w1 HR1 hb1 hg1 hat1)
     | (at_builtin; refine Kd.R_append_rows (Kd.int .u8) (Rr := fun x cs => cs = [.int .u8 x]) (w0 := w) w.heap.size rfl (.tmp 21) (.tmp 22) 52 5 (.int .u8 0) 1 rfl Tryz.underlying52 Qgw rfl (by decide) (by omega) v1 (out ++ [(m : Int) + 1]) (l'.take 254) A m c (fun _ => True) (fun _ => False) rfl rfl HR1 ?bR (fun _ _ h => h) (fun _ hk => hk.elim) (fun _ _ => trivial) hb1 hb1.size ?bL ?_; (case bR => exact Kd.C_below hC1.out hb1); (case bL => simp; omega); intro v2 w2 HR2 hb2 hg2 hat2))
    go_ret
    refine ⟨v2, rfl, ?_, hb2⟩
    have hlm := HN.out
    rw [HS.out, Qii HIX.out (by omega), ← hlm]
    rw [List.take_of_length_le (by omega)] at HR2
    rw [show ((m : Int) + 1) % 256 = (m : Int) + 1 by omega]
    simpa using HR2
end Go.Proofs.YtnnofopfbeklbaaGreat.C
end
section
namespace Go.Proofs.YtnnofopfbeklbaaGreat.C
open Go.RowKit Go.Proofs.YtnnofopfbeklbaaGreatW.PrintWords Go.Proofs.YtnnofopfbeklbaaGreatW.PrintLast Go.Proofs.YtnnofopfbeklbaaGreatW.PrintMore
theorem or128_all : ((List.range 256).all fun a => Go.bits .or .u8 (a : Int) 128 == (a : Int) % 128 + 128) = true := by kernel_rfl
theorem or128 (a : Int) (h0 : 0 ≤ a) (h1 : a < 256) : Go.bits .or .u8 a 128 = a % 128 + 128 := by
 have h := List.all_eq_true.1 or128_all a.toNat (List.mem_range.2 (by omega))
 have e : ((a.toNat : Nat) : Int) = a := by omega
 rw [e] at h
 exact eq_of_beq h
def vput : Nat → Int → List Int
 | 0, x => [x]
 | n + 1, x => if x < 128 then [x] else (x % 128 + 128) :: vput n (x / 128)
theorem Qij : ∀ (n : Nat) (x : Int), (vput n x).length ≤ n + 1
 | 0, _ => by simp [vput]
 | n + 1, x => by
  unfold vput
  have := Qij n (x / 128)
  split <;> simp <;> omega
theorem Qik (b g : Nat) (x : Int) (xs : List Int) (w : World) (hx0 : 0 ≤ x) (hx1 : x < 18446744073709551616) (hbg : b ≤ g) (hbw : b ≤ w.heap.size) (hI : IsBuf w b g xs) (hl : xs.length + 10 ≤ 140737488355328) :
  Calls Tryz.prog 95 #[.pointer (some ⟨g, 0, none⟩), .int .u64 x] w fun e w' => (∃ v, e = .returned v) ∧ IsBuf w' b g (xs ++ vput 9 x) ∧ Bw b g w w' := by
 have HI := QA hI
 clear hI
 go_enter Tryz.func95, Tryz.ntmps95
 go_wp2
 go_loopw [1] (fun v1 wr => ∃ (k : Nat) (ys : List Int) (xv : Int), k ≤ 9 ∧ ys.length = k ∧ v1 = .int .u64 xv ∧ 0 ≤ xv ∧ xv < 2 ^ (64 - 7 * k) ∧ Aside0 (vput 9 x = ys ++ vput (9 - k) xv) ∧ Aside0 (IsBuf wr b g (xs ++ ys)) ∧ Aside0 (Bw b g w wr))
  (fun v1 _ => (intOf v1).toNat)
 case atStart => exact ⟨0, [], x, by omega, rfl, rfl, hx0, by simpa using hx1, ⟨rfl⟩, ⟨by simpa using HI.out⟩, ⟨Bw.refl _ _ _⟩⟩
 case round =>
  obtain ⟨k, ys, xv, hk, hys, rfl, hx2, hx3, HL, HB, HW⟩ := hrel
  have hx4 : xv < 18446744073709551616 := by
   have : (2 : Int) ^ (64 - 7 * k) ≤ 2 ^ 64 := by exact_mod_cast Nat.pow_le_pow_right (by decide) (by omega)
   omega
  by_cases hlt : 128 ≤ xv
  ·have hk9 : k < 9 := by
    by_cases e : k < 9
    ·exact e
    ·obtain rfl : k = 9 := by omega
     simp at hx3
     omega
   have hor := or128 (xv % 256) (by omega) (by omega)
   have hm : (xv % 256) % 128 = xv % 128 := by omega
   rw [hm] at hor
   have hx5 : xv / 128 < 2 ^ (64 - 7 * (k + 1)) := by
    have e : (2 : Int) ^ (64 - 7 * k) = 2 ^ (64 - 7 * (k + 1)) * 128 := by
     rw [show 64 - 7 * k = (64 - 7 * (k + 1)) + 7 by omega, Int.pow_add]
     rfl
    rw [e] at hx3
    exact Int.ediv_lt_of_lt_mul (by decide) hx3
   have HX5 := QA hx5
   clear hx3 hx5
   go_wp2_with (go_at_call 94; (try rw [hor]); refine (Qhj b g (xv % 128 + 128) (xs ++ ys) _ (by omega) (by omega) hbg (Nat.le_trans hbw HW.out.size) HB.out (by simp; omega)).mono ?_; rintro e w1 ⟨rfl, hd, hb1⟩; have HI1 := QA hd; have HB1 := QA (HW.out.trans hb1); clear hd hb1)
   go_roundw
   case rel => exact ⟨k + 1, ys ++ [xv % 128 + 128], xv / 128, by omega, by simp [hys], by go_num, by omega, HX5.out, ⟨by
    rw [HL.out, show 9 - k = (9 - (k + 1)) + 1 by omega, vput, if_neg (by omega)]; simp⟩, ⟨by rw [← List.append_assoc]; exact HI1.out⟩, ⟨HB1.out⟩⟩
   case measure => simp [intOf]; omega
  ·have hxm : xv % 256 = xv := by omega
   go_wp2_with (go_at_call 94; (try rw [hxm]); refine (Qhj b g xv (xs ++ ys) _ (by omega) (by omega) hbg (Nat.le_trans hbw HW.out.size) HB.out (by simp; omega)).mono ?_; rintro e w1 ⟨rfl, hd, hb1⟩; have HI1 := QA hd; have HB1 := QA (HW.out.trans hb1); clear hd hb1)
   go_end0
   refine ⟨⟨_, rfl⟩, ?_, HB1.out⟩
   have e : vput (9 - k) xv = [xv] := by
    cases h : 9 - k with
    | zero => rfl
    | succ m => rw [vput, if_pos (by omega)]
   rw [HL.out, e, ← List.append_assoc]
   exact HI1.out
theorem bytes_C (W : World) (s : ByteArray) (hs : s.size ≤ 9223372036854775807) : Kd.C (Kd.int .u8) (Lib.bytesWorld W 5 s) (some ⟨W.heap.size, 0, none⟩) s.size (bytesOf s) :=
 Kd.C_of_reads (d := (0 : Int)) (bytes_reads W 5 s hs)
theorem Qil (b g : Nat) (s : ByteArray) (xs : List Int) (w : World) (hs : s.size ≤ 70368744177664) (hbg : b ≤ g) (hbw : b ≤ w.heap.size) (hI : IsBuf w b g xs) (hl : xs.length + s.size + 10 ≤ 140737488355328) :
  Calls Tryz.prog 153 #[.pointer (some ⟨g, 0, none⟩), .string s] w fun e w' => (∃ v, e = .returned v) ∧ IsBuf w' b g (xs ++ (vput 9 s.size ++ bytesOf s)) ∧ Bw b g w w' := by
 have hvl := Qij 9 s.size
 have kb := fun W => Qdj (P := Tryz.prog) 9 52 5 Tryz.underlying9 Tryz.underlying52 Tryz.underlying5 s W
 go_enter Tryz.func153, Tryz.ntmps153
 go_wp2_with (first | (go_at_call 95; refine (Qik b g s.size xs w (by omega) (by omega) hbg hbw hI (by omega)).mono ?_; rintro e w1 ⟨⟨_, rfl⟩, hd, hb1⟩) | (go_at_call 150; refine (buf_Raw' b g _ _ s.size (bytesOf s) (xs ++ vput 9 s.size) (Lib.bytesWorld w1 5 s) (Qdh s).symm (bytes_C w1 s (by omega)) hbg (by rw [Lib.bytesWorld_size]; have := hb1.size; omega) (hd.kept (Qdk (Below.refl _ _) (Nat.le_refl _) _ _)) (by simp; omega)).mono ?_; rintro e w2 ⟨rfl, hd2, hb2⟩))
 go_end0
 refine ⟨⟨_, rfl⟩, by rw [← List.append_assoc]; exact hd2, hb1.trans ((Bw.below (Qdk (Below.refl _ _) (Nat.le_refl _) _ _) (by have := hb1.size; omega)).trans hb2)⟩
theorem rd_mem {l : List Int} {i : Int} (h0 : 0 ≤ i) (h1 : i < l.length) : rd l i ∈ l := by
 have h : i.toNat < l.length := by omega
 unfold rd
 rw [List.getD_eq_getElem?_getD, List.getElem?_eq_getElem h]
 exact List.getElem_mem h
theorem take_rd {l : List Int} {k : Nat} (h : k < l.length) : l.take (k + 1) = l.take k ++ [rd l (k : Int)] := by
 unfold rd
 rw [List.take_add_one, List.getElem?_eq_getElem h, List.getD_eq_getElem?_getD]
 simp [List.getElem?_eq_getElem h]
theorem Qim (l : List Int) : (l.flatMap (fun x => leb x 8)).length = 8 * l.length := by
 induction l with
 | nil => rfl
 | cons a l ih => simp [Qhg, ih]; omega
theorem fence_Put_buf (b g : Nat) (A0 : Option Addr) (c0 : Nat) (l : List Int) (xs : List Int) (w : World) (hr0 : ∀ W', Bw b g w W' → Kd.C (Kd.int .u64) W' A0 l.length l) (hwf : ∀ x ∈ l, 0 ≤ x ∧ x < 18446744073709551616) (hbg : b ≤ g) (hbw : b ≤ w.heap.size) (hI : IsBuf w b g xs) (hl : xs.length + 8 * l.length ≤ 140737488355328) :
  Calls Tryz.prog 114 #[.pointer (some ⟨g, 0, none⟩), .slice A0 l.length c0] w fun e w' => (∃ v, e = .returned v) ∧ IsBuf w' b g (xs ++ l.flatMap (fun x => leb x 8)) ∧ Bw b g w w' := by
 have HI := QA hI
 clear hI
 go_enter Tryz.func114, Tryz.ntmps114
 go_wp2
 go_loopw [8] (fun i wr => ∃ (k : Nat) (iv : Int), k ≤ l.length ∧ i = .int .i64 iv ∧ Aside0 (iv = (k : Int)) ∧ Aside0 (IsBuf wr b g (xs ++ (l.take k).flatMap (fun x => leb x 8))) ∧ Aside0 (Bw b g w wr))
  (fun i _ => l.length - (intOf i).toNat)
 case atStart => exact ⟨0, 0, Nat.zero_le _, rfl, ⟨rfl⟩, ⟨by simpa using HI.out⟩, ⟨Bw.refl _ _ _⟩⟩
 case round =>
  obtain ⟨k, iv, hk, rfl, HK, HB, HW⟩ := hrel
  by_cases hlt : k < l.length
  ·have hge : 0 ≤ iv := by have := HK.out; omega
   have hl2 : iv < (l.length : Int) := by have := HK.out; omega
   obtain ⟨ad, rfl, hx0⟩ := Kd.at_int (hr0 wr HW.out) iv hge hl2
   obtain ⟨x, hx⟩ : ∃ x, x = rd l iv := ⟨_, rfl⟩
   rw [← hx] at hx0
   have hxr : 0 ≤ x ∧ x < 18446744073709551616 := by rw [hx]; exact hwf _ (rd_mem hge hl2)
   have HX := QA hx
   clear hx
   have hlen := QA (show (xs ++ (l.take k).flatMap (fun x => leb x 8)).length + 8 ≤ 140737488355328 by rw [List.length_append, Qim, List.length_take]; omega)
   go_wp2_with (go_at_call 151; refine (Qhk b g x (xs ++ (l.take k).flatMap (fun x => leb x 8)) _ hxr.1 hxr.2 hbg (Nat.le_trans hbw HW.out.size) HB.out hlen.out).mono ?_; rintro e w1 ⟨rfl, hd, hb1⟩; have HI1 := QA hd; have HB1 := QA (HW.out.trans hb1); clear hd hb1)
   go_roundw
   case rel => exact ⟨k + 1, iv + 1, by omega, by go_num, ⟨by have := HK.out; omega⟩, ⟨by
    have e1 : iv = (k : Int) := HK.out
    rw [take_rd hlt, List.flatMap_append, ← List.append_assoc, ← e1, ← HX.out]
    simpa using HI1.out⟩, ⟨HB1.out⟩⟩
   case measure => simp [intOf]; omega
  ·obtain rfl : k = l.length := by omega
   obtain rfl : iv = (l.length : Int) := HK.out
   go_wp2
   go_end0
   refine ⟨⟨_, rfl⟩, ?_, HW.out⟩
   simpa using HB.out
def ent (x : S117) : List Int := leb x.f0 8 ++ leb x.f1 4
theorem take_rdT {l : List S117} {k : Nat} (h : k < l.length) : l.take (k + 1) = l.take k ++ [Qha l (k : Int)] := by
 unfold Qha
 rw [List.take_add_one, List.getElem?_eq_getElem h, List.getD_eq_getElem?_getD]
 simp [List.getElem?_eq_getElem h]
theorem rdT_mem {l : List S117} {i : Int} (h0 : 0 ≤ i) (h1 : i < l.length) : Qha l i ∈ l := by
 have h : i.toNat < l.length := by omega
 unfold Qha
 rw [List.getD_eq_getElem?_getD, List.getElem?_eq_getElem h]
 exact List.getElem_mem h
theorem Qin (l : List S117) : (l.flatMap ent).length = 12 * l.length := by
 induction l with
 | nil => rfl
 | cons a l ih => simp [ent, Qhg, ih]; omega
theorem table_Put_buf (b g : Nat) (A0 : Option Addr) (c0 : Nat) (l : List S117) (xs : List Int) (w : World) (hr0 : ∀ W', Bw b g w W' → Kd.C k117 W' A0 l.length l) (hwf : ∀ x ∈ l, (0 ≤ x.f0 ∧ x.f0 < 18446744073709551616) ∧ 0 ≤ x.f1 ∧ x.f1 < 4294967296) (hbg : b ≤ g) (hbw : b ≤ w.heap.size) (hI : IsBuf w b g xs) (hl : xs.length + 12 * l.length ≤ 140737488355328) :
  Calls Tryz.prog 113 #[.pointer (some ⟨g, 0, none⟩), .slice A0 l.length c0] w fun e w' => (∃ v, e = .returned v) ∧ IsBuf w' b g (xs ++ l.flatMap ent) ∧ Bw b g w w' := by
 have hu := Tryz.underlying117
 have HI := QA hI
 clear hI
 go_enter Tryz.func113, Tryz.ntmps113
 go_wp2
 go_loopw [8] (fun i wr => ∃ (k : Nat) (iv : Int), k ≤ l.length ∧ i = .int .i64 iv ∧ Aside0 (iv = (k : Int)) ∧ Aside0 (IsBuf wr b g (xs ++ (l.take k).flatMap ent)) ∧ Aside0 (Bw b g w wr))
  (fun i _ => l.length - (intOf i).toNat)
 case atStart => exact ⟨0, 0, Nat.zero_le _, rfl, ⟨rfl⟩, ⟨by simpa using HI.out⟩, ⟨Bw.refl _ _ _⟩⟩
 case round =>
  obtain ⟨k, iv, hk, rfl, HK, HB, HW⟩ := hrel
  by_cases hlt : k < l.length
  ·have hge : 0 ≤ iv := by have := HK.out; omega
   have hl2 : iv < (l.length : Int) := by have := HK.out; omega
   obtain ⟨ad, rfl, hx0, hx1⟩ := Qhb (hr0 wr HW.out) iv hge hl2
   obtain ⟨x, hx⟩ : ∃ x, x = Qha l iv := ⟨_, rfl⟩
   rw [← hx] at hx0 hx1
   have hxr := hwf x (by rw [hx]; exact rdT_mem hge hl2)
   have HX := QA hx
   clear hx
   have hlen := QA (show (xs ++ (l.take k).flatMap ent).length + 12 ≤ 140737488355328 by rw [List.length_append, Qin, List.length_take]; omega)
   go_upto_region 3 with fail
   obtain ⟨B, hBe⟩ : ∃ B, B = wr.heap.size := ⟨_, rfl⟩
   obtain ⟨W, hW⟩ : ∃ W, W = wr.alloc (.cells #[.int .u64 x.f0, .int .u32 x.f1] 117) := ⟨_, rfl⟩
   have hBlk : W.heap[B]? = some (.cells #[.int .u64 x.f0, .int .u32 x.f1] 117 (0, 0)) := by rw [hW, hBe]; exact Qec wr _
   have hIB : IsBuf W b g (xs ++ (l.take k).flatMap ent) := by rw [hW]; exact HB.out.kept (Qcx (Below.refl _ _) _)
   have hBW : Bw b g w W := by rw [hW]; exact HW.out.trans (Bw.below (Qcx (Below.refl _ _) _) (Nat.le_trans hbw HW.out.size))
   have hgB : B ≠ g := by have := HB.out.lt; omega
   rw [← hW, ← hBe]
   clear hW hBe hx0 hx1
   have d0 : Below W.heap.size W W.drew := Qcy (Below.refl _ _)
   have hBlk1 := Qeb hBlk d0
   have hIB1 := hIB.kept d0
   have hBW1 : Bw b g w W.drew := hBW.trans (Bw.below d0 (Nat.le_trans hbw hBW.size))
   have c0 : W.drew.cell? ⟨B, 0, none⟩ = some (.int .u64 x.f0) := (Qds hBlk1 0).trans rfl
   have c1 : W.drew.cell? ⟨B, 1, none⟩ = some (.int .u32 x.f1) := (Qds hBlk1 1).trans rfl
   have hs1 : b ≤ W.drew.heap.size := Nat.le_trans hbw hBW1.size
   go_region_held3 (fun w' => w'.cell? ⟨B, 0, none⟩ = some (.int .u64 x.f0) ∧ w'.cell? ⟨B, 1, none⟩ = some (.int .u32 x.f1)) (first | exact ⟨c0, c1⟩ | exact ⟨c2, c3⟩ | exact ⟨c4, c5⟩) (first | (go_at_call 151; refine (Qhk b g x.f0 (xs ++ (l.take k).flatMap ent) W.drew hxr.1.1 hxr.1.2 hbg hs1 hIB1 (by have := hlen.out; omega)).mono ?_; rintro e w2 ⟨rfl, hI2, hb2⟩; have hBlk2 := hb2.2 _ _ _ hBlk1 (by decide) hgB; have c2 : w2.cell? ⟨B, 0, none⟩ = some (.int .u64 x.f0) := (Qds hBlk2 0).trans rfl; have c3 : w2.cell? ⟨B, 1, none⟩ = some (.int .u32 x.f1) := (Qds hBlk2 1).trans rfl) | (go_at_call 112; refine (buf_Four b g x.f1 (xs ++ (l.take k).flatMap ent ++ leb x.f0 8) w2 hxr.2.1 hxr.2.2 hbg (Nat.le_trans hs1 hb2.size) hI2 (by have := hlen.out; simp [Qhg] at this ⊢; omega)).mono ?_; rintro e w3 ⟨rfl, hI3, hb3⟩; have hBlk3 := hb3.2 _ _ _ hBlk2 (by decide) hgB; have c4 : w3.cell? ⟨B, 0, none⟩ = some (.int .u64 x.f0) := (Qds hBlk3 0).trans rfl; have c5 : w3.cell? ⟨B, 1, none⟩ = some (.int .u32 x.f1) := (Qds hBlk3 1).trans rfl))
   have HI3 := QA hI3
   have HB3 := QA (hBW1.trans (hb2.trans hb3))
   clear hI3 hI2 hb2 hb3 c0 c1 c2 c3 c4 c5 hBlk hBlk1 hBlk2 hBlk3 hIB hIB1 hBW hBW1
   go_wp2
   go_roundw
   case rel => exact ⟨k + 1, iv + 1, by omega, by go_num, ⟨by have := HK.out; omega⟩, ⟨by
    have e1 : iv = (k : Int) := HK.out
    rw [take_rdT hlt, List.flatMap_append, ← List.append_assoc, ← e1, ← HX.out]
    simpa [ent] using HI3.out⟩, ⟨HB3.out⟩⟩
   case measure => simp [intOf]; omega
  ·obtain rfl : k = l.length := by omega
   obtain rfl : iv = (l.length : Int) := HK.out
   go_wp2
   go_end0
   refine ⟨⟨_, rfl⟩, ?_, HW.out⟩
   simpa using HB.out
end Go.Proofs.YtnnofopfbeklbaaGreat.C
end
