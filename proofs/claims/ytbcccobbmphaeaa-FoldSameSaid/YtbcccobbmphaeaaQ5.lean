/- Go functions as Lean functions, and that their calls come to these, for every input that reads so; by the program hprint.py of this claim's author over the kit's print. -/
import Derived.Test.YtbcccobbmphaeaaQ0
import Derived.Test.YtbcccobbmphaeaaQ2
import Derived.Test.YtbcccobbmphaeaaQ3
import Derived.Test.YtbcccobbmphaeaaQ4
import Derived.Test.YtbcccobbmphaeaaQGFoldMaps
namespace Go.Proofs.Ytbcccobbmphaeaa.Q
open Go.RowKit Go.Proofs.YtbcccobbmphaeaaW.PrintWords Go.Proofs.YtbcccobbmphaeaaW.PrintLast Go.Proofs.YtbcccobbmphaeaaW.PrintMore
attribute [local go_sem] max2_int min2_int max_two min_two max_three min_three max_four min_four   -- for this text's walks alone
set_option linter.unusedVariables false
set_option linter.unusedSimpArgs false

/-! ### fasciclelaw18_FoldSame: function 7 -/
mutual
def fasciclelaw18_FoldSame.j0 : Nat → List (S25) → List (S25) → Bool → Option (Bool)
  | 0, _, _, _ => none
  | k + 1, x0, x1, x30 => if x30 = true then ((fasciclelaw18_lives.f).bind fun t201 => (some t201)) else ((some (([] : List (S25)) : List (S25))).bind fun y202 => (if y202.length + x0.length < 2932031007402 then ((some (y202 ++ x0 : List (S25))).bind fun y205 => (if y205.length + x1.length < 2932031007402 then ((some (y205 ++ x1 : List (S25))).bind fun y208 => (fasciclelaw18_FoldSame.l0 k x0 x1 true y208 (y208.length : Int) 0)) else (none))) else (none)))
def fasciclelaw18_FoldSame.l0 : Nat → List (S25) → List (S25) → Bool → List (S25) → Int → Int → Option (Bool)
  | 0, _, _, _, _, _, _ => none
  | k + 1, x0, x1, x5, x36, x37, x38 => if x38 < x37 then (if 0 ≤ x38 then (if x38 < (x36.length : Int) then ((fascicleref18_At.f k x0 ((rd_T25 x36 x38).f2)).bind fun bt213 => ((fascicleref18_At.f k x1 ((rd_T25 x36 x38).f2)).bind fun bt215 => (if x5 = true then (if bt213.1 = bt215.1 then (fasciclelaw18_FoldSame.l0 k x0 x1 (bt213.2.toList == bt215.2.toList) x36 x37 (wrap64 (x38 + 1))) else (fasciclelaw18_FoldSame.l0 k x0 x1 false x36 x37 (wrap64 (x38 + 1)))) else (fasciclelaw18_FoldSame.l0 k x0 x1 false x36 x37 (wrap64 (x38 + 1)))))) else (none)) else (none)) else ((fold_Same.f k x0 x1).bind fun t217 => (if (t217 != x5) = true then (fasciclelaw18_FoldSame.j2 k x0 true) else ((fold_Same.f k x1 x0).bind fun t218 => (if (t218 != x5) = true then (fasciclelaw18_FoldSame.j2 k x0 true) else ((fold_Compact.f x0).bind fun t219 => ((fold_Same.f k x0 t219).bind fun t222 => (fasciclelaw18_FoldSame.j2 k x0 (!t222))))))))
def fasciclelaw18_FoldSame.j2 : Nat → List (S25) → Bool → Option (Bool)
  | 0, _, _ => none
  | k + 1, x0, x86 => if x86 = true then (some false) else ((fold_Live.f x0).bind fun t223 => (fasciclelaw18_FoldSame.l1 k x0 t223 x0 (x0.length : Int) 0))
def fasciclelaw18_FoldSame.l1 : Nat → List (S25) → List (S25) → List (S25) → Int → Int → Option (Bool)
  | 0, _, _, _, _, _ => none
  | k + 1, x0, x12, x89, x90, x91 => if x91 < x90 then (if 0 ≤ x91 then (if x91 < (x89.length : Int) then ((fold_At.f x0 ((rd_T25 x89 x91).f2)).bind fun bt228 => ((fold_At.f x12 ((rd_T25 x89 x91).f2)).bind fun bt230 => (if bt228.2.toList = bt230.2.toList then (if ((bt228.1 == 2) != (bt230.1 == 2)) = true then (some false) else (if bt230.1 = 1 then (some false) else (fasciclelaw18_FoldSame.l1 k x0 x12 x89 x90 (wrap64 (x91 + 1))))) else (some false)))) else (none)) else (none)) else (some true)
end
def fasciclelaw18_FoldSame.f (k : Nat) (l0 : List (S25)) (l1 : List (S25)) : Option (Bool) := (fasciclelaw18_lives.f).bind fun t198 => (if t198 = true then ((fasciclelaw07_Few.f k l0 60 300).bind fun t199 => (if t199 = true then ((fasciclelaw07_Few.f k l1 60 300).bind fun t200 => (fasciclelaw18_FoldSame.j0 k l0 l1 (!t200))) else (fasciclelaw18_FoldSame.j0 k l0 l1 true))) else (fasciclelaw18_FoldSame.j0 k l0 l1 true))
theorem fasciclelaw18_FoldSame.mono_l : ∀ k, (∀ y0 y1 y2, LeO (fasciclelaw18_FoldSame.j0 k y0 y1 y2) (fasciclelaw18_FoldSame.j0 (k + 1) y0 y1 y2)) ∧ (∀ y0 y1 y2 y3 y4 y5, LeO (fasciclelaw18_FoldSame.l0 k y0 y1 y2 y3 y4 y5) (fasciclelaw18_FoldSame.l0 (k + 1) y0 y1 y2 y3 y4 y5)) ∧ (∀ y0 y1, LeO (fasciclelaw18_FoldSame.j2 k y0 y1) (fasciclelaw18_FoldSame.j2 (k + 1) y0 y1)) ∧ (∀ y0 y1 y2 y3 y4, LeO (fasciclelaw18_FoldSame.l1 k y0 y1 y2 y3 y4) (fasciclelaw18_FoldSame.l1 (k + 1) y0 y1 y2 y3 y4))
  | 0 => ⟨fun _ _ _ r h => by simp [fasciclelaw18_FoldSame.j0] at h, fun _ _ _ _ _ _ r h => by simp [fasciclelaw18_FoldSame.l0] at h, fun _ _ r h => by simp [fasciclelaw18_FoldSame.j2] at h, fun _ _ _ _ _ r h => by simp [fasciclelaw18_FoldSame.l1] at h⟩
  | k + 1 => by
    obtain ⟨ih0, ih1, ih2, ih3⟩ := fasciclelaw18_FoldSame.mono_l k
    refine ⟨?_, ?_, ?_, ?_⟩
    · intro y0 y1 y2
      unfold fasciclelaw18_FoldSame.j0
      repeat' first
      | (with_reducible exact ih0 _ _ _)
      | (with_reducible exact ih1 _ _ _ _ _ _)
      | (with_reducible exact ih2 _ _)
      | (with_reducible exact ih3 _ _ _ _ _)
      | (with_reducible exact fasciclelaw07_Few.mono _ _ _ _)
      | (with_reducible exact fascicleref18_At.mono _ _ _)
      | (with_reducible exact fold_Same.mono _ _ _)
      | (with_reducible exact LeO.refl _)
      | (with_reducible exact LeO.none _)
      | (with_reducible refine LeO.ite ?_ ?_)
      | (with_reducible refine LeO.bind ?_ (fun _ => ?_))
      | exact ih0 _ _ _
      | exact ih1 _ _ _ _ _ _
      | exact ih2 _ _
      | exact ih3 _ _ _ _ _
      | exact fasciclelaw07_Few.mono _ _ _ _
      | exact fascicleref18_At.mono _ _ _
      | exact fold_Same.mono _ _ _
      | exact LeO.none _
      | refine LeO.ite ?_ ?_
      | refine LeO.bind ?_ (fun _ => ?_)
    · intro y0 y1 y2 y3 y4 y5
      unfold fasciclelaw18_FoldSame.l0
      repeat' first
      | (with_reducible exact ih0 _ _ _)
      | (with_reducible exact ih1 _ _ _ _ _ _)
      | (with_reducible exact ih2 _ _)
      | (with_reducible exact ih3 _ _ _ _ _)
      | (with_reducible exact fasciclelaw07_Few.mono _ _ _ _)
      | (with_reducible exact fascicleref18_At.mono _ _ _)
      | (with_reducible exact fold_Same.mono _ _ _)
      | (with_reducible exact LeO.refl _)
      | (with_reducible exact LeO.none _)
      | (with_reducible refine LeO.ite ?_ ?_)
      | (with_reducible refine LeO.bind ?_ (fun _ => ?_))
      | exact ih0 _ _ _
      | exact ih1 _ _ _ _ _ _
      | exact ih2 _ _
      | exact ih3 _ _ _ _ _
      | exact fasciclelaw07_Few.mono _ _ _ _
      | exact fascicleref18_At.mono _ _ _
      | exact fold_Same.mono _ _ _
      | exact LeO.none _
      | refine LeO.ite ?_ ?_
      | refine LeO.bind ?_ (fun _ => ?_)
    · intro y0 y1
      unfold fasciclelaw18_FoldSame.j2
      repeat' first
      | (with_reducible exact ih0 _ _ _)
      | (with_reducible exact ih1 _ _ _ _ _ _)
      | (with_reducible exact ih2 _ _)
      | (with_reducible exact ih3 _ _ _ _ _)
      | (with_reducible exact fasciclelaw07_Few.mono _ _ _ _)
      | (with_reducible exact fascicleref18_At.mono _ _ _)
      | (with_reducible exact fold_Same.mono _ _ _)
      | (with_reducible exact LeO.refl _)
      | (with_reducible exact LeO.none _)
      | (with_reducible refine LeO.ite ?_ ?_)
      | (with_reducible refine LeO.bind ?_ (fun _ => ?_))
      | exact ih0 _ _ _
      | exact ih1 _ _ _ _ _ _
      | exact ih2 _ _
      | exact ih3 _ _ _ _ _
      | exact fasciclelaw07_Few.mono _ _ _ _
      | exact fascicleref18_At.mono _ _ _
      | exact fold_Same.mono _ _ _
      | exact LeO.none _
      | refine LeO.ite ?_ ?_
      | refine LeO.bind ?_ (fun _ => ?_)
    · intro y0 y1 y2 y3 y4
      unfold fasciclelaw18_FoldSame.l1
      repeat' first
      | (with_reducible exact ih0 _ _ _)
      | (with_reducible exact ih1 _ _ _ _ _ _)
      | (with_reducible exact ih2 _ _)
      | (with_reducible exact ih3 _ _ _ _ _)
      | (with_reducible exact fasciclelaw07_Few.mono _ _ _ _)
      | (with_reducible exact fascicleref18_At.mono _ _ _)
      | (with_reducible exact fold_Same.mono _ _ _)
      | (with_reducible exact LeO.refl _)
      | (with_reducible exact LeO.none _)
      | (with_reducible refine LeO.ite ?_ ?_)
      | (with_reducible refine LeO.bind ?_ (fun _ => ?_))
      | exact ih0 _ _ _
      | exact ih1 _ _ _ _ _ _
      | exact ih2 _ _
      | exact ih3 _ _ _ _ _
      | exact fasciclelaw07_Few.mono _ _ _ _
      | exact fascicleref18_At.mono _ _ _
      | exact fold_Same.mono _ _ _
      | exact LeO.none _
      | refine LeO.ite ?_ ?_
      | refine LeO.bind ?_ (fun _ => ?_)
theorem fasciclelaw18_FoldSame.mono : ∀ a0 a1 k, LeO (fasciclelaw18_FoldSame.f k a0 a1) (fasciclelaw18_FoldSame.f (k + 1) a0 a1) := by
  intro a0 a1 k
  obtain ⟨ih0, ih1, ih2, ih3⟩ := fasciclelaw18_FoldSame.mono_l k
  unfold fasciclelaw18_FoldSame.f
  repeat' first
      | (with_reducible exact ih0 _ _ _)
      | (with_reducible exact ih1 _ _ _ _ _ _)
      | (with_reducible exact ih2 _ _)
      | (with_reducible exact ih3 _ _ _ _ _)
      | (with_reducible exact fasciclelaw07_Few.mono _ _ _ _)
      | (with_reducible exact fascicleref18_At.mono _ _ _)
      | (with_reducible exact fold_Same.mono _ _ _)
      | (with_reducible exact LeO.refl _)
      | (with_reducible exact LeO.none _)
      | (with_reducible refine LeO.ite ?_ ?_)
      | (with_reducible refine LeO.bind ?_ (fun _ => ?_))
      | exact ih0 _ _ _
      | exact ih1 _ _ _ _ _ _
      | exact ih2 _ _
      | exact ih3 _ _ _ _ _
      | exact fasciclelaw07_Few.mono _ _ _ _
      | exact fascicleref18_At.mono _ _ _
      | exact fold_Same.mono _ _ _
      | exact LeO.none _
      | refine LeO.ite ?_ ?_
      | refine LeO.bind ?_ (fun _ => ?_)
set_option maxHeartbeats 8000000 in
set_option maxRecDepth 100000 in
theorem fasciclelaw18_FoldSame.calls (k : Nat) (A0 : Option Addr) (c0 : Nat) (l0 : List (S25)) (A1 : Option Addr) (c1 : Nat) (l1 : List (S25)) (r : Bool) (w : World) (hr0 : Kd.C k25 w A0 l0.length l0) (hc0 : l0.length ≤ c0) (hr1 : Kd.C k25 w A1 l1.length l1) (hc1 : l1.length ≤ c1) (h : fasciclelaw18_FoldSame.f k l0 l1 = some r) :
    Calls Try.prog 7 #[.slice A0 l0.length c0, .slice A1 l1.length c1] w fun e w' => e = .returned (.bool r) ∧ Below w.heap.size w w' := by
  have hu25 := Try.underlying25
  have HR0 := Aside0.mk hr0
  have HC0 := Aside0.mk hc0
  clear hr0 hc0
  have HR1 := Aside0.mk hr1
  have HC1 := Aside0.mk hc1
  clear hr1 hc1
  have HB := Aside0.mk (Below.refl w.heap.size w)
  have H : ((fasciclelaw18_lives.f).bind fun t198 => (if t198 = true then ((fasciclelaw07_Few.f k l0 60 300).bind fun t199 => (if t199 = true then ((fasciclelaw07_Few.f k l1 60 300).bind fun t200 => (fasciclelaw18_FoldSame.j0 k l0 l1 (!t200))) else (fasciclelaw18_FoldSame.j0 k l0 l1 true))) else (fasciclelaw18_FoldSame.j0 k l0 l1 true))) = some r := h
  clear h
  have HC3 := Aside0.mk H
  clear H
  go_enter Try.func7, Try.ntmps7
  go_upto_region 1 with (fail)
  go_cut [30] (fun v30 wc => ∃ (kq : Nat) (x30_2 : Bool), v30 = .bool x30_2 ∧ Aside0 (fasciclelaw18_FoldSame.j0 kq l0 l1 x30_2 = some r) ∧ Aside0 (kq ≤ k) ∧ Aside0 (Below w.heap.size w wc))
  case first =>
    have H := HC3.out
    clear HC3
    replace H := Option.bind_eq_some_iff.mp H
    obtain ⟨t198, A40, H⟩ := H
    replace H : (if t198 = true then ((fasciclelaw07_Few.f k l0 60 300).bind fun t199 => (if t199 = true then ((fasciclelaw07_Few.f k l1 60 300).bind fun t200 => (fasciclelaw18_FoldSame.j0 k l0 l1 (!t200))) else (fasciclelaw18_FoldSame.j0 k l0 l1 true))) else (fasciclelaw18_FoldSame.j0 k l0 l1 true)) = some r := H
    have A4 := Aside0.mk A40
    clear A40
    by_cases c5 : t198 = true
    · subst c5
      have H1 : ((fasciclelaw07_Few.f k l0 60 300).bind fun t199 => (if t199 = true then ((fasciclelaw07_Few.f k l1 60 300).bind fun t200 => (fasciclelaw18_FoldSame.j0 k l0 l1 (!t200))) else (fasciclelaw18_FoldSame.j0 k l0 l1 true))) = some r := by rw [if_pos rfl] at H; exact H
      clear H
      have H := H1
      clear H1
      replace H := Option.bind_eq_some_iff.mp H
      obtain ⟨t199, A60, H⟩ := H
      replace H : (if t199 = true then ((fasciclelaw07_Few.f k l1 60 300).bind fun t200 => (fasciclelaw18_FoldSame.j0 k l0 l1 (!t200))) else (fasciclelaw18_FoldSame.j0 k l0 l1 true)) = some r := H
      have A6 := Aside0.mk A60
      clear A60
      by_cases c7 : t199 = true
      · subst c7
        have H1 : ((fasciclelaw07_Few.f k l1 60 300).bind fun t200 => (fasciclelaw18_FoldSame.j0 k l0 l1 (!t200))) = some r := by rw [if_pos rfl] at H; exact H
        clear H
        have H := H1
        clear H1
        replace H := Option.bind_eq_some_iff.mp H
        obtain ⟨t200, A80, H⟩ := H
        replace H : (fasciclelaw18_FoldSame.j0 k l0 l1 (!t200)) = some r := H
        have A8 := Aside0.mk A80
        clear A80
        have H' := Aside0.mk H
        clear H
        go_wp2_with (first | ((with_reducible refine gate_callee (f := 10) rfl ?_); refine goesL_ (some 19) rfl rfl Try.func10 (by kernel_rfl) rfl #[] rfl (by (try simp only [List.map_toArray, List.map_cons, List.map_nil]); first | done | rfl | (simp only [List.length_drop, List.length_take]; rfl)) ?_; (with_reducible refine (fasciclelaw18_lives.calls  true _ A4.out).mono ?_); rintro e w9 ⟨rfl, hb⟩; refine ⟨_, rfl, ?_⟩; have n0_ := Aside0.mk (below_step (by repeat (first | (with_reducible first | exact HB.out | apply below_alloc | apply pw_below_drewN | apply below_drew1) | exact HB.out)) hb); clear HB; have HB := n0_; clear n0_; (try clear hb); (try clear hb2); (try clear hk); (try clear hi)) | (go_at_call 11; (with_reducible refine (fasciclelaw07_Few.calls k _ _ l0 60 300 true _ ?side1 ?side2 A6.out).mono ?_); (case side1 => repeat (first | exact (Kd.C_below HR0.out HB.out) | (with_reducible refine Kd.C_alloc ?_ _) | (with_reducible refine Kd.C_drewN ?_ _) | (with_reducible refine Kd.C_drew ?_))); (case side2 => exact HC0.out); rintro e w10 ⟨rfl, hb⟩; have n0_ := Aside0.mk (below_step (by repeat (first | (with_reducible first | exact HB.out | apply below_alloc | apply pw_below_drewN | apply below_drew1) | exact HB.out)) hb); clear HB; have HB := n0_; clear n0_; (try clear hb); (try clear hb2); (try clear hk); (try clear hi)) | (go_at_call 11; (with_reducible refine (fasciclelaw07_Few.calls k _ _ l1 60 300 t200 _ ?side1 ?side2 A8.out).mono ?_); (case side1 => repeat (first | exact (Kd.C_below HR1.out HB.out) | (with_reducible refine Kd.C_alloc ?_ _) | (with_reducible refine Kd.C_drewN ?_ _) | (with_reducible refine Kd.C_drew ?_))); (case side2 => exact HC1.out); rintro e w11 ⟨rfl, hb⟩; have n0_ := Aside0.mk (below_step (by repeat (first | (with_reducible first | exact HB.out | apply below_alloc | apply pw_below_drewN | apply below_drew1) | exact HB.out)) hb); clear HB; have HB := n0_; clear n0_; (try clear hb); (try clear hb2); (try clear hk); (try clear hi)))
        go_meet
        case rel => exact ⟨_, (!t200), (by first | rfl | (simp; done) | (simp [*]; done)), H', ⟨by first | omega | exact Nat.le_refl _⟩, ⟨by repeat (first | (with_reducible first | exact HB.out | apply below_alloc | apply pw_below_drewN | apply below_drew1) | exact HB.out)⟩⟩
      · replace c7 := Bool.eq_false_iff.mpr c7
        subst c7
        have H1 : (fasciclelaw18_FoldSame.j0 k l0 l1 true) = some r := by rw [if_neg (show ¬ (false = true) by decide)] at H; exact H
        clear H
        have H := H1
        clear H1
        have H' := Aside0.mk H
        clear H
        go_wp2_with (first | ((with_reducible refine gate_callee (f := 10) rfl ?_); refine goesL_ (some 19) rfl rfl Try.func10 (by kernel_rfl) rfl #[] rfl (by (try simp only [List.map_toArray, List.map_cons, List.map_nil]); first | done | rfl | (simp only [List.length_drop, List.length_take]; rfl)) ?_; (with_reducible refine (fasciclelaw18_lives.calls  true _ A4.out).mono ?_); rintro e w12 ⟨rfl, hb⟩; refine ⟨_, rfl, ?_⟩; have n0_ := Aside0.mk (below_step (by repeat (first | (with_reducible first | exact HB.out | apply below_alloc | apply pw_below_drewN | apply below_drew1) | exact HB.out)) hb); clear HB; have HB := n0_; clear n0_; (try clear hb); (try clear hb2); (try clear hk); (try clear hi)) | (go_at_call 11; (with_reducible refine (fasciclelaw07_Few.calls k _ _ l0 60 300 false _ ?side1 ?side2 A6.out).mono ?_); (case side1 => repeat (first | exact (Kd.C_below HR0.out HB.out) | (with_reducible refine Kd.C_alloc ?_ _) | (with_reducible refine Kd.C_drewN ?_ _) | (with_reducible refine Kd.C_drew ?_))); (case side2 => exact HC0.out); rintro e w13 ⟨rfl, hb⟩; have n0_ := Aside0.mk (below_step (by repeat (first | (with_reducible first | exact HB.out | apply below_alloc | apply pw_below_drewN | apply below_drew1) | exact HB.out)) hb); clear HB; have HB := n0_; clear n0_; (try clear hb); (try clear hb2); (try clear hk); (try clear hi)))
        go_meet
        case rel => exact ⟨_, (true), (by first | rfl | (simp; done) | (simp [*]; done)), H', ⟨by first | omega | exact Nat.le_refl _⟩, ⟨by repeat (first | (with_reducible first | exact HB.out | apply below_alloc | apply pw_below_drewN | apply below_drew1) | exact HB.out)⟩⟩
    · replace c5 := Bool.eq_false_iff.mpr c5
      subst c5
      have H1 : (fasciclelaw18_FoldSame.j0 k l0 l1 true) = some r := by rw [if_neg (show ¬ (false = true) by decide)] at H; exact H
      clear H
      have H := H1
      clear H1
      have H' := Aside0.mk H
      clear H
      go_wp2_with (first | ((with_reducible refine gate_callee (f := 10) rfl ?_); refine goesL_ (some 19) rfl rfl Try.func10 (by kernel_rfl) rfl #[] rfl (by (try simp only [List.map_toArray, List.map_cons, List.map_nil]); first | done | rfl | (simp only [List.length_drop, List.length_take]; rfl)) ?_; (with_reducible refine (fasciclelaw18_lives.calls  false _ A4.out).mono ?_); rintro e w14 ⟨rfl, hb⟩; refine ⟨_, rfl, ?_⟩; have n0_ := Aside0.mk (below_step (by repeat (first | (with_reducible first | exact HB.out | apply below_alloc | apply pw_below_drewN | apply below_drew1) | exact HB.out)) hb); clear HB; have HB := n0_; clear n0_; (try clear hb); (try clear hb2); (try clear hk); (try clear hi)))
      go_meet
      case rel => exact ⟨_, (true), (by first | rfl | (simp; done) | (simp [*]; done)), H', ⟨by first | omega | exact Nat.le_refl _⟩, ⟨by repeat (first | (with_reducible first | exact HB.out | apply below_alloc | apply pw_below_drewN | apply below_drew1) | exact HB.out)⟩⟩
  case rest =>
    clear HC3
    try clear c1
    try clear p2
    try clear c5
    try clear c7
    try clear c10
    obtain ⟨kq, x30_2, rfl, HA, HJ2, HB⟩ := hcut
    cases kq with
    | zero => exact absurd HA.out (by simp [fasciclelaw18_FoldSame.j0])
    | succ kj2 =>
      have H := HA.out
      clear HA
      simp only [fasciclelaw18_FoldSame.j0] at H
      by_cases c15 : x30_2 = true
      · subst c15
        have H1 : ((fasciclelaw18_lives.f).bind fun t201 => (some t201)) = some r := by rw [if_pos rfl] at H; exact H
        clear H
        have H := H1
        clear H1
        replace H := Option.bind_eq_some_iff.mp H
        obtain ⟨t201, A160, H⟩ := H
        replace H : (some t201) = some r := H
        have A16 := Aside0.mk A160
        clear A160
        obtain rfl := Option.some.inj H
        go_wp2_with (first | ((with_reducible refine gate_callee (f := 10) rfl ?_); refine goesL_ (some 31) rfl rfl Try.func10 (by kernel_rfl) rfl #[] rfl (by (try simp only [List.map_toArray, List.map_cons, List.map_nil]); first | done | rfl | (simp only [List.length_drop, List.length_take]; rfl)) ?_; (with_reducible refine (fasciclelaw18_lives.calls  t201 _ A16.out).mono ?_); rintro e w17 ⟨rfl, hb⟩; refine ⟨_, rfl, ?_⟩; have n0_ := Aside0.mk (below_step (by repeat (first | (with_reducible first | exact HB.out | apply below_alloc | apply pw_below_drewN | apply below_drew1) | exact HB.out)) hb); clear HB; have HB := n0_; clear n0_; (try clear hb); (try clear hb2); (try clear hk); (try clear hi)))
        go_ret
        exact ⟨by first | rfl | (simp [errW_none, errW_some] <;> rfl) | (simp [*, errW_none, errW_some] <;> rfl), by repeat (first | (with_reducible first | exact HB.out | apply below_alloc | apply pw_below_drewN | apply below_drew1) | exact HB.out)⟩
      · replace c15 := Bool.eq_false_iff.mpr c15
        subst c15
        have H1 : ((some (([] : List (S25)) : List (S25))).bind fun y202 => (if y202.length + l0.length < 2932031007402 then ((some (y202 ++ l0 : List (S25))).bind fun y205 => (if y205.length + l1.length < 2932031007402 then ((some (y205 ++ l1 : List (S25))).bind fun y208 => (fasciclelaw18_FoldSame.l0 kj2 l0 l1 true y208 (y208.length : Int) 0)) else (none))) else (none))) = some r := by rw [if_neg (show ¬ (false = true) by decide)] at H; exact H
        clear H
        have H := H1
        clear H1
        obtain ⟨y202, hy202⟩ : ∃ y_ : List (S25), y_ = (([] : List (S25))) := ⟨_, rfl⟩
        replace H : (if y202.length + l0.length < 2932031007402 then ((some (y202 ++ l0 : List (S25))).bind fun y205 => (if y205.length + l1.length < 2932031007402 then ((some (y205 ++ l1 : List (S25))).bind fun y208 => (fasciclelaw18_FoldSame.l0 kj2 l0 l1 true y208 (y208.length : Int) 0)) else (none))) else (none)) = some r := by first | (rw [hy202]; with_reducible exact H) | (have H2_ := (Option.bind_some _ _).symm.trans H; rw [hy202]; with_reducible exact H2_) | (have H2_ := (Option.bind_some _ _).symm.trans H; with_reducible exact H2_) | with_reducible exact H | (rw [hy202]; exact H) | exact H
        have Ny202 := Aside0.mk hy202
        clear hy202
        by_cases c18 : y202.length + l0.length < 2932031007402
        · rw [if_pos c18] at H
          have LMc18 := Aside0.mk c18
          clear c18
          obtain ⟨y205, hy205⟩ : ∃ y_ : List (S25), y_ = (y202 ++ l0) := ⟨_, rfl⟩
          replace H : (if y205.length + l1.length < 2932031007402 then ((some (y205 ++ l1 : List (S25))).bind fun y208 => (fasciclelaw18_FoldSame.l0 kj2 l0 l1 true y208 (y208.length : Int) 0)) else (none)) = some r := by first | (rw [hy205]; with_reducible exact H) | (have H2_ := (Option.bind_some _ _).symm.trans H; rw [hy205]; with_reducible exact H2_) | (have H2_ := (Option.bind_some _ _).symm.trans H; with_reducible exact H2_) | with_reducible exact H | (rw [hy205]; exact H) | exact H
          have Ny205 := Aside0.mk hy205
          clear hy205
          by_cases c19 : y205.length + l1.length < 2932031007402
          · rw [if_pos c19] at H
            have LMc19 := Aside0.mk c19
            clear c19
            obtain ⟨y208, hy208⟩ : ∃ y_ : List (S25), y_ = (y205 ++ l1) := ⟨_, rfl⟩
            replace H : (fasciclelaw18_FoldSame.l0 kj2 l0 l1 true y208 (y208.length : Int) 0) = some r := by first | (rw [hy208]; with_reducible exact H) | (have H2_ := (Option.bind_some _ _).symm.trans H; rw [hy208]; with_reducible exact H2_) | (have H2_ := (Option.bind_some _ _).symm.trans H; with_reducible exact H2_) | with_reducible exact H | (rw [hy208]; exact H) | exact H
            have Ny208 := Aside0.mk hy208
            clear hy208
            have H' := Aside0.mk H
            clear H
            go_wp2_with (first | ((with_reducible refine gate_dst (N := 32) rfl ?_); refine Kd.R_lit k25 _ 25 ?hg (N := 32) ?hd (xs := ([] : List (S25))) (inner := []) (ok := fun _ => True) (okp := fun _ => True) ?hr ?hp (fun _ hk => hk) trivial (Below.refl _ _) (Nat.le_refl _) (by simp) ?_; (case hd => rfl); (case hg => rfl); (case hr => first | (go_simp; done) | (go_simp; rfl)); (case hp => exact (Reps.none _ _)); intro v203 w20 ho21 hb hg_ hnew_; clear hg_ hnew_; (first | rw [← Ny202.out] at ho21 | (simp only [Int.reduceToNat] at ho21; rw [← Ny202.out] at ho21)); have n0_ := Aside0.mk (Kd.R_lower ho21 (below_size (by repeat (first | (with_reducible first | exact HB.out | apply below_alloc | apply pw_below_drewN | apply below_drew1) | exact HB.out)))); have n1_ := Aside0.mk (below_step (by repeat (first | (with_reducible first | exact HB.out | apply below_alloc | apply pw_below_drewN | apply below_drew1) | exact HB.out)) hb); clear HB; have HO204 := n0_; have HB := n1_; clear n0_ n1_; clear hb ho21) | ((with_reducible refine gate_builtin (b := .append) (xs := #[.tmp 32, .tmp 33]) rfl ?_); at_builtin; refine Kd.R_append_rows k25 (w0 := w) w.heap.size rfl (.tmp 32) (.tmp 33) 22 25 (.agg #[(.bool false), (.int .u64 0), (.string ⟨#[]⟩), (.string ⟨#[]⟩)]) 48 rfl Try.underlying22 info25 rfl (by decide) (by omega) v203 y202 l0 _ _ _ (fun _ => True) (fun _ => False) rfl rfl ?aO ?aR (fun _ _ h => h) (fun _ h => h.elim) ?aF ?aB ?aS ?aL ?_; (case aR => repeat (first | exact (Kd.C_below HR0.out HB.out) | (with_reducible refine Kd.C_alloc ?_ _) | (with_reducible refine Kd.C_drewN ?_ _) | (with_reducible refine Kd.C_drew ?_))); (case aB => exact (by repeat (first | (with_reducible first | exact HB.out | apply below_alloc | apply pw_below_drewN | apply below_drew1) | exact HB.out))); (case aF => exact (fun _ _ => trivial)); (case aO => exact (by (with_reducible repeat (first | apply Kd.R_alloc | apply Kd.R_drewN | apply Kd.R_drew)); exact HO204.out)); (case aS => exact (below_size (by repeat (first | (with_reducible first | exact HB.out | apply below_alloc | apply pw_below_drewN | apply below_drew1) | exact HB.out)))); (case aL => have := LMc18.out; omega); intro v206 w22 ho hb hg hat; rw [← Ny205.out] at ho; have n0_ := Aside0.mk (hb); have n1_ := Aside0.mk (ho); clear HB; clear HO204; have HB := n0_; have HO207 := n1_; clear n0_ n1_; clear ho hb hg hat) | ((with_reducible refine gate_builtin (b := .append) (xs := #[.tmp 34, .tmp 35]) rfl ?_); at_builtin; refine Kd.R_append_rows k25 (w0 := w) w.heap.size rfl (.tmp 34) (.tmp 35) 22 25 (.agg #[(.bool false), (.int .u64 0), (.string ⟨#[]⟩), (.string ⟨#[]⟩)]) 48 rfl Try.underlying22 info25 rfl (by decide) (by omega) v206 y205 l1 _ _ _ (fun _ => True) (fun _ => False) rfl rfl ?aO ?aR (fun _ _ h => h) (fun _ h => h.elim) ?aF ?aB ?aS ?aL ?_; (case aR => repeat (first | exact (Kd.C_below HR1.out HB.out) | (with_reducible refine Kd.C_alloc ?_ _) | (with_reducible refine Kd.C_drewN ?_ _) | (with_reducible refine Kd.C_drew ?_))); (case aB => exact (by repeat (first | (with_reducible first | exact HB.out | apply below_alloc | apply pw_below_drewN | apply below_drew1) | exact HB.out))); (case aF => exact (fun _ _ => trivial)); (case aO => exact (by (with_reducible repeat (first | apply Kd.R_alloc | apply Kd.R_drewN | apply Kd.R_drew)); exact HO207.out)); (case aS => exact (below_size (by repeat (first | (with_reducible first | exact HB.out | apply below_alloc | apply pw_below_drewN | apply below_drew1) | exact HB.out)))); (case aL => have := LMc19.out; omega); intro v209 w23 ho hb hg hat; rw [← Ny208.out] at ho; have n0_ := Aside0.mk (hb); have n1_ := Aside0.mk (ho); clear HB; clear HO207; have HB := n0_; have HO210 := n1_; clear n0_ n1_; clear ho hb hg hat; obtain ⟨Ao24, co24, eo24⟩ := Kd.R_slice HO210.out; subst eo24))
            go_loopg [5, 38] kj2 (fun kq v5 v38 w' => ∃ (x5_2 : Bool) (x38_2 : Int), v5 = .bool x5_2 ∧ v38 = .int .i64 x38_2 ∧ Aside0 (fasciclelaw18_FoldSame.l0 kq l0 l1 x5_2 y208 (y208.length : Int) x38_2 = some r) ∧ Aside0 (kq ≤ kj2) ∧ Aside0 (Kd.R k25 25 w' w.heap.size (fun _ => True) (.slice Ao24 y208.length co24) y208) ∧ Aside0 (Below w.heap.size w w'))
            case atStart => exact ⟨(true), (0), (by first | rfl | (simp; done) | (simp [*]; done)), (by first | rfl | (simp; done) | (simp [*]; done)), H', ⟨Nat.le_refl _⟩, ⟨by (with_reducible repeat (first | apply Kd.R_alloc | apply Kd.R_drewN | apply Kd.R_drew)); exact HO210.out⟩, ⟨by repeat (first | (with_reducible first | exact HB.out | apply below_alloc | apply pw_below_drewN | apply below_drew1) | exact HB.out)⟩⟩
            case round =>
              clear H'
              try clear c1
              try clear p2
              try clear c5
              try clear c7
              try clear c10
              try clear c15
              try clear c18
              try clear c19
              try clear p2
              obtain ⟨x5_2, x38_2, rfl, rfl, HA, HK2, HO_36, HB⟩ := hrel
              cases gk with
              | zero => exact absurd HA.out (by simp [fasciclelaw18_FoldSame.l0])
              | succ k2 =>
                have H := HA.out
                clear HA
                simp only [fasciclelaw18_FoldSame.l0] at H
                by_cases c25 : x38_2 < (y208.length : Int)
                · rw [if_pos c25] at H
                  have c25b0 : decide (x38_2 < (y208.length : Int)) = true := decide_eq_true c25
                  clear c25
                  by_cases c26 : 0 ≤ x38_2
                  · rw [if_pos c26] at H
                    have c26b0 : decide (0 ≤ x38_2) = true := decide_eq_true c26
                    clear c26
                    by_cases c27 : x38_2 < (y208.length : Int)
                    · rw [if_pos c27] at H
                      have c27b0 : decide (x38_2 < (y208.length : Int)) = true := decide_eq_true c27
                      clear c27
                      replace H := Option.bind_eq_some_iff.mp H
                      obtain ⟨⟨t213, t214⟩, A280, H⟩ := H
                      replace H : ((fascicleref18_At.f k2 l1 ((rd_T25 y208 x38_2).f2)).bind fun bt215 => (if x5_2 = true then (if t213 = bt215.1 then (fasciclelaw18_FoldSame.l0 k2 l0 l1 (t214.toList == bt215.2.toList) y208 (y208.length : Int) (wrap64 (x38_2 + 1))) else (fasciclelaw18_FoldSame.l0 k2 l0 l1 false y208 (y208.length : Int) (wrap64 (x38_2 + 1)))) else (fasciclelaw18_FoldSame.l0 k2 l0 l1 false y208 (y208.length : Int) (wrap64 (x38_2 + 1))))) = some r := H
                      have A28 := Aside0.mk A280
                      clear A280
                      replace H := Option.bind_eq_some_iff.mp H
                      obtain ⟨⟨t215, t216⟩, A290, H⟩ := H
                      replace H : (if x5_2 = true then (if t213 = t215 then (fasciclelaw18_FoldSame.l0 k2 l0 l1 (t214.toList == t216.toList) y208 (y208.length : Int) (wrap64 (x38_2 + 1))) else (fasciclelaw18_FoldSame.l0 k2 l0 l1 false y208 (y208.length : Int) (wrap64 (x38_2 + 1)))) else (fasciclelaw18_FoldSame.l0 k2 l0 l1 false y208 (y208.length : Int) (wrap64 (x38_2 + 1)))) = some r := H
                      have A29 := Aside0.mk A290
                      clear A290
                      by_cases c30 : x5_2 = true
                      · subst c30
                        have H1 : (if t213 = t215 then (fasciclelaw18_FoldSame.l0 k2 l0 l1 (t214.toList == t216.toList) y208 (y208.length : Int) (wrap64 (x38_2 + 1))) else (fasciclelaw18_FoldSame.l0 k2 l0 l1 false y208 (y208.length : Int) (wrap64 (x38_2 + 1)))) = some r := by rw [if_pos rfl] at H; exact H
                        clear H
                        have H := H1
                        clear H1
                        by_cases c31 : t213 = t215
                        · rw [if_pos c31] at H
                          have c31b0 : (t213 == t215) = true := beq_iff_eq.mpr c31
                          have c31b1 : (t213 != t215) = false := bne_eq_false_iff_eq.mpr c31
                          clear c31
                          have H' := Aside0.mk H
                          clear H
                          have p211 : 0 ≤ (x38_2 : Int) := of_decide_eq_true (by first | (with_reducible assumption) | assumption)
                          have q211 : x38_2 < (y208.length : Int) := of_decide_eq_true (by first | (with_reducible assumption) | assumption)
                          obtain ⟨ad211, e211, hx211_0, hx211_1, hx211_2, hx211_3⟩ := at_T25 (Kd.R_reads' HO_36.out).2.2 x38_2 p211 q211
                          cases e211
                          replace p211 := eq_true p211
                          replace q211 := eq_true q211
                          go_wp2_with (first | ((with_reducible refine gate_dst (N := 7) rfl ?_); refine box_event ?hg (N := 7) ?hd (cs := #[.bool false, .int .u64 0, .string (⟨#[]⟩ : ByteArray), .string (⟨#[]⟩ : ByteArray)]) (t := 25) ?hr ?_; (case hd => rfl); (case hg => rfl); (case hr => first | (go_simp; done) | (go_simp; rfl)); intro gb212 hg w32 hbox hb; have n0_ := Aside0.mk (Kd.R_below (Kd.R_elderB (by (with_reducible repeat (first | apply Kd.R_alloc | apply Kd.R_drewN | apply Kd.R_drew)); exact HO_36.out) gb212 (Nat.le_of_eq hg.symm)) hb); have n1_ := Aside0.mk (below_step (by repeat (first | (with_reducible first | exact HB.out | apply below_alloc | apply pw_below_drewN | apply below_drew1) | exact HB.out)) hb); have n2_ := Aside0.mk (hbox); have n3_ := Aside0.mk ((by rw [hg]; exact (below_size (by repeat (first | (with_reducible first | exact HB.out | apply below_alloc | apply pw_below_drewN | apply below_drew1) | exact HB.out))) : w.heap.size ≤ gb212)); have n4_ := Aside0.mk ((by rw [hg]; exact (below_size (by repeat (first | (with_reducible first | exact HB.out | apply below_alloc | apply pw_below_drewN | apply below_drew1) | exact HB.out))) : w.heap.size ≤ gb212)); clear HO_36; clear HB; have HO_36 := n0_; have HB := n1_; have BK212 := n2_; have GW212 := n3_; have GE212 := n4_; clear n0_ n1_ n2_ n3_ n4_; clear hb hbox hg; have hcz33_0 : w32.cell? ⟨gb212, 0, none⟩ = some (.bool false) := (blk_cell BK212.out 0).trans rfl; have hcz33_1 : w32.cell? ⟨gb212, 1, none⟩ = some (.int .u64 0) := (blk_cell BK212.out 1).trans rfl; have hcz33_2 : w32.cell? ⟨gb212, 2, none⟩ = some (.string (⟨#[]⟩ : ByteArray)) := (blk_cell BK212.out 2).trans rfl; have hcz33_3 : w32.cell? ⟨gb212, 3, none⟩ = some (.string (⟨#[]⟩ : ByteArray)) := (blk_cell BK212.out 3).trans rfl; have hfz33_0 := blk_frozen BK212.out 0; have hfz33_1 := blk_frozen BK212.out 1; have hfz33_2 := blk_frozen BK212.out 2; have hfz33_3 := blk_frozen BK212.out 3) | ((with_reducible refine gate_callee (f := 28) rfl ?_); refine goesL_ (some 46) rfl rfl Try.func28 (by kernel_rfl) rfl #[.slice A0 l0.length c0, .string ((rd_T25 y208 x38_2).f2)] rfl (by (try simp only [List.map_toArray, List.map_cons, List.map_nil]); first | done | rfl | (simp only [List.length_drop, List.length_take]; rfl)) ?_; (with_reducible refine (fascicleref18_At.calls k2 _ _ l0 ((rd_T25 y208 x38_2).f2) t213 t214 _ ?side1 ?side2 A28.out).mono ?_); (case side1 => exact Kd.C_below HR0.out (by repeat (first | (with_reducible first | exact HB.out | apply below_alloc | apply pw_below_drewN | apply below_drew1 | refine below_set ?_ GE212.out) | exact HB.out))); (case side2 => exact HC0.out); rintro e w34 ⟨rfl, hb⟩; refine ⟨_, rfl, ?_⟩; have n0_ := Aside0.mk (Kd.R_below (by (with_reducible repeat (first | apply Kd.R_alloc | apply Kd.R_drewN | apply Kd.R_drew)); exact (Kd.R_mono (Kd.R_far (p := ⟨gb212, 3, none⟩) (Kd.R_far (p := ⟨gb212, 2, none⟩) (Kd.R_far (p := ⟨gb212, 1, none⟩) (Kd.R_far (p := ⟨gb212, 0, none⟩) (Kd.R_mono HO_36.out (fun k_ hk => (⟨hk, hk.2⟩ : _ ∧ k_ ≠ gb212))) (fun _ hk => hk.2) (.bool ((rd_T25 y208 x38_2).f0))) (fun _ hk => hk.2) (.int .u64 ((rd_T25 y208 x38_2).f1))) (fun _ hk => hk.2) (.string ((rd_T25 y208 x38_2).f2))) (fun _ hk => hk.2) (.string ((rd_T25 y208 x38_2).f3))) (fun _ h_ => h_.1))) hb); have n1_ := Aside0.mk (blk_below (g := gb212) (o := .cells #[.bool ((rd_T25 y208 x38_2).f0), .int .u64 ((rd_T25 y208 x38_2).f1), .string ((rd_T25 y208 x38_2).f2), .string ((rd_T25 y208 x38_2).f3)] 25 (0, 0)) (by (with_reducible repeat (first | refine blk_drewN ?_ _ | refine blk_drew ?_ | refine blk_alloc ?_ _)); refine blk_put (cs := #[.bool ((rd_T25 y208 x38_2).f0), .int .u64 ((rd_T25 y208 x38_2).f1), .string ((rd_T25 y208 x38_2).f2), .string (⟨#[]⟩ : ByteArray)]) ?_ 3 _ rfl; (with_reducible repeat (first | refine blk_drewN ?_ _ | refine blk_drew ?_ | refine blk_alloc ?_ _)); refine blk_put (cs := #[.bool ((rd_T25 y208 x38_2).f0), .int .u64 ((rd_T25 y208 x38_2).f1), .string (⟨#[]⟩ : ByteArray), .string (⟨#[]⟩ : ByteArray)]) ?_ 2 _ rfl; (with_reducible repeat (first | refine blk_drewN ?_ _ | refine blk_drew ?_ | refine blk_alloc ?_ _)); refine blk_put (cs := #[.bool ((rd_T25 y208 x38_2).f0), .int .u64 0, .string (⟨#[]⟩ : ByteArray), .string (⟨#[]⟩ : ByteArray)]) ?_ 1 _ rfl; (with_reducible repeat (first | refine blk_drewN ?_ _ | refine blk_drew ?_ | refine blk_alloc ?_ _)); refine blk_put (cs := #[.bool false, .int .u64 0, .string (⟨#[]⟩ : ByteArray), .string (⟨#[]⟩ : ByteArray)]) ?_ 0 _ rfl; (with_reducible repeat (first | refine blk_drewN ?_ _ | refine blk_drew ?_ | refine blk_alloc ?_ _)); exact BK212.out) hb); have n2_ := Aside0.mk (below_step (by repeat (first | (with_reducible first | exact HB.out | apply below_alloc | apply pw_below_drewN | apply below_drew1 | refine below_set ?_ GE212.out) | exact HB.out)) hb); clear HO_36; clear BK212; clear HB; have HO_36 := n0_; have BK212 := n1_; have HB := n2_; clear n0_ n1_ n2_; (try clear hb); (try clear hb2); (try clear hk); (try clear hi); have hcz35_0 : w34.cell? ⟨gb212, 0, none⟩ = some (.bool ((rd_T25 y208 x38_2).f0)) := (blk_cell BK212.out 0).trans rfl; have hcz35_1 : w34.cell? ⟨gb212, 1, none⟩ = some (.int .u64 ((rd_T25 y208 x38_2).f1)) := (blk_cell BK212.out 1).trans rfl; have hcz35_2 : w34.cell? ⟨gb212, 2, none⟩ = some (.string ((rd_T25 y208 x38_2).f2)) := (blk_cell BK212.out 2).trans rfl; have hcz35_3 : w34.cell? ⟨gb212, 3, none⟩ = some (.string ((rd_T25 y208 x38_2).f3)) := (blk_cell BK212.out 3).trans rfl; have hfz35_0 := blk_frozen BK212.out 0; have hfz35_1 := blk_frozen BK212.out 1; have hfz35_2 := blk_frozen BK212.out 2; have hfz35_3 := blk_frozen BK212.out 3) | ((with_reducible refine gate_callee (f := 28) rfl ?_); refine goesL_ (some 53) rfl rfl Try.func28 (by kernel_rfl) rfl #[.slice A1 l1.length c1, .string ((rd_T25 y208 x38_2).f2)] rfl (by (try simp only [List.map_toArray, List.map_cons, List.map_nil]); first | done | rfl | (simp only [List.length_drop, List.length_take]; rfl)) ?_; (with_reducible refine (fascicleref18_At.calls k2 _ _ l1 ((rd_T25 y208 x38_2).f2) t215 t216 _ ?side1 ?side2 A29.out).mono ?_); (case side1 => repeat (first | exact (Kd.C_below HR1.out HB.out) | (with_reducible refine Kd.C_alloc ?_ _) | (with_reducible refine Kd.C_drewN ?_ _) | (with_reducible refine Kd.C_drew ?_))); (case side2 => exact HC1.out); rintro e w36 ⟨rfl, hb⟩; refine ⟨_, rfl, ?_⟩; have n0_ := Aside0.mk (Kd.R_below (by (with_reducible repeat (first | apply Kd.R_alloc | apply Kd.R_drewN | apply Kd.R_drew)); exact HO_36.out) hb); have n1_ := Aside0.mk (blk_below (g := gb212) (o := .cells #[.bool ((rd_T25 y208 x38_2).f0), .int .u64 ((rd_T25 y208 x38_2).f1), .string ((rd_T25 y208 x38_2).f2), .string ((rd_T25 y208 x38_2).f3)] 25 (0, 0)) (by (with_reducible repeat (first | refine blk_drewN ?_ _ | refine blk_drew ?_ | refine blk_alloc ?_ _)); exact BK212.out) hb); have n2_ := Aside0.mk (below_step (by repeat (first | (with_reducible first | exact HB.out | apply below_alloc | apply pw_below_drewN | apply below_drew1 | refine below_set ?_ GE212.out) | exact HB.out)) hb); clear HO_36; clear BK212; clear HB; have HO_36 := n0_; have BK212 := n1_; have HB := n2_; clear n0_ n1_ n2_; (try clear hb); (try clear hb2); (try clear hk); (try clear hi)))
                          go_roundg k2
                          case measure => have := HJ2.out; have := HK2.out; omega
                          case rel => exact ⟨((t214.toList == t216.toList)), (wrap64 (x38_2 + 1)), (by first | rfl | (simp; done) | (simp [*]; done)), (by first | rfl | (simp; done) | (simp [*]; done)), H', ⟨by have := HJ2.out; have := HK2.out; omega⟩, ⟨by (with_reducible repeat (first | apply Kd.R_alloc | apply Kd.R_drewN | apply Kd.R_drew)); exact Kd.R_mono HO_36.out (fun _ hk => trivial)⟩, ⟨by repeat (first | (with_reducible first | exact HB.out | apply below_alloc | apply pw_below_drewN | apply below_drew1 | refine below_set ?_ GE212.out) | exact HB.out)⟩⟩
                        · rw [if_neg c31] at H
                          have c31b0 : (t213 == t215) = false := beq_eq_false_iff_ne.mpr c31
                          have c31b1 : (t213 != t215) = true := bne_iff_ne.mpr c31
                          have H' := Aside0.mk H
                          clear H
                          have p211 : 0 ≤ (x38_2 : Int) := of_decide_eq_true (by first | (with_reducible assumption) | assumption)
                          have q211 : x38_2 < (y208.length : Int) := of_decide_eq_true (by first | (with_reducible assumption) | assumption)
                          obtain ⟨ad211, e211, hx211_0, hx211_1, hx211_2, hx211_3⟩ := at_T25 (Kd.R_reads' HO_36.out).2.2 x38_2 p211 q211
                          cases e211
                          replace p211 := eq_true p211
                          replace q211 := eq_true q211
                          go_wp2_with (first | ((with_reducible refine gate_dst (N := 7) rfl ?_); refine box_event ?hg (N := 7) ?hd (cs := #[.bool false, .int .u64 0, .string (⟨#[]⟩ : ByteArray), .string (⟨#[]⟩ : ByteArray)]) (t := 25) ?hr ?_; (case hd => rfl); (case hg => rfl); (case hr => first | (go_simp; done) | (go_simp; rfl)); intro gb212 hg w37 hbox hb; have n0_ := Aside0.mk (Kd.R_below (Kd.R_elderB (by (with_reducible repeat (first | apply Kd.R_alloc | apply Kd.R_drewN | apply Kd.R_drew)); exact HO_36.out) gb212 (Nat.le_of_eq hg.symm)) hb); have n1_ := Aside0.mk (below_step (by repeat (first | (with_reducible first | exact HB.out | apply below_alloc | apply pw_below_drewN | apply below_drew1) | exact HB.out)) hb); have n2_ := Aside0.mk (hbox); have n3_ := Aside0.mk ((by rw [hg]; exact (below_size (by repeat (first | (with_reducible first | exact HB.out | apply below_alloc | apply pw_below_drewN | apply below_drew1) | exact HB.out))) : w.heap.size ≤ gb212)); have n4_ := Aside0.mk ((by rw [hg]; exact (below_size (by repeat (first | (with_reducible first | exact HB.out | apply below_alloc | apply pw_below_drewN | apply below_drew1) | exact HB.out))) : w.heap.size ≤ gb212)); clear HO_36; clear HB; have HO_36 := n0_; have HB := n1_; have BK212 := n2_; have GW212 := n3_; have GE212 := n4_; clear n0_ n1_ n2_ n3_ n4_; clear hb hbox hg; have hcz38_0 : w37.cell? ⟨gb212, 0, none⟩ = some (.bool false) := (blk_cell BK212.out 0).trans rfl; have hcz38_1 : w37.cell? ⟨gb212, 1, none⟩ = some (.int .u64 0) := (blk_cell BK212.out 1).trans rfl; have hcz38_2 : w37.cell? ⟨gb212, 2, none⟩ = some (.string (⟨#[]⟩ : ByteArray)) := (blk_cell BK212.out 2).trans rfl; have hcz38_3 : w37.cell? ⟨gb212, 3, none⟩ = some (.string (⟨#[]⟩ : ByteArray)) := (blk_cell BK212.out 3).trans rfl; have hfz38_0 := blk_frozen BK212.out 0; have hfz38_1 := blk_frozen BK212.out 1; have hfz38_2 := blk_frozen BK212.out 2; have hfz38_3 := blk_frozen BK212.out 3) | ((with_reducible refine gate_callee (f := 28) rfl ?_); refine goesL_ (some 46) rfl rfl Try.func28 (by kernel_rfl) rfl #[.slice A0 l0.length c0, .string ((rd_T25 y208 x38_2).f2)] rfl (by (try simp only [List.map_toArray, List.map_cons, List.map_nil]); first | done | rfl | (simp only [List.length_drop, List.length_take]; rfl)) ?_; (with_reducible refine (fascicleref18_At.calls k2 _ _ l0 ((rd_T25 y208 x38_2).f2) t213 t214 _ ?side1 ?side2 A28.out).mono ?_); (case side1 => exact Kd.C_below HR0.out (by repeat (first | (with_reducible first | exact HB.out | apply below_alloc | apply pw_below_drewN | apply below_drew1 | refine below_set ?_ GE212.out) | exact HB.out))); (case side2 => exact HC0.out); rintro e w39 ⟨rfl, hb⟩; refine ⟨_, rfl, ?_⟩; have n0_ := Aside0.mk (Kd.R_below (by (with_reducible repeat (first | apply Kd.R_alloc | apply Kd.R_drewN | apply Kd.R_drew)); exact (Kd.R_mono (Kd.R_far (p := ⟨gb212, 3, none⟩) (Kd.R_far (p := ⟨gb212, 2, none⟩) (Kd.R_far (p := ⟨gb212, 1, none⟩) (Kd.R_far (p := ⟨gb212, 0, none⟩) (Kd.R_mono HO_36.out (fun k_ hk => (⟨hk, hk.2⟩ : _ ∧ k_ ≠ gb212))) (fun _ hk => hk.2) (.bool ((rd_T25 y208 x38_2).f0))) (fun _ hk => hk.2) (.int .u64 ((rd_T25 y208 x38_2).f1))) (fun _ hk => hk.2) (.string ((rd_T25 y208 x38_2).f2))) (fun _ hk => hk.2) (.string ((rd_T25 y208 x38_2).f3))) (fun _ h_ => h_.1))) hb); have n1_ := Aside0.mk (blk_below (g := gb212) (o := .cells #[.bool ((rd_T25 y208 x38_2).f0), .int .u64 ((rd_T25 y208 x38_2).f1), .string ((rd_T25 y208 x38_2).f2), .string ((rd_T25 y208 x38_2).f3)] 25 (0, 0)) (by (with_reducible repeat (first | refine blk_drewN ?_ _ | refine blk_drew ?_ | refine blk_alloc ?_ _)); refine blk_put (cs := #[.bool ((rd_T25 y208 x38_2).f0), .int .u64 ((rd_T25 y208 x38_2).f1), .string ((rd_T25 y208 x38_2).f2), .string (⟨#[]⟩ : ByteArray)]) ?_ 3 _ rfl; (with_reducible repeat (first | refine blk_drewN ?_ _ | refine blk_drew ?_ | refine blk_alloc ?_ _)); refine blk_put (cs := #[.bool ((rd_T25 y208 x38_2).f0), .int .u64 ((rd_T25 y208 x38_2).f1), .string (⟨#[]⟩ : ByteArray), .string (⟨#[]⟩ : ByteArray)]) ?_ 2 _ rfl; (with_reducible repeat (first | refine blk_drewN ?_ _ | refine blk_drew ?_ | refine blk_alloc ?_ _)); refine blk_put (cs := #[.bool ((rd_T25 y208 x38_2).f0), .int .u64 0, .string (⟨#[]⟩ : ByteArray), .string (⟨#[]⟩ : ByteArray)]) ?_ 1 _ rfl; (with_reducible repeat (first | refine blk_drewN ?_ _ | refine blk_drew ?_ | refine blk_alloc ?_ _)); refine blk_put (cs := #[.bool false, .int .u64 0, .string (⟨#[]⟩ : ByteArray), .string (⟨#[]⟩ : ByteArray)]) ?_ 0 _ rfl; (with_reducible repeat (first | refine blk_drewN ?_ _ | refine blk_drew ?_ | refine blk_alloc ?_ _)); exact BK212.out) hb); have n2_ := Aside0.mk (below_step (by repeat (first | (with_reducible first | exact HB.out | apply below_alloc | apply pw_below_drewN | apply below_drew1 | refine below_set ?_ GE212.out) | exact HB.out)) hb); clear HO_36; clear BK212; clear HB; have HO_36 := n0_; have BK212 := n1_; have HB := n2_; clear n0_ n1_ n2_; (try clear hb); (try clear hb2); (try clear hk); (try clear hi); have hcz40_0 : w39.cell? ⟨gb212, 0, none⟩ = some (.bool ((rd_T25 y208 x38_2).f0)) := (blk_cell BK212.out 0).trans rfl; have hcz40_1 : w39.cell? ⟨gb212, 1, none⟩ = some (.int .u64 ((rd_T25 y208 x38_2).f1)) := (blk_cell BK212.out 1).trans rfl; have hcz40_2 : w39.cell? ⟨gb212, 2, none⟩ = some (.string ((rd_T25 y208 x38_2).f2)) := (blk_cell BK212.out 2).trans rfl; have hcz40_3 : w39.cell? ⟨gb212, 3, none⟩ = some (.string ((rd_T25 y208 x38_2).f3)) := (blk_cell BK212.out 3).trans rfl; have hfz40_0 := blk_frozen BK212.out 0; have hfz40_1 := blk_frozen BK212.out 1; have hfz40_2 := blk_frozen BK212.out 2; have hfz40_3 := blk_frozen BK212.out 3) | ((with_reducible refine gate_callee (f := 28) rfl ?_); refine goesL_ (some 53) rfl rfl Try.func28 (by kernel_rfl) rfl #[.slice A1 l1.length c1, .string ((rd_T25 y208 x38_2).f2)] rfl (by (try simp only [List.map_toArray, List.map_cons, List.map_nil]); first | done | rfl | (simp only [List.length_drop, List.length_take]; rfl)) ?_; (with_reducible refine (fascicleref18_At.calls k2 _ _ l1 ((rd_T25 y208 x38_2).f2) t215 t216 _ ?side1 ?side2 A29.out).mono ?_); (case side1 => repeat (first | exact (Kd.C_below HR1.out HB.out) | (with_reducible refine Kd.C_alloc ?_ _) | (with_reducible refine Kd.C_drewN ?_ _) | (with_reducible refine Kd.C_drew ?_))); (case side2 => exact HC1.out); rintro e w41 ⟨rfl, hb⟩; refine ⟨_, rfl, ?_⟩; have n0_ := Aside0.mk (Kd.R_below (by (with_reducible repeat (first | apply Kd.R_alloc | apply Kd.R_drewN | apply Kd.R_drew)); exact HO_36.out) hb); have n1_ := Aside0.mk (blk_below (g := gb212) (o := .cells #[.bool ((rd_T25 y208 x38_2).f0), .int .u64 ((rd_T25 y208 x38_2).f1), .string ((rd_T25 y208 x38_2).f2), .string ((rd_T25 y208 x38_2).f3)] 25 (0, 0)) (by (with_reducible repeat (first | refine blk_drewN ?_ _ | refine blk_drew ?_ | refine blk_alloc ?_ _)); exact BK212.out) hb); have n2_ := Aside0.mk (below_step (by repeat (first | (with_reducible first | exact HB.out | apply below_alloc | apply pw_below_drewN | apply below_drew1 | refine below_set ?_ GE212.out) | exact HB.out)) hb); clear HO_36; clear BK212; clear HB; have HO_36 := n0_; have BK212 := n1_; have HB := n2_; clear n0_ n1_ n2_; (try clear hb); (try clear hb2); (try clear hk); (try clear hi)))
                          go_roundg k2
                          case measure => have := HJ2.out; have := HK2.out; omega
                          case rel => exact ⟨(false), (wrap64 (x38_2 + 1)), (by first | rfl | (simp; done) | (simp [*]; done)), (by first | rfl | (simp; done) | (simp [*]; done)), H', ⟨by have := HJ2.out; have := HK2.out; omega⟩, ⟨by (with_reducible repeat (first | apply Kd.R_alloc | apply Kd.R_drewN | apply Kd.R_drew)); exact Kd.R_mono HO_36.out (fun _ hk => trivial)⟩, ⟨by repeat (first | (with_reducible first | exact HB.out | apply below_alloc | apply pw_below_drewN | apply below_drew1 | refine below_set ?_ GE212.out) | exact HB.out)⟩⟩
                      · replace c30 := Bool.eq_false_iff.mpr c30
                        subst c30
                        have H1 : (fasciclelaw18_FoldSame.l0 k2 l0 l1 false y208 (y208.length : Int) (wrap64 (x38_2 + 1))) = some r := by rw [if_neg (show ¬ (false = true) by decide)] at H; exact H
                        clear H
                        have H := H1
                        clear H1
                        have H' := Aside0.mk H
                        clear H
                        have p211 : 0 ≤ (x38_2 : Int) := of_decide_eq_true (by first | (with_reducible assumption) | assumption)
                        have q211 : x38_2 < (y208.length : Int) := of_decide_eq_true (by first | (with_reducible assumption) | assumption)
                        obtain ⟨ad211, e211, hx211_0, hx211_1, hx211_2, hx211_3⟩ := at_T25 (Kd.R_reads' HO_36.out).2.2 x38_2 p211 q211
                        cases e211
                        replace p211 := eq_true p211
                        replace q211 := eq_true q211
                        go_wp2_with (first | ((with_reducible refine gate_dst (N := 7) rfl ?_); refine box_event ?hg (N := 7) ?hd (cs := #[.bool false, .int .u64 0, .string (⟨#[]⟩ : ByteArray), .string (⟨#[]⟩ : ByteArray)]) (t := 25) ?hr ?_; (case hd => rfl); (case hg => rfl); (case hr => first | (go_simp; done) | (go_simp; rfl)); intro gb212 hg w42 hbox hb; have n0_ := Aside0.mk (Kd.R_below (Kd.R_elderB (by (with_reducible repeat (first | apply Kd.R_alloc | apply Kd.R_drewN | apply Kd.R_drew)); exact HO_36.out) gb212 (Nat.le_of_eq hg.symm)) hb); have n1_ := Aside0.mk (below_step (by repeat (first | (with_reducible first | exact HB.out | apply below_alloc | apply pw_below_drewN | apply below_drew1) | exact HB.out)) hb); have n2_ := Aside0.mk (hbox); have n3_ := Aside0.mk ((by rw [hg]; exact (below_size (by repeat (first | (with_reducible first | exact HB.out | apply below_alloc | apply pw_below_drewN | apply below_drew1) | exact HB.out))) : w.heap.size ≤ gb212)); have n4_ := Aside0.mk ((by rw [hg]; exact (below_size (by repeat (first | (with_reducible first | exact HB.out | apply below_alloc | apply pw_below_drewN | apply below_drew1) | exact HB.out))) : w.heap.size ≤ gb212)); clear HO_36; clear HB; have HO_36 := n0_; have HB := n1_; have BK212 := n2_; have GW212 := n3_; have GE212 := n4_; clear n0_ n1_ n2_ n3_ n4_; clear hb hbox hg; have hcz43_0 : w42.cell? ⟨gb212, 0, none⟩ = some (.bool false) := (blk_cell BK212.out 0).trans rfl; have hcz43_1 : w42.cell? ⟨gb212, 1, none⟩ = some (.int .u64 0) := (blk_cell BK212.out 1).trans rfl; have hcz43_2 : w42.cell? ⟨gb212, 2, none⟩ = some (.string (⟨#[]⟩ : ByteArray)) := (blk_cell BK212.out 2).trans rfl; have hcz43_3 : w42.cell? ⟨gb212, 3, none⟩ = some (.string (⟨#[]⟩ : ByteArray)) := (blk_cell BK212.out 3).trans rfl; have hfz43_0 := blk_frozen BK212.out 0; have hfz43_1 := blk_frozen BK212.out 1; have hfz43_2 := blk_frozen BK212.out 2; have hfz43_3 := blk_frozen BK212.out 3) | ((with_reducible refine gate_callee (f := 28) rfl ?_); refine goesL_ (some 46) rfl rfl Try.func28 (by kernel_rfl) rfl #[.slice A0 l0.length c0, .string ((rd_T25 y208 x38_2).f2)] rfl (by (try simp only [List.map_toArray, List.map_cons, List.map_nil]); first | done | rfl | (simp only [List.length_drop, List.length_take]; rfl)) ?_; (with_reducible refine (fascicleref18_At.calls k2 _ _ l0 ((rd_T25 y208 x38_2).f2) t213 t214 _ ?side1 ?side2 A28.out).mono ?_); (case side1 => exact Kd.C_below HR0.out (by repeat (first | (with_reducible first | exact HB.out | apply below_alloc | apply pw_below_drewN | apply below_drew1 | refine below_set ?_ GE212.out) | exact HB.out))); (case side2 => exact HC0.out); rintro e w44 ⟨rfl, hb⟩; refine ⟨_, rfl, ?_⟩; have n0_ := Aside0.mk (Kd.R_below (by (with_reducible repeat (first | apply Kd.R_alloc | apply Kd.R_drewN | apply Kd.R_drew)); exact (Kd.R_mono (Kd.R_far (p := ⟨gb212, 3, none⟩) (Kd.R_far (p := ⟨gb212, 2, none⟩) (Kd.R_far (p := ⟨gb212, 1, none⟩) (Kd.R_far (p := ⟨gb212, 0, none⟩) (Kd.R_mono HO_36.out (fun k_ hk => (⟨hk, hk.2⟩ : _ ∧ k_ ≠ gb212))) (fun _ hk => hk.2) (.bool ((rd_T25 y208 x38_2).f0))) (fun _ hk => hk.2) (.int .u64 ((rd_T25 y208 x38_2).f1))) (fun _ hk => hk.2) (.string ((rd_T25 y208 x38_2).f2))) (fun _ hk => hk.2) (.string ((rd_T25 y208 x38_2).f3))) (fun _ h_ => h_.1))) hb); have n1_ := Aside0.mk (blk_below (g := gb212) (o := .cells #[.bool ((rd_T25 y208 x38_2).f0), .int .u64 ((rd_T25 y208 x38_2).f1), .string ((rd_T25 y208 x38_2).f2), .string ((rd_T25 y208 x38_2).f3)] 25 (0, 0)) (by (with_reducible repeat (first | refine blk_drewN ?_ _ | refine blk_drew ?_ | refine blk_alloc ?_ _)); refine blk_put (cs := #[.bool ((rd_T25 y208 x38_2).f0), .int .u64 ((rd_T25 y208 x38_2).f1), .string ((rd_T25 y208 x38_2).f2), .string (⟨#[]⟩ : ByteArray)]) ?_ 3 _ rfl; (with_reducible repeat (first | refine blk_drewN ?_ _ | refine blk_drew ?_ | refine blk_alloc ?_ _)); refine blk_put (cs := #[.bool ((rd_T25 y208 x38_2).f0), .int .u64 ((rd_T25 y208 x38_2).f1), .string (⟨#[]⟩ : ByteArray), .string (⟨#[]⟩ : ByteArray)]) ?_ 2 _ rfl; (with_reducible repeat (first | refine blk_drewN ?_ _ | refine blk_drew ?_ | refine blk_alloc ?_ _)); refine blk_put (cs := #[.bool ((rd_T25 y208 x38_2).f0), .int .u64 0, .string (⟨#[]⟩ : ByteArray), .string (⟨#[]⟩ : ByteArray)]) ?_ 1 _ rfl; (with_reducible repeat (first | refine blk_drewN ?_ _ | refine blk_drew ?_ | refine blk_alloc ?_ _)); refine blk_put (cs := #[.bool false, .int .u64 0, .string (⟨#[]⟩ : ByteArray), .string (⟨#[]⟩ : ByteArray)]) ?_ 0 _ rfl; (with_reducible repeat (first | refine blk_drewN ?_ _ | refine blk_drew ?_ | refine blk_alloc ?_ _)); exact BK212.out) hb); have n2_ := Aside0.mk (below_step (by repeat (first | (with_reducible first | exact HB.out | apply below_alloc | apply pw_below_drewN | apply below_drew1 | refine below_set ?_ GE212.out) | exact HB.out)) hb); clear HO_36; clear BK212; clear HB; have HO_36 := n0_; have BK212 := n1_; have HB := n2_; clear n0_ n1_ n2_; (try clear hb); (try clear hb2); (try clear hk); (try clear hi); have hcz45_0 : w44.cell? ⟨gb212, 0, none⟩ = some (.bool ((rd_T25 y208 x38_2).f0)) := (blk_cell BK212.out 0).trans rfl; have hcz45_1 : w44.cell? ⟨gb212, 1, none⟩ = some (.int .u64 ((rd_T25 y208 x38_2).f1)) := (blk_cell BK212.out 1).trans rfl; have hcz45_2 : w44.cell? ⟨gb212, 2, none⟩ = some (.string ((rd_T25 y208 x38_2).f2)) := (blk_cell BK212.out 2).trans rfl; have hcz45_3 : w44.cell? ⟨gb212, 3, none⟩ = some (.string ((rd_T25 y208 x38_2).f3)) := (blk_cell BK212.out 3).trans rfl; have hfz45_0 := blk_frozen BK212.out 0; have hfz45_1 := blk_frozen BK212.out 1; have hfz45_2 := blk_frozen BK212.out 2; have hfz45_3 := blk_frozen BK212.out 3) | ((with_reducible refine gate_callee (f := 28) rfl ?_); refine goesL_ (some 53) rfl rfl Try.func28 (by kernel_rfl) rfl #[.slice A1 l1.length c1, .string ((rd_T25 y208 x38_2).f2)] rfl (by (try simp only [List.map_toArray, List.map_cons, List.map_nil]); first | done | rfl | (simp only [List.length_drop, List.length_take]; rfl)) ?_; (with_reducible refine (fascicleref18_At.calls k2 _ _ l1 ((rd_T25 y208 x38_2).f2) t215 t216 _ ?side1 ?side2 A29.out).mono ?_); (case side1 => repeat (first | exact (Kd.C_below HR1.out HB.out) | (with_reducible refine Kd.C_alloc ?_ _) | (with_reducible refine Kd.C_drewN ?_ _) | (with_reducible refine Kd.C_drew ?_))); (case side2 => exact HC1.out); rintro e w46 ⟨rfl, hb⟩; refine ⟨_, rfl, ?_⟩; have n0_ := Aside0.mk (Kd.R_below (by (with_reducible repeat (first | apply Kd.R_alloc | apply Kd.R_drewN | apply Kd.R_drew)); exact HO_36.out) hb); have n1_ := Aside0.mk (blk_below (g := gb212) (o := .cells #[.bool ((rd_T25 y208 x38_2).f0), .int .u64 ((rd_T25 y208 x38_2).f1), .string ((rd_T25 y208 x38_2).f2), .string ((rd_T25 y208 x38_2).f3)] 25 (0, 0)) (by (with_reducible repeat (first | refine blk_drewN ?_ _ | refine blk_drew ?_ | refine blk_alloc ?_ _)); exact BK212.out) hb); have n2_ := Aside0.mk (below_step (by repeat (first | (with_reducible first | exact HB.out | apply below_alloc | apply pw_below_drewN | apply below_drew1 | refine below_set ?_ GE212.out) | exact HB.out)) hb); clear HO_36; clear BK212; clear HB; have HO_36 := n0_; have BK212 := n1_; have HB := n2_; clear n0_ n1_ n2_; (try clear hb); (try clear hb2); (try clear hk); (try clear hi)))
                        go_roundg k2
                        case measure => have := HJ2.out; have := HK2.out; omega
                        case rel => exact ⟨(false), (wrap64 (x38_2 + 1)), (by first | rfl | (simp; done) | (simp [*]; done)), (by first | rfl | (simp; done) | (simp [*]; done)), H', ⟨by have := HJ2.out; have := HK2.out; omega⟩, ⟨by (with_reducible repeat (first | apply Kd.R_alloc | apply Kd.R_drewN | apply Kd.R_drew)); exact Kd.R_mono HO_36.out (fun _ hk => trivial)⟩, ⟨by repeat (first | (with_reducible first | exact HB.out | apply below_alloc | apply pw_below_drewN | apply below_drew1 | refine below_set ?_ GE212.out) | exact HB.out)⟩⟩
                    · rw [if_neg c27] at H
                      exact absurd H (by simp)
                  · rw [if_neg c26] at H
                    exact absurd H (by simp)
                · rw [if_neg c25] at H
                  have c25b0 : decide (x38_2 < (y208.length : Int)) = false := decide_eq_false c25
                  clear c25
                  have HC47 := Aside0.mk H
                  clear H
                  go_upto_region 11 with (fail)
                  go_cut [86] (fun v86 wc => ∃ (kq : Nat) (x86_46 : Bool), v86 = .bool x86_46 ∧ Aside0 (fasciclelaw18_FoldSame.j2 kq l0 x86_46 = some r) ∧ Aside0 (kq ≤ k2) ∧ Aside0 (Below w.heap.size w wc))
                  case first =>
                    have H := HC47.out
                    clear HC47
                    replace H := Option.bind_eq_some_iff.mp H
                    obtain ⟨t217, A480, H⟩ := H
                    replace H : (if (t217 != x5_2) = true then (fasciclelaw18_FoldSame.j2 k2 l0 true) else ((fold_Same.f k2 l1 l0).bind fun t218 => (if (t218 != x5_2) = true then (fasciclelaw18_FoldSame.j2 k2 l0 true) else ((fold_Compact.f l0).bind fun t219 => ((fold_Same.f k2 l0 t219).bind fun t222 => (fasciclelaw18_FoldSame.j2 k2 l0 (!t222))))))) = some r := H
                    have A48 := Aside0.mk A480
                    clear A480
                    by_cases c49 : (t217 != x5_2) = true
                    · rw [if_pos c49] at H
                      have c49b0 : (t217 != x5_2) = true := c49
                      (try (have c49b1 : decide (t217 = x5_2) = false := by simpa using c49))
                      (try (have c49b2 : (t217 == x5_2) = false := by simpa using c49))
                      (try (have c49b3 : ¬ (t217 = x5_2) := by simpa using c49))
                      clear c49
                      (first | rw [c49b0] | (simp only [i64_w, i32_w]; rw [c49b0]) | skip)
                      have H' := Aside0.mk H
                      clear H
                      go_wp2_with (first | ((with_reducible refine gate_callee (f := 30) rfl ?_); refine goesL_ (some 70) rfl rfl Try.func30 (by kernel_rfl) rfl #[.slice A0 l0.length c0, .slice A1 l1.length c1] rfl (by (try simp only [List.map_toArray, List.map_cons, List.map_nil]); first | done | rfl | (simp only [List.length_drop, List.length_take]; rfl)) ?_; (with_reducible refine (fold_Same.calls k2 _ _ l0 _ _ l1 t217 _ ?side1 ?side2 ?side3 ?side4 A48.out).mono ?_); (case side1 => repeat (first | exact (Kd.C_below HR0.out HB.out) | (with_reducible refine Kd.C_alloc ?_ _) | (with_reducible refine Kd.C_drewN ?_ _) | (with_reducible refine Kd.C_drew ?_))); (case side2 => exact HC0.out); (case side3 => repeat (first | exact (Kd.C_below HR1.out HB.out) | (with_reducible refine Kd.C_alloc ?_ _) | (with_reducible refine Kd.C_drewN ?_ _) | (with_reducible refine Kd.C_drew ?_))); (case side4 => exact HC1.out); rintro e w50 ⟨rfl, hb⟩; refine ⟨_, rfl, ?_⟩; have n0_ := Aside0.mk (Kd.R_below (by (with_reducible repeat (first | apply Kd.R_alloc | apply Kd.R_drewN | apply Kd.R_drew)); exact HO_36.out) hb); have n1_ := Aside0.mk (below_step (by repeat (first | (with_reducible first | exact HB.out | apply below_alloc | apply pw_below_drewN | apply below_drew1) | exact HB.out)) hb); clear HO_36; clear HB; have HO_36 := n0_; have HB := n1_; clear n0_ n1_; (try clear hb); (try clear hb2); (try clear hk); (try clear hi)))
                      go_meet
                      case rel => exact ⟨_, (true), (by first | rfl | (simp; done) | (simp [*]; done)), H', ⟨by have := HJ2.out; have := HK2.out; first | omega | exact Nat.le_refl _⟩, ⟨by repeat (first | (with_reducible first | exact HB.out | apply below_alloc | apply pw_below_drewN | apply below_drew1) | exact HB.out)⟩⟩
                    · rw [if_neg c49] at H
                      have c49b0 : (t217 != x5_2) = false := by simpa using c49
                      (try (have c49b1 : decide (t217 = x5_2) = true := by simpa using c49))
                      (try (have c49b2 : (t217 == x5_2) = true := by simpa using c49))
                      clear c49
                      (first | rw [c49b0] | (simp only [i64_w, i32_w]; rw [c49b0]) | skip)
                      replace H := Option.bind_eq_some_iff.mp H
                      obtain ⟨t218, A510, H⟩ := H
                      replace H : (if (t218 != x5_2) = true then (fasciclelaw18_FoldSame.j2 k2 l0 true) else ((fold_Compact.f l0).bind fun t219 => ((fold_Same.f k2 l0 t219).bind fun t222 => (fasciclelaw18_FoldSame.j2 k2 l0 (!t222))))) = some r := H
                      have A51 := Aside0.mk A510
                      clear A510
                      by_cases c52 : (t218 != x5_2) = true
                      · rw [if_pos c52] at H
                        have c52b0 : (t218 != x5_2) = true := c52
                        (try (have c52b1 : decide (t218 = x5_2) = false := by simpa using c52))
                        (try (have c52b2 : (t218 == x5_2) = false := by simpa using c52))
                        (try (have c52b3 : ¬ (t218 = x5_2) := by simpa using c52))
                        clear c52
                        have H' := Aside0.mk H
                        clear H
                        go_wp2_with (first | ((with_reducible refine gate_callee (f := 30) rfl ?_); refine goesL_ (some 70) rfl rfl Try.func30 (by kernel_rfl) rfl #[.slice A0 l0.length c0, .slice A1 l1.length c1] rfl (by (try simp only [List.map_toArray, List.map_cons, List.map_nil]); first | done | rfl | (simp only [List.length_drop, List.length_take]; rfl)) ?_; (with_reducible refine (fold_Same.calls k2 _ _ l0 _ _ l1 t217 _ ?side1 ?side2 ?side3 ?side4 A48.out).mono ?_); (case side1 => repeat (first | exact (Kd.C_below HR0.out HB.out) | (with_reducible refine Kd.C_alloc ?_ _) | (with_reducible refine Kd.C_drewN ?_ _) | (with_reducible refine Kd.C_drew ?_))); (case side2 => exact HC0.out); (case side3 => repeat (first | exact (Kd.C_below HR1.out HB.out) | (with_reducible refine Kd.C_alloc ?_ _) | (with_reducible refine Kd.C_drewN ?_ _) | (with_reducible refine Kd.C_drew ?_))); (case side4 => exact HC1.out); rintro e w53 ⟨rfl, hb⟩; refine ⟨_, rfl, ?_⟩; have n0_ := Aside0.mk (Kd.R_below (by (with_reducible repeat (first | apply Kd.R_alloc | apply Kd.R_drewN | apply Kd.R_drew)); exact HO_36.out) hb); have n1_ := Aside0.mk (below_step (by repeat (first | (with_reducible first | exact HB.out | apply below_alloc | apply pw_below_drewN | apply below_drew1) | exact HB.out)) hb); clear HO_36; clear HB; have HO_36 := n0_; have HB := n1_; clear n0_ n1_; (try clear hb); (try clear hb2); (try clear hk); (try clear hi)) | (go_at_call 30; (with_reducible refine (fold_Same.calls k2 _ _ l1 _ _ l0 t218 _ ?side1 ?side2 ?side3 ?side4 A51.out).mono ?_); (case side1 => repeat (first | exact (Kd.C_below HR1.out HB.out) | (with_reducible refine Kd.C_alloc ?_ _) | (with_reducible refine Kd.C_drewN ?_ _) | (with_reducible refine Kd.C_drew ?_))); (case side2 => exact HC1.out); (case side3 => repeat (first | exact (Kd.C_below HR0.out HB.out) | (with_reducible refine Kd.C_alloc ?_ _) | (with_reducible refine Kd.C_drewN ?_ _) | (with_reducible refine Kd.C_drew ?_))); (case side4 => exact HC0.out); rintro e w54 ⟨rfl, hb⟩; have n0_ := Aside0.mk (Kd.R_below (by (with_reducible repeat (first | apply Kd.R_alloc | apply Kd.R_drewN | apply Kd.R_drew)); exact HO_36.out) hb); have n1_ := Aside0.mk (below_step (by repeat (first | (with_reducible first | exact HB.out | apply below_alloc | apply pw_below_drewN | apply below_drew1) | exact HB.out)) hb); clear HO_36; clear HB; have HO_36 := n0_; have HB := n1_; clear n0_ n1_; (try clear hb); (try clear hb2); (try clear hk); (try clear hi)))
                        go_meet
                        case rel => exact ⟨_, (true), (by first | rfl | (simp; done) | (simp [*]; done)), H', ⟨by have := HJ2.out; have := HK2.out; first | omega | exact Nat.le_refl _⟩, ⟨by repeat (first | (with_reducible first | exact HB.out | apply below_alloc | apply pw_below_drewN | apply below_drew1) | exact HB.out)⟩⟩
                      · rw [if_neg c52] at H
                        have c52b0 : (t218 != x5_2) = false := by simpa using c52
                        (try (have c52b1 : decide (t218 = x5_2) = true := by simpa using c52))
                        (try (have c52b2 : (t218 == x5_2) = true := by simpa using c52))
                        clear c52
                        replace H := Option.bind_eq_some_iff.mp H
                        obtain ⟨t219, A550, H⟩ := H
                        replace H : ((fold_Same.f k2 l0 t219).bind fun t222 => (fasciclelaw18_FoldSame.j2 k2 l0 (!t222))) = some r := H
                        have A55 := Aside0.mk A550
                        clear A550
                        replace H := Option.bind_eq_some_iff.mp H
                        obtain ⟨t222, A560, H⟩ := H
                        replace H : (fasciclelaw18_FoldSame.j2 k2 l0 (!t222)) = some r := H
                        have A56 := Aside0.mk A560
                        clear A560
                        have H' := Aside0.mk H
                        clear H
                        go_wp2_with (first | ((with_reducible refine gate_callee (f := 30) rfl ?_); refine goesL_ (some 70) rfl rfl Try.func30 (by kernel_rfl) rfl #[.slice A0 l0.length c0, .slice A1 l1.length c1] rfl (by (try simp only [List.map_toArray, List.map_cons, List.map_nil]); first | done | rfl | (simp only [List.length_drop, List.length_take]; rfl)) ?_; (with_reducible refine (fold_Same.calls k2 _ _ l0 _ _ l1 t217 _ ?side1 ?side2 ?side3 ?side4 A48.out).mono ?_); (case side1 => repeat (first | exact (Kd.C_below HR0.out HB.out) | (with_reducible refine Kd.C_alloc ?_ _) | (with_reducible refine Kd.C_drewN ?_ _) | (with_reducible refine Kd.C_drew ?_))); (case side2 => exact HC0.out); (case side3 => repeat (first | exact (Kd.C_below HR1.out HB.out) | (with_reducible refine Kd.C_alloc ?_ _) | (with_reducible refine Kd.C_drewN ?_ _) | (with_reducible refine Kd.C_drew ?_))); (case side4 => exact HC1.out); rintro e w57 ⟨rfl, hb⟩; refine ⟨_, rfl, ?_⟩; have n0_ := Aside0.mk (Kd.R_below (by (with_reducible repeat (first | apply Kd.R_alloc | apply Kd.R_drewN | apply Kd.R_drew)); exact HO_36.out) hb); have n1_ := Aside0.mk (below_step (by repeat (first | (with_reducible first | exact HB.out | apply below_alloc | apply pw_below_drewN | apply below_drew1) | exact HB.out)) hb); clear HO_36; clear HB; have HO_36 := n0_; have HB := n1_; clear n0_ n1_; (try clear hb); (try clear hb2); (try clear hk); (try clear hi)) | (go_at_call 30; (with_reducible refine (fold_Same.calls k2 _ _ l1 _ _ l0 t218 _ ?side1 ?side2 ?side3 ?side4 A51.out).mono ?_); (case side1 => repeat (first | exact (Kd.C_below HR1.out HB.out) | (with_reducible refine Kd.C_alloc ?_ _) | (with_reducible refine Kd.C_drewN ?_ _) | (with_reducible refine Kd.C_drew ?_))); (case side2 => exact HC1.out); (case side3 => repeat (first | exact (Kd.C_below HR0.out HB.out) | (with_reducible refine Kd.C_alloc ?_ _) | (with_reducible refine Kd.C_drewN ?_ _) | (with_reducible refine Kd.C_drew ?_))); (case side4 => exact HC0.out); rintro e w58 ⟨rfl, hb⟩; have n0_ := Aside0.mk (Kd.R_below (by (with_reducible repeat (first | apply Kd.R_alloc | apply Kd.R_drewN | apply Kd.R_drew)); exact HO_36.out) hb); have n1_ := Aside0.mk (below_step (by repeat (first | (with_reducible first | exact HB.out | apply below_alloc | apply pw_below_drewN | apply below_drew1) | exact HB.out)) hb); clear HO_36; clear HB; have HO_36 := n0_; have HB := n1_; clear n0_ n1_; (try clear hb); (try clear hb2); (try clear hk); (try clear hi)) | (go_at_call 31; (with_reducible refine (fold_Compact.calls _ _ l0 t219 _ ?side1 ?side2 A55.out).mono ?_); (case side1 => repeat (first | exact (Kd.C_below HR0.out HB.out) | (with_reducible refine Kd.C_alloc ?_ _) | (with_reducible refine Kd.C_drewN ?_ _) | (with_reducible refine Kd.C_drew ?_))); (case side2 => exact HC0.out); rintro e w59 ⟨v220, rfl, ho0, hb⟩; have n0_ := Aside0.mk (Kd.R_elder' (by (with_reducible repeat (first | apply Kd.R_alloc | apply Kd.R_drewN | apply Kd.R_drew)); exact HO_36.out) (Kd.R_base ho0) hb); have n1_ := Aside0.mk (Kd.R_lower (Kd.R_new' ho0 (Kd.R_lt (by (with_reducible repeat (first | apply Kd.R_alloc | apply Kd.R_drewN | apply Kd.R_drew)); exact HO_36.out))) (below_size (by repeat (first | (with_reducible first | exact HB.out | apply below_alloc | apply pw_below_drewN | apply below_drew1) | exact HB.out)))); have n2_ := Aside0.mk (below_step (by repeat (first | (with_reducible first | exact HB.out | apply below_alloc | apply pw_below_drewN | apply below_drew1) | exact HB.out)) hb); clear HO_36; clear HB; have HO_36 := n0_; have HO221 := n1_; have HB := n2_; clear n0_ n1_ n2_; (try clear hb); (try clear hb2); (try clear hk); (try clear hi); (try clear ho0); obtain ⟨Ao60, co60, eo60⟩ := Kd.R_slice HO221.out; subst eo60) | (go_at_call 30; (with_reducible refine (fold_Same.calls k2 _ _ l0 _ _ t219 t222 _ ?side1 ?side2 ?side3 ?side4 A56.out).mono ?_); (case side1 => repeat (first | exact (Kd.C_below HR0.out HB.out) | (with_reducible refine Kd.C_alloc ?_ _) | (with_reducible refine Kd.C_drewN ?_ _) | (with_reducible refine Kd.C_drew ?_))); (case side2 => exact HC0.out); (case side3 => repeat (first | exact (Kd.R_reads' HO221.out).2.2 | (with_reducible refine Kd.C_alloc ?_ _) | (with_reducible refine Kd.C_drewN ?_ _) | (with_reducible refine Kd.C_drew ?_))); (case side4 => exact (Kd.R_reads' HO221.out).2.1); rintro e w61 ⟨rfl, hb⟩; have n0_ := Aside0.mk (Kd.R_below (by (with_reducible repeat (first | apply Kd.R_alloc | apply Kd.R_drewN | apply Kd.R_drew)); exact HO_36.out) hb); have n1_ := Aside0.mk (Kd.R_below (by (with_reducible repeat (first | apply Kd.R_alloc | apply Kd.R_drewN | apply Kd.R_drew)); exact HO221.out) hb); have n2_ := Aside0.mk (below_step (by repeat (first | (with_reducible first | exact HB.out | apply below_alloc | apply pw_below_drewN | apply below_drew1) | exact HB.out)) hb); clear HO_36; clear HO221; clear HB; have HO_36 := n0_; have HO221 := n1_; have HB := n2_; clear n0_ n1_ n2_; (try clear hb); (try clear hb2); (try clear hk); (try clear hi)))
                        go_meet
                        case rel => exact ⟨_, (!t222), (by first | rfl | (simp; done) | (simp [*]; done)), H', ⟨by have := HJ2.out; have := HK2.out; first | omega | exact Nat.le_refl _⟩, ⟨by repeat (first | (with_reducible first | exact HB.out | apply below_alloc | apply pw_below_drewN | apply below_drew1) | exact HB.out)⟩⟩
                  case rest =>
                    clear HC47
                    try clear c1
                    try clear c2
                    try clear p2
                    try clear q2
                    try clear hx2
                    try clear c3
                    try clear c4
                    try clear c5
                    try clear p6
                    try clear c7
                    try clear c10
                    try clear c15
                    try clear c18
                    try clear c19
                    try clear p21
                    try clear q21
                    try clear hx21
                    try clear c25
                    try clear c25b0
                    try clear c26
                    try clear c26b0
                    try clear c27
                    try clear c27b0
                    try clear c28
                    try clear c30
                    try clear c31
                    try clear c31b0
                    try clear c31b1
                    try clear c49
                    try clear c49b0
                    try clear c49b1
                    try clear c49b2
                    try clear c52
                    try clear c52b0
                    try clear c52b1
                    try clear c52b2
                    try clear hcz33_0
                    try clear hcz33_1
                    try clear hcz33_2
                    try clear hcz33_3
                    try clear hcz35_0
                    try clear hcz35_1
                    try clear hcz35_2
                    try clear hcz35_3
                    try clear hcz38_0
                    try clear hcz38_1
                    try clear hcz38_2
                    try clear hcz38_3
                    try clear hcz40_0
                    try clear hcz40_1
                    try clear hcz40_2
                    try clear hcz40_3
                    try clear hcz43_0
                    try clear hcz43_1
                    try clear hcz43_2
                    try clear hcz43_3
                    try clear hcz45_0
                    try clear hcz45_1
                    try clear hcz45_2
                    try clear hcz45_3
                    try clear hfz33_0
                    try clear hfz33_1
                    try clear hfz33_2
                    try clear hfz33_3
                    try clear hfz35_0
                    try clear hfz35_1
                    try clear hfz35_2
                    try clear hfz35_3
                    try clear hfz38_0
                    try clear hfz38_1
                    try clear hfz38_2
                    try clear hfz38_3
                    try clear hfz40_0
                    try clear hfz40_1
                    try clear hfz40_2
                    try clear hfz40_3
                    try clear hfz43_0
                    try clear hfz43_1
                    try clear hfz43_2
                    try clear hfz43_3
                    try clear hfz45_0
                    try clear hfz45_1
                    try clear hfz45_2
                    try clear hfz45_3
                    try clear hx211_0
                    try clear hx211_1
                    try clear hx211_2
                    try clear hx211_3
                    try clear p2
                    try clear p211
                    try clear q211
                    obtain ⟨kq, x86_46, rfl, HA, HJ46, HB⟩ := hcut
                    cases kq with
                    | zero => exact absurd HA.out (by simp [fasciclelaw18_FoldSame.j2])
                    | succ kj46 =>
                      have H := HA.out
                      clear HA
                      simp only [fasciclelaw18_FoldSame.j2] at H
                      by_cases c62 : x86_46 = true
                      · subst c62
                        have H1 : (some false) = some r := by rw [if_pos rfl] at H; exact H
                        clear H
                        have H := H1
                        clear H1
                        obtain rfl := Option.some.inj H
                        go_wp2
                        go_ret
                        exact ⟨by first | rfl | (simp [errW_none, errW_some] <;> rfl) | (simp [*, errW_none, errW_some] <;> rfl), by repeat (first | (with_reducible first | exact HB.out | apply below_alloc | apply pw_below_drewN | apply below_drew1) | exact HB.out)⟩
                      · replace c62 := Bool.eq_false_iff.mpr c62
                        subst c62
                        have H1 : ((fold_Live.f l0).bind fun t223 => (fasciclelaw18_FoldSame.l1 kj46 l0 t223 l0 (l0.length : Int) 0)) = some r := by rw [if_neg (show ¬ (false = true) by decide)] at H; exact H
                        clear H
                        have H := H1
                        clear H1
                        replace H := Option.bind_eq_some_iff.mp H
                        obtain ⟨t223, A630, H⟩ := H
                        replace H : (fasciclelaw18_FoldSame.l1 kj46 l0 t223 l0 (l0.length : Int) 0) = some r := H
                        have A63 := Aside0.mk A630
                        clear A630
                        have H' := Aside0.mk H
                        clear H
                        go_wp2_with (first | ((with_reducible refine gate_callee (f := 32) rfl ?_); refine goesL_ (some 88) rfl rfl Try.func32 (by kernel_rfl) rfl #[.slice A0 l0.length c0] rfl (by (try simp only [List.map_toArray, List.map_cons, List.map_nil]); first | done | rfl | (simp only [List.length_drop, List.length_take]; rfl)) ?_; (with_reducible refine (fold_Live.calls _ _ l0 t223 _ ?side1 ?side2 A63.out).mono ?_); (case side1 => repeat (first | exact (Kd.C_below HR0.out HB.out) | (with_reducible refine Kd.C_alloc ?_ _) | (with_reducible refine Kd.C_drewN ?_ _) | (with_reducible refine Kd.C_drew ?_))); (case side2 => exact HC0.out); rintro e w64 ⟨v224, rfl, ho0, hb⟩; refine ⟨_, rfl, ?_⟩; have n0_ := Aside0.mk (Kd.R_lower ho0 (below_size (by repeat (first | (with_reducible first | exact HB.out | apply below_alloc | apply pw_below_drewN | apply below_drew1) | exact HB.out)))); have n1_ := Aside0.mk (below_step (by repeat (first | (with_reducible first | exact HB.out | apply below_alloc | apply pw_below_drewN | apply below_drew1) | exact HB.out)) hb); clear HB; have HO225 := n0_; have HB := n1_; clear n0_ n1_; (try clear hb); (try clear hb2); (try clear hk); (try clear hi); (try clear ho0)))
                        go_loopg [91] kj46 (fun kq v91 w' => ∃ (x91_4 : Int), v91 = .int .i64 x91_4 ∧ Aside0 (fasciclelaw18_FoldSame.l1 kq l0 t223 l0 (l0.length : Int) x91_4 = some r) ∧ Aside0 (kq ≤ kj46) ∧ Aside0 (Kd.R k25 25 w' w.heap.size (fun _ => True) v224 t223) ∧ Aside0 (Below w.heap.size w w'))
                        case atStart => exact ⟨(0), (by first | rfl | (simp; done) | (simp [*]; done)), H', ⟨Nat.le_refl _⟩, ⟨by (with_reducible repeat (first | apply Kd.R_alloc | apply Kd.R_drewN | apply Kd.R_drew)); exact HO225.out⟩, ⟨by repeat (first | (with_reducible first | exact HB.out | apply below_alloc | apply pw_below_drewN | apply below_drew1) | exact HB.out)⟩⟩
                        case round =>
                          clear H'
                          try clear c1
                          try clear c2
                          try clear p2
                          try clear q2
                          try clear hx2
                          try clear c3
                          try clear c4
                          try clear c5
                          try clear c6
                          try clear p6
                          try clear c7
                          try clear c10
                          try clear c15
                          try clear c18
                          try clear c19
                          try clear p21
                          try clear q21
                          try clear hx21
                          try clear c25
                          try clear c25b0
                          try clear c26
                          try clear c26b0
                          try clear c27
                          try clear c27b0
                          try clear c28
                          try clear c30
                          try clear c31
                          try clear c31b0
                          try clear c31b1
                          try clear c32
                          try clear c49
                          try clear c49b0
                          try clear c49b1
                          try clear c49b2
                          try clear c52
                          try clear c52b0
                          try clear c52b1
                          try clear c52b2
                          try clear c62
                          try clear p64
                          try clear hcz33_0
                          try clear hcz33_1
                          try clear hcz33_2
                          try clear hcz33_3
                          try clear hcz35_0
                          try clear hcz35_1
                          try clear hcz35_2
                          try clear hcz35_3
                          try clear hcz38_0
                          try clear hcz38_1
                          try clear hcz38_2
                          try clear hcz38_3
                          try clear hcz40_0
                          try clear hcz40_1
                          try clear hcz40_2
                          try clear hcz40_3
                          try clear hcz43_0
                          try clear hcz43_1
                          try clear hcz43_2
                          try clear hcz43_3
                          try clear hcz45_0
                          try clear hcz45_1
                          try clear hcz45_2
                          try clear hcz45_3
                          try clear hfz33_0
                          try clear hfz33_1
                          try clear hfz33_2
                          try clear hfz33_3
                          try clear hfz35_0
                          try clear hfz35_1
                          try clear hfz35_2
                          try clear hfz35_3
                          try clear hfz38_0
                          try clear hfz38_1
                          try clear hfz38_2
                          try clear hfz38_3
                          try clear hfz40_0
                          try clear hfz40_1
                          try clear hfz40_2
                          try clear hfz40_3
                          try clear hfz43_0
                          try clear hfz43_1
                          try clear hfz43_2
                          try clear hfz43_3
                          try clear hfz45_0
                          try clear hfz45_1
                          try clear hfz45_2
                          try clear hfz45_3
                          try clear hx211_0
                          try clear hx211_1
                          try clear hx211_2
                          try clear hx211_3
                          try clear p2
                          try clear p21
                          try clear p211
                          try clear p6
                          try clear q2
                          try clear q21
                          try clear q211
                          obtain ⟨x91_4, rfl, HA, HK4, HO_12, HB⟩ := hrel
                          cases gk with
                          | zero => exact absurd HA.out (by simp [fasciclelaw18_FoldSame.l1])
                          | succ k4 =>
                            have H := HA.out
                            clear HA
                            simp only [fasciclelaw18_FoldSame.l1] at H
                            by_cases c65 : x91_4 < (l0.length : Int)
                            · rw [if_pos c65] at H
                              have c65b0 : decide (x91_4 < (l0.length : Int)) = true := decide_eq_true c65
                              clear c65
                              by_cases c66 : 0 ≤ x91_4
                              · rw [if_pos c66] at H
                                have c66b0 : decide (0 ≤ x91_4) = true := decide_eq_true c66
                                clear c66
                                by_cases c67 : x91_4 < (l0.length : Int)
                                · rw [if_pos c67] at H
                                  have c67b0 : decide (x91_4 < (l0.length : Int)) = true := decide_eq_true c67
                                  clear c67
                                  replace H := Option.bind_eq_some_iff.mp H
                                  obtain ⟨⟨t228, t229⟩, A680, H⟩ := H
                                  replace H : ((fold_At.f t223 ((rd_T25 l0 x91_4).f2)).bind fun bt230 => (if t229.toList = bt230.2.toList then (if ((t228 == 2) != (bt230.1 == 2)) = true then (some false) else (if bt230.1 = 1 then (some false) else (fasciclelaw18_FoldSame.l1 k4 l0 t223 l0 (l0.length : Int) (wrap64 (x91_4 + 1))))) else (some false))) = some r := H
                                  have A68 := Aside0.mk A680
                                  clear A680
                                  replace H := Option.bind_eq_some_iff.mp H
                                  obtain ⟨⟨t230, t231⟩, A690, H⟩ := H
                                  replace H : (if t229.toList = t231.toList then (if ((t228 == 2) != (t230 == 2)) = true then (some false) else (if t230 = 1 then (some false) else (fasciclelaw18_FoldSame.l1 k4 l0 t223 l0 (l0.length : Int) (wrap64 (x91_4 + 1))))) else (some false)) = some r := H
                                  have A69 := Aside0.mk A690
                                  clear A690
                                  by_cases c70 : t229.toList = t231.toList
                                  · rw [if_pos c70] at H
                                    have c70b0 : (t229.toList == t231.toList) = true := beq_iff_eq.mpr c70
                                    have c70b1 : (t229.toList != t231.toList) = false := bne_eq_false_iff_eq.mpr c70
                                    clear c70
                                    by_cases c71 : ((t228 == 2) != (t230 == 2)) = true
                                    · rw [if_pos c71] at H
                                      have c71b0 : ((t228 == 2) != (t230 == 2)) = true := c71
                                      (try (have c71b1 : decide ((t228 == 2) = (t230 == 2)) = false := by simpa using c71))
                                      (try (have c71b2 : ((t228 == 2) == (t230 == 2)) = false := by simpa using c71))
                                      (try (have c71b3 : ¬ ((t228 == 2) = (t230 == 2)) := by simpa using c71))
                                      clear c71
                                      obtain rfl := Option.some.inj H
                                      have p226 : 0 ≤ (x91_4 : Int) := of_decide_eq_true (by first | (with_reducible assumption) | assumption)
                                      have q226 : x91_4 < (l0.length : Int) := of_decide_eq_true (by first | (with_reducible assumption) | assumption)
                                      obtain ⟨ad226, e226, hx226_0, hx226_1, hx226_2, hx226_3⟩ := at_T25 HR0.out x91_4 p226 q226
                                      cases e226
                                      replace hx226_0 := (HB.out.cell (World.block_lt_of_cell? w _ hx226_0)).trans hx226_0
                                      replace hx226_1 := (HB.out.cell (World.block_lt_of_cell? w _ hx226_1)).trans hx226_1
                                      replace hx226_2 := (HB.out.cell (World.block_lt_of_cell? w _ hx226_2)).trans hx226_2
                                      replace hx226_3 := (HB.out.cell (World.block_lt_of_cell? w _ hx226_3)).trans hx226_3
                                      replace p226 := eq_true p226
                                      replace q226 := eq_true q226
                                      go_wp2_with (first | ((with_reducible refine gate_dst (N := 14) rfl ?_); refine box_event ?hg (N := 14) ?hd (cs := #[.bool false, .int .u64 0, .string (⟨#[]⟩ : ByteArray), .string (⟨#[]⟩ : ByteArray)]) (t := 25) ?hr ?_; (case hd => rfl); (case hg => rfl); (case hr => first | (go_simp; done) | (go_simp; rfl)); intro gb227 hg w72 hbox hb; have n0_ := Aside0.mk (Kd.R_below (Kd.R_elderB (by (with_reducible repeat (first | apply Kd.R_alloc | apply Kd.R_drewN | apply Kd.R_drew)); exact HO_12.out) gb227 (Nat.le_of_eq hg.symm)) hb); have n1_ := Aside0.mk (below_step (by repeat (first | (with_reducible first | exact HB.out | apply below_alloc | apply pw_below_drewN | apply below_drew1) | exact HB.out)) hb); have n2_ := Aside0.mk (hbox); have n3_ := Aside0.mk ((by rw [hg]; exact (below_size (by repeat (first | (with_reducible first | exact HB.out | apply below_alloc | apply pw_below_drewN | apply below_drew1) | exact HB.out))) : w.heap.size ≤ gb227)); have n4_ := Aside0.mk ((by rw [hg]; exact (below_size (by repeat (first | (with_reducible first | exact HB.out | apply below_alloc | apply pw_below_drewN | apply below_drew1) | exact HB.out))) : w.heap.size ≤ gb227)); clear HO_12; clear HB; have HO_12 := n0_; have HB := n1_; have BK227 := n2_; have GW227 := n3_; have GE227 := n4_; clear n0_ n1_ n2_ n3_ n4_; clear hb hbox hg; have hcz73_0 : w72.cell? ⟨gb227, 0, none⟩ = some (.bool false) := (blk_cell BK227.out 0).trans rfl; have hcz73_1 : w72.cell? ⟨gb227, 1, none⟩ = some (.int .u64 0) := (blk_cell BK227.out 1).trans rfl; have hcz73_2 : w72.cell? ⟨gb227, 2, none⟩ = some (.string (⟨#[]⟩ : ByteArray)) := (blk_cell BK227.out 2).trans rfl; have hcz73_3 : w72.cell? ⟨gb227, 3, none⟩ = some (.string (⟨#[]⟩ : ByteArray)) := (blk_cell BK227.out 3).trans rfl; have hfz73_0 := blk_frozen BK227.out 0; have hfz73_1 := blk_frozen BK227.out 1; have hfz73_2 := blk_frozen BK227.out 2; have hfz73_3 := blk_frozen BK227.out 3) | ((with_reducible refine gate_callee (f := 12) rfl ?_); refine goesL_ (some 99) rfl rfl Try.func12 (by kernel_rfl) rfl #[.slice (some ad226) l0.length c0, .string ((rd_T25 l0 x91_4).f2)] rfl (by (try simp only [List.map_toArray, List.map_cons, List.map_nil]); first | done | rfl | (simp only [List.length_drop, List.length_take]; rfl)) ?_; (with_reducible refine (fold_At.calls _ _ l0 ((rd_T25 l0 x91_4).f2) t228 t229 _ ?side1 ?side2 A68.out).mono ?_); (case side1 => exact Kd.C_below HR0.out (by repeat (first | (with_reducible first | exact HB.out | apply below_alloc | apply pw_below_drewN | apply below_drew1 | refine below_set ?_ GE227.out) | exact HB.out))); (case side2 => exact HC0.out); rintro e w74 ⟨rfl, hb⟩; refine ⟨_, rfl, ?_⟩; have n0_ := Aside0.mk (Kd.R_below (by (with_reducible repeat (first | apply Kd.R_alloc | apply Kd.R_drewN | apply Kd.R_drew)); exact (Kd.R_mono (Kd.R_far (p := ⟨gb227, 3, none⟩) (Kd.R_far (p := ⟨gb227, 2, none⟩) (Kd.R_far (p := ⟨gb227, 1, none⟩) (Kd.R_far (p := ⟨gb227, 0, none⟩) (Kd.R_mono HO_12.out (fun k_ hk => (⟨hk, hk.2⟩ : _ ∧ k_ ≠ gb227))) (fun _ hk => hk.2) (.bool ((rd_T25 l0 x91_4).f0))) (fun _ hk => hk.2) (.int .u64 ((rd_T25 l0 x91_4).f1))) (fun _ hk => hk.2) (.string ((rd_T25 l0 x91_4).f2))) (fun _ hk => hk.2) (.string ((rd_T25 l0 x91_4).f3))) (fun _ h_ => h_.1))) hb); have n1_ := Aside0.mk (blk_below (g := gb227) (o := .cells #[.bool ((rd_T25 l0 x91_4).f0), .int .u64 ((rd_T25 l0 x91_4).f1), .string ((rd_T25 l0 x91_4).f2), .string ((rd_T25 l0 x91_4).f3)] 25 (0, 0)) (by (with_reducible repeat (first | refine blk_drewN ?_ _ | refine blk_drew ?_ | refine blk_alloc ?_ _)); refine blk_put (cs := #[.bool ((rd_T25 l0 x91_4).f0), .int .u64 ((rd_T25 l0 x91_4).f1), .string ((rd_T25 l0 x91_4).f2), .string (⟨#[]⟩ : ByteArray)]) ?_ 3 _ rfl; (with_reducible repeat (first | refine blk_drewN ?_ _ | refine blk_drew ?_ | refine blk_alloc ?_ _)); refine blk_put (cs := #[.bool ((rd_T25 l0 x91_4).f0), .int .u64 ((rd_T25 l0 x91_4).f1), .string (⟨#[]⟩ : ByteArray), .string (⟨#[]⟩ : ByteArray)]) ?_ 2 _ rfl; (with_reducible repeat (first | refine blk_drewN ?_ _ | refine blk_drew ?_ | refine blk_alloc ?_ _)); refine blk_put (cs := #[.bool ((rd_T25 l0 x91_4).f0), .int .u64 0, .string (⟨#[]⟩ : ByteArray), .string (⟨#[]⟩ : ByteArray)]) ?_ 1 _ rfl; (with_reducible repeat (first | refine blk_drewN ?_ _ | refine blk_drew ?_ | refine blk_alloc ?_ _)); refine blk_put (cs := #[.bool false, .int .u64 0, .string (⟨#[]⟩ : ByteArray), .string (⟨#[]⟩ : ByteArray)]) ?_ 0 _ rfl; (with_reducible repeat (first | refine blk_drewN ?_ _ | refine blk_drew ?_ | refine blk_alloc ?_ _)); exact BK227.out) hb); have n2_ := Aside0.mk (below_step (by repeat (first | (with_reducible first | exact HB.out | apply below_alloc | apply pw_below_drewN | apply below_drew1 | refine below_set ?_ GE227.out) | exact HB.out)) hb); clear HO_12; clear BK227; clear HB; have HO_12 := n0_; have BK227 := n1_; have HB := n2_; clear n0_ n1_ n2_; (try clear hb); (try clear hb2); (try clear hk); (try clear hi); have hcz75_0 : w74.cell? ⟨gb227, 0, none⟩ = some (.bool ((rd_T25 l0 x91_4).f0)) := (blk_cell BK227.out 0).trans rfl; have hcz75_1 : w74.cell? ⟨gb227, 1, none⟩ = some (.int .u64 ((rd_T25 l0 x91_4).f1)) := (blk_cell BK227.out 1).trans rfl; have hcz75_2 : w74.cell? ⟨gb227, 2, none⟩ = some (.string ((rd_T25 l0 x91_4).f2)) := (blk_cell BK227.out 2).trans rfl; have hcz75_3 : w74.cell? ⟨gb227, 3, none⟩ = some (.string ((rd_T25 l0 x91_4).f3)) := (blk_cell BK227.out 3).trans rfl; have hfz75_0 := blk_frozen BK227.out 0; have hfz75_1 := blk_frozen BK227.out 1; have hfz75_2 := blk_frozen BK227.out 2; have hfz75_3 := blk_frozen BK227.out 3; obtain ⟨Ao76, co76, eo76⟩ := Kd.R_slice HO_12.out; subst eo76) | ((with_reducible refine gate_callee (f := 12) rfl ?_); refine goesL_ (some 106) rfl rfl Try.func12 (by kernel_rfl) rfl #[.slice Ao76 t223.length co76, .string ((rd_T25 l0 x91_4).f2)] rfl (by (try simp only [List.map_toArray, List.map_cons, List.map_nil]); first | done | rfl | (simp only [List.length_drop, List.length_take]; rfl)) ?_; (with_reducible refine (fold_At.calls _ _ t223 ((rd_T25 l0 x91_4).f2) t230 t231 _ ?side1 ?side2 A69.out).mono ?_); (case side1 => repeat (first | exact (Kd.R_reads' HO_12.out).2.2 | (with_reducible refine Kd.C_alloc ?_ _) | (with_reducible refine Kd.C_drewN ?_ _) | (with_reducible refine Kd.C_drew ?_))); (case side2 => exact (Kd.R_reads' HO_12.out).2.1); rintro e w77 ⟨rfl, hb⟩; refine ⟨_, rfl, ?_⟩; have n0_ := Aside0.mk (Kd.R_below (by (with_reducible repeat (first | apply Kd.R_alloc | apply Kd.R_drewN | apply Kd.R_drew)); exact HO_12.out) hb); have n1_ := Aside0.mk (blk_below (g := gb227) (o := .cells #[.bool ((rd_T25 l0 x91_4).f0), .int .u64 ((rd_T25 l0 x91_4).f1), .string ((rd_T25 l0 x91_4).f2), .string ((rd_T25 l0 x91_4).f3)] 25 (0, 0)) (by (with_reducible repeat (first | refine blk_drewN ?_ _ | refine blk_drew ?_ | refine blk_alloc ?_ _)); exact BK227.out) hb); have n2_ := Aside0.mk (below_step (by repeat (first | (with_reducible first | exact HB.out | apply below_alloc | apply pw_below_drewN | apply below_drew1 | refine below_set ?_ GE227.out) | exact HB.out)) hb); clear HO_12; clear BK227; clear HB; have HO_12 := n0_; have BK227 := n1_; have HB := n2_; clear n0_ n1_ n2_; (try clear hb); (try clear hb2); (try clear hk); (try clear hi)))
                                      go_ret
                                      exact ⟨by first | rfl | (simp [errW_none, errW_some] <;> rfl) | (simp [*, errW_none, errW_some] <;> rfl), by repeat (first | (with_reducible first | exact HB.out | apply below_alloc | apply pw_below_drewN | apply below_drew1 | refine below_set ?_ GE227.out) | exact HB.out)⟩
                                    · rw [if_neg c71] at H
                                      have c71b0 : ((t228 == 2) != (t230 == 2)) = false := by simpa using c71
                                      (try (have c71b1 : decide ((t228 == 2) = (t230 == 2)) = true := by simpa using c71))
                                      (try (have c71b2 : ((t228 == 2) == (t230 == 2)) = true := by simpa using c71))
                                      clear c71
                                      by_cases c78 : t230 = 1
                                      · rw [if_pos c78] at H
                                        have c78b0 : (t230 == 1) = true := beq_iff_eq.mpr c78
                                        have c78b1 : (t230 != 1) = false := bne_eq_false_iff_eq.mpr c78
                                        clear c78
                                        obtain rfl := Option.some.inj H
                                        have p226 : 0 ≤ (x91_4 : Int) := of_decide_eq_true (by first | (with_reducible assumption) | assumption)
                                        have q226 : x91_4 < (l0.length : Int) := of_decide_eq_true (by first | (with_reducible assumption) | assumption)
                                        obtain ⟨ad226, e226, hx226_0, hx226_1, hx226_2, hx226_3⟩ := at_T25 HR0.out x91_4 p226 q226
                                        cases e226
                                        replace hx226_0 := (HB.out.cell (World.block_lt_of_cell? w _ hx226_0)).trans hx226_0
                                        replace hx226_1 := (HB.out.cell (World.block_lt_of_cell? w _ hx226_1)).trans hx226_1
                                        replace hx226_2 := (HB.out.cell (World.block_lt_of_cell? w _ hx226_2)).trans hx226_2
                                        replace hx226_3 := (HB.out.cell (World.block_lt_of_cell? w _ hx226_3)).trans hx226_3
                                        replace p226 := eq_true p226
                                        replace q226 := eq_true q226
                                        go_wp2_with (first | ((with_reducible refine gate_dst (N := 14) rfl ?_); refine box_event ?hg (N := 14) ?hd (cs := #[.bool false, .int .u64 0, .string (⟨#[]⟩ : ByteArray), .string (⟨#[]⟩ : ByteArray)]) (t := 25) ?hr ?_; (case hd => rfl); (case hg => rfl); (case hr => first | (go_simp; done) | (go_simp; rfl)); intro gb227 hg w79 hbox hb; have n0_ := Aside0.mk (Kd.R_below (Kd.R_elderB (by (with_reducible repeat (first | apply Kd.R_alloc | apply Kd.R_drewN | apply Kd.R_drew)); exact HO_12.out) gb227 (Nat.le_of_eq hg.symm)) hb); have n1_ := Aside0.mk (below_step (by repeat (first | (with_reducible first | exact HB.out | apply below_alloc | apply pw_below_drewN | apply below_drew1) | exact HB.out)) hb); have n2_ := Aside0.mk (hbox); have n3_ := Aside0.mk ((by rw [hg]; exact (below_size (by repeat (first | (with_reducible first | exact HB.out | apply below_alloc | apply pw_below_drewN | apply below_drew1) | exact HB.out))) : w.heap.size ≤ gb227)); have n4_ := Aside0.mk ((by rw [hg]; exact (below_size (by repeat (first | (with_reducible first | exact HB.out | apply below_alloc | apply pw_below_drewN | apply below_drew1) | exact HB.out))) : w.heap.size ≤ gb227)); clear HO_12; clear HB; have HO_12 := n0_; have HB := n1_; have BK227 := n2_; have GW227 := n3_; have GE227 := n4_; clear n0_ n1_ n2_ n3_ n4_; clear hb hbox hg; have hcz80_0 : w79.cell? ⟨gb227, 0, none⟩ = some (.bool false) := (blk_cell BK227.out 0).trans rfl; have hcz80_1 : w79.cell? ⟨gb227, 1, none⟩ = some (.int .u64 0) := (blk_cell BK227.out 1).trans rfl; have hcz80_2 : w79.cell? ⟨gb227, 2, none⟩ = some (.string (⟨#[]⟩ : ByteArray)) := (blk_cell BK227.out 2).trans rfl; have hcz80_3 : w79.cell? ⟨gb227, 3, none⟩ = some (.string (⟨#[]⟩ : ByteArray)) := (blk_cell BK227.out 3).trans rfl; have hfz80_0 := blk_frozen BK227.out 0; have hfz80_1 := blk_frozen BK227.out 1; have hfz80_2 := blk_frozen BK227.out 2; have hfz80_3 := blk_frozen BK227.out 3) | ((with_reducible refine gate_callee (f := 12) rfl ?_); refine goesL_ (some 99) rfl rfl Try.func12 (by kernel_rfl) rfl #[.slice (some ad226) l0.length c0, .string ((rd_T25 l0 x91_4).f2)] rfl (by (try simp only [List.map_toArray, List.map_cons, List.map_nil]); first | done | rfl | (simp only [List.length_drop, List.length_take]; rfl)) ?_; (with_reducible refine (fold_At.calls _ _ l0 ((rd_T25 l0 x91_4).f2) t228 t229 _ ?side1 ?side2 A68.out).mono ?_); (case side1 => exact Kd.C_below HR0.out (by repeat (first | (with_reducible first | exact HB.out | apply below_alloc | apply pw_below_drewN | apply below_drew1 | refine below_set ?_ GE227.out) | exact HB.out))); (case side2 => exact HC0.out); rintro e w81 ⟨rfl, hb⟩; refine ⟨_, rfl, ?_⟩; have n0_ := Aside0.mk (Kd.R_below (by (with_reducible repeat (first | apply Kd.R_alloc | apply Kd.R_drewN | apply Kd.R_drew)); exact (Kd.R_mono (Kd.R_far (p := ⟨gb227, 3, none⟩) (Kd.R_far (p := ⟨gb227, 2, none⟩) (Kd.R_far (p := ⟨gb227, 1, none⟩) (Kd.R_far (p := ⟨gb227, 0, none⟩) (Kd.R_mono HO_12.out (fun k_ hk => (⟨hk, hk.2⟩ : _ ∧ k_ ≠ gb227))) (fun _ hk => hk.2) (.bool ((rd_T25 l0 x91_4).f0))) (fun _ hk => hk.2) (.int .u64 ((rd_T25 l0 x91_4).f1))) (fun _ hk => hk.2) (.string ((rd_T25 l0 x91_4).f2))) (fun _ hk => hk.2) (.string ((rd_T25 l0 x91_4).f3))) (fun _ h_ => h_.1))) hb); have n1_ := Aside0.mk (blk_below (g := gb227) (o := .cells #[.bool ((rd_T25 l0 x91_4).f0), .int .u64 ((rd_T25 l0 x91_4).f1), .string ((rd_T25 l0 x91_4).f2), .string ((rd_T25 l0 x91_4).f3)] 25 (0, 0)) (by (with_reducible repeat (first | refine blk_drewN ?_ _ | refine blk_drew ?_ | refine blk_alloc ?_ _)); refine blk_put (cs := #[.bool ((rd_T25 l0 x91_4).f0), .int .u64 ((rd_T25 l0 x91_4).f1), .string ((rd_T25 l0 x91_4).f2), .string (⟨#[]⟩ : ByteArray)]) ?_ 3 _ rfl; (with_reducible repeat (first | refine blk_drewN ?_ _ | refine blk_drew ?_ | refine blk_alloc ?_ _)); refine blk_put (cs := #[.bool ((rd_T25 l0 x91_4).f0), .int .u64 ((rd_T25 l0 x91_4).f1), .string (⟨#[]⟩ : ByteArray), .string (⟨#[]⟩ : ByteArray)]) ?_ 2 _ rfl; (with_reducible repeat (first | refine blk_drewN ?_ _ | refine blk_drew ?_ | refine blk_alloc ?_ _)); refine blk_put (cs := #[.bool ((rd_T25 l0 x91_4).f0), .int .u64 0, .string (⟨#[]⟩ : ByteArray), .string (⟨#[]⟩ : ByteArray)]) ?_ 1 _ rfl; (with_reducible repeat (first | refine blk_drewN ?_ _ | refine blk_drew ?_ | refine blk_alloc ?_ _)); refine blk_put (cs := #[.bool false, .int .u64 0, .string (⟨#[]⟩ : ByteArray), .string (⟨#[]⟩ : ByteArray)]) ?_ 0 _ rfl; (with_reducible repeat (first | refine blk_drewN ?_ _ | refine blk_drew ?_ | refine blk_alloc ?_ _)); exact BK227.out) hb); have n2_ := Aside0.mk (below_step (by repeat (first | (with_reducible first | exact HB.out | apply below_alloc | apply pw_below_drewN | apply below_drew1 | refine below_set ?_ GE227.out) | exact HB.out)) hb); clear HO_12; clear BK227; clear HB; have HO_12 := n0_; have BK227 := n1_; have HB := n2_; clear n0_ n1_ n2_; (try clear hb); (try clear hb2); (try clear hk); (try clear hi); have hcz82_0 : w81.cell? ⟨gb227, 0, none⟩ = some (.bool ((rd_T25 l0 x91_4).f0)) := (blk_cell BK227.out 0).trans rfl; have hcz82_1 : w81.cell? ⟨gb227, 1, none⟩ = some (.int .u64 ((rd_T25 l0 x91_4).f1)) := (blk_cell BK227.out 1).trans rfl; have hcz82_2 : w81.cell? ⟨gb227, 2, none⟩ = some (.string ((rd_T25 l0 x91_4).f2)) := (blk_cell BK227.out 2).trans rfl; have hcz82_3 : w81.cell? ⟨gb227, 3, none⟩ = some (.string ((rd_T25 l0 x91_4).f3)) := (blk_cell BK227.out 3).trans rfl; have hfz82_0 := blk_frozen BK227.out 0; have hfz82_1 := blk_frozen BK227.out 1; have hfz82_2 := blk_frozen BK227.out 2; have hfz82_3 := blk_frozen BK227.out 3; obtain ⟨Ao83, co83, eo83⟩ := Kd.R_slice HO_12.out; subst eo83) | ((with_reducible refine gate_callee (f := 12) rfl ?_); refine goesL_ (some 106) rfl rfl Try.func12 (by kernel_rfl) rfl #[.slice Ao83 t223.length co83, .string ((rd_T25 l0 x91_4).f2)] rfl (by (try simp only [List.map_toArray, List.map_cons, List.map_nil]); first | done | rfl | (simp only [List.length_drop, List.length_take]; rfl)) ?_; (with_reducible refine (fold_At.calls _ _ t223 ((rd_T25 l0 x91_4).f2) t230 t231 _ ?side1 ?side2 A69.out).mono ?_); (case side1 => repeat (first | exact (Kd.R_reads' HO_12.out).2.2 | (with_reducible refine Kd.C_alloc ?_ _) | (with_reducible refine Kd.C_drewN ?_ _) | (with_reducible refine Kd.C_drew ?_))); (case side2 => exact (Kd.R_reads' HO_12.out).2.1); rintro e w84 ⟨rfl, hb⟩; refine ⟨_, rfl, ?_⟩; have n0_ := Aside0.mk (Kd.R_below (by (with_reducible repeat (first | apply Kd.R_alloc | apply Kd.R_drewN | apply Kd.R_drew)); exact HO_12.out) hb); have n1_ := Aside0.mk (blk_below (g := gb227) (o := .cells #[.bool ((rd_T25 l0 x91_4).f0), .int .u64 ((rd_T25 l0 x91_4).f1), .string ((rd_T25 l0 x91_4).f2), .string ((rd_T25 l0 x91_4).f3)] 25 (0, 0)) (by (with_reducible repeat (first | refine blk_drewN ?_ _ | refine blk_drew ?_ | refine blk_alloc ?_ _)); exact BK227.out) hb); have n2_ := Aside0.mk (below_step (by repeat (first | (with_reducible first | exact HB.out | apply below_alloc | apply pw_below_drewN | apply below_drew1 | refine below_set ?_ GE227.out) | exact HB.out)) hb); clear HO_12; clear BK227; clear HB; have HO_12 := n0_; have BK227 := n1_; have HB := n2_; clear n0_ n1_ n2_; (try clear hb); (try clear hb2); (try clear hk); (try clear hi)))
                                        go_ret
                                        exact ⟨by first | rfl | (simp [errW_none, errW_some] <;> rfl) | (simp [*, errW_none, errW_some] <;> rfl), by repeat (first | (with_reducible first | exact HB.out | apply below_alloc | apply pw_below_drewN | apply below_drew1 | refine below_set ?_ GE227.out) | exact HB.out)⟩
                                      · rw [if_neg c78] at H
                                        have c78b0 : (t230 == 1) = false := beq_eq_false_iff_ne.mpr c78
                                        have c78b1 : (t230 != 1) = true := bne_iff_ne.mpr c78
                                        have H' := Aside0.mk H
                                        clear H
                                        have p226 : 0 ≤ (x91_4 : Int) := of_decide_eq_true (by first | (with_reducible assumption) | assumption)
                                        have q226 : x91_4 < (l0.length : Int) := of_decide_eq_true (by first | (with_reducible assumption) | assumption)
                                        obtain ⟨ad226, e226, hx226_0, hx226_1, hx226_2, hx226_3⟩ := at_T25 HR0.out x91_4 p226 q226
                                        cases e226
                                        replace hx226_0 := (HB.out.cell (World.block_lt_of_cell? w _ hx226_0)).trans hx226_0
                                        replace hx226_1 := (HB.out.cell (World.block_lt_of_cell? w _ hx226_1)).trans hx226_1
                                        replace hx226_2 := (HB.out.cell (World.block_lt_of_cell? w _ hx226_2)).trans hx226_2
                                        replace hx226_3 := (HB.out.cell (World.block_lt_of_cell? w _ hx226_3)).trans hx226_3
                                        replace p226 := eq_true p226
                                        replace q226 := eq_true q226
                                        go_wp2_with (first | ((with_reducible refine gate_dst (N := 14) rfl ?_); refine box_event ?hg (N := 14) ?hd (cs := #[.bool false, .int .u64 0, .string (⟨#[]⟩ : ByteArray), .string (⟨#[]⟩ : ByteArray)]) (t := 25) ?hr ?_; (case hd => rfl); (case hg => rfl); (case hr => first | (go_simp; done) | (go_simp; rfl)); intro gb227 hg w85 hbox hb; have n0_ := Aside0.mk (Kd.R_below (Kd.R_elderB (by (with_reducible repeat (first | apply Kd.R_alloc | apply Kd.R_drewN | apply Kd.R_drew)); exact HO_12.out) gb227 (Nat.le_of_eq hg.symm)) hb); have n1_ := Aside0.mk (below_step (by repeat (first | (with_reducible first | exact HB.out | apply below_alloc | apply pw_below_drewN | apply below_drew1) | exact HB.out)) hb); have n2_ := Aside0.mk (hbox); have n3_ := Aside0.mk ((by rw [hg]; exact (below_size (by repeat (first | (with_reducible first | exact HB.out | apply below_alloc | apply pw_below_drewN | apply below_drew1) | exact HB.out))) : w.heap.size ≤ gb227)); have n4_ := Aside0.mk ((by rw [hg]; exact (below_size (by repeat (first | (with_reducible first | exact HB.out | apply below_alloc | apply pw_below_drewN | apply below_drew1) | exact HB.out))) : w.heap.size ≤ gb227)); clear HO_12; clear HB; have HO_12 := n0_; have HB := n1_; have BK227 := n2_; have GW227 := n3_; have GE227 := n4_; clear n0_ n1_ n2_ n3_ n4_; clear hb hbox hg; have hcz86_0 : w85.cell? ⟨gb227, 0, none⟩ = some (.bool false) := (blk_cell BK227.out 0).trans rfl; have hcz86_1 : w85.cell? ⟨gb227, 1, none⟩ = some (.int .u64 0) := (blk_cell BK227.out 1).trans rfl; have hcz86_2 : w85.cell? ⟨gb227, 2, none⟩ = some (.string (⟨#[]⟩ : ByteArray)) := (blk_cell BK227.out 2).trans rfl; have hcz86_3 : w85.cell? ⟨gb227, 3, none⟩ = some (.string (⟨#[]⟩ : ByteArray)) := (blk_cell BK227.out 3).trans rfl; have hfz86_0 := blk_frozen BK227.out 0; have hfz86_1 := blk_frozen BK227.out 1; have hfz86_2 := blk_frozen BK227.out 2; have hfz86_3 := blk_frozen BK227.out 3) | ((with_reducible refine gate_callee (f := 12) rfl ?_); refine goesL_ (some 99) rfl rfl Try.func12 (by kernel_rfl) rfl #[.slice (some ad226) l0.length c0, .string ((rd_T25 l0 x91_4).f2)] rfl (by (try simp only [List.map_toArray, List.map_cons, List.map_nil]); first | done | rfl | (simp only [List.length_drop, List.length_take]; rfl)) ?_; (with_reducible refine (fold_At.calls _ _ l0 ((rd_T25 l0 x91_4).f2) t228 t229 _ ?side1 ?side2 A68.out).mono ?_); (case side1 => exact Kd.C_below HR0.out (by repeat (first | (with_reducible first | exact HB.out | apply below_alloc | apply pw_below_drewN | apply below_drew1 | refine below_set ?_ GE227.out) | exact HB.out))); (case side2 => exact HC0.out); rintro e w87 ⟨rfl, hb⟩; refine ⟨_, rfl, ?_⟩; have n0_ := Aside0.mk (Kd.R_below (by (with_reducible repeat (first | apply Kd.R_alloc | apply Kd.R_drewN | apply Kd.R_drew)); exact (Kd.R_mono (Kd.R_far (p := ⟨gb227, 3, none⟩) (Kd.R_far (p := ⟨gb227, 2, none⟩) (Kd.R_far (p := ⟨gb227, 1, none⟩) (Kd.R_far (p := ⟨gb227, 0, none⟩) (Kd.R_mono HO_12.out (fun k_ hk => (⟨hk, hk.2⟩ : _ ∧ k_ ≠ gb227))) (fun _ hk => hk.2) (.bool ((rd_T25 l0 x91_4).f0))) (fun _ hk => hk.2) (.int .u64 ((rd_T25 l0 x91_4).f1))) (fun _ hk => hk.2) (.string ((rd_T25 l0 x91_4).f2))) (fun _ hk => hk.2) (.string ((rd_T25 l0 x91_4).f3))) (fun _ h_ => h_.1))) hb); have n1_ := Aside0.mk (blk_below (g := gb227) (o := .cells #[.bool ((rd_T25 l0 x91_4).f0), .int .u64 ((rd_T25 l0 x91_4).f1), .string ((rd_T25 l0 x91_4).f2), .string ((rd_T25 l0 x91_4).f3)] 25 (0, 0)) (by (with_reducible repeat (first | refine blk_drewN ?_ _ | refine blk_drew ?_ | refine blk_alloc ?_ _)); refine blk_put (cs := #[.bool ((rd_T25 l0 x91_4).f0), .int .u64 ((rd_T25 l0 x91_4).f1), .string ((rd_T25 l0 x91_4).f2), .string (⟨#[]⟩ : ByteArray)]) ?_ 3 _ rfl; (with_reducible repeat (first | refine blk_drewN ?_ _ | refine blk_drew ?_ | refine blk_alloc ?_ _)); refine blk_put (cs := #[.bool ((rd_T25 l0 x91_4).f0), .int .u64 ((rd_T25 l0 x91_4).f1), .string (⟨#[]⟩ : ByteArray), .string (⟨#[]⟩ : ByteArray)]) ?_ 2 _ rfl; (with_reducible repeat (first | refine blk_drewN ?_ _ | refine blk_drew ?_ | refine blk_alloc ?_ _)); refine blk_put (cs := #[.bool ((rd_T25 l0 x91_4).f0), .int .u64 0, .string (⟨#[]⟩ : ByteArray), .string (⟨#[]⟩ : ByteArray)]) ?_ 1 _ rfl; (with_reducible repeat (first | refine blk_drewN ?_ _ | refine blk_drew ?_ | refine blk_alloc ?_ _)); refine blk_put (cs := #[.bool false, .int .u64 0, .string (⟨#[]⟩ : ByteArray), .string (⟨#[]⟩ : ByteArray)]) ?_ 0 _ rfl; (with_reducible repeat (first | refine blk_drewN ?_ _ | refine blk_drew ?_ | refine blk_alloc ?_ _)); exact BK227.out) hb); have n2_ := Aside0.mk (below_step (by repeat (first | (with_reducible first | exact HB.out | apply below_alloc | apply pw_below_drewN | apply below_drew1 | refine below_set ?_ GE227.out) | exact HB.out)) hb); clear HO_12; clear BK227; clear HB; have HO_12 := n0_; have BK227 := n1_; have HB := n2_; clear n0_ n1_ n2_; (try clear hb); (try clear hb2); (try clear hk); (try clear hi); have hcz88_0 : w87.cell? ⟨gb227, 0, none⟩ = some (.bool ((rd_T25 l0 x91_4).f0)) := (blk_cell BK227.out 0).trans rfl; have hcz88_1 : w87.cell? ⟨gb227, 1, none⟩ = some (.int .u64 ((rd_T25 l0 x91_4).f1)) := (blk_cell BK227.out 1).trans rfl; have hcz88_2 : w87.cell? ⟨gb227, 2, none⟩ = some (.string ((rd_T25 l0 x91_4).f2)) := (blk_cell BK227.out 2).trans rfl; have hcz88_3 : w87.cell? ⟨gb227, 3, none⟩ = some (.string ((rd_T25 l0 x91_4).f3)) := (blk_cell BK227.out 3).trans rfl; have hfz88_0 := blk_frozen BK227.out 0; have hfz88_1 := blk_frozen BK227.out 1; have hfz88_2 := blk_frozen BK227.out 2; have hfz88_3 := blk_frozen BK227.out 3; obtain ⟨Ao89, co89, eo89⟩ := Kd.R_slice HO_12.out; subst eo89) | ((with_reducible refine gate_callee (f := 12) rfl ?_); refine goesL_ (some 106) rfl rfl Try.func12 (by kernel_rfl) rfl #[.slice Ao89 t223.length co89, .string ((rd_T25 l0 x91_4).f2)] rfl (by (try simp only [List.map_toArray, List.map_cons, List.map_nil]); first | done | rfl | (simp only [List.length_drop, List.length_take]; rfl)) ?_; (with_reducible refine (fold_At.calls _ _ t223 ((rd_T25 l0 x91_4).f2) t230 t231 _ ?side1 ?side2 A69.out).mono ?_); (case side1 => repeat (first | exact (Kd.R_reads' HO_12.out).2.2 | (with_reducible refine Kd.C_alloc ?_ _) | (with_reducible refine Kd.C_drewN ?_ _) | (with_reducible refine Kd.C_drew ?_))); (case side2 => exact (Kd.R_reads' HO_12.out).2.1); rintro e w90 ⟨rfl, hb⟩; refine ⟨_, rfl, ?_⟩; have n0_ := Aside0.mk (Kd.R_below (by (with_reducible repeat (first | apply Kd.R_alloc | apply Kd.R_drewN | apply Kd.R_drew)); exact HO_12.out) hb); have n1_ := Aside0.mk (blk_below (g := gb227) (o := .cells #[.bool ((rd_T25 l0 x91_4).f0), .int .u64 ((rd_T25 l0 x91_4).f1), .string ((rd_T25 l0 x91_4).f2), .string ((rd_T25 l0 x91_4).f3)] 25 (0, 0)) (by (with_reducible repeat (first | refine blk_drewN ?_ _ | refine blk_drew ?_ | refine blk_alloc ?_ _)); exact BK227.out) hb); have n2_ := Aside0.mk (below_step (by repeat (first | (with_reducible first | exact HB.out | apply below_alloc | apply pw_below_drewN | apply below_drew1 | refine below_set ?_ GE227.out) | exact HB.out)) hb); clear HO_12; clear BK227; clear HB; have HO_12 := n0_; have BK227 := n1_; have HB := n2_; clear n0_ n1_ n2_; (try clear hb); (try clear hb2); (try clear hk); (try clear hi)))
                                        go_roundg k4
                                        case measure => have := HJ2.out; have := HK2.out; have := HJ46.out; have := HK4.out; omega
                                        case rel => exact ⟨(wrap64 (x91_4 + 1)), (by first | rfl | (simp; done) | (simp [*]; done)), H', ⟨by have := HJ2.out; have := HK2.out; have := HJ46.out; have := HK4.out; omega⟩, ⟨by (with_reducible repeat (first | apply Kd.R_alloc | apply Kd.R_drewN | apply Kd.R_drew)); exact Kd.R_mono HO_12.out (fun _ hk => trivial)⟩, ⟨by repeat (first | (with_reducible first | exact HB.out | apply below_alloc | apply pw_below_drewN | apply below_drew1 | refine below_set ?_ GE227.out) | exact HB.out)⟩⟩
                                  · rw [if_neg c70] at H
                                    have c70b0 : (t229.toList == t231.toList) = false := beq_eq_false_iff_ne.mpr c70
                                    have c70b1 : (t229.toList != t231.toList) = true := bne_iff_ne.mpr c70
                                    obtain rfl := Option.some.inj H
                                    have p226 : 0 ≤ (x91_4 : Int) := of_decide_eq_true (by first | (with_reducible assumption) | assumption)
                                    have q226 : x91_4 < (l0.length : Int) := of_decide_eq_true (by first | (with_reducible assumption) | assumption)
                                    obtain ⟨ad226, e226, hx226_0, hx226_1, hx226_2, hx226_3⟩ := at_T25 HR0.out x91_4 p226 q226
                                    cases e226
                                    replace hx226_0 := (HB.out.cell (World.block_lt_of_cell? w _ hx226_0)).trans hx226_0
                                    replace hx226_1 := (HB.out.cell (World.block_lt_of_cell? w _ hx226_1)).trans hx226_1
                                    replace hx226_2 := (HB.out.cell (World.block_lt_of_cell? w _ hx226_2)).trans hx226_2
                                    replace hx226_3 := (HB.out.cell (World.block_lt_of_cell? w _ hx226_3)).trans hx226_3
                                    replace p226 := eq_true p226
                                    replace q226 := eq_true q226
                                    go_wp2_with (first | ((with_reducible refine gate_dst (N := 14) rfl ?_); refine box_event ?hg (N := 14) ?hd (cs := #[.bool false, .int .u64 0, .string (⟨#[]⟩ : ByteArray), .string (⟨#[]⟩ : ByteArray)]) (t := 25) ?hr ?_; (case hd => rfl); (case hg => rfl); (case hr => first | (go_simp; done) | (go_simp; rfl)); intro gb227 hg w91 hbox hb; have n0_ := Aside0.mk (Kd.R_below (Kd.R_elderB (by (with_reducible repeat (first | apply Kd.R_alloc | apply Kd.R_drewN | apply Kd.R_drew)); exact HO_12.out) gb227 (Nat.le_of_eq hg.symm)) hb); have n1_ := Aside0.mk (below_step (by repeat (first | (with_reducible first | exact HB.out | apply below_alloc | apply pw_below_drewN | apply below_drew1) | exact HB.out)) hb); have n2_ := Aside0.mk (hbox); have n3_ := Aside0.mk ((by rw [hg]; exact (below_size (by repeat (first | (with_reducible first | exact HB.out | apply below_alloc | apply pw_below_drewN | apply below_drew1) | exact HB.out))) : w.heap.size ≤ gb227)); have n4_ := Aside0.mk ((by rw [hg]; exact (below_size (by repeat (first | (with_reducible first | exact HB.out | apply below_alloc | apply pw_below_drewN | apply below_drew1) | exact HB.out))) : w.heap.size ≤ gb227)); clear HO_12; clear HB; have HO_12 := n0_; have HB := n1_; have BK227 := n2_; have GW227 := n3_; have GE227 := n4_; clear n0_ n1_ n2_ n3_ n4_; clear hb hbox hg; have hcz92_0 : w91.cell? ⟨gb227, 0, none⟩ = some (.bool false) := (blk_cell BK227.out 0).trans rfl; have hcz92_1 : w91.cell? ⟨gb227, 1, none⟩ = some (.int .u64 0) := (blk_cell BK227.out 1).trans rfl; have hcz92_2 : w91.cell? ⟨gb227, 2, none⟩ = some (.string (⟨#[]⟩ : ByteArray)) := (blk_cell BK227.out 2).trans rfl; have hcz92_3 : w91.cell? ⟨gb227, 3, none⟩ = some (.string (⟨#[]⟩ : ByteArray)) := (blk_cell BK227.out 3).trans rfl; have hfz92_0 := blk_frozen BK227.out 0; have hfz92_1 := blk_frozen BK227.out 1; have hfz92_2 := blk_frozen BK227.out 2; have hfz92_3 := blk_frozen BK227.out 3) | ((with_reducible refine gate_callee (f := 12) rfl ?_); refine goesL_ (some 99) rfl rfl Try.func12 (by kernel_rfl) rfl #[.slice (some ad226) l0.length c0, .string ((rd_T25 l0 x91_4).f2)] rfl (by (try simp only [List.map_toArray, List.map_cons, List.map_nil]); first | done | rfl | (simp only [List.length_drop, List.length_take]; rfl)) ?_; (with_reducible refine (fold_At.calls _ _ l0 ((rd_T25 l0 x91_4).f2) t228 t229 _ ?side1 ?side2 A68.out).mono ?_); (case side1 => exact Kd.C_below HR0.out (by repeat (first | (with_reducible first | exact HB.out | apply below_alloc | apply pw_below_drewN | apply below_drew1 | refine below_set ?_ GE227.out) | exact HB.out))); (case side2 => exact HC0.out); rintro e w93 ⟨rfl, hb⟩; refine ⟨_, rfl, ?_⟩; have n0_ := Aside0.mk (Kd.R_below (by (with_reducible repeat (first | apply Kd.R_alloc | apply Kd.R_drewN | apply Kd.R_drew)); exact (Kd.R_mono (Kd.R_far (p := ⟨gb227, 3, none⟩) (Kd.R_far (p := ⟨gb227, 2, none⟩) (Kd.R_far (p := ⟨gb227, 1, none⟩) (Kd.R_far (p := ⟨gb227, 0, none⟩) (Kd.R_mono HO_12.out (fun k_ hk => (⟨hk, hk.2⟩ : _ ∧ k_ ≠ gb227))) (fun _ hk => hk.2) (.bool ((rd_T25 l0 x91_4).f0))) (fun _ hk => hk.2) (.int .u64 ((rd_T25 l0 x91_4).f1))) (fun _ hk => hk.2) (.string ((rd_T25 l0 x91_4).f2))) (fun _ hk => hk.2) (.string ((rd_T25 l0 x91_4).f3))) (fun _ h_ => h_.1))) hb); have n1_ := Aside0.mk (blk_below (g := gb227) (o := .cells #[.bool ((rd_T25 l0 x91_4).f0), .int .u64 ((rd_T25 l0 x91_4).f1), .string ((rd_T25 l0 x91_4).f2), .string ((rd_T25 l0 x91_4).f3)] 25 (0, 0)) (by (with_reducible repeat (first | refine blk_drewN ?_ _ | refine blk_drew ?_ | refine blk_alloc ?_ _)); refine blk_put (cs := #[.bool ((rd_T25 l0 x91_4).f0), .int .u64 ((rd_T25 l0 x91_4).f1), .string ((rd_T25 l0 x91_4).f2), .string (⟨#[]⟩ : ByteArray)]) ?_ 3 _ rfl; (with_reducible repeat (first | refine blk_drewN ?_ _ | refine blk_drew ?_ | refine blk_alloc ?_ _)); refine blk_put (cs := #[.bool ((rd_T25 l0 x91_4).f0), .int .u64 ((rd_T25 l0 x91_4).f1), .string (⟨#[]⟩ : ByteArray), .string (⟨#[]⟩ : ByteArray)]) ?_ 2 _ rfl; (with_reducible repeat (first | refine blk_drewN ?_ _ | refine blk_drew ?_ | refine blk_alloc ?_ _)); refine blk_put (cs := #[.bool ((rd_T25 l0 x91_4).f0), .int .u64 0, .string (⟨#[]⟩ : ByteArray), .string (⟨#[]⟩ : ByteArray)]) ?_ 1 _ rfl; (with_reducible repeat (first | refine blk_drewN ?_ _ | refine blk_drew ?_ | refine blk_alloc ?_ _)); refine blk_put (cs := #[.bool false, .int .u64 0, .string (⟨#[]⟩ : ByteArray), .string (⟨#[]⟩ : ByteArray)]) ?_ 0 _ rfl; (with_reducible repeat (first | refine blk_drewN ?_ _ | refine blk_drew ?_ | refine blk_alloc ?_ _)); exact BK227.out) hb); have n2_ := Aside0.mk (below_step (by repeat (first | (with_reducible first | exact HB.out | apply below_alloc | apply pw_below_drewN | apply below_drew1 | refine below_set ?_ GE227.out) | exact HB.out)) hb); clear HO_12; clear BK227; clear HB; have HO_12 := n0_; have BK227 := n1_; have HB := n2_; clear n0_ n1_ n2_; (try clear hb); (try clear hb2); (try clear hk); (try clear hi); have hcz94_0 : w93.cell? ⟨gb227, 0, none⟩ = some (.bool ((rd_T25 l0 x91_4).f0)) := (blk_cell BK227.out 0).trans rfl; have hcz94_1 : w93.cell? ⟨gb227, 1, none⟩ = some (.int .u64 ((rd_T25 l0 x91_4).f1)) := (blk_cell BK227.out 1).trans rfl; have hcz94_2 : w93.cell? ⟨gb227, 2, none⟩ = some (.string ((rd_T25 l0 x91_4).f2)) := (blk_cell BK227.out 2).trans rfl; have hcz94_3 : w93.cell? ⟨gb227, 3, none⟩ = some (.string ((rd_T25 l0 x91_4).f3)) := (blk_cell BK227.out 3).trans rfl; have hfz94_0 := blk_frozen BK227.out 0; have hfz94_1 := blk_frozen BK227.out 1; have hfz94_2 := blk_frozen BK227.out 2; have hfz94_3 := blk_frozen BK227.out 3; obtain ⟨Ao95, co95, eo95⟩ := Kd.R_slice HO_12.out; subst eo95) | ((with_reducible refine gate_callee (f := 12) rfl ?_); refine goesL_ (some 106) rfl rfl Try.func12 (by kernel_rfl) rfl #[.slice Ao95 t223.length co95, .string ((rd_T25 l0 x91_4).f2)] rfl (by (try simp only [List.map_toArray, List.map_cons, List.map_nil]); first | done | rfl | (simp only [List.length_drop, List.length_take]; rfl)) ?_; (with_reducible refine (fold_At.calls _ _ t223 ((rd_T25 l0 x91_4).f2) t230 t231 _ ?side1 ?side2 A69.out).mono ?_); (case side1 => repeat (first | exact (Kd.R_reads' HO_12.out).2.2 | (with_reducible refine Kd.C_alloc ?_ _) | (with_reducible refine Kd.C_drewN ?_ _) | (with_reducible refine Kd.C_drew ?_))); (case side2 => exact (Kd.R_reads' HO_12.out).2.1); rintro e w96 ⟨rfl, hb⟩; refine ⟨_, rfl, ?_⟩; have n0_ := Aside0.mk (Kd.R_below (by (with_reducible repeat (first | apply Kd.R_alloc | apply Kd.R_drewN | apply Kd.R_drew)); exact HO_12.out) hb); have n1_ := Aside0.mk (blk_below (g := gb227) (o := .cells #[.bool ((rd_T25 l0 x91_4).f0), .int .u64 ((rd_T25 l0 x91_4).f1), .string ((rd_T25 l0 x91_4).f2), .string ((rd_T25 l0 x91_4).f3)] 25 (0, 0)) (by (with_reducible repeat (first | refine blk_drewN ?_ _ | refine blk_drew ?_ | refine blk_alloc ?_ _)); exact BK227.out) hb); have n2_ := Aside0.mk (below_step (by repeat (first | (with_reducible first | exact HB.out | apply below_alloc | apply pw_below_drewN | apply below_drew1 | refine below_set ?_ GE227.out) | exact HB.out)) hb); clear HO_12; clear BK227; clear HB; have HO_12 := n0_; have BK227 := n1_; have HB := n2_; clear n0_ n1_ n2_; (try clear hb); (try clear hb2); (try clear hk); (try clear hi)))
                                    go_ret
                                    exact ⟨by first | rfl | (simp [errW_none, errW_some] <;> rfl) | (simp [*, errW_none, errW_some] <;> rfl), by repeat (first | (with_reducible first | exact HB.out | apply below_alloc | apply pw_below_drewN | apply below_drew1 | refine below_set ?_ GE227.out) | exact HB.out)⟩
                                · rw [if_neg c67] at H
                                  exact absurd H (by simp)
                              · rw [if_neg c66] at H
                                exact absurd H (by simp)
                            · rw [if_neg c65] at H
                              have c65b0 : decide (x91_4 < (l0.length : Int)) = false := decide_eq_false c65
                              clear c65
                              obtain rfl := Option.some.inj H
                              go_wp2
                              go_ret
                              exact ⟨by first | rfl | (simp [errW_none, errW_some] <;> rfl) | (simp [*, errW_none, errW_some] <;> rfl), by repeat (first | (with_reducible first | exact HB.out | apply below_alloc | apply pw_below_drewN | apply below_drew1) | exact HB.out)⟩
          · rw [if_neg c19] at H
            exact absurd H (by simp)
        · rw [if_neg c18] at H
          exact absurd H (by simp)

end Go.Proofs.Ytbcccobbmphaeaa.Q
