/- Go functions as Lean functions, and that their calls come to these, for every input that reads so; by the program hprint.py of this claim's author over the kit's print. -/
import Derived.Test.YtbcccobbmphaeaaQ0
import Derived.Test.YtbcccobbmphaeaaQ1
namespace Go.Proofs.Ytbcccobbmphaeaa.Q
open Go.RowKit Go.Proofs.YtbcccobbmphaeaaW.PrintWords Go.Proofs.YtbcccobbmphaeaaW.PrintLast Go.Proofs.YtbcccobbmphaeaaW.PrintMore
attribute [local go_sem] max2_int min2_int max_two min_two max_three min_three max_four min_four   -- for this text's walks alone
set_option linter.unusedVariables false
set_option linter.unusedSimpArgs false

/-! ### fasciclelaw18_FoldAppends: function 3 -/
mutual
def fasciclelaw18_FoldAppends.j0 : Nat → List (S25) → Bool → Bool → Int → ByteArray → ByteArray → Option (Bool)
  | 0, _, _, _, _, _, _ => none
  | k + 1, x0, x23, x119000, x119001, x119002, x119003 => if x23 = true then ((fasciclelaw18_lives.f).bind fun t127 => (some t127)) else ((some (([] : List (S25)) : List (S25))).bind fun y128 => (if y128.length + x0.length < 2932031007402 then ((some (y128 ++ x0 : List (S25))).bind fun y131 => ((some (([(⟨x119000, x119001, x119002, x119003⟩ : S25)] : List (S25)) : List (S25))).bind fun y134 => (if y131.length + y134.length < 2932031007402 then ((some (y131 ++ y134 : List (S25))).bind fun y137 => ((fold_At.f y137 x119002).bind fun bt140 => (if x119000 = true then (if bt140.1 = 1 then (if bt140.2.toList = ([] : List UInt8) then (fasciclelaw18_FoldAppends.j1 k x0 y137 false x119000 x119001 x119002 x119003) else (fasciclelaw18_FoldAppends.j1 k x0 y137 true x119000 x119001 x119002 x119003)) else (fasciclelaw18_FoldAppends.j1 k x0 y137 true x119000 x119001 x119002 x119003)) else (if bt140.1 = 2 then (fasciclelaw18_FoldAppends.j1 k x0 y137 (bt140.2.toList != x119003.toList) x119000 x119001 x119002 x119003) else (fasciclelaw18_FoldAppends.j1 k x0 y137 true x119000 x119001 x119002 x119003))))) else (none)))) else (none)))
def fasciclelaw18_FoldAppends.j1 : Nat → List (S25) → List (S25) → Bool → Bool → Int → ByteArray → ByteArray → Option (Bool)
  | 0, _, _, _, _, _, _, _ => none
  | k + 1, x0, x5, x62, x119000, x119001, x119002, x119003 => if x62 = true then (some false) else (fasciclelaw18_FoldAppends.l0 k x0 x5 x0 (x0.length : Int) 0 x119000 x119001 x119002 x119003)
def fasciclelaw18_FoldAppends.l0 : Nat → List (S25) → List (S25) → List (S25) → Int → Int → Bool → Int → ByteArray → ByteArray → Option (Bool)
  | 0, _, _, _, _, _, _, _, _, _ => none
  | k + 1, x0, x5, x63, x64, x65, x119000, x119001, x119002, x119003 => if x65 < x64 then (if 0 ≤ x65 then (if x65 < (x63.length : Int) then ((fold_At.f x0 ((rd_T25 x63 x65).f2)).bind fun bt144 => ((fold_At.f x5 ((rd_T25 x63 x65).f2)).bind fun bt146 => (if ((rd_T25 x63 x65).f2).toList = x119002.toList then (fasciclelaw18_FoldAppends.l0 k x0 x5 x63 x64 (wrap64 (x65 + 1)) x119000 x119001 x119002 x119003) else (if bt144.1 = bt146.1 then (if bt144.2.toList = bt146.2.toList then (fasciclelaw18_FoldAppends.l0 k x0 x5 x63 x64 (wrap64 (x65 + 1)) x119000 x119001 x119002 x119003) else (some false)) else (some false))))) else (none)) else (none)) else (some true)
end
def fasciclelaw18_FoldAppends.f (k : Nat) (l0 : List (S25)) (a1_0 : Bool) (a1_1 : Int) (a1_2 : ByteArray) (a1_3 : ByteArray) : Option (Bool) := (fasciclelaw18_lives.f).bind fun t119 => (if t119 = true then ((some (([(⟨a1_0, a1_1, a1_2, a1_3⟩ : S25)] : List (S25)) : List (S25))).bind fun y120 => (if y120.length + l0.length < 2932031007402 then ((fasciclelaw07_Few.f k (y120 ++ l0) 61 300).bind fun t126 => (fasciclelaw18_FoldAppends.j0 k l0 (!t126) a1_0 a1_1 a1_2 a1_3)) else (none))) else (fasciclelaw18_FoldAppends.j0 k l0 true a1_0 a1_1 a1_2 a1_3))
theorem fasciclelaw18_FoldAppends.mono_l : ∀ k, (∀ y0 y1 y2 y3 y4 y5, LeO (fasciclelaw18_FoldAppends.j0 k y0 y1 y2 y3 y4 y5) (fasciclelaw18_FoldAppends.j0 (k + 1) y0 y1 y2 y3 y4 y5)) ∧ (∀ y0 y1 y2 y3 y4 y5 y6, LeO (fasciclelaw18_FoldAppends.j1 k y0 y1 y2 y3 y4 y5 y6) (fasciclelaw18_FoldAppends.j1 (k + 1) y0 y1 y2 y3 y4 y5 y6)) ∧ (∀ y0 y1 y2 y3 y4 y5 y6 y7 y8, LeO (fasciclelaw18_FoldAppends.l0 k y0 y1 y2 y3 y4 y5 y6 y7 y8) (fasciclelaw18_FoldAppends.l0 (k + 1) y0 y1 y2 y3 y4 y5 y6 y7 y8))
  | 0 => ⟨fun _ _ _ _ _ _ r h => by simp [fasciclelaw18_FoldAppends.j0] at h, fun _ _ _ _ _ _ _ r h => by simp [fasciclelaw18_FoldAppends.j1] at h, fun _ _ _ _ _ _ _ _ _ r h => by simp [fasciclelaw18_FoldAppends.l0] at h⟩
  | k + 1 => by
    obtain ⟨ih0, ih1, ih2⟩ := fasciclelaw18_FoldAppends.mono_l k
    refine ⟨?_, ?_, ?_⟩
    · intro y0 y1 y2 y3 y4 y5
      unfold fasciclelaw18_FoldAppends.j0
      repeat' first
      | (with_reducible exact ih0 _ _ _ _ _ _)
      | (with_reducible exact ih1 _ _ _ _ _ _ _)
      | (with_reducible exact ih2 _ _ _ _ _ _ _ _ _)
      | (with_reducible exact fasciclelaw07_Few.mono _ _ _ _)
      | (with_reducible exact LeO.refl _)
      | (with_reducible exact LeO.none _)
      | (with_reducible refine LeO.ite ?_ ?_)
      | (with_reducible refine LeO.bind ?_ (fun _ => ?_))
      | exact ih0 _ _ _ _ _ _
      | exact ih1 _ _ _ _ _ _ _
      | exact ih2 _ _ _ _ _ _ _ _ _
      | exact fasciclelaw07_Few.mono _ _ _ _
      | exact LeO.none _
      | refine LeO.ite ?_ ?_
      | refine LeO.bind ?_ (fun _ => ?_)
    · intro y0 y1 y2 y3 y4 y5 y6
      unfold fasciclelaw18_FoldAppends.j1
      repeat' first
      | (with_reducible exact ih0 _ _ _ _ _ _)
      | (with_reducible exact ih1 _ _ _ _ _ _ _)
      | (with_reducible exact ih2 _ _ _ _ _ _ _ _ _)
      | (with_reducible exact fasciclelaw07_Few.mono _ _ _ _)
      | (with_reducible exact LeO.refl _)
      | (with_reducible exact LeO.none _)
      | (with_reducible refine LeO.ite ?_ ?_)
      | (with_reducible refine LeO.bind ?_ (fun _ => ?_))
      | exact ih0 _ _ _ _ _ _
      | exact ih1 _ _ _ _ _ _ _
      | exact ih2 _ _ _ _ _ _ _ _ _
      | exact fasciclelaw07_Few.mono _ _ _ _
      | exact LeO.none _
      | refine LeO.ite ?_ ?_
      | refine LeO.bind ?_ (fun _ => ?_)
    · intro y0 y1 y2 y3 y4 y5 y6 y7 y8
      unfold fasciclelaw18_FoldAppends.l0
      repeat' first
      | (with_reducible exact ih0 _ _ _ _ _ _)
      | (with_reducible exact ih1 _ _ _ _ _ _ _)
      | (with_reducible exact ih2 _ _ _ _ _ _ _ _ _)
      | (with_reducible exact fasciclelaw07_Few.mono _ _ _ _)
      | (with_reducible exact LeO.refl _)
      | (with_reducible exact LeO.none _)
      | (with_reducible refine LeO.ite ?_ ?_)
      | (with_reducible refine LeO.bind ?_ (fun _ => ?_))
      | exact ih0 _ _ _ _ _ _
      | exact ih1 _ _ _ _ _ _ _
      | exact ih2 _ _ _ _ _ _ _ _ _
      | exact fasciclelaw07_Few.mono _ _ _ _
      | exact LeO.none _
      | refine LeO.ite ?_ ?_
      | refine LeO.bind ?_ (fun _ => ?_)
theorem fasciclelaw18_FoldAppends.mono : ∀ a0 a1 a2 a3 a4 k, LeO (fasciclelaw18_FoldAppends.f k a0 a1 a2 a3 a4) (fasciclelaw18_FoldAppends.f (k + 1) a0 a1 a2 a3 a4) := by
  intro a0 a1 a2 a3 a4 k
  obtain ⟨ih0, ih1, ih2⟩ := fasciclelaw18_FoldAppends.mono_l k
  unfold fasciclelaw18_FoldAppends.f
  repeat' first
      | (with_reducible exact ih0 _ _ _ _ _ _)
      | (with_reducible exact ih1 _ _ _ _ _ _ _)
      | (with_reducible exact ih2 _ _ _ _ _ _ _ _ _)
      | (with_reducible exact fasciclelaw07_Few.mono _ _ _ _)
      | (with_reducible exact LeO.refl _)
      | (with_reducible exact LeO.none _)
      | (with_reducible refine LeO.ite ?_ ?_)
      | (with_reducible refine LeO.bind ?_ (fun _ => ?_))
      | exact ih0 _ _ _ _ _ _
      | exact ih1 _ _ _ _ _ _ _
      | exact ih2 _ _ _ _ _ _ _ _ _
      | exact fasciclelaw07_Few.mono _ _ _ _
      | exact LeO.none _
      | refine LeO.ite ?_ ?_
      | refine LeO.bind ?_ (fun _ => ?_)
set_option maxHeartbeats 8000000 in
set_option maxRecDepth 100000 in
theorem fasciclelaw18_FoldAppends.calls (k : Nat) (A0 : Option Addr) (c0 : Nat) (l0 : List (S25)) (a1_0 : Bool) (a1_1 : Int) (a1_2 : ByteArray) (a1_3 : ByteArray) (r : Bool) (w : World) (hr0 : Kd.C k25 w A0 l0.length l0) (hc0 : l0.length ≤ c0) (h : fasciclelaw18_FoldAppends.f k l0 a1_0 a1_1 a1_2 a1_3 = some r) :
    Calls Try.prog 3 #[.slice A0 l0.length c0, .agg #[.bool a1_0, .int .u64 a1_1, .string a1_2, .string a1_3]] w fun e w' => e = .returned (.bool r) ∧ Below w.heap.size w w' := by
  have hu25 := Try.underlying25
  have HR0 := Aside0.mk hr0
  have HC0 := Aside0.mk hc0
  clear hr0 hc0
  have HB := Aside0.mk (Below.refl w.heap.size w)
  have H : ((fasciclelaw18_lives.f).bind fun t119 => (if t119 = true then ((some (([(⟨a1_0, a1_1, a1_2, a1_3⟩ : S25)] : List (S25)) : List (S25))).bind fun y120 => (if y120.length + l0.length < 2932031007402 then ((fasciclelaw07_Few.f k (y120 ++ l0) 61 300).bind fun t126 => (fasciclelaw18_FoldAppends.j0 k l0 (!t126) a1_0 a1_1 a1_2 a1_3)) else (none))) else (fasciclelaw18_FoldAppends.j0 k l0 true a1_0 a1_1 a1_2 a1_3))) = some r := h
  clear h
  have HC3 := Aside0.mk H
  clear H
  go_enter Try.func3, Try.ntmps3
  go_upto_region 1 with (first | ((with_reducible refine gate_dst (N := 3) rfl ?_); (try (refine gate_guard (by rfl) ?_; dsimp only)); refine box_event ?hg (N := 3) ?hd (cs := #[.bool a1_0, .int .u64 a1_1, .string a1_2, .string a1_3]) (t := 25) ?hr ?_; (case hd => rfl); (case hg => rfl); (case hr => first | (go_simp; done) | (go_simp; rfl)); intro gb118 hg w4 hbox hb; have n0_ := Aside0.mk (below_step (by repeat (first | (with_reducible first | exact HB.out | apply below_alloc | apply pw_below_drewN | apply below_drew1) | exact HB.out)) hb); have n1_ := Aside0.mk (hbox); have n2_ := Aside0.mk ((by rw [hg]; exact (below_size (by repeat (first | (with_reducible first | exact HB.out | apply below_alloc | apply pw_below_drewN | apply below_drew1) | exact HB.out))) : w.heap.size ≤ gb118)); have n3_ := Aside0.mk ((by rw [hg]; exact (below_size (by repeat (first | (with_reducible first | exact HB.out | apply below_alloc | apply pw_below_drewN | apply below_drew1) | exact HB.out))) : w.heap.size ≤ gb118)); clear HB; have HB := n0_; have BK118 := n1_; have GW118 := n2_; have GE118 := n3_; clear n0_ n1_ n2_ n3_; clear hb hbox hg))
  (try simp only [Act.put, List.setIfInBounds_toArray, List.set_cons_zero, List.set_cons_succ])
  go_cut [23] (fun v23 wc => ∃ (kq : Nat) (x23_2 : Bool), v23 = .bool x23_2 ∧ Aside0 (fasciclelaw18_FoldAppends.j0 kq l0 x23_2 a1_0 a1_1 a1_2 a1_3 = some r) ∧ Aside0 (kq ≤ k) ∧ Aside0 (wc.heap[gb118]? = some (.cells #[.bool a1_0, .int .u64 a1_1, .string a1_2, .string a1_3] 25 (0, 0))) ∧ Aside0 (Below w.heap.size w wc))
  case first =>
    have H := HC3.out
    clear HC3
    replace H := Option.bind_eq_some_iff.mp H
    obtain ⟨t119, A50, H⟩ := H
    replace H : (if t119 = true then ((some (([(⟨a1_0, a1_1, a1_2, a1_3⟩ : S25)] : List (S25)) : List (S25))).bind fun y120 => (if y120.length + l0.length < 2932031007402 then ((fasciclelaw07_Few.f k (y120 ++ l0) 61 300).bind fun t126 => (fasciclelaw18_FoldAppends.j0 k l0 (!t126) a1_0 a1_1 a1_2 a1_3)) else (none))) else (fasciclelaw18_FoldAppends.j0 k l0 true a1_0 a1_1 a1_2 a1_3)) = some r := H
    have A5 := Aside0.mk A50
    clear A50
    by_cases c6 : t119 = true
    · subst c6
      have H1 : ((some (([(⟨a1_0, a1_1, a1_2, a1_3⟩ : S25)] : List (S25)) : List (S25))).bind fun y120 => (if y120.length + l0.length < 2932031007402 then ((fasciclelaw07_Few.f k (y120 ++ l0) 61 300).bind fun t126 => (fasciclelaw18_FoldAppends.j0 k l0 (!t126) a1_0 a1_1 a1_2 a1_3)) else (none))) = some r := by rw [if_pos rfl] at H; exact H
      clear H
      have H := H1
      clear H1
      obtain ⟨y120, hy120⟩ : ∃ y_ : List (S25), y_ = (([(⟨a1_0, a1_1, a1_2, a1_3⟩ : S25)] : List (S25))) := ⟨_, rfl⟩
      replace H : (if y120.length + l0.length < 2932031007402 then ((fasciclelaw07_Few.f k (y120 ++ l0) 61 300).bind fun t126 => (fasciclelaw18_FoldAppends.j0 k l0 (!t126) a1_0 a1_1 a1_2 a1_3)) else (none)) = some r := by first | (rw [hy120]; with_reducible exact H) | (have H2_ := (Option.bind_some _ _).symm.trans H; rw [hy120]; with_reducible exact H2_) | (have H2_ := (Option.bind_some _ _).symm.trans H; with_reducible exact H2_) | with_reducible exact H | (rw [hy120]; exact H) | exact H
      have Ny120 := Aside0.mk hy120
      clear hy120
      by_cases c7 : y120.length + l0.length < 2932031007402
      · rw [if_pos c7] at H
        have LMc7 := Aside0.mk c7
        clear c7
        obtain ⟨y123, hy123⟩ : ∃ y_ : List (S25), y_ = (y120 ++ l0) := ⟨_, rfl⟩
        replace H : ((fasciclelaw07_Few.f k y123 61 300).bind fun t126 => (fasciclelaw18_FoldAppends.j0 k l0 (!t126) a1_0 a1_1 a1_2 a1_3)) = some r := by first | (rw [hy123]; with_reducible exact H) | (have H2_ := (Option.bind_some _ _).symm.trans H; rw [hy123]; with_reducible exact H2_) | (have H2_ := (Option.bind_some _ _).symm.trans H; with_reducible exact H2_) | with_reducible exact H | (rw [hy123]; exact H) | exact H
        have Ny123 := Aside0.mk hy123
        clear hy123
        replace H := Option.bind_eq_some_iff.mp H
        obtain ⟨t126, A80, H⟩ := H
        replace H : (fasciclelaw18_FoldAppends.j0 k l0 (!t126) a1_0 a1_1 a1_2 a1_3) = some r := H
        have A8 := Aside0.mk A80
        clear A80
        have H' := Aside0.mk H
        clear H
        go_wp2_with (first | ((with_reducible refine gate_callee (f := 10) rfl ?_); refine goesL_ (some 14) rfl rfl Try.func10 (by kernel_rfl) rfl #[] rfl (by (try simp only [List.map_toArray, List.map_cons, List.map_nil]); first | done | rfl | (simp only [List.length_drop, List.length_take]; rfl)) ?_; (with_reducible refine (fasciclelaw18_lives.calls  true _ A5.out).mono ?_); rintro e w9 ⟨rfl, hb⟩; refine ⟨_, rfl, ?_⟩; have n0_ := Aside0.mk (blk_below (g := gb118) (o := .cells #[.bool a1_0, .int .u64 a1_1, .string a1_2, .string a1_3] 25 (0, 0)) (by (with_reducible repeat (first | refine blk_drewN ?_ _ | refine blk_drew ?_ | refine blk_alloc ?_ _)); exact BK118.out) hb); have n1_ := Aside0.mk (below_step (by repeat (first | (with_reducible first | exact HB.out | apply below_alloc | apply pw_below_drewN | apply below_drew1 | refine below_set ?_ GE118.out) | exact HB.out)) hb); clear BK118; clear HB; have BK118 := n0_; have HB := n1_; clear n0_ n1_; (try clear hb); (try clear hb2); (try clear hk); (try clear hi); have hcz10_0 : w9.cell? ⟨gb118, 0, none⟩ = some (.bool a1_0) := (blk_cell BK118.out 0).trans rfl; have hcz10_1 : w9.cell? ⟨gb118, 1, none⟩ = some (.int .u64 a1_1) := (blk_cell BK118.out 1).trans rfl; have hcz10_2 : w9.cell? ⟨gb118, 2, none⟩ = some (.string a1_2) := (blk_cell BK118.out 2).trans rfl; have hcz10_3 : w9.cell? ⟨gb118, 3, none⟩ = some (.string a1_3) := (blk_cell BK118.out 3).trans rfl; have hfz10_0 := blk_frozen BK118.out 0; have hfz10_1 := blk_frozen BK118.out 1; have hfz10_2 := blk_frozen BK118.out 2; have hfz10_3 := blk_frozen BK118.out 3) | ((with_reducible refine gate_dst (N := 18) rfl ?_); (try (refine gate_guard (by rfl) ?_; dsimp only)); refine Kd.R_lit k25 _ 25 ?hg (N := 18) ?hd (xs := ([(⟨a1_0, a1_1, a1_2, a1_3⟩ : S25)] : List (S25))) (inner := [.bool a1_0, .int .u64 a1_1, .string a1_2, .string a1_3]) (ok := fun _ => True) (okp := fun _ => True) ?hr ?hp (fun _ hk => hk) trivial (Below.refl _ _) (Nat.le_refl _) (by simp) ?_; (case hd => rfl); (case hg => rfl); (case hr => first | (go_simp; done) | (go_simp; rfl)); (case hp => exact (Reps.c4 (show Kd.M k25 _ _ _ (⟨a1_0, a1_1, a1_2, a1_3⟩ : S25) [.bool a1_0, .int .u64 a1_1, .string a1_2, .string a1_3] from (k25_mkM _ _ _ (⟨a1_0, a1_1, a1_2, a1_3⟩ : S25) )) (Reps.none _ _))); intro v121 w11 ho12 hb hg_ hnew_; clear hg_ hnew_; (first | rw [← Ny120.out] at ho12 | (simp only [Int.reduceToNat] at ho12; rw [← Ny120.out] at ho12)); have n0_ := Aside0.mk (Kd.R_lower (Kd.R_newB ho12 (g := gb118) (o := .cells #[.bool a1_0, .int .u64 a1_1, .string a1_2, .string a1_3] 25 (0, 0)) (by (with_reducible repeat (first | refine blk_drewN ?_ _ | refine blk_drew ?_ | refine blk_alloc ?_ _)); exact BK118.out)) (below_size (by repeat (first | (with_reducible first | exact HB.out | apply below_alloc | apply pw_below_drewN | apply below_drew1 | refine below_set ?_ GE118.out) | exact HB.out)))); have n1_ := Aside0.mk (blk_below (g := gb118) (o := .cells #[.bool a1_0, .int .u64 a1_1, .string a1_2, .string a1_3] 25 (0, 0)) (by (with_reducible repeat (first | refine blk_drewN ?_ _ | refine blk_drew ?_ | refine blk_alloc ?_ _)); exact BK118.out) hb); have n2_ := Aside0.mk (below_step (by repeat (first | (with_reducible first | exact HB.out | apply below_alloc | apply pw_below_drewN | apply below_drew1 | refine below_set ?_ GE118.out) | exact HB.out)) hb); clear BK118; clear HB; have HO122 := n0_; have BK118 := n1_; have HB := n2_; clear n0_ n1_ n2_; clear hb ho12) | ((with_reducible refine gate_builtin (b := .append) (xs := #[.tmp 18, .tmp 19]) rfl ?_); (try (refine gate_guard (by rfl) ?_; dsimp only)); at_builtin; refine Kd.R_append_rows k25 (w0 := w) w.heap.size rfl (.tmp 18) (.tmp 19) 22 25 (.agg #[(.bool false), (.int .u64 0), (.string ⟨#[]⟩), (.string ⟨#[]⟩)]) 48 rfl Try.underlying22 info25 rfl (by decide) (by omega) v121 y120 l0 _ _ _ (fun k_ => k_ ≠ gb118) (fun _ => False) rfl rfl ?aO ?aR (fun _ _ h => h) (fun _ h => h.elim) ?aF ?aB ?aS ?aL ?_; (case aR => repeat (first | exact (Kd.C_below HR0.out HB.out) | (with_reducible refine Kd.C_alloc ?_ _) | (with_reducible refine Kd.C_drewN ?_ _) | (with_reducible refine Kd.C_drew ?_))); (case aB => exact (by repeat (first | (with_reducible first | exact HB.out | apply below_alloc | apply pw_below_drewN | apply below_drew1 | refine below_set ?_ GE118.out) | exact HB.out))); (case aF => exact (fun k_ hk => Kd.freshB (g := gb118) (o := .cells #[.bool a1_0, .int .u64 a1_1, .string a1_2, .string a1_3] 25 (0, 0)) (by (with_reducible repeat (first | refine blk_drewN ?_ _ | refine blk_drew ?_ | refine blk_alloc ?_ _)); exact BK118.out) k_ hk)); (case aO => exact (by (with_reducible repeat (first | apply Kd.R_alloc | apply Kd.R_drewN | apply Kd.R_drew)); exact Kd.R_mono HO122.out (fun _ hk => hk.2))); (case aS => exact (below_size (by repeat (first | (with_reducible first | exact HB.out | apply below_alloc | apply pw_below_drewN | apply below_drew1 | refine below_set ?_ GE118.out) | exact HB.out)))); (case aL => have := LMc7.out; omega); intro v124 w13 ho hb hg hat; rw [← Ny123.out] at ho; have n0_ := Aside0.mk (blk_grown (g := gb118) (o := .cells #[.bool a1_0, .int .u64 a1_1, .string a1_2, .string a1_3] 25 (0, 0)) (by (with_reducible repeat (first | refine blk_drewN ?_ _ | refine blk_drew ?_ | refine blk_alloc ?_ _)); exact BK118.out) hg (Kd.R_away HO122.out (fun _ hk => hk.2))); have n1_ := Aside0.mk (hb); have n2_ := Aside0.mk (ho); clear BK118; clear HB; clear HO122; have BK118 := n0_; have HB := n1_; have HO125 := n2_; clear n0_ n1_ n2_; clear ho hb hg hat; obtain ⟨Ao14, co14, eo14⟩ := Kd.R_slice HO125.out; subst eo14) | (go_at_call 11; (with_reducible refine (fasciclelaw07_Few.calls k _ _ y123 61 300 t126 _ ?side1 ?side2 A8.out).mono ?_); (case side1 => repeat (first | exact (Kd.R_reads' HO125.out).2.2 | (with_reducible refine Kd.C_alloc ?_ _) | (with_reducible refine Kd.C_drewN ?_ _) | (with_reducible refine Kd.C_drew ?_))); (case side2 => exact (Kd.R_reads' HO125.out).2.1); rintro e w15 ⟨rfl, hb⟩; have n0_ := Aside0.mk (Kd.R_below (by (with_reducible repeat (first | apply Kd.R_alloc | apply Kd.R_drewN | apply Kd.R_drew)); exact HO125.out) hb); have n1_ := Aside0.mk (blk_below (g := gb118) (o := .cells #[.bool a1_0, .int .u64 a1_1, .string a1_2, .string a1_3] 25 (0, 0)) (by (with_reducible repeat (first | refine blk_drewN ?_ _ | refine blk_drew ?_ | refine blk_alloc ?_ _)); exact BK118.out) hb); have n2_ := Aside0.mk (below_step (by repeat (first | (with_reducible first | exact HB.out | apply below_alloc | apply pw_below_drewN | apply below_drew1 | refine below_set ?_ GE118.out) | exact HB.out)) hb); clear HO125; clear BK118; clear HB; have HO125 := n0_; have BK118 := n1_; have HB := n2_; clear n0_ n1_ n2_; (try clear hb); (try clear hb2); (try clear hk); (try clear hi)))
        go_meet
        case rel => exact ⟨_, (!t126), (by first | rfl | (simp; done) | (simp [*]; done)), H', ⟨by first | omega | exact Nat.le_refl _⟩, ⟨by (with_reducible repeat (first | refine blk_drewN ?_ _ | refine blk_drew ?_ | refine blk_alloc ?_ _)); exact BK118.out⟩, ⟨by repeat (first | (with_reducible first | exact HB.out | apply below_alloc | apply pw_below_drewN | apply below_drew1 | refine below_set ?_ GE118.out) | exact HB.out)⟩⟩
      · rw [if_neg c7] at H
        exact absurd H (by simp)
    · replace c6 := Bool.eq_false_iff.mpr c6
      subst c6
      have H1 : (fasciclelaw18_FoldAppends.j0 k l0 true a1_0 a1_1 a1_2 a1_3) = some r := by rw [if_neg (show ¬ (false = true) by decide)] at H; exact H
      clear H
      have H := H1
      clear H1
      have H' := Aside0.mk H
      clear H
      go_wp2_with (first | ((with_reducible refine gate_callee (f := 10) rfl ?_); refine goesL_ (some 14) rfl rfl Try.func10 (by kernel_rfl) rfl #[] rfl (by (try simp only [List.map_toArray, List.map_cons, List.map_nil]); first | done | rfl | (simp only [List.length_drop, List.length_take]; rfl)) ?_; (with_reducible refine (fasciclelaw18_lives.calls  false _ A5.out).mono ?_); rintro e w16 ⟨rfl, hb⟩; refine ⟨_, rfl, ?_⟩; have n0_ := Aside0.mk (blk_below (g := gb118) (o := .cells #[.bool a1_0, .int .u64 a1_1, .string a1_2, .string a1_3] 25 (0, 0)) (by (with_reducible repeat (first | refine blk_drewN ?_ _ | refine blk_drew ?_ | refine blk_alloc ?_ _)); exact BK118.out) hb); have n1_ := Aside0.mk (below_step (by repeat (first | (with_reducible first | exact HB.out | apply below_alloc | apply pw_below_drewN | apply below_drew1 | refine below_set ?_ GE118.out) | exact HB.out)) hb); clear BK118; clear HB; have BK118 := n0_; have HB := n1_; clear n0_ n1_; (try clear hb); (try clear hb2); (try clear hk); (try clear hi)))
      go_meet
      case rel => exact ⟨_, (true), (by first | rfl | (simp; done) | (simp [*]; done)), H', ⟨by first | omega | exact Nat.le_refl _⟩, ⟨by (with_reducible repeat (first | refine blk_drewN ?_ _ | refine blk_drew ?_ | refine blk_alloc ?_ _)); exact BK118.out⟩, ⟨by repeat (first | (with_reducible first | exact HB.out | apply below_alloc | apply pw_below_drewN | apply below_drew1 | refine below_set ?_ GE118.out) | exact HB.out)⟩⟩
  case rest =>
    clear HC3
    try clear c1
    try clear p2
    try clear c3
    try clear c4
    try clear c6
    try clear c7
    try clear c10
    try clear hcz10_0
    try clear hcz10_1
    try clear hcz10_2
    try clear hcz10_3
    try clear hfz10_0
    try clear hfz10_1
    try clear hfz10_2
    try clear hfz10_3
    obtain ⟨kq, x23_2, rfl, HA, HJ2, BK118, HB⟩ := hcut
    cases kq with
    | zero => exact absurd HA.out (by simp [fasciclelaw18_FoldAppends.j0])
    | succ kj2 =>
      have H := HA.out
      clear HA
      simp only [fasciclelaw18_FoldAppends.j0] at H
      by_cases c17 : x23_2 = true
      · subst c17
        have H1 : ((fasciclelaw18_lives.f).bind fun t127 => (some t127)) = some r := by rw [if_pos rfl] at H; exact H
        clear H
        have H := H1
        clear H1
        replace H := Option.bind_eq_some_iff.mp H
        obtain ⟨t127, A180, H⟩ := H
        replace H : (some t127) = some r := H
        have A18 := Aside0.mk A180
        clear A180
        obtain rfl := Option.some.inj H
        go_wp2_with (first | ((with_reducible refine gate_callee (f := 10) rfl ?_); refine goesL_ (some 24) rfl rfl Try.func10 (by kernel_rfl) rfl #[] rfl (by (try simp only [List.map_toArray, List.map_cons, List.map_nil]); first | done | rfl | (simp only [List.length_drop, List.length_take]; rfl)) ?_; (with_reducible refine (fasciclelaw18_lives.calls  t127 _ A18.out).mono ?_); rintro e w19 ⟨rfl, hb⟩; refine ⟨_, rfl, ?_⟩; have n0_ := Aside0.mk (blk_below (g := gb118) (o := .cells #[.bool a1_0, .int .u64 a1_1, .string a1_2, .string a1_3] 25 (0, 0)) (by (with_reducible repeat (first | refine blk_drewN ?_ _ | refine blk_drew ?_ | refine blk_alloc ?_ _)); exact BK118.out) hb); have n1_ := Aside0.mk (below_step (by repeat (first | (with_reducible first | exact HB.out | apply below_alloc | apply pw_below_drewN | apply below_drew1 | refine below_set ?_ GE118.out) | exact HB.out)) hb); clear BK118; clear HB; have BK118 := n0_; have HB := n1_; clear n0_ n1_; (try clear hb); (try clear hb2); (try clear hk); (try clear hi)))
        go_ret
        exact ⟨by first | rfl | (simp [errW_none, errW_some] <;> rfl) | (simp [*, errW_none, errW_some] <;> rfl), by repeat (first | (with_reducible first | exact HB.out | apply below_alloc | apply pw_below_drewN | apply below_drew1 | refine below_set ?_ GE118.out) | exact HB.out)⟩
      · replace c17 := Bool.eq_false_iff.mpr c17
        subst c17
        have H1 : ((some (([] : List (S25)) : List (S25))).bind fun y128 => (if y128.length + l0.length < 2932031007402 then ((some (y128 ++ l0 : List (S25))).bind fun y131 => ((some (([(⟨a1_0, a1_1, a1_2, a1_3⟩ : S25)] : List (S25)) : List (S25))).bind fun y134 => (if y131.length + y134.length < 2932031007402 then ((some (y131 ++ y134 : List (S25))).bind fun y137 => ((fold_At.f y137 a1_2).bind fun bt140 => (if a1_0 = true then (if bt140.1 = 1 then (if bt140.2.toList = ([] : List UInt8) then (fasciclelaw18_FoldAppends.j1 kj2 l0 y137 false a1_0 a1_1 a1_2 a1_3) else (fasciclelaw18_FoldAppends.j1 kj2 l0 y137 true a1_0 a1_1 a1_2 a1_3)) else (fasciclelaw18_FoldAppends.j1 kj2 l0 y137 true a1_0 a1_1 a1_2 a1_3)) else (if bt140.1 = 2 then (fasciclelaw18_FoldAppends.j1 kj2 l0 y137 (bt140.2.toList != a1_3.toList) a1_0 a1_1 a1_2 a1_3) else (fasciclelaw18_FoldAppends.j1 kj2 l0 y137 true a1_0 a1_1 a1_2 a1_3))))) else (none)))) else (none))) = some r := by rw [if_neg (show ¬ (false = true) by decide)] at H; exact H
        clear H
        have H := H1
        clear H1
        obtain ⟨y128, hy128⟩ : ∃ y_ : List (S25), y_ = (([] : List (S25))) := ⟨_, rfl⟩
        replace H : (if y128.length + l0.length < 2932031007402 then ((some (y128 ++ l0 : List (S25))).bind fun y131 => ((some (([(⟨a1_0, a1_1, a1_2, a1_3⟩ : S25)] : List (S25)) : List (S25))).bind fun y134 => (if y131.length + y134.length < 2932031007402 then ((some (y131 ++ y134 : List (S25))).bind fun y137 => ((fold_At.f y137 a1_2).bind fun bt140 => (if a1_0 = true then (if bt140.1 = 1 then (if bt140.2.toList = ([] : List UInt8) then (fasciclelaw18_FoldAppends.j1 kj2 l0 y137 false a1_0 a1_1 a1_2 a1_3) else (fasciclelaw18_FoldAppends.j1 kj2 l0 y137 true a1_0 a1_1 a1_2 a1_3)) else (fasciclelaw18_FoldAppends.j1 kj2 l0 y137 true a1_0 a1_1 a1_2 a1_3)) else (if bt140.1 = 2 then (fasciclelaw18_FoldAppends.j1 kj2 l0 y137 (bt140.2.toList != a1_3.toList) a1_0 a1_1 a1_2 a1_3) else (fasciclelaw18_FoldAppends.j1 kj2 l0 y137 true a1_0 a1_1 a1_2 a1_3))))) else (none)))) else (none)) = some r := by first | (rw [hy128]; with_reducible exact H) | (have H2_ := (Option.bind_some _ _).symm.trans H; rw [hy128]; with_reducible exact H2_) | (have H2_ := (Option.bind_some _ _).symm.trans H; with_reducible exact H2_) | with_reducible exact H | (rw [hy128]; exact H) | exact H
        have Ny128 := Aside0.mk hy128
        clear hy128
        by_cases c20 : y128.length + l0.length < 2932031007402
        · rw [if_pos c20] at H
          have LMc20 := Aside0.mk c20
          clear c20
          obtain ⟨y131, hy131⟩ : ∃ y_ : List (S25), y_ = (y128 ++ l0) := ⟨_, rfl⟩
          replace H : ((some (([(⟨a1_0, a1_1, a1_2, a1_3⟩ : S25)] : List (S25)) : List (S25))).bind fun y134 => (if y131.length + y134.length < 2932031007402 then ((some (y131 ++ y134 : List (S25))).bind fun y137 => ((fold_At.f y137 a1_2).bind fun bt140 => (if a1_0 = true then (if bt140.1 = 1 then (if bt140.2.toList = ([] : List UInt8) then (fasciclelaw18_FoldAppends.j1 kj2 l0 y137 false a1_0 a1_1 a1_2 a1_3) else (fasciclelaw18_FoldAppends.j1 kj2 l0 y137 true a1_0 a1_1 a1_2 a1_3)) else (fasciclelaw18_FoldAppends.j1 kj2 l0 y137 true a1_0 a1_1 a1_2 a1_3)) else (if bt140.1 = 2 then (fasciclelaw18_FoldAppends.j1 kj2 l0 y137 (bt140.2.toList != a1_3.toList) a1_0 a1_1 a1_2 a1_3) else (fasciclelaw18_FoldAppends.j1 kj2 l0 y137 true a1_0 a1_1 a1_2 a1_3))))) else (none))) = some r := by first | (rw [hy131]; with_reducible exact H) | (have H2_ := (Option.bind_some _ _).symm.trans H; rw [hy131]; with_reducible exact H2_) | (have H2_ := (Option.bind_some _ _).symm.trans H; with_reducible exact H2_) | with_reducible exact H | (rw [hy131]; exact H) | exact H
          have Ny131 := Aside0.mk hy131
          clear hy131
          obtain ⟨y134, hy134⟩ : ∃ y_ : List (S25), y_ = (([(⟨a1_0, a1_1, a1_2, a1_3⟩ : S25)] : List (S25))) := ⟨_, rfl⟩
          replace H : (if y131.length + y134.length < 2932031007402 then ((some (y131 ++ y134 : List (S25))).bind fun y137 => ((fold_At.f y137 a1_2).bind fun bt140 => (if a1_0 = true then (if bt140.1 = 1 then (if bt140.2.toList = ([] : List UInt8) then (fasciclelaw18_FoldAppends.j1 kj2 l0 y137 false a1_0 a1_1 a1_2 a1_3) else (fasciclelaw18_FoldAppends.j1 kj2 l0 y137 true a1_0 a1_1 a1_2 a1_3)) else (fasciclelaw18_FoldAppends.j1 kj2 l0 y137 true a1_0 a1_1 a1_2 a1_3)) else (if bt140.1 = 2 then (fasciclelaw18_FoldAppends.j1 kj2 l0 y137 (bt140.2.toList != a1_3.toList) a1_0 a1_1 a1_2 a1_3) else (fasciclelaw18_FoldAppends.j1 kj2 l0 y137 true a1_0 a1_1 a1_2 a1_3))))) else (none)) = some r := by first | (rw [hy134]; with_reducible exact H) | (have H2_ := (Option.bind_some _ _).symm.trans H; rw [hy134]; with_reducible exact H2_) | (have H2_ := (Option.bind_some _ _).symm.trans H; with_reducible exact H2_) | with_reducible exact H | (rw [hy134]; exact H) | exact H
          have Ny134 := Aside0.mk hy134
          clear hy134
          by_cases c21 : y131.length + y134.length < 2932031007402
          · rw [if_pos c21] at H
            have LMc21 := Aside0.mk c21
            clear c21
            obtain ⟨y137, hy137⟩ : ∃ y_ : List (S25), y_ = (y131 ++ y134) := ⟨_, rfl⟩
            replace H : ((fold_At.f y137 a1_2).bind fun bt140 => (if a1_0 = true then (if bt140.1 = 1 then (if bt140.2.toList = ([] : List UInt8) then (fasciclelaw18_FoldAppends.j1 kj2 l0 y137 false a1_0 a1_1 a1_2 a1_3) else (fasciclelaw18_FoldAppends.j1 kj2 l0 y137 true a1_0 a1_1 a1_2 a1_3)) else (fasciclelaw18_FoldAppends.j1 kj2 l0 y137 true a1_0 a1_1 a1_2 a1_3)) else (if bt140.1 = 2 then (fasciclelaw18_FoldAppends.j1 kj2 l0 y137 (bt140.2.toList != a1_3.toList) a1_0 a1_1 a1_2 a1_3) else (fasciclelaw18_FoldAppends.j1 kj2 l0 y137 true a1_0 a1_1 a1_2 a1_3)))) = some r := by first | (rw [hy137]; with_reducible exact H) | (have H2_ := (Option.bind_some _ _).symm.trans H; rw [hy137]; with_reducible exact H2_) | (have H2_ := (Option.bind_some _ _).symm.trans H; with_reducible exact H2_) | with_reducible exact H | (rw [hy137]; exact H) | exact H
            have Ny137 := Aside0.mk hy137
            clear hy137
            replace H := Option.bind_eq_some_iff.mp H
            obtain ⟨⟨t140, t141⟩, A220, H⟩ := H
            replace H : (if a1_0 = true then (if t140 = 1 then (if t141.toList = ([] : List UInt8) then (fasciclelaw18_FoldAppends.j1 kj2 l0 y137 false a1_0 a1_1 a1_2 a1_3) else (fasciclelaw18_FoldAppends.j1 kj2 l0 y137 true a1_0 a1_1 a1_2 a1_3)) else (fasciclelaw18_FoldAppends.j1 kj2 l0 y137 true a1_0 a1_1 a1_2 a1_3)) else (if t140 = 2 then (fasciclelaw18_FoldAppends.j1 kj2 l0 y137 (t141.toList != a1_3.toList) a1_0 a1_1 a1_2 a1_3) else (fasciclelaw18_FoldAppends.j1 kj2 l0 y137 true a1_0 a1_1 a1_2 a1_3))) = some r := H
            have A22 := Aside0.mk A220
            clear A220
            have HC23 := Aside0.mk H
            clear H
            try go_wp2
            have n0_ := Aside0.mk (blk_drew BK118.out)
            have n1_ := Aside0.mk (below_drew1 HB.out)
            clear BK118
            clear HB
            have BK118 := n0_
            have HB := n1_
            clear n0_ n1_
            refine start_ (n := 7) (S := fun w' => w'.cell? ⟨gb118, 0, none⟩ = some (.bool a1_0) ∧ w'.cell? ⟨gb118, 1, none⟩ = some (.int .u64 a1_1) ∧ w'.cell? ⟨gb118, 2, none⟩ = some (.string a1_2) ∧ w'.cell? ⟨gb118, 3, none⟩ = some (.string a1_3)) (ds := []) #[false, false, false, false, false, false, false] (by kernel_rfl) rfl rfl ⟨(blk_cell BK118.out 0).trans rfl, (blk_cell BK118.out 1).trans rfl, (blk_cell BK118.out 2).trans rfl, (blk_cell BK118.out 3).trans rfl⟩ (fun hHeld => ?_)
            generalize wc.drew = w24 at BK118 HB hHeld ⊢
            refine pure_ (i := 1) (N := some 26) (v := ?_) (a' := ?_) #[false, true, false, false, false, false, false] rfl rfl (by kernel_rfl) (fun _ _ _ h => h) (Or.inl ⟨by rfl, ?_⟩) ?_ ?_
            rotate_left
            · intro w'
              go_simp
              with_reducible rfl
            rotate_left
            · simp only [Act.put, List.setIfInBounds_toArray, List.set_cons_zero, List.set_cons_succ, i64_w, i32_w]
              rfl
            refine take_ (i := 3) (N := some 28) (v := ?_) (a' := ?_) #[false, true, false, true, false, false, false] rfl rfl (by kernel_rfl) (fun _ _ _ h => h) (Or.inl ⟨by rfl, ?_⟩) hHeld ?_ ?_
            rotate_left
            · rintro w' ⟨s0, s1, s2, s3⟩
              go_simp
              with_reducible rfl
            rotate_left
            · simp only [Act.put, List.setIfInBounds_toArray, List.set_cons_zero, List.set_cons_succ, i64_w, i32_w]
              rfl
            refine join_ (σ := Value × Value × Value) 2 #[true, true, true, true, true, false, false] (fun s_ => [(25, s_.1), (27, s_.2.1), (29, s_.2.2)]) (fun s_ w' => (w'.cell? ⟨gb118, 0, none⟩ = some (.bool a1_0) ∧ w'.cell? ⟨gb118, 1, none⟩ = some (.int .u64 a1_1) ∧ w'.cell? ⟨gb118, 2, none⟩ = some (.string a1_2) ∧ w'.cell? ⟨gb118, 3, none⟩ = some (.string a1_3)) ∧ (Kd.R k25 25 w' w.heap.size (fun k_ => some k_ ≠ (s_.2.2 : Value).ownBlock ∧ k_ ≠ gb118) s_.2.1 y131) ∧ (Kd.R k25 25 w' w.heap.size (fun k_ => some k_ ≠ (s_.2.1 : Value).ownBlock ∧ k_ ≠ gb118) s_.2.2 y134) ∧ (w'.heap[gb118]? = some (.cells #[.bool a1_0, .int .u64 a1_1, .string a1_2, .string a1_3] 25 (0, 0))) ∧ (Below w.heap.size w w')) ?_ ?_
            rotate_left
            · intro hCont
              refine two_ (i := 0) (j := 4) (Ni := some 25) (Nj := some 29) #[true, true, false, true, false, false, false] #[false, true, false, true, true, false, false] rfl rfl rfl rfl (by kernel_rfl) (by decide) (by decide) (fun K hK => ?_) (fun K hK => ?_)
              · skip
                refine Kd.R_lit_step k25 _ 25 ?hg (N := 25) ?hd (xs := ([] : List (S25))) (inner := []) (ok := fun _ => True) (okp := fun _ => True) ?hr ?hp (fun _ hk => hk) trivial (Below.refl _ _) (Nat.le_refl _) (by simp) ?_; (case hd => rfl); (case hg => rfl); (case hr => first | (go_simp; done) | (go_simp; rfl)); (case hp => exact (Reps.none _ _))
                intro v129 w25 ho26 hb hg_ hnew_
                clear hg_ hnew_
                (first | rw [← Ny128.out] at ho26 | (simp only [Int.reduceToNat] at ho26; rw [← Ny128.out] at ho26))
                have n0_ := Aside0.mk (Kd.R_lower (Kd.R_newB ho26 (g := gb118) (o := .cells #[.bool a1_0, .int .u64 a1_1, .string a1_2, .string a1_3] 25 (0, 0)) (by (with_reducible repeat (first | refine blk_drewN ?_ _ | refine blk_drew ?_ | refine blk_alloc ?_ _)); exact BK118.out)) (below_size (by repeat (first | (with_reducible first | exact HB.out | apply below_alloc | apply pw_below_drewN | apply below_drew1 | refine below_set ?_ GE118.out) | exact HB.out))))
                have n1_ := Aside0.mk (blk_below (g := gb118) (o := .cells #[.bool a1_0, .int .u64 a1_1, .string a1_2, .string a1_3] 25 (0, 0)) (by (with_reducible repeat (first | refine blk_drewN ?_ _ | refine blk_drew ?_ | refine blk_alloc ?_ _)); exact BK118.out) hb)
                have n2_ := Aside0.mk (below_step (by repeat (first | (with_reducible first | exact HB.out | apply below_alloc | apply pw_below_drewN | apply below_drew1 | refine below_set ?_ GE118.out) | exact HB.out)) hb)
                clear BK118
                clear HB
                have HO130 := n0_
                have BK118 := n1_
                have HB := n2_
                clear n0_ n1_ n2_
                clear hb ho26
                refine hK.out _ _ ⟨(blk_cell BK118.out 0).trans rfl, (blk_cell BK118.out 1).trans rfl, (blk_cell BK118.out 2).trans rfl, (blk_cell BK118.out 3).trans rfl⟩ (fun hHeld => ?_)
                clear hK K
                refine norm_ (a' := ?_) ?_ ?_
                rotate_left
                · show Act.put _ (some 25) _ = _
                  simp only [Act.put, List.setIfInBounds_toArray, List.set_cons_zero, List.set_cons_succ, i64_w, i32_w]
                  rfl
                refine two_ (i := 2) (j := 4) (Ni := some 27) (Nj := some 29) #[true, true, true, true, false, false, false] #[true, true, false, true, true, false, false] rfl rfl rfl rfl (by kernel_rfl) (by decide) (by decide) (fun K hK => ?_) (fun K hK => ?_)
                · skip
                  refine Kd.R_append_rows_step k25 (w0 := w) w.heap.size (by rfl) (.tmp 25) (.tmp 26) 22 25 (.agg #[(.bool false), (.int .u64 0), (.string ⟨#[]⟩), (.string ⟨#[]⟩)]) 48 rfl Try.underlying22 info25 rfl (by decide) (by omega) v129 y128 l0 _ _ _ (fun k_ => k_ ≠ gb118) (fun _ => False) rfl rfl ?aO ?aR (fun _ _ h => h) (fun _ h => h.elim) ?aF ?aB ?aS ?aL ?_
                  (case aR => repeat (first | exact (Kd.C_below HR0.out HB.out) | (with_reducible refine Kd.C_alloc ?_ _) | (with_reducible refine Kd.C_drewN ?_ _) | (with_reducible refine Kd.C_drew ?_)))
                  (case aB => exact (by repeat (first | (with_reducible first | exact HB.out | apply below_alloc | apply pw_below_drewN | apply below_drew1 | refine below_set ?_ GE118.out) | exact HB.out)))
                  (case aF => exact (fun k_ hk => Kd.freshB (g := gb118) (o := .cells #[.bool a1_0, .int .u64 a1_1, .string a1_2, .string a1_3] 25 (0, 0)) (by (with_reducible repeat (first | refine blk_drewN ?_ _ | refine blk_drew ?_ | refine blk_alloc ?_ _)); exact BK118.out) k_ hk))
                  (case aO => exact (by (with_reducible repeat (first | apply Kd.R_alloc | apply Kd.R_drewN | apply Kd.R_drew)); exact Kd.R_mono HO130.out (fun _ hk => hk.2)))
                  (case aS => exact (below_size (by repeat (first | (with_reducible first | exact HB.out | apply below_alloc | apply pw_below_drewN | apply below_drew1 | refine below_set ?_ GE118.out) | exact HB.out))))
                  (case aL => have := LMc20.out; omega)
                  intro v132 w27 ho hb hg hat
                  rw [← Ny131.out] at ho
                  have n0_ := Aside0.mk (blk_grown (g := gb118) (o := .cells #[.bool a1_0, .int .u64 a1_1, .string a1_2, .string a1_3] 25 (0, 0)) (by (with_reducible repeat (first | refine blk_drewN ?_ _ | refine blk_drew ?_ | refine blk_alloc ?_ _)); exact BK118.out) hg (Kd.R_away HO130.out (fun _ hk => hk.2)))
                  have n1_ := Aside0.mk (hb)
                  have n2_ := Aside0.mk (ho)
                  clear BK118
                  clear HB
                  clear HO130
                  have BK118 := n0_
                  have HB := n1_
                  have HO133 := n2_
                  clear n0_ n1_ n2_
                  clear ho hb hg hat
                  refine hK.out _ _ ⟨(blk_cell BK118.out 0).trans rfl, (blk_cell BK118.out 1).trans rfl, (blk_cell BK118.out 2).trans rfl, (blk_cell BK118.out 3).trans rfl⟩ (fun hHeld => ?_)
                  clear hK K
                  refine norm_ (a' := ?_) ?_ ?_
                  rotate_left
                  · show Act.put _ (some 27) _ = _
                    simp only [Act.put, List.setIfInBounds_toArray, List.set_cons_zero, List.set_cons_succ, i64_w, i32_w]
                    rfl
                  refine one_ (i := 4) (N := some 29) #[true, true, true, true, true, false, false] rfl rfl (by kernel_rfl) (by decide) (fun K hK => ?_)
                  refine Kd.R_lit_step k25 _ 25 ?hg (N := 29) ?hd (xs := ([(⟨a1_0, a1_1, a1_2, a1_3⟩ : S25)] : List (S25))) (inner := [.bool a1_0, .int .u64 a1_1, .string a1_2, .string a1_3]) (ok := fun _ => True) (okp := fun _ => True) ?hr ?hp (fun _ hk => hk) trivial (Below.refl _ _) (Nat.le_refl _) (by simp) ?_; (case hd => rfl); (case hg => rfl); (case hr => first | (go_simp; done) | (go_simp; rfl)); (case hp => exact (Reps.c4 (show Kd.M k25 _ _ _ (⟨a1_0, a1_1, a1_2, a1_3⟩ : S25) [.bool a1_0, .int .u64 a1_1, .string a1_2, .string a1_3] from (k25_mkM _ _ _ (⟨a1_0, a1_1, a1_2, a1_3⟩ : S25) )) (Reps.none _ _)))
                  intro v135 w28 ho29 hb hg_ hnew_
                  clear hg_ hnew_
                  (first | rw [← Ny134.out] at ho29 | (simp only [Int.reduceToNat] at ho29; rw [← Ny134.out] at ho29))
                  have n0_ := Aside0.mk (Kd.R_elder' (by (with_reducible repeat (first | apply Kd.R_alloc | apply Kd.R_drewN | apply Kd.R_drew)); exact HO133.out) (Kd.R_base ho29) hb)
                  have n1_ := Aside0.mk (Kd.R_lower (Kd.R_newB (Kd.R_new' ho29 (Kd.R_lt (by (with_reducible repeat (first | apply Kd.R_alloc | apply Kd.R_drewN | apply Kd.R_drew)); exact HO133.out))) (g := gb118) (o := .cells #[.bool a1_0, .int .u64 a1_1, .string a1_2, .string a1_3] 25 (0, 0)) (by (with_reducible repeat (first | refine blk_drewN ?_ _ | refine blk_drew ?_ | refine blk_alloc ?_ _)); exact BK118.out)) (below_size (by repeat (first | (with_reducible first | exact HB.out | apply below_alloc | apply pw_below_drewN | apply below_drew1 | refine below_set ?_ GE118.out) | exact HB.out))))
                  have n2_ := Aside0.mk (blk_below (g := gb118) (o := .cells #[.bool a1_0, .int .u64 a1_1, .string a1_2, .string a1_3] 25 (0, 0)) (by (with_reducible repeat (first | refine blk_drewN ?_ _ | refine blk_drew ?_ | refine blk_alloc ?_ _)); exact BK118.out) hb)
                  have n3_ := Aside0.mk (below_step (by repeat (first | (with_reducible first | exact HB.out | apply below_alloc | apply pw_below_drewN | apply below_drew1 | refine below_set ?_ GE118.out) | exact HB.out)) hb)
                  clear HO133
                  clear BK118
                  clear HB
                  have HO133 := n0_
                  have HO136 := n1_
                  have BK118 := n2_
                  have HB := n3_
                  clear n0_ n1_ n2_ n3_
                  clear hb ho29
                  refine hK.out _ _ ⟨(blk_cell BK118.out 0).trans rfl, (blk_cell BK118.out 1).trans rfl, (blk_cell BK118.out 2).trans rfl, (blk_cell BK118.out 3).trans rfl⟩ (fun hHeld => ?_)
                  clear hK K
                  refine norm_ (a' := ?_) ?_ ?_
                  rotate_left
                  · show Act.put _ (some 29) _ = _
                    simp only [Act.put, List.setIfInBounds_toArray, List.set_cons_zero, List.set_cons_succ, i64_w, i32_w]
                    rfl
                  exact norm_ (by simp only [putAll, Act.put, List.setIfInBounds_toArray, List.set_cons_zero, List.set_cons_succ]) (hCont (v129, v132, v135) _ ⟨hHeld, (by (with_reducible repeat (first | apply Kd.R_alloc | apply Kd.R_drewN | apply Kd.R_drew)); exact Kd.R_mono HO133.out (fun _ hk => ⟨hk.2, hk.1⟩)), (by (with_reducible repeat (first | apply Kd.R_alloc | apply Kd.R_drewN | apply Kd.R_drew)); exact Kd.R_mono HO136.out (fun _ hk => ⟨hk.1.2, hk.2⟩)), (by (with_reducible repeat (first | refine blk_drewN ?_ _ | refine blk_drew ?_ | refine blk_alloc ?_ _)); exact BK118.out), (by repeat (first | (with_reducible first | exact HB.out | apply below_alloc | apply pw_below_drewN | apply below_drew1 | refine below_set ?_ GE118.out) | exact HB.out))⟩)
                · skip
                  refine Kd.R_lit_step k25 _ 25 ?hg (N := 29) ?hd (xs := ([(⟨a1_0, a1_1, a1_2, a1_3⟩ : S25)] : List (S25))) (inner := [.bool a1_0, .int .u64 a1_1, .string a1_2, .string a1_3]) (ok := fun _ => True) (okp := fun _ => True) ?hr ?hp (fun _ hk => hk) trivial (Below.refl _ _) (Nat.le_refl _) (by simp) ?_; (case hd => rfl); (case hg => rfl); (case hr => first | (go_simp; done) | (go_simp; rfl)); (case hp => exact (Reps.c4 (show Kd.M k25 _ _ _ (⟨a1_0, a1_1, a1_2, a1_3⟩ : S25) [.bool a1_0, .int .u64 a1_1, .string a1_2, .string a1_3] from (k25_mkM _ _ _ (⟨a1_0, a1_1, a1_2, a1_3⟩ : S25) )) (Reps.none _ _)))
                  intro v135 w27 ho28 hb hg_ hnew_
                  clear hg_ hnew_
                  (first | rw [← Ny134.out] at ho28 | (simp only [Int.reduceToNat] at ho28; rw [← Ny134.out] at ho28))
                  have n0_ := Aside0.mk (Kd.R_elder' (by (with_reducible repeat (first | apply Kd.R_alloc | apply Kd.R_drewN | apply Kd.R_drew)); exact HO130.out) (Kd.R_base ho28) hb)
                  have n1_ := Aside0.mk (Kd.R_lower (Kd.R_newB (Kd.R_new' ho28 (Kd.R_lt (by (with_reducible repeat (first | apply Kd.R_alloc | apply Kd.R_drewN | apply Kd.R_drew)); exact HO130.out))) (g := gb118) (o := .cells #[.bool a1_0, .int .u64 a1_1, .string a1_2, .string a1_3] 25 (0, 0)) (by (with_reducible repeat (first | refine blk_drewN ?_ _ | refine blk_drew ?_ | refine blk_alloc ?_ _)); exact BK118.out)) (below_size (by repeat (first | (with_reducible first | exact HB.out | apply below_alloc | apply pw_below_drewN | apply below_drew1 | refine below_set ?_ GE118.out) | exact HB.out))))
                  have n2_ := Aside0.mk (blk_below (g := gb118) (o := .cells #[.bool a1_0, .int .u64 a1_1, .string a1_2, .string a1_3] 25 (0, 0)) (by (with_reducible repeat (first | refine blk_drewN ?_ _ | refine blk_drew ?_ | refine blk_alloc ?_ _)); exact BK118.out) hb)
                  have n3_ := Aside0.mk (below_step (by repeat (first | (with_reducible first | exact HB.out | apply below_alloc | apply pw_below_drewN | apply below_drew1 | refine below_set ?_ GE118.out) | exact HB.out)) hb)
                  clear HO130
                  clear BK118
                  clear HB
                  have HO130 := n0_
                  have HO136 := n1_
                  have BK118 := n2_
                  have HB := n3_
                  clear n0_ n1_ n2_ n3_
                  clear hb ho28
                  refine hK.out _ _ ⟨(blk_cell BK118.out 0).trans rfl, (blk_cell BK118.out 1).trans rfl, (blk_cell BK118.out 2).trans rfl, (blk_cell BK118.out 3).trans rfl⟩ (fun hHeld => ?_)
                  clear hK K
                  refine norm_ (a' := ?_) ?_ ?_
                  rotate_left
                  · show Act.put _ (some 29) _ = _
                    simp only [Act.put, List.setIfInBounds_toArray, List.set_cons_zero, List.set_cons_succ, i64_w, i32_w]
                    rfl
                  refine one_ (i := 2) (N := some 27) #[true, true, true, true, true, false, false] rfl rfl (by kernel_rfl) (by decide) (fun K hK => ?_)
                  refine Kd.R_append_rows_step k25 (w0 := w) w.heap.size (by rfl) (.tmp 25) (.tmp 26) 22 25 (.agg #[(.bool false), (.int .u64 0), (.string ⟨#[]⟩), (.string ⟨#[]⟩)]) 48 rfl Try.underlying22 info25 rfl (by decide) (by omega) v129 y128 l0 _ _ _ (fun k_ => some k_ ≠ (v135 : Value).ownBlock ∧ k_ ≠ gb118) (fun _ => False) rfl rfl ?aO ?aR (fun _ _ h => h) (fun _ h => h.elim) ?aF ?aB ?aS ?aL ?_
                  (case aR => repeat (first | exact (Kd.C_below HR0.out HB.out) | (with_reducible refine Kd.C_alloc ?_ _) | (with_reducible refine Kd.C_drewN ?_ _) | (with_reducible refine Kd.C_drew ?_)))
                  (case aB => exact (by repeat (first | (with_reducible first | exact HB.out | apply below_alloc | apply pw_below_drewN | apply below_drew1 | refine below_set ?_ GE118.out) | exact HB.out)))
                  (case aF => exact (fun k_ hk => ⟨Kd.fresh' (Kd.R_lt (by (with_reducible repeat (first | apply Kd.R_alloc | apply Kd.R_drewN | apply Kd.R_drew)); exact HO136.out)) k_ hk, Kd.freshB (g := gb118) (o := .cells #[.bool a1_0, .int .u64 a1_1, .string a1_2, .string a1_3] 25 (0, 0)) (by (with_reducible repeat (first | refine blk_drewN ?_ _ | refine blk_drew ?_ | refine blk_alloc ?_ _)); exact BK118.out) k_ hk⟩))
                  (case aO => exact (by (with_reducible repeat (first | apply Kd.R_alloc | apply Kd.R_drewN | apply Kd.R_drew)); exact Kd.R_mono HO130.out (fun _ hk => ⟨hk.2, hk.1.2⟩)))
                  (case aS => exact (below_size (by repeat (first | (with_reducible first | exact HB.out | apply below_alloc | apply pw_below_drewN | apply below_drew1 | refine below_set ?_ GE118.out) | exact HB.out))))
                  (case aL => have := LMc20.out; omega)
                  intro v132 w29 ho hb hg hat
                  rw [← Ny131.out] at ho
                  have n0_ := Aside0.mk (blk_grown (g := gb118) (o := .cells #[.bool a1_0, .int .u64 a1_1, .string a1_2, .string a1_3] 25 (0, 0)) (by (with_reducible repeat (first | refine blk_drewN ?_ _ | refine blk_drew ?_ | refine blk_alloc ?_ _)); exact BK118.out) hg (Kd.R_away HO130.out (fun _ hk => hk.1.2)))
                  have n1_ := Aside0.mk (Kd.R_after (ok := (fun k_ => k_ ≠ gb118)) (by (with_reducible repeat (first | apply Kd.R_alloc | apply Kd.R_drewN | apply Kd.R_drew)); exact Kd.R_mono HO136.out (fun _ hk => ⟨hk.2, hk.1.2⟩)) hg hat)
                  have n2_ := Aside0.mk (hb)
                  have n3_ := Aside0.mk (ho)
                  clear BK118
                  clear HO136
                  clear HB
                  clear HO130
                  have BK118 := n0_
                  have HO136 := n1_
                  have HB := n2_
                  have HO133 := n3_
                  clear n0_ n1_ n2_ n3_
                  clear ho hb hg hat
                  refine hK.out _ _ ⟨(blk_cell BK118.out 0).trans rfl, (blk_cell BK118.out 1).trans rfl, (blk_cell BK118.out 2).trans rfl, (blk_cell BK118.out 3).trans rfl⟩ (fun hHeld => ?_)
                  clear hK K
                  refine norm_ (a' := ?_) ?_ ?_
                  rotate_left
                  · show Act.put _ (some 27) _ = _
                    simp only [Act.put, List.setIfInBounds_toArray, List.set_cons_zero, List.set_cons_succ, i64_w, i32_w]
                    rfl
                  exact norm_ (by simp only [putAll, Act.put, List.setIfInBounds_toArray, List.set_cons_zero, List.set_cons_succ]) (hCont (v129, v132, v135) _ ⟨hHeld, (by (with_reducible repeat (first | apply Kd.R_alloc | apply Kd.R_drewN | apply Kd.R_drew)); exact HO133.out), (by (with_reducible repeat (first | apply Kd.R_alloc | apply Kd.R_drewN | apply Kd.R_drew)); exact Kd.R_mono HO136.out (fun _ hk => ⟨hk.2, hk.1⟩)), (by (with_reducible repeat (first | refine blk_drewN ?_ _ | refine blk_drew ?_ | refine blk_alloc ?_ _)); exact BK118.out), (by repeat (first | (with_reducible first | exact HB.out | apply below_alloc | apply pw_below_drewN | apply below_drew1 | refine below_set ?_ GE118.out) | exact HB.out))⟩)
              · skip
                refine Kd.R_lit_step k25 _ 25 ?hg (N := 29) ?hd (xs := ([(⟨a1_0, a1_1, a1_2, a1_3⟩ : S25)] : List (S25))) (inner := [.bool a1_0, .int .u64 a1_1, .string a1_2, .string a1_3]) (ok := fun _ => True) (okp := fun _ => True) ?hr ?hp (fun _ hk => hk) trivial (Below.refl _ _) (Nat.le_refl _) (by simp) ?_; (case hd => rfl); (case hg => rfl); (case hr => first | (go_simp; done) | (go_simp; rfl)); (case hp => exact (Reps.c4 (show Kd.M k25 _ _ _ (⟨a1_0, a1_1, a1_2, a1_3⟩ : S25) [.bool a1_0, .int .u64 a1_1, .string a1_2, .string a1_3] from (k25_mkM _ _ _ (⟨a1_0, a1_1, a1_2, a1_3⟩ : S25) )) (Reps.none _ _)))
                intro v135 w25 ho26 hb hg_ hnew_
                clear hg_ hnew_
                (first | rw [← Ny134.out] at ho26 | (simp only [Int.reduceToNat] at ho26; rw [← Ny134.out] at ho26))
                have n0_ := Aside0.mk (Kd.R_lower (Kd.R_newB ho26 (g := gb118) (o := .cells #[.bool a1_0, .int .u64 a1_1, .string a1_2, .string a1_3] 25 (0, 0)) (by (with_reducible repeat (first | refine blk_drewN ?_ _ | refine blk_drew ?_ | refine blk_alloc ?_ _)); exact BK118.out)) (below_size (by repeat (first | (with_reducible first | exact HB.out | apply below_alloc | apply pw_below_drewN | apply below_drew1 | refine below_set ?_ GE118.out) | exact HB.out))))
                have n1_ := Aside0.mk (blk_below (g := gb118) (o := .cells #[.bool a1_0, .int .u64 a1_1, .string a1_2, .string a1_3] 25 (0, 0)) (by (with_reducible repeat (first | refine blk_drewN ?_ _ | refine blk_drew ?_ | refine blk_alloc ?_ _)); exact BK118.out) hb)
                have n2_ := Aside0.mk (below_step (by repeat (first | (with_reducible first | exact HB.out | apply below_alloc | apply pw_below_drewN | apply below_drew1 | refine below_set ?_ GE118.out) | exact HB.out)) hb)
                clear BK118
                clear HB
                have HO136 := n0_
                have BK118 := n1_
                have HB := n2_
                clear n0_ n1_ n2_
                clear hb ho26
                refine hK.out _ _ ⟨(blk_cell BK118.out 0).trans rfl, (blk_cell BK118.out 1).trans rfl, (blk_cell BK118.out 2).trans rfl, (blk_cell BK118.out 3).trans rfl⟩ (fun hHeld => ?_)
                clear hK K
                refine norm_ (a' := ?_) ?_ ?_
                rotate_left
                · show Act.put _ (some 29) _ = _
                  simp only [Act.put, List.setIfInBounds_toArray, List.set_cons_zero, List.set_cons_succ, i64_w, i32_w]
                  rfl
                refine one_ (i := 0) (N := some 25) #[true, true, false, true, true, false, false] rfl rfl (by kernel_rfl) (by decide) (fun K hK => ?_)
                refine Kd.R_lit_step k25 _ 25 ?hg (N := 25) ?hd (xs := ([] : List (S25))) (inner := []) (ok := fun _ => True) (okp := fun _ => True) ?hr ?hp (fun _ hk => hk) trivial (Below.refl _ _) (Nat.le_refl _) (by simp) ?_; (case hd => rfl); (case hg => rfl); (case hr => first | (go_simp; done) | (go_simp; rfl)); (case hp => exact (Reps.none _ _))
                intro v129 w27 ho28 hb hg_ hnew_
                clear hg_ hnew_
                (first | rw [← Ny128.out] at ho28 | (simp only [Int.reduceToNat] at ho28; rw [← Ny128.out] at ho28))
                have n0_ := Aside0.mk (Kd.R_elder' (by (with_reducible repeat (first | apply Kd.R_alloc | apply Kd.R_drewN | apply Kd.R_drew)); exact HO136.out) (Kd.R_base ho28) hb)
                have n1_ := Aside0.mk (Kd.R_lower (Kd.R_newB (Kd.R_new' ho28 (Kd.R_lt (by (with_reducible repeat (first | apply Kd.R_alloc | apply Kd.R_drewN | apply Kd.R_drew)); exact HO136.out))) (g := gb118) (o := .cells #[.bool a1_0, .int .u64 a1_1, .string a1_2, .string a1_3] 25 (0, 0)) (by (with_reducible repeat (first | refine blk_drewN ?_ _ | refine blk_drew ?_ | refine blk_alloc ?_ _)); exact BK118.out)) (below_size (by repeat (first | (with_reducible first | exact HB.out | apply below_alloc | apply pw_below_drewN | apply below_drew1 | refine below_set ?_ GE118.out) | exact HB.out))))
                have n2_ := Aside0.mk (blk_below (g := gb118) (o := .cells #[.bool a1_0, .int .u64 a1_1, .string a1_2, .string a1_3] 25 (0, 0)) (by (with_reducible repeat (first | refine blk_drewN ?_ _ | refine blk_drew ?_ | refine blk_alloc ?_ _)); exact BK118.out) hb)
                have n3_ := Aside0.mk (below_step (by repeat (first | (with_reducible first | exact HB.out | apply below_alloc | apply pw_below_drewN | apply below_drew1 | refine below_set ?_ GE118.out) | exact HB.out)) hb)
                clear HO136
                clear BK118
                clear HB
                have HO136 := n0_
                have HO130 := n1_
                have BK118 := n2_
                have HB := n3_
                clear n0_ n1_ n2_ n3_
                clear hb ho28
                refine hK.out _ _ ⟨(blk_cell BK118.out 0).trans rfl, (blk_cell BK118.out 1).trans rfl, (blk_cell BK118.out 2).trans rfl, (blk_cell BK118.out 3).trans rfl⟩ (fun hHeld => ?_)
                clear hK K
                refine norm_ (a' := ?_) ?_ ?_
                rotate_left
                · show Act.put _ (some 25) _ = _
                  simp only [Act.put, List.setIfInBounds_toArray, List.set_cons_zero, List.set_cons_succ, i64_w, i32_w]
                  rfl
                refine one_ (i := 2) (N := some 27) #[true, true, true, true, true, false, false] rfl rfl (by kernel_rfl) (by decide) (fun K hK => ?_)
                refine Kd.R_append_rows_step k25 (w0 := w) w.heap.size (by rfl) (.tmp 25) (.tmp 26) 22 25 (.agg #[(.bool false), (.int .u64 0), (.string ⟨#[]⟩), (.string ⟨#[]⟩)]) 48 rfl Try.underlying22 info25 rfl (by decide) (by omega) v129 y128 l0 _ _ _ (fun k_ => some k_ ≠ (v135 : Value).ownBlock ∧ k_ ≠ gb118) (fun _ => False) rfl rfl ?aO ?aR (fun _ _ h => h) (fun _ h => h.elim) ?aF ?aB ?aS ?aL ?_
                (case aR => repeat (first | exact (Kd.C_below HR0.out HB.out) | (with_reducible refine Kd.C_alloc ?_ _) | (with_reducible refine Kd.C_drewN ?_ _) | (with_reducible refine Kd.C_drew ?_)))
                (case aB => exact (by repeat (first | (with_reducible first | exact HB.out | apply below_alloc | apply pw_below_drewN | apply below_drew1 | refine below_set ?_ GE118.out) | exact HB.out)))
                (case aF => exact (fun k_ hk => ⟨Kd.fresh' (Kd.R_lt (by (with_reducible repeat (first | apply Kd.R_alloc | apply Kd.R_drewN | apply Kd.R_drew)); exact HO136.out)) k_ hk, Kd.freshB (g := gb118) (o := .cells #[.bool a1_0, .int .u64 a1_1, .string a1_2, .string a1_3] 25 (0, 0)) (by (with_reducible repeat (first | refine blk_drewN ?_ _ | refine blk_drew ?_ | refine blk_alloc ?_ _)); exact BK118.out) k_ hk⟩))
                (case aO => exact (by (with_reducible repeat (first | apply Kd.R_alloc | apply Kd.R_drewN | apply Kd.R_drew)); exact Kd.R_mono HO130.out (fun _ hk => ⟨hk.1.2, hk.2⟩)))
                (case aS => exact (below_size (by repeat (first | (with_reducible first | exact HB.out | apply below_alloc | apply pw_below_drewN | apply below_drew1 | refine below_set ?_ GE118.out) | exact HB.out))))
                (case aL => have := LMc20.out; omega)
                intro v132 w29 ho hb hg hat
                rw [← Ny131.out] at ho
                have n0_ := Aside0.mk (blk_grown (g := gb118) (o := .cells #[.bool a1_0, .int .u64 a1_1, .string a1_2, .string a1_3] 25 (0, 0)) (by (with_reducible repeat (first | refine blk_drewN ?_ _ | refine blk_drew ?_ | refine blk_alloc ?_ _)); exact BK118.out) hg (Kd.R_away HO130.out (fun _ hk => hk.2)))
                have n1_ := Aside0.mk (Kd.R_after (ok := (fun k_ => k_ ≠ gb118)) (by (with_reducible repeat (first | apply Kd.R_alloc | apply Kd.R_drewN | apply Kd.R_drew)); exact Kd.R_mono HO136.out (fun _ hk => ⟨hk.1.2, hk.2⟩)) hg hat)
                have n2_ := Aside0.mk (hb)
                have n3_ := Aside0.mk (ho)
                clear BK118
                clear HO136
                clear HB
                clear HO130
                have BK118 := n0_
                have HO136 := n1_
                have HB := n2_
                have HO133 := n3_
                clear n0_ n1_ n2_ n3_
                clear ho hb hg hat
                refine hK.out _ _ ⟨(blk_cell BK118.out 0).trans rfl, (blk_cell BK118.out 1).trans rfl, (blk_cell BK118.out 2).trans rfl, (blk_cell BK118.out 3).trans rfl⟩ (fun hHeld => ?_)
                clear hK K
                refine norm_ (a' := ?_) ?_ ?_
                rotate_left
                · show Act.put _ (some 27) _ = _
                  simp only [Act.put, List.setIfInBounds_toArray, List.set_cons_zero, List.set_cons_succ, i64_w, i32_w]
                  rfl
                exact norm_ (by simp only [putAll, Act.put, List.setIfInBounds_toArray, List.set_cons_zero, List.set_cons_succ]) (hCont (v129, v132, v135) _ ⟨hHeld, (by (with_reducible repeat (first | apply Kd.R_alloc | apply Kd.R_drewN | apply Kd.R_drew)); exact HO133.out), (by (with_reducible repeat (first | apply Kd.R_alloc | apply Kd.R_drewN | apply Kd.R_drew)); exact Kd.R_mono HO136.out (fun _ hk => ⟨hk.2, hk.1⟩)), (by (with_reducible repeat (first | refine blk_drewN ?_ _ | refine blk_drew ?_ | refine blk_alloc ?_ _)); exact BK118.out), (by repeat (first | (with_reducible first | exact HB.out | apply below_alloc | apply pw_below_drewN | apply below_drew1 | refine below_set ?_ GE118.out) | exact HB.out))⟩)
            rintro ⟨v129, v132, v135⟩ w30 ⟨hS_, h0_, h1_, h2_, h3_⟩
            have n0_ : Aside0 (Kd.R k25 25 w30 w.heap.size (fun k_ => some k_ ≠ (v135 : Value).ownBlock ∧ k_ ≠ gb118) v132 y131) := ⟨h0_⟩
            have n1_ : Aside0 (Kd.R k25 25 w30 w.heap.size (fun k_ => some k_ ≠ (v132 : Value).ownBlock ∧ k_ ≠ gb118) v135 y134) := ⟨h1_⟩
            have n2_ : Aside0 (w30.heap[gb118]? = some (.cells #[.bool a1_0, .int .u64 a1_1, .string a1_2, .string a1_3] 25 (0, 0))) := ⟨h2_⟩
            have n3_ : Aside0 (Below w.heap.size w w30) := ⟨h3_⟩
            clear BK118
            clear HB
            clear h0_ h1_ h2_ h3_
            have HO133 := n0_
            have HO136 := n1_
            have BK118 := n2_
            have HB := n3_
            clear n0_ n1_ n2_ n3_
            have hHeld : w30.cell? ⟨gb118, 0, none⟩ = some (.bool a1_0) ∧ w30.cell? ⟨gb118, 1, none⟩ = some (.int .u64 a1_1) ∧ w30.cell? ⟨gb118, 2, none⟩ = some (.string a1_2) ∧ w30.cell? ⟨gb118, 3, none⟩ = some (.string a1_3) := hS_
            obtain ⟨Ao32, co32, eo32⟩ := Kd.R_slice HO136.out
            (first | subst eo32 | (injection eo32 with f1_ f2_ f3_; have f4_ := f1_.symm; have f5_ := f3_.symm; clear f1_ f2_ f3_; subst f4_; subst f5_))
            refine norm_ (a' := ?_) ?_ ?_
            rotate_left
            · simp only [putAll, Act.put, List.setIfInBounds_toArray, List.set_cons_zero, List.set_cons_succ]
              rfl
            refine one_ (i := 5) (N := some 30) #[true, true, true, true, true, true, false] rfl rfl (by kernel_rfl) (by decide) (fun K hK => ?_)
            refine Kd.R_append_rows_step k25 (w0 := w) w.heap.size (by rfl) (.tmp 27) (.tmp 29) 22 25 (.agg #[(.bool false), (.int .u64 0), (.string ⟨#[]⟩), (.string ⟨#[]⟩)]) 48 rfl Try.underlying22 info25 rfl (by decide) (by omega) v132 y131 y134 _ _ _ (fun k_ => some k_ ≠ (.slice Ao32 y134.length co32 : Value).ownBlock ∧ k_ ≠ gb118) (fun _ => False) rfl rfl ?aO ?aR (fun _ _ h => h) (fun _ h => h.elim) ?aF ?aB ?aS ?aL ?_
            (case aR => repeat (first | exact (Kd.R_reads' HO136.out).2.2 | (with_reducible refine Kd.C_alloc ?_ _) | (with_reducible refine Kd.C_drewN ?_ _) | (with_reducible refine Kd.C_drew ?_)))
            (case aB => exact (by repeat (first | (with_reducible first | exact HB.out | apply below_alloc | apply pw_below_drewN | apply below_drew1 | refine below_set ?_ GE118.out) | exact HB.out)))
            (case aF => exact (fun k_ hk => ⟨Kd.fresh' (Kd.R_lt (by (with_reducible repeat (first | apply Kd.R_alloc | apply Kd.R_drewN | apply Kd.R_drew)); exact HO136.out)) k_ hk, Kd.freshB (g := gb118) (o := .cells #[.bool a1_0, .int .u64 a1_1, .string a1_2, .string a1_3] 25 (0, 0)) (by (with_reducible repeat (first | refine blk_drewN ?_ _ | refine blk_drew ?_ | refine blk_alloc ?_ _)); exact BK118.out) k_ hk⟩))
            (case aO => exact (by (with_reducible repeat (first | apply Kd.R_alloc | apply Kd.R_drewN | apply Kd.R_drew)); exact HO133.out))
            (case aS => exact (below_size (by repeat (first | (with_reducible first | exact HB.out | apply below_alloc | apply pw_below_drewN | apply below_drew1 | refine below_set ?_ GE118.out) | exact HB.out))))
            (case aL => have := LMc21.out; omega)
            intro v138 w31 ho hb hg hat
            rw [← Ny137.out] at ho
            have n0_ := Aside0.mk (blk_grown (g := gb118) (o := .cells #[.bool a1_0, .int .u64 a1_1, .string a1_2, .string a1_3] 25 (0, 0)) (by (with_reducible repeat (first | refine blk_drewN ?_ _ | refine blk_drew ?_ | refine blk_alloc ?_ _)); exact BK118.out) hg (Kd.R_away HO133.out (fun _ hk => hk.2)))
            have n1_ := Aside0.mk (Kd.R_after (ok := (fun k_ => k_ ≠ gb118)) (by (with_reducible repeat (first | apply Kd.R_alloc | apply Kd.R_drewN | apply Kd.R_drew)); exact Kd.R_mono HO136.out (fun _ hk => ⟨hk.2, hk.1⟩)) hg hat)
            have n2_ := Aside0.mk (hb)
            have n3_ := Aside0.mk (ho)
            clear BK118
            clear HO136
            clear HB
            clear HO133
            have BK118 := n0_
            have HO136 := n1_
            have HB := n2_
            have HO139 := n3_
            clear n0_ n1_ n2_ n3_
            clear ho hb hg hat
            refine hK.out _ _ ⟨(blk_cell BK118.out 0).trans rfl, (blk_cell BK118.out 1).trans rfl, (blk_cell BK118.out 2).trans rfl, (blk_cell BK118.out 3).trans rfl⟩ (fun hHeld => ?_)
            clear hK K
            refine norm_ (a' := ?_) ?_ ?_
            rotate_left
            · show Act.put _ (some 30) _ = _
              simp only [Act.put, List.setIfInBounds_toArray, List.set_cons_zero, List.set_cons_succ, i64_w, i32_w]
              rfl
            refine pure_ (i := 6) (N := some 5) (v := ?_) (a' := ?_) #[true, true, true, true, true, true, true] rfl rfl (by kernel_rfl) (fun _ _ _ h => h) (Or.inl ⟨by rfl, ?_⟩) ?_ ?_
            rotate_left
            · intro w'
              go_simp
              with_reducible rfl
            rotate_left
            · simp only [Act.put, List.setIfInBounds_toArray, List.set_cons_zero, List.set_cons_succ, i64_w, i32_w]
              rfl
            refine done_ (by kernel_rfl) ?_
            have hcz33_0 : w31.cell? ⟨gb118, 0, none⟩ = some (.bool a1_0) := (blk_cell BK118.out 0).trans rfl
            have hcz33_1 : w31.cell? ⟨gb118, 1, none⟩ = some (.int .u64 a1_1) := (blk_cell BK118.out 1).trans rfl
            have hcz33_2 : w31.cell? ⟨gb118, 2, none⟩ = some (.string a1_2) := (blk_cell BK118.out 2).trans rfl
            have hcz33_3 : w31.cell? ⟨gb118, 3, none⟩ = some (.string a1_3) := (blk_cell BK118.out 3).trans rfl
            have hfz33_0 := blk_frozen BK118.out 0
            have hfz33_1 := blk_frozen BK118.out 1
            have hfz33_2 := blk_frozen BK118.out 2
            have hfz33_3 := blk_frozen BK118.out 3
            obtain ⟨Ao34, co34, eo34⟩ := Kd.R_slice HO139.out
            subst eo34
            go_upto_region 5 with (first | ((with_reducible refine gate_callee (f := 12) rfl ?_); refine goesL_ (some 35) rfl rfl Try.func12 (by kernel_rfl) rfl #[.slice Ao34 y137.length co34, .string a1_2] rfl (by (try simp only [List.map_toArray, List.map_cons, List.map_nil]); first | done | rfl | (simp only [List.length_drop, List.length_take]; rfl)) ?_; (with_reducible refine (fold_At.calls _ _ y137 a1_2 t140 t141 _ ?side1 ?side2 A22.out).mono ?_); (case side1 => repeat (first | exact (Kd.R_reads' HO139.out).2.2 | (with_reducible refine Kd.C_alloc ?_ _) | (with_reducible refine Kd.C_drewN ?_ _) | (with_reducible refine Kd.C_drew ?_))); (case side2 => exact (Kd.R_reads' HO139.out).2.1); rintro e w35 ⟨rfl, hb⟩; refine ⟨_, rfl, ?_⟩; have n0_ := Aside0.mk (Kd.R_below (by (with_reducible repeat (first | apply Kd.R_alloc | apply Kd.R_drewN | apply Kd.R_drew)); exact HO136.out) hb); have n1_ := Aside0.mk (Kd.R_below (by (with_reducible repeat (first | apply Kd.R_alloc | apply Kd.R_drewN | apply Kd.R_drew)); exact HO139.out) hb); have n2_ := Aside0.mk (blk_below (g := gb118) (o := .cells #[.bool a1_0, .int .u64 a1_1, .string a1_2, .string a1_3] 25 (0, 0)) (by (with_reducible repeat (first | refine blk_drewN ?_ _ | refine blk_drew ?_ | refine blk_alloc ?_ _)); exact BK118.out) hb); have n3_ := Aside0.mk (below_step (by repeat (first | (with_reducible first | exact HB.out | apply below_alloc | apply pw_below_drewN | apply below_drew1 | refine below_set ?_ GE118.out) | exact HB.out)) hb); clear HO136; clear HO139; clear BK118; clear HB; have HO136 := n0_; have HO139 := n1_; have BK118 := n2_; have HB := n3_; clear n0_ n1_ n2_ n3_; (try clear hb); (try clear hb2); (try clear hk); (try clear hi)))
            (try simp only [Act.put, List.setIfInBounds_toArray, List.set_cons_zero, List.set_cons_succ])
            go_cut [62] (fun v62 wc => ∃ (kq : Nat) (x62_22 : Bool), v62 = .bool x62_22 ∧ Aside0 (fasciclelaw18_FoldAppends.j1 kq l0 y137 x62_22 a1_0 a1_1 a1_2 a1_3 = some r) ∧ Aside0 (kq ≤ kj2) ∧ Aside0 (Kd.R k25 25 wc w.heap.size (fun k_ => k_ ≠ gb118) (.slice Ao34 y137.length co34) y137) ∧ Aside0 (wc.heap[gb118]? = some (.cells #[.bool a1_0, .int .u64 a1_1, .string a1_2, .string a1_3] 25 (0, 0))) ∧ Aside0 (Below w.heap.size w wc))
            case first =>
              have H := HC23.out
              clear HC23
              by_cases c36 : a1_0 = true
              · subst c36
                have H1 : (if t140 = 1 then (if t141.toList = ([] : List UInt8) then (fasciclelaw18_FoldAppends.j1 kj2 l0 y137 false true a1_1 a1_2 a1_3) else (fasciclelaw18_FoldAppends.j1 kj2 l0 y137 true true a1_1 a1_2 a1_3)) else (fasciclelaw18_FoldAppends.j1 kj2 l0 y137 true true a1_1 a1_2 a1_3)) = some r := by rw [if_pos rfl] at H; exact H
                clear H
                have H := H1
                clear H1
                by_cases c37 : t140 = 1
                · rw [if_pos c37] at H
                  have c37b0 : (t140 == 1) = true := beq_iff_eq.mpr c37
                  have c37b1 : (t140 != 1) = false := bne_eq_false_iff_eq.mpr c37
                  clear c37
                  (first | rw [c37b0] | (simp only [i64_w, i32_w]; rw [c37b0]) | skip)
                  by_cases c38 : t141.toList = ([] : List UInt8)
                  · rw [if_pos c38] at H
                    have c38b0 : (t141.toList == ([] : List UInt8)) = true := beq_iff_eq.mpr c38
                    have c38b1 : (t141.toList != ([] : List UInt8)) = false := bne_eq_false_iff_eq.mpr c38
                    clear c38
                    have H' := Aside0.mk H
                    clear H
                    have hcz39_0 : w35.cell? ⟨gb118, 0, none⟩ = some (.bool true) := (blk_cell BK118.out 0).trans rfl
                    have hcz39_1 : w35.cell? ⟨gb118, 1, none⟩ = some (.int .u64 a1_1) := (blk_cell BK118.out 1).trans rfl
                    have hcz39_2 : w35.cell? ⟨gb118, 2, none⟩ = some (.string a1_2) := (blk_cell BK118.out 2).trans rfl
                    have hcz39_3 : w35.cell? ⟨gb118, 3, none⟩ = some (.string a1_3) := (blk_cell BK118.out 3).trans rfl
                    have hfz39_0 := blk_frozen BK118.out 0
                    have hfz39_1 := blk_frozen BK118.out 1
                    have hfz39_2 := blk_frozen BK118.out 2
                    have hfz39_3 := blk_frozen BK118.out 3
                    go_wp2
                    go_meet
                    case rel => exact ⟨_, (false), (by first | rfl | (simp; done) | (simp [*]; done)), H', ⟨by have := HJ2.out; first | omega | exact Nat.le_refl _⟩, ⟨by (with_reducible repeat (first | apply Kd.R_alloc | apply Kd.R_drewN | apply Kd.R_drew)); exact Kd.R_mono HO139.out (fun _ hk => hk.2)⟩, ⟨by (with_reducible repeat (first | refine blk_drewN ?_ _ | refine blk_drew ?_ | refine blk_alloc ?_ _)); exact BK118.out⟩, ⟨by repeat (first | (with_reducible first | exact HB.out | apply below_alloc | apply pw_below_drewN | apply below_drew1 | refine below_set ?_ GE118.out) | exact HB.out)⟩⟩
                  · rw [if_neg c38] at H
                    have c38b0 : (t141.toList == ([] : List UInt8)) = false := beq_eq_false_iff_ne.mpr c38
                    have c38b1 : (t141.toList != ([] : List UInt8)) = true := bne_iff_ne.mpr c38
                    have H' := Aside0.mk H
                    clear H
                    have hcz40_0 : w35.cell? ⟨gb118, 0, none⟩ = some (.bool true) := (blk_cell BK118.out 0).trans rfl
                    have hcz40_1 : w35.cell? ⟨gb118, 1, none⟩ = some (.int .u64 a1_1) := (blk_cell BK118.out 1).trans rfl
                    have hcz40_2 : w35.cell? ⟨gb118, 2, none⟩ = some (.string a1_2) := (blk_cell BK118.out 2).trans rfl
                    have hcz40_3 : w35.cell? ⟨gb118, 3, none⟩ = some (.string a1_3) := (blk_cell BK118.out 3).trans rfl
                    have hfz40_0 := blk_frozen BK118.out 0
                    have hfz40_1 := blk_frozen BK118.out 1
                    have hfz40_2 := blk_frozen BK118.out 2
                    have hfz40_3 := blk_frozen BK118.out 3
                    go_wp2
                    go_meet
                    case rel => exact ⟨_, (true), (by first | rfl | (simp; done) | (simp [*]; done)), H', ⟨by have := HJ2.out; first | omega | exact Nat.le_refl _⟩, ⟨by (with_reducible repeat (first | apply Kd.R_alloc | apply Kd.R_drewN | apply Kd.R_drew)); exact Kd.R_mono HO139.out (fun _ hk => hk.2)⟩, ⟨by (with_reducible repeat (first | refine blk_drewN ?_ _ | refine blk_drew ?_ | refine blk_alloc ?_ _)); exact BK118.out⟩, ⟨by repeat (first | (with_reducible first | exact HB.out | apply below_alloc | apply pw_below_drewN | apply below_drew1 | refine below_set ?_ GE118.out) | exact HB.out)⟩⟩
                · rw [if_neg c37] at H
                  have c37b0 : (t140 == 1) = false := beq_eq_false_iff_ne.mpr c37
                  have c37b1 : (t140 != 1) = true := bne_iff_ne.mpr c37
                  (first | rw [c37b0] | (simp only [i64_w, i32_w]; rw [c37b0]) | skip)
                  have H' := Aside0.mk H
                  clear H
                  have hcz41_0 : w35.cell? ⟨gb118, 0, none⟩ = some (.bool true) := (blk_cell BK118.out 0).trans rfl
                  have hcz41_1 : w35.cell? ⟨gb118, 1, none⟩ = some (.int .u64 a1_1) := (blk_cell BK118.out 1).trans rfl
                  have hcz41_2 : w35.cell? ⟨gb118, 2, none⟩ = some (.string a1_2) := (blk_cell BK118.out 2).trans rfl
                  have hcz41_3 : w35.cell? ⟨gb118, 3, none⟩ = some (.string a1_3) := (blk_cell BK118.out 3).trans rfl
                  have hfz41_0 := blk_frozen BK118.out 0
                  have hfz41_1 := blk_frozen BK118.out 1
                  have hfz41_2 := blk_frozen BK118.out 2
                  have hfz41_3 := blk_frozen BK118.out 3
                  go_wp2
                  go_meet
                  case rel => exact ⟨_, (true), (by first | rfl | (simp; done) | (simp [*]; done)), H', ⟨by have := HJ2.out; first | omega | exact Nat.le_refl _⟩, ⟨by (with_reducible repeat (first | apply Kd.R_alloc | apply Kd.R_drewN | apply Kd.R_drew)); exact Kd.R_mono HO139.out (fun _ hk => hk.2)⟩, ⟨by (with_reducible repeat (first | refine blk_drewN ?_ _ | refine blk_drew ?_ | refine blk_alloc ?_ _)); exact BK118.out⟩, ⟨by repeat (first | (with_reducible first | exact HB.out | apply below_alloc | apply pw_below_drewN | apply below_drew1 | refine below_set ?_ GE118.out) | exact HB.out)⟩⟩
              · replace c36 := Bool.eq_false_iff.mpr c36
                subst c36
                have H1 : (if t140 = 2 then (fasciclelaw18_FoldAppends.j1 kj2 l0 y137 (t141.toList != a1_3.toList) false a1_1 a1_2 a1_3) else (fasciclelaw18_FoldAppends.j1 kj2 l0 y137 true false a1_1 a1_2 a1_3)) = some r := by rw [if_neg (show ¬ (false = true) by decide)] at H; exact H
                clear H
                have H := H1
                clear H1
                by_cases c42 : t140 = 2
                · rw [if_pos c42] at H
                  have c42b0 : (t140 == 2) = true := beq_iff_eq.mpr c42
                  have c42b1 : (t140 != 2) = false := bne_eq_false_iff_eq.mpr c42
                  clear c42
                  have H' := Aside0.mk H
                  clear H
                  have hcz43_0 : w35.cell? ⟨gb118, 0, none⟩ = some (.bool false) := (blk_cell BK118.out 0).trans rfl
                  have hcz43_1 : w35.cell? ⟨gb118, 1, none⟩ = some (.int .u64 a1_1) := (blk_cell BK118.out 1).trans rfl
                  have hcz43_2 : w35.cell? ⟨gb118, 2, none⟩ = some (.string a1_2) := (blk_cell BK118.out 2).trans rfl
                  have hcz43_3 : w35.cell? ⟨gb118, 3, none⟩ = some (.string a1_3) := (blk_cell BK118.out 3).trans rfl
                  have hfz43_0 := blk_frozen BK118.out 0
                  have hfz43_1 := blk_frozen BK118.out 1
                  have hfz43_2 := blk_frozen BK118.out 2
                  have hfz43_3 := blk_frozen BK118.out 3
                  go_wp2
                  go_meet
                  case rel => exact ⟨_, ((t141.toList != a1_3.toList)), (by first | rfl | (simp; done) | (simp [*]; done)), H', ⟨by have := HJ2.out; first | omega | exact Nat.le_refl _⟩, ⟨by (with_reducible repeat (first | apply Kd.R_alloc | apply Kd.R_drewN | apply Kd.R_drew)); exact Kd.R_mono HO139.out (fun _ hk => hk.2)⟩, ⟨by (with_reducible repeat (first | refine blk_drewN ?_ _ | refine blk_drew ?_ | refine blk_alloc ?_ _)); exact BK118.out⟩, ⟨by repeat (first | (with_reducible first | exact HB.out | apply below_alloc | apply pw_below_drewN | apply below_drew1 | refine below_set ?_ GE118.out) | exact HB.out)⟩⟩
                · rw [if_neg c42] at H
                  have c42b0 : (t140 == 2) = false := beq_eq_false_iff_ne.mpr c42
                  have c42b1 : (t140 != 2) = true := bne_iff_ne.mpr c42
                  have H' := Aside0.mk H
                  clear H
                  have hcz44_0 : w35.cell? ⟨gb118, 0, none⟩ = some (.bool false) := (blk_cell BK118.out 0).trans rfl
                  have hcz44_1 : w35.cell? ⟨gb118, 1, none⟩ = some (.int .u64 a1_1) := (blk_cell BK118.out 1).trans rfl
                  have hcz44_2 : w35.cell? ⟨gb118, 2, none⟩ = some (.string a1_2) := (blk_cell BK118.out 2).trans rfl
                  have hcz44_3 : w35.cell? ⟨gb118, 3, none⟩ = some (.string a1_3) := (blk_cell BK118.out 3).trans rfl
                  have hfz44_0 := blk_frozen BK118.out 0
                  have hfz44_1 := blk_frozen BK118.out 1
                  have hfz44_2 := blk_frozen BK118.out 2
                  have hfz44_3 := blk_frozen BK118.out 3
                  go_wp2
                  go_meet
                  case rel => exact ⟨_, (true), (by first | rfl | (simp; done) | (simp [*]; done)), H', ⟨by have := HJ2.out; first | omega | exact Nat.le_refl _⟩, ⟨by (with_reducible repeat (first | apply Kd.R_alloc | apply Kd.R_drewN | apply Kd.R_drew)); exact Kd.R_mono HO139.out (fun _ hk => hk.2)⟩, ⟨by (with_reducible repeat (first | refine blk_drewN ?_ _ | refine blk_drew ?_ | refine blk_alloc ?_ _)); exact BK118.out⟩, ⟨by repeat (first | (with_reducible first | exact HB.out | apply below_alloc | apply pw_below_drewN | apply below_drew1 | refine below_set ?_ GE118.out) | exact HB.out)⟩⟩
            case rest =>
              clear HC23
              try clear c1
              try clear c2
              try clear p2
              try clear c3
              try clear c4
              try clear c6
              try clear c7
              try clear c10
              try clear c12
              try clear c17
              try clear c20
              try clear c21
              try clear c36
              try clear c37
              try clear c37b0
              try clear c37b1
              try clear c38
              try clear c38b0
              try clear c38b1
              try clear c42
              try clear c42b0
              try clear c42b1
              try clear hcz10_0
              try clear hcz10_1
              try clear hcz10_2
              try clear hcz10_3
              try clear hcz33_0
              try clear hcz33_1
              try clear hcz33_2
              try clear hcz33_3
              try clear hcz39_0
              try clear hcz39_1
              try clear hcz39_2
              try clear hcz39_3
              try clear hcz40_0
              try clear hcz40_1
              try clear hcz40_2
              try clear hcz40_3
              try clear hcz41_0
              try clear hcz41_1
              try clear hcz41_2
              try clear hcz41_3
              try clear hcz43_0
              try clear hcz43_1
              try clear hcz43_2
              try clear hcz43_3
              try clear hcz44_0
              try clear hcz44_1
              try clear hcz44_2
              try clear hcz44_3
              try clear hfz10_0
              try clear hfz10_1
              try clear hfz10_2
              try clear hfz10_3
              try clear hfz33_0
              try clear hfz33_1
              try clear hfz33_2
              try clear hfz33_3
              try clear hfz39_0
              try clear hfz39_1
              try clear hfz39_2
              try clear hfz39_3
              try clear hfz40_0
              try clear hfz40_1
              try clear hfz40_2
              try clear hfz40_3
              try clear hfz41_0
              try clear hfz41_1
              try clear hfz41_2
              try clear hfz41_3
              try clear hfz43_0
              try clear hfz43_1
              try clear hfz43_2
              try clear hfz43_3
              try clear hfz44_0
              try clear hfz44_1
              try clear hfz44_2
              try clear hfz44_3
              try clear p2
              obtain ⟨kq, x62_22, rfl, HA, HJ22, HO_5, BK118, HB⟩ := hcut
              cases kq with
              | zero => exact absurd HA.out (by simp [fasciclelaw18_FoldAppends.j1])
              | succ kj22 =>
                have H := HA.out
                clear HA
                simp only [fasciclelaw18_FoldAppends.j1] at H
                by_cases c45 : x62_22 = true
                · subst c45
                  have H1 : (some false) = some r := by rw [if_pos rfl] at H; exact H
                  clear H
                  have H := H1
                  clear H1
                  obtain rfl := Option.some.inj H
                  go_wp2
                  go_ret
                  exact ⟨by first | rfl | (simp [errW_none, errW_some] <;> rfl) | (simp [*, errW_none, errW_some] <;> rfl), by repeat (first | (with_reducible first | exact HB.out | apply below_alloc | apply pw_below_drewN | apply below_drew1 | refine below_set ?_ GE118.out) | exact HB.out)⟩
                · replace c45 := Bool.eq_false_iff.mpr c45
                  subst c45
                  have H1 : (fasciclelaw18_FoldAppends.l0 kj22 l0 y137 l0 (l0.length : Int) 0 a1_0 a1_1 a1_2 a1_3) = some r := by rw [if_neg (show ¬ (false = true) by decide)] at H; exact H
                  clear H
                  have H := H1
                  clear H1
                  have H' := Aside0.mk H
                  clear H
                  go_wp2
                  go_loopg [65] kj22 (fun kq v65 w' => ∃ (x65_3 : Int), v65 = .int .i64 x65_3 ∧ Aside0 (fasciclelaw18_FoldAppends.l0 kq l0 y137 l0 (l0.length : Int) x65_3 a1_0 a1_1 a1_2 a1_3 = some r) ∧ Aside0 (kq ≤ kj22) ∧ Aside0 (Kd.R k25 25 w' w.heap.size (fun k_ => k_ ≠ gb118) (.slice Ao34 y137.length co34) y137) ∧ Aside0 (w'.heap[gb118]? = some (.cells #[.bool a1_0, .int .u64 a1_1, .string a1_2, .string a1_3] 25 (0, 0))) ∧ Aside0 (Below w.heap.size w w'))
                  case atStart => exact ⟨(0), (by first | rfl | (simp; done) | (simp [*]; done)), H', ⟨Nat.le_refl _⟩, ⟨by (with_reducible repeat (first | apply Kd.R_alloc | apply Kd.R_drewN | apply Kd.R_drew)); exact HO_5.out⟩, ⟨by (with_reducible repeat (first | refine blk_drewN ?_ _ | refine blk_drew ?_ | refine blk_alloc ?_ _)); exact BK118.out⟩, ⟨by repeat (first | (with_reducible first | exact HB.out | apply below_alloc | apply pw_below_drewN | apply below_drew1 | refine below_set ?_ GE118.out) | exact HB.out)⟩⟩
                  case round =>
                    clear H'
                    try clear c1
                    try clear c2
                    try clear p2
                    try clear c3
                    try clear c4
                    try clear c6
                    try clear c7
                    try clear c10
                    try clear c12
                    try clear c17
                    try clear c20
                    try clear c21
                    try clear c36
                    try clear c37
                    try clear c37b0
                    try clear c37b1
                    try clear c38
                    try clear c38b0
                    try clear c38b1
                    try clear c42
                    try clear c42b0
                    try clear c42b1
                    try clear c45
                    try clear hcz10_0
                    try clear hcz10_1
                    try clear hcz10_2
                    try clear hcz10_3
                    try clear hcz33_0
                    try clear hcz33_1
                    try clear hcz33_2
                    try clear hcz33_3
                    try clear hcz39_0
                    try clear hcz39_1
                    try clear hcz39_2
                    try clear hcz39_3
                    try clear hcz40_0
                    try clear hcz40_1
                    try clear hcz40_2
                    try clear hcz40_3
                    try clear hcz41_0
                    try clear hcz41_1
                    try clear hcz41_2
                    try clear hcz41_3
                    try clear hcz43_0
                    try clear hcz43_1
                    try clear hcz43_2
                    try clear hcz43_3
                    try clear hcz44_0
                    try clear hcz44_1
                    try clear hcz44_2
                    try clear hcz44_3
                    try clear hfz10_0
                    try clear hfz10_1
                    try clear hfz10_2
                    try clear hfz10_3
                    try clear hfz33_0
                    try clear hfz33_1
                    try clear hfz33_2
                    try clear hfz33_3
                    try clear hfz39_0
                    try clear hfz39_1
                    try clear hfz39_2
                    try clear hfz39_3
                    try clear hfz40_0
                    try clear hfz40_1
                    try clear hfz40_2
                    try clear hfz40_3
                    try clear hfz41_0
                    try clear hfz41_1
                    try clear hfz41_2
                    try clear hfz41_3
                    try clear hfz43_0
                    try clear hfz43_1
                    try clear hfz43_2
                    try clear hfz43_3
                    try clear hfz44_0
                    try clear hfz44_1
                    try clear hfz44_2
                    try clear hfz44_3
                    try clear p2
                    obtain ⟨x65_3, rfl, HA, HK3, HO_5, BK118, HB⟩ := hrel
                    cases gk with
                    | zero => exact absurd HA.out (by simp [fasciclelaw18_FoldAppends.l0])
                    | succ k3 =>
                      have H := HA.out
                      clear HA
                      simp only [fasciclelaw18_FoldAppends.l0] at H
                      by_cases c46 : x65_3 < (l0.length : Int)
                      · rw [if_pos c46] at H
                        have c46b0 : decide (x65_3 < (l0.length : Int)) = true := decide_eq_true c46
                        clear c46
                        by_cases c47 : 0 ≤ x65_3
                        · rw [if_pos c47] at H
                          have c47b0 : decide (0 ≤ x65_3) = true := decide_eq_true c47
                          clear c47
                          by_cases c48 : x65_3 < (l0.length : Int)
                          · rw [if_pos c48] at H
                            have c48b0 : decide (x65_3 < (l0.length : Int)) = true := decide_eq_true c48
                            clear c48
                            replace H := Option.bind_eq_some_iff.mp H
                            obtain ⟨⟨t144, t145⟩, A490, H⟩ := H
                            replace H : ((fold_At.f y137 ((rd_T25 l0 x65_3).f2)).bind fun bt146 => (if ((rd_T25 l0 x65_3).f2).toList = a1_2.toList then (fasciclelaw18_FoldAppends.l0 k3 l0 y137 l0 (l0.length : Int) (wrap64 (x65_3 + 1)) a1_0 a1_1 a1_2 a1_3) else (if t144 = bt146.1 then (if t145.toList = bt146.2.toList then (fasciclelaw18_FoldAppends.l0 k3 l0 y137 l0 (l0.length : Int) (wrap64 (x65_3 + 1)) a1_0 a1_1 a1_2 a1_3) else (some false)) else (some false)))) = some r := H
                            have A49 := Aside0.mk A490
                            clear A490
                            replace H := Option.bind_eq_some_iff.mp H
                            obtain ⟨⟨t146, t147⟩, A500, H⟩ := H
                            replace H : (if ((rd_T25 l0 x65_3).f2).toList = a1_2.toList then (fasciclelaw18_FoldAppends.l0 k3 l0 y137 l0 (l0.length : Int) (wrap64 (x65_3 + 1)) a1_0 a1_1 a1_2 a1_3) else (if t144 = t146 then (if t145.toList = t147.toList then (fasciclelaw18_FoldAppends.l0 k3 l0 y137 l0 (l0.length : Int) (wrap64 (x65_3 + 1)) a1_0 a1_1 a1_2 a1_3) else (some false)) else (some false))) = some r := H
                            have A50 := Aside0.mk A500
                            clear A500
                            by_cases c51 : ((rd_T25 l0 x65_3).f2).toList = a1_2.toList
                            · rw [if_pos c51] at H
                              have c51b0 : (((rd_T25 l0 x65_3).f2).toList == a1_2.toList) = true := beq_iff_eq.mpr c51
                              have c51b1 : (((rd_T25 l0 x65_3).f2).toList != a1_2.toList) = false := bne_eq_false_iff_eq.mpr c51
                              clear c51
                              have H' := Aside0.mk H
                              clear H
                              have p142 : 0 ≤ (x65_3 : Int) := of_decide_eq_true (by first | (with_reducible assumption) | assumption)
                              have q142 : x65_3 < (l0.length : Int) := of_decide_eq_true (by first | (with_reducible assumption) | assumption)
                              obtain ⟨ad142, e142, hx142_0, hx142_1, hx142_2, hx142_3⟩ := at_T25 HR0.out x65_3 p142 q142
                              cases e142
                              replace hx142_0 := (HB.out.cell (World.block_lt_of_cell? w _ hx142_0)).trans hx142_0
                              replace hx142_1 := (HB.out.cell (World.block_lt_of_cell? w _ hx142_1)).trans hx142_1
                              replace hx142_2 := (HB.out.cell (World.block_lt_of_cell? w _ hx142_2)).trans hx142_2
                              replace hx142_3 := (HB.out.cell (World.block_lt_of_cell? w _ hx142_3)).trans hx142_3
                              replace p142 := eq_true p142
                              replace q142 := eq_true q142
                              go_wp2_with (first | ((with_reducible refine gate_dst (N := 9) rfl ?_); (try (refine gate_guard (by rfl) ?_; dsimp only)); refine box_event ?hg (N := 9) ?hd (cs := #[.bool false, .int .u64 0, .string (⟨#[]⟩ : ByteArray), .string (⟨#[]⟩ : ByteArray)]) (t := 25) ?hr ?_; (case hd => rfl); (case hg => rfl); (case hr => first | (go_simp; done) | (go_simp; rfl)); intro gb143 hg w52 hbox hb; have n0_ := Aside0.mk (Kd.R_below (Kd.R_elderB (by (with_reducible repeat (first | apply Kd.R_alloc | apply Kd.R_drewN | apply Kd.R_drew)); exact HO_5.out) gb143 (Nat.le_of_eq hg.symm)) hb); have n1_ := Aside0.mk (blk_below (g := gb118) (o := .cells #[.bool a1_0, .int .u64 a1_1, .string a1_2, .string a1_3] 25 (0, 0)) (by (with_reducible repeat (first | refine blk_drewN ?_ _ | refine blk_drew ?_ | refine blk_alloc ?_ _)); exact BK118.out) hb); have n2_ := Aside0.mk (below_step (by repeat (first | (with_reducible first | exact HB.out | apply below_alloc | apply pw_below_drewN | apply below_drew1 | refine below_set ?_ GE118.out) | exact HB.out)) hb); have n3_ := Aside0.mk (hbox); have n4_ := Aside0.mk ((by rw [hg]; exact (below_size (by repeat (first | (with_reducible first | exact HB.out | apply below_alloc | apply pw_below_drewN | apply below_drew1 | refine below_set ?_ GE118.out) | exact HB.out))) : w.heap.size ≤ gb143)); have n5_ := Aside0.mk ((by rw [hg]; exact (below_size (by repeat (first | (with_reducible first | exact HB.out | apply below_alloc | apply pw_below_drewN | apply below_drew1 | refine below_set ?_ GE118.out) | exact HB.out))) : w.heap.size ≤ gb143)); have n6_ := Aside0.mk ((by rw [hg]; exact Nat.ne_of_lt (blk_lt (g := gb118) (o := .cells #[.bool a1_0, .int .u64 a1_1, .string a1_2, .string a1_3] 25 (0, 0)) (by (with_reducible repeat (first | refine blk_drewN ?_ _ | refine blk_drew ?_ | refine blk_alloc ?_ _)); exact BK118.out)) : gb118 ≠ gb143)); have n7_ := Aside0.mk ((by rw [hg]; exact Nat.ne_of_gt (blk_lt (g := gb118) (o := .cells #[.bool a1_0, .int .u64 a1_1, .string a1_2, .string a1_3] 25 (0, 0)) (by (with_reducible repeat (first | refine blk_drewN ?_ _ | refine blk_drew ?_ | refine blk_alloc ?_ _)); exact BK118.out)) : gb143 ≠ gb118)); clear HO_5; clear BK118; clear HB; have HO_5 := n0_; have BK118 := n1_; have HB := n2_; have BK143 := n3_; have GW143 := n4_; have GE143 := n5_; have NB118_143 := n6_; have NB143_118 := n7_; clear n0_ n1_ n2_ n3_ n4_ n5_ n6_ n7_; clear hb hbox hg; have hnb53 := NB143_118.out; have hnc53 := NB118_143.out; have hcz54_0 : w52.cell? ⟨gb143, 0, none⟩ = some (.bool false) := (blk_cell BK143.out 0).trans rfl; have hcz54_1 : w52.cell? ⟨gb143, 1, none⟩ = some (.int .u64 0) := (blk_cell BK143.out 1).trans rfl; have hcz54_2 : w52.cell? ⟨gb143, 2, none⟩ = some (.string (⟨#[]⟩ : ByteArray)) := (blk_cell BK143.out 2).trans rfl; have hcz54_3 : w52.cell? ⟨gb143, 3, none⟩ = some (.string (⟨#[]⟩ : ByteArray)) := (blk_cell BK143.out 3).trans rfl; have hfz54_0 := blk_frozen BK143.out 0; have hfz54_1 := blk_frozen BK143.out 1; have hfz54_2 := blk_frozen BK143.out 2; have hfz54_3 := blk_frozen BK143.out 3) | ((with_reducible refine gate_callee (f := 12) rfl ?_); refine goesL_ (some 73) rfl rfl Try.func12 (by kernel_rfl) rfl #[.slice (some ad142) l0.length c0, .string ((rd_T25 l0 x65_3).f2)] rfl (by (try simp only [List.map_toArray, List.map_cons, List.map_nil]); first | done | rfl | (simp only [List.length_drop, List.length_take]; rfl)) ?_; (with_reducible refine (fold_At.calls _ _ l0 ((rd_T25 l0 x65_3).f2) t144 t145 _ ?side1 ?side2 A49.out).mono ?_); (case side1 => exact Kd.C_below HR0.out (by repeat (first | (with_reducible first | exact HB.out | apply below_alloc | apply pw_below_drewN | apply below_drew1 | refine below_set ?_ GE118.out | refine below_set ?_ GE143.out) | exact HB.out))); (case side2 => exact HC0.out); rintro e w55 ⟨rfl, hb⟩; refine ⟨_, rfl, ?_⟩; have n0_ := Aside0.mk (Kd.R_below (by (with_reducible repeat (first | apply Kd.R_alloc | apply Kd.R_drewN | apply Kd.R_drew)); exact (Kd.R_mono (Kd.R_far (p := ⟨gb143, 3, none⟩) (Kd.R_far (p := ⟨gb143, 2, none⟩) (Kd.R_far (p := ⟨gb143, 1, none⟩) (Kd.R_far (p := ⟨gb143, 0, none⟩) (Kd.R_mono HO_5.out (fun k_ hk => (⟨hk, hk.2⟩ : _ ∧ k_ ≠ gb143))) (fun _ hk => hk.2) (.bool ((rd_T25 l0 x65_3).f0))) (fun _ hk => hk.2) (.int .u64 ((rd_T25 l0 x65_3).f1))) (fun _ hk => hk.2) (.string ((rd_T25 l0 x65_3).f2))) (fun _ hk => hk.2) (.string ((rd_T25 l0 x65_3).f3))) (fun _ h_ => h_.1))) hb); have n1_ := Aside0.mk (blk_below (g := gb118) (o := .cells #[.bool a1_0, .int .u64 a1_1, .string a1_2, .string a1_3] 25 (0, 0)) (by (with_reducible repeat (first | refine blk_drewN ?_ _ | refine blk_drew ?_ | refine blk_alloc ?_ _)); refine blk_far ?_ NB118_143.out _; (with_reducible repeat (first | refine blk_drewN ?_ _ | refine blk_drew ?_ | refine blk_alloc ?_ _)); refine blk_far ?_ NB118_143.out _; (with_reducible repeat (first | refine blk_drewN ?_ _ | refine blk_drew ?_ | refine blk_alloc ?_ _)); refine blk_far ?_ NB118_143.out _; (with_reducible repeat (first | refine blk_drewN ?_ _ | refine blk_drew ?_ | refine blk_alloc ?_ _)); refine blk_far ?_ NB118_143.out _; (with_reducible repeat (first | refine blk_drewN ?_ _ | refine blk_drew ?_ | refine blk_alloc ?_ _)); exact BK118.out) hb); have n2_ := Aside0.mk (blk_below (g := gb143) (o := .cells #[.bool ((rd_T25 l0 x65_3).f0), .int .u64 ((rd_T25 l0 x65_3).f1), .string ((rd_T25 l0 x65_3).f2), .string ((rd_T25 l0 x65_3).f3)] 25 (0, 0)) (by (with_reducible repeat (first | refine blk_drewN ?_ _ | refine blk_drew ?_ | refine blk_alloc ?_ _)); refine blk_put (cs := #[.bool ((rd_T25 l0 x65_3).f0), .int .u64 ((rd_T25 l0 x65_3).f1), .string ((rd_T25 l0 x65_3).f2), .string (⟨#[]⟩ : ByteArray)]) ?_ 3 _ rfl; (with_reducible repeat (first | refine blk_drewN ?_ _ | refine blk_drew ?_ | refine blk_alloc ?_ _)); refine blk_put (cs := #[.bool ((rd_T25 l0 x65_3).f0), .int .u64 ((rd_T25 l0 x65_3).f1), .string (⟨#[]⟩ : ByteArray), .string (⟨#[]⟩ : ByteArray)]) ?_ 2 _ rfl; (with_reducible repeat (first | refine blk_drewN ?_ _ | refine blk_drew ?_ | refine blk_alloc ?_ _)); refine blk_put (cs := #[.bool ((rd_T25 l0 x65_3).f0), .int .u64 0, .string (⟨#[]⟩ : ByteArray), .string (⟨#[]⟩ : ByteArray)]) ?_ 1 _ rfl; (with_reducible repeat (first | refine blk_drewN ?_ _ | refine blk_drew ?_ | refine blk_alloc ?_ _)); refine blk_put (cs := #[.bool false, .int .u64 0, .string (⟨#[]⟩ : ByteArray), .string (⟨#[]⟩ : ByteArray)]) ?_ 0 _ rfl; (with_reducible repeat (first | refine blk_drewN ?_ _ | refine blk_drew ?_ | refine blk_alloc ?_ _)); exact BK143.out) hb); have n3_ := Aside0.mk (below_step (by repeat (first | (with_reducible first | exact HB.out | apply below_alloc | apply pw_below_drewN | apply below_drew1 | refine below_set ?_ GE118.out | refine below_set ?_ GE143.out) | exact HB.out)) hb); clear HO_5; clear BK118; clear BK143; clear HB; have HO_5 := n0_; have BK118 := n1_; have BK143 := n2_; have HB := n3_; clear n0_ n1_ n2_ n3_; (try clear hb); (try clear hb2); (try clear hk); (try clear hi); have hcz56_0 : w55.cell? ⟨gb143, 0, none⟩ = some (.bool ((rd_T25 l0 x65_3).f0)) := (blk_cell BK143.out 0).trans rfl; have hcz56_1 : w55.cell? ⟨gb143, 1, none⟩ = some (.int .u64 ((rd_T25 l0 x65_3).f1)) := (blk_cell BK143.out 1).trans rfl; have hcz56_2 : w55.cell? ⟨gb143, 2, none⟩ = some (.string ((rd_T25 l0 x65_3).f2)) := (blk_cell BK143.out 2).trans rfl; have hcz56_3 : w55.cell? ⟨gb143, 3, none⟩ = some (.string ((rd_T25 l0 x65_3).f3)) := (blk_cell BK143.out 3).trans rfl; have hfz56_0 := blk_frozen BK143.out 0; have hfz56_1 := blk_frozen BK143.out 1; have hfz56_2 := blk_frozen BK143.out 2; have hfz56_3 := blk_frozen BK143.out 3) | ((with_reducible refine gate_callee (f := 12) rfl ?_); refine goesL_ (some 80) rfl rfl Try.func12 (by kernel_rfl) rfl #[.slice Ao34 y137.length co34, .string ((rd_T25 l0 x65_3).f2)] rfl (by (try simp only [List.map_toArray, List.map_cons, List.map_nil]); first | done | rfl | (simp only [List.length_drop, List.length_take]; rfl)) ?_; (with_reducible refine (fold_At.calls _ _ y137 ((rd_T25 l0 x65_3).f2) t146 t147 _ ?side1 ?side2 A50.out).mono ?_); (case side1 => repeat (first | exact (Kd.R_reads' HO_5.out).2.2 | (with_reducible refine Kd.C_alloc ?_ _) | (with_reducible refine Kd.C_drewN ?_ _) | (with_reducible refine Kd.C_drew ?_))); (case side2 => exact (Kd.R_reads' HO_5.out).2.1); rintro e w57 ⟨rfl, hb⟩; refine ⟨_, rfl, ?_⟩; have n0_ := Aside0.mk (Kd.R_below (by (with_reducible repeat (first | apply Kd.R_alloc | apply Kd.R_drewN | apply Kd.R_drew)); exact HO_5.out) hb); have n1_ := Aside0.mk (blk_below (g := gb118) (o := .cells #[.bool a1_0, .int .u64 a1_1, .string a1_2, .string a1_3] 25 (0, 0)) (by (with_reducible repeat (first | refine blk_drewN ?_ _ | refine blk_drew ?_ | refine blk_alloc ?_ _)); exact BK118.out) hb); have n2_ := Aside0.mk (blk_below (g := gb143) (o := .cells #[.bool ((rd_T25 l0 x65_3).f0), .int .u64 ((rd_T25 l0 x65_3).f1), .string ((rd_T25 l0 x65_3).f2), .string ((rd_T25 l0 x65_3).f3)] 25 (0, 0)) (by (with_reducible repeat (first | refine blk_drewN ?_ _ | refine blk_drew ?_ | refine blk_alloc ?_ _)); exact BK143.out) hb); have n3_ := Aside0.mk (below_step (by repeat (first | (with_reducible first | exact HB.out | apply below_alloc | apply pw_below_drewN | apply below_drew1 | refine below_set ?_ GE118.out | refine below_set ?_ GE143.out) | exact HB.out)) hb); clear HO_5; clear BK118; clear BK143; clear HB; have HO_5 := n0_; have BK118 := n1_; have BK143 := n2_; have HB := n3_; clear n0_ n1_ n2_ n3_; (try clear hb); (try clear hb2); (try clear hk); (try clear hi); have hcz58_0 : w57.cell? ⟨gb143, 0, none⟩ = some (.bool ((rd_T25 l0 x65_3).f0)) := (blk_cell BK143.out 0).trans rfl; have hcz58_1 : w57.cell? ⟨gb143, 1, none⟩ = some (.int .u64 ((rd_T25 l0 x65_3).f1)) := (blk_cell BK143.out 1).trans rfl; have hcz58_2 : w57.cell? ⟨gb143, 2, none⟩ = some (.string ((rd_T25 l0 x65_3).f2)) := (blk_cell BK143.out 2).trans rfl; have hcz58_3 : w57.cell? ⟨gb143, 3, none⟩ = some (.string ((rd_T25 l0 x65_3).f3)) := (blk_cell BK143.out 3).trans rfl; have hfz58_0 := blk_frozen BK143.out 0; have hfz58_1 := blk_frozen BK143.out 1; have hfz58_2 := blk_frozen BK143.out 2; have hfz58_3 := blk_frozen BK143.out 3; have hcz59_0 : w57.cell? ⟨gb118, 0, none⟩ = some (.bool a1_0) := (blk_cell BK118.out 0).trans rfl; have hcz59_1 : w57.cell? ⟨gb118, 1, none⟩ = some (.int .u64 a1_1) := (blk_cell BK118.out 1).trans rfl; have hcz59_2 : w57.cell? ⟨gb118, 2, none⟩ = some (.string a1_2) := (blk_cell BK118.out 2).trans rfl; have hcz59_3 : w57.cell? ⟨gb118, 3, none⟩ = some (.string a1_3) := (blk_cell BK118.out 3).trans rfl; have hfz59_0 := blk_frozen BK118.out 0; have hfz59_1 := blk_frozen BK118.out 1; have hfz59_2 := blk_frozen BK118.out 2; have hfz59_3 := blk_frozen BK118.out 3))
                              go_roundg k3
                              case measure => have := HJ2.out; have := HJ22.out; have := HK3.out; omega
                              case rel => exact ⟨(wrap64 (x65_3 + 1)), (by first | rfl | (simp; done) | (simp [*]; done)), H', ⟨by have := HJ2.out; have := HJ22.out; have := HK3.out; omega⟩, ⟨by (with_reducible repeat (first | apply Kd.R_alloc | apply Kd.R_drewN | apply Kd.R_drew)); exact Kd.R_mono HO_5.out (fun _ hk => hk.1)⟩, ⟨by (with_reducible repeat (first | refine blk_drewN ?_ _ | refine blk_drew ?_ | refine blk_alloc ?_ _)); exact BK118.out⟩, ⟨by repeat (first | (with_reducible first | exact HB.out | apply below_alloc | apply pw_below_drewN | apply below_drew1 | refine below_set ?_ GE118.out | refine below_set ?_ GE143.out) | exact HB.out)⟩⟩
                            · rw [if_neg c51] at H
                              have c51b0 : (((rd_T25 l0 x65_3).f2).toList == a1_2.toList) = false := beq_eq_false_iff_ne.mpr c51
                              have c51b1 : (((rd_T25 l0 x65_3).f2).toList != a1_2.toList) = true := bne_iff_ne.mpr c51
                              by_cases c60 : t144 = t146
                              · rw [if_pos c60] at H
                                have c60b0 : (t144 == t146) = true := beq_iff_eq.mpr c60
                                have c60b1 : (t144 != t146) = false := bne_eq_false_iff_eq.mpr c60
                                clear c60
                                by_cases c61 : t145.toList = t147.toList
                                · rw [if_pos c61] at H
                                  have c61b0 : (t145.toList == t147.toList) = true := beq_iff_eq.mpr c61
                                  have c61b1 : (t145.toList != t147.toList) = false := bne_eq_false_iff_eq.mpr c61
                                  clear c61
                                  have H' := Aside0.mk H
                                  clear H
                                  have p142 : 0 ≤ (x65_3 : Int) := of_decide_eq_true (by first | (with_reducible assumption) | assumption)
                                  have q142 : x65_3 < (l0.length : Int) := of_decide_eq_true (by first | (with_reducible assumption) | assumption)
                                  obtain ⟨ad142, e142, hx142_0, hx142_1, hx142_2, hx142_3⟩ := at_T25 HR0.out x65_3 p142 q142
                                  cases e142
                                  replace hx142_0 := (HB.out.cell (World.block_lt_of_cell? w _ hx142_0)).trans hx142_0
                                  replace hx142_1 := (HB.out.cell (World.block_lt_of_cell? w _ hx142_1)).trans hx142_1
                                  replace hx142_2 := (HB.out.cell (World.block_lt_of_cell? w _ hx142_2)).trans hx142_2
                                  replace hx142_3 := (HB.out.cell (World.block_lt_of_cell? w _ hx142_3)).trans hx142_3
                                  replace p142 := eq_true p142
                                  replace q142 := eq_true q142
                                  go_wp2_with (first | ((with_reducible refine gate_dst (N := 9) rfl ?_); (try (refine gate_guard (by rfl) ?_; dsimp only)); refine box_event ?hg (N := 9) ?hd (cs := #[.bool false, .int .u64 0, .string (⟨#[]⟩ : ByteArray), .string (⟨#[]⟩ : ByteArray)]) (t := 25) ?hr ?_; (case hd => rfl); (case hg => rfl); (case hr => first | (go_simp; done) | (go_simp; rfl)); intro gb143 hg w62 hbox hb; have n0_ := Aside0.mk (Kd.R_below (Kd.R_elderB (by (with_reducible repeat (first | apply Kd.R_alloc | apply Kd.R_drewN | apply Kd.R_drew)); exact HO_5.out) gb143 (Nat.le_of_eq hg.symm)) hb); have n1_ := Aside0.mk (blk_below (g := gb118) (o := .cells #[.bool a1_0, .int .u64 a1_1, .string a1_2, .string a1_3] 25 (0, 0)) (by (with_reducible repeat (first | refine blk_drewN ?_ _ | refine blk_drew ?_ | refine blk_alloc ?_ _)); exact BK118.out) hb); have n2_ := Aside0.mk (below_step (by repeat (first | (with_reducible first | exact HB.out | apply below_alloc | apply pw_below_drewN | apply below_drew1 | refine below_set ?_ GE118.out) | exact HB.out)) hb); have n3_ := Aside0.mk (hbox); have n4_ := Aside0.mk ((by rw [hg]; exact (below_size (by repeat (first | (with_reducible first | exact HB.out | apply below_alloc | apply pw_below_drewN | apply below_drew1 | refine below_set ?_ GE118.out) | exact HB.out))) : w.heap.size ≤ gb143)); have n5_ := Aside0.mk ((by rw [hg]; exact (below_size (by repeat (first | (with_reducible first | exact HB.out | apply below_alloc | apply pw_below_drewN | apply below_drew1 | refine below_set ?_ GE118.out) | exact HB.out))) : w.heap.size ≤ gb143)); have n6_ := Aside0.mk ((by rw [hg]; exact Nat.ne_of_lt (blk_lt (g := gb118) (o := .cells #[.bool a1_0, .int .u64 a1_1, .string a1_2, .string a1_3] 25 (0, 0)) (by (with_reducible repeat (first | refine blk_drewN ?_ _ | refine blk_drew ?_ | refine blk_alloc ?_ _)); exact BK118.out)) : gb118 ≠ gb143)); have n7_ := Aside0.mk ((by rw [hg]; exact Nat.ne_of_gt (blk_lt (g := gb118) (o := .cells #[.bool a1_0, .int .u64 a1_1, .string a1_2, .string a1_3] 25 (0, 0)) (by (with_reducible repeat (first | refine blk_drewN ?_ _ | refine blk_drew ?_ | refine blk_alloc ?_ _)); exact BK118.out)) : gb143 ≠ gb118)); clear HO_5; clear BK118; clear HB; have HO_5 := n0_; have BK118 := n1_; have HB := n2_; have BK143 := n3_; have GW143 := n4_; have GE143 := n5_; have NB118_143 := n6_; have NB143_118 := n7_; clear n0_ n1_ n2_ n3_ n4_ n5_ n6_ n7_; clear hb hbox hg; have hnb63 := NB143_118.out; have hnc63 := NB118_143.out; have hcz64_0 : w62.cell? ⟨gb143, 0, none⟩ = some (.bool false) := (blk_cell BK143.out 0).trans rfl; have hcz64_1 : w62.cell? ⟨gb143, 1, none⟩ = some (.int .u64 0) := (blk_cell BK143.out 1).trans rfl; have hcz64_2 : w62.cell? ⟨gb143, 2, none⟩ = some (.string (⟨#[]⟩ : ByteArray)) := (blk_cell BK143.out 2).trans rfl; have hcz64_3 : w62.cell? ⟨gb143, 3, none⟩ = some (.string (⟨#[]⟩ : ByteArray)) := (blk_cell BK143.out 3).trans rfl; have hfz64_0 := blk_frozen BK143.out 0; have hfz64_1 := blk_frozen BK143.out 1; have hfz64_2 := blk_frozen BK143.out 2; have hfz64_3 := blk_frozen BK143.out 3) | ((with_reducible refine gate_callee (f := 12) rfl ?_); refine goesL_ (some 73) rfl rfl Try.func12 (by kernel_rfl) rfl #[.slice (some ad142) l0.length c0, .string ((rd_T25 l0 x65_3).f2)] rfl (by (try simp only [List.map_toArray, List.map_cons, List.map_nil]); first | done | rfl | (simp only [List.length_drop, List.length_take]; rfl)) ?_; (with_reducible refine (fold_At.calls _ _ l0 ((rd_T25 l0 x65_3).f2) t144 t145 _ ?side1 ?side2 A49.out).mono ?_); (case side1 => exact Kd.C_below HR0.out (by repeat (first | (with_reducible first | exact HB.out | apply below_alloc | apply pw_below_drewN | apply below_drew1 | refine below_set ?_ GE118.out | refine below_set ?_ GE143.out) | exact HB.out))); (case side2 => exact HC0.out); rintro e w65 ⟨rfl, hb⟩; refine ⟨_, rfl, ?_⟩; have n0_ := Aside0.mk (Kd.R_below (by (with_reducible repeat (first | apply Kd.R_alloc | apply Kd.R_drewN | apply Kd.R_drew)); exact (Kd.R_mono (Kd.R_far (p := ⟨gb143, 3, none⟩) (Kd.R_far (p := ⟨gb143, 2, none⟩) (Kd.R_far (p := ⟨gb143, 1, none⟩) (Kd.R_far (p := ⟨gb143, 0, none⟩) (Kd.R_mono HO_5.out (fun k_ hk => (⟨hk, hk.2⟩ : _ ∧ k_ ≠ gb143))) (fun _ hk => hk.2) (.bool ((rd_T25 l0 x65_3).f0))) (fun _ hk => hk.2) (.int .u64 ((rd_T25 l0 x65_3).f1))) (fun _ hk => hk.2) (.string ((rd_T25 l0 x65_3).f2))) (fun _ hk => hk.2) (.string ((rd_T25 l0 x65_3).f3))) (fun _ h_ => h_.1))) hb); have n1_ := Aside0.mk (blk_below (g := gb118) (o := .cells #[.bool a1_0, .int .u64 a1_1, .string a1_2, .string a1_3] 25 (0, 0)) (by (with_reducible repeat (first | refine blk_drewN ?_ _ | refine blk_drew ?_ | refine blk_alloc ?_ _)); refine blk_far ?_ NB118_143.out _; (with_reducible repeat (first | refine blk_drewN ?_ _ | refine blk_drew ?_ | refine blk_alloc ?_ _)); refine blk_far ?_ NB118_143.out _; (with_reducible repeat (first | refine blk_drewN ?_ _ | refine blk_drew ?_ | refine blk_alloc ?_ _)); refine blk_far ?_ NB118_143.out _; (with_reducible repeat (first | refine blk_drewN ?_ _ | refine blk_drew ?_ | refine blk_alloc ?_ _)); refine blk_far ?_ NB118_143.out _; (with_reducible repeat (first | refine blk_drewN ?_ _ | refine blk_drew ?_ | refine blk_alloc ?_ _)); exact BK118.out) hb); have n2_ := Aside0.mk (blk_below (g := gb143) (o := .cells #[.bool ((rd_T25 l0 x65_3).f0), .int .u64 ((rd_T25 l0 x65_3).f1), .string ((rd_T25 l0 x65_3).f2), .string ((rd_T25 l0 x65_3).f3)] 25 (0, 0)) (by (with_reducible repeat (first | refine blk_drewN ?_ _ | refine blk_drew ?_ | refine blk_alloc ?_ _)); refine blk_put (cs := #[.bool ((rd_T25 l0 x65_3).f0), .int .u64 ((rd_T25 l0 x65_3).f1), .string ((rd_T25 l0 x65_3).f2), .string (⟨#[]⟩ : ByteArray)]) ?_ 3 _ rfl; (with_reducible repeat (first | refine blk_drewN ?_ _ | refine blk_drew ?_ | refine blk_alloc ?_ _)); refine blk_put (cs := #[.bool ((rd_T25 l0 x65_3).f0), .int .u64 ((rd_T25 l0 x65_3).f1), .string (⟨#[]⟩ : ByteArray), .string (⟨#[]⟩ : ByteArray)]) ?_ 2 _ rfl; (with_reducible repeat (first | refine blk_drewN ?_ _ | refine blk_drew ?_ | refine blk_alloc ?_ _)); refine blk_put (cs := #[.bool ((rd_T25 l0 x65_3).f0), .int .u64 0, .string (⟨#[]⟩ : ByteArray), .string (⟨#[]⟩ : ByteArray)]) ?_ 1 _ rfl; (with_reducible repeat (first | refine blk_drewN ?_ _ | refine blk_drew ?_ | refine blk_alloc ?_ _)); refine blk_put (cs := #[.bool false, .int .u64 0, .string (⟨#[]⟩ : ByteArray), .string (⟨#[]⟩ : ByteArray)]) ?_ 0 _ rfl; (with_reducible repeat (first | refine blk_drewN ?_ _ | refine blk_drew ?_ | refine blk_alloc ?_ _)); exact BK143.out) hb); have n3_ := Aside0.mk (below_step (by repeat (first | (with_reducible first | exact HB.out | apply below_alloc | apply pw_below_drewN | apply below_drew1 | refine below_set ?_ GE118.out | refine below_set ?_ GE143.out) | exact HB.out)) hb); clear HO_5; clear BK118; clear BK143; clear HB; have HO_5 := n0_; have BK118 := n1_; have BK143 := n2_; have HB := n3_; clear n0_ n1_ n2_ n3_; (try clear hb); (try clear hb2); (try clear hk); (try clear hi); have hcz66_0 : w65.cell? ⟨gb143, 0, none⟩ = some (.bool ((rd_T25 l0 x65_3).f0)) := (blk_cell BK143.out 0).trans rfl; have hcz66_1 : w65.cell? ⟨gb143, 1, none⟩ = some (.int .u64 ((rd_T25 l0 x65_3).f1)) := (blk_cell BK143.out 1).trans rfl; have hcz66_2 : w65.cell? ⟨gb143, 2, none⟩ = some (.string ((rd_T25 l0 x65_3).f2)) := (blk_cell BK143.out 2).trans rfl; have hcz66_3 : w65.cell? ⟨gb143, 3, none⟩ = some (.string ((rd_T25 l0 x65_3).f3)) := (blk_cell BK143.out 3).trans rfl; have hfz66_0 := blk_frozen BK143.out 0; have hfz66_1 := blk_frozen BK143.out 1; have hfz66_2 := blk_frozen BK143.out 2; have hfz66_3 := blk_frozen BK143.out 3) | ((with_reducible refine gate_callee (f := 12) rfl ?_); refine goesL_ (some 80) rfl rfl Try.func12 (by kernel_rfl) rfl #[.slice Ao34 y137.length co34, .string ((rd_T25 l0 x65_3).f2)] rfl (by (try simp only [List.map_toArray, List.map_cons, List.map_nil]); first | done | rfl | (simp only [List.length_drop, List.length_take]; rfl)) ?_; (with_reducible refine (fold_At.calls _ _ y137 ((rd_T25 l0 x65_3).f2) t146 t147 _ ?side1 ?side2 A50.out).mono ?_); (case side1 => repeat (first | exact (Kd.R_reads' HO_5.out).2.2 | (with_reducible refine Kd.C_alloc ?_ _) | (with_reducible refine Kd.C_drewN ?_ _) | (with_reducible refine Kd.C_drew ?_))); (case side2 => exact (Kd.R_reads' HO_5.out).2.1); rintro e w67 ⟨rfl, hb⟩; refine ⟨_, rfl, ?_⟩; have n0_ := Aside0.mk (Kd.R_below (by (with_reducible repeat (first | apply Kd.R_alloc | apply Kd.R_drewN | apply Kd.R_drew)); exact HO_5.out) hb); have n1_ := Aside0.mk (blk_below (g := gb118) (o := .cells #[.bool a1_0, .int .u64 a1_1, .string a1_2, .string a1_3] 25 (0, 0)) (by (with_reducible repeat (first | refine blk_drewN ?_ _ | refine blk_drew ?_ | refine blk_alloc ?_ _)); exact BK118.out) hb); have n2_ := Aside0.mk (blk_below (g := gb143) (o := .cells #[.bool ((rd_T25 l0 x65_3).f0), .int .u64 ((rd_T25 l0 x65_3).f1), .string ((rd_T25 l0 x65_3).f2), .string ((rd_T25 l0 x65_3).f3)] 25 (0, 0)) (by (with_reducible repeat (first | refine blk_drewN ?_ _ | refine blk_drew ?_ | refine blk_alloc ?_ _)); exact BK143.out) hb); have n3_ := Aside0.mk (below_step (by repeat (first | (with_reducible first | exact HB.out | apply below_alloc | apply pw_below_drewN | apply below_drew1 | refine below_set ?_ GE118.out | refine below_set ?_ GE143.out) | exact HB.out)) hb); clear HO_5; clear BK118; clear BK143; clear HB; have HO_5 := n0_; have BK118 := n1_; have BK143 := n2_; have HB := n3_; clear n0_ n1_ n2_ n3_; (try clear hb); (try clear hb2); (try clear hk); (try clear hi); have hcz68_0 : w67.cell? ⟨gb143, 0, none⟩ = some (.bool ((rd_T25 l0 x65_3).f0)) := (blk_cell BK143.out 0).trans rfl; have hcz68_1 : w67.cell? ⟨gb143, 1, none⟩ = some (.int .u64 ((rd_T25 l0 x65_3).f1)) := (blk_cell BK143.out 1).trans rfl; have hcz68_2 : w67.cell? ⟨gb143, 2, none⟩ = some (.string ((rd_T25 l0 x65_3).f2)) := (blk_cell BK143.out 2).trans rfl; have hcz68_3 : w67.cell? ⟨gb143, 3, none⟩ = some (.string ((rd_T25 l0 x65_3).f3)) := (blk_cell BK143.out 3).trans rfl; have hfz68_0 := blk_frozen BK143.out 0; have hfz68_1 := blk_frozen BK143.out 1; have hfz68_2 := blk_frozen BK143.out 2; have hfz68_3 := blk_frozen BK143.out 3; have hcz69_0 : w67.cell? ⟨gb118, 0, none⟩ = some (.bool a1_0) := (blk_cell BK118.out 0).trans rfl; have hcz69_1 : w67.cell? ⟨gb118, 1, none⟩ = some (.int .u64 a1_1) := (blk_cell BK118.out 1).trans rfl; have hcz69_2 : w67.cell? ⟨gb118, 2, none⟩ = some (.string a1_2) := (blk_cell BK118.out 2).trans rfl; have hcz69_3 : w67.cell? ⟨gb118, 3, none⟩ = some (.string a1_3) := (blk_cell BK118.out 3).trans rfl; have hfz69_0 := blk_frozen BK118.out 0; have hfz69_1 := blk_frozen BK118.out 1; have hfz69_2 := blk_frozen BK118.out 2; have hfz69_3 := blk_frozen BK118.out 3))
                                  go_roundg k3
                                  case measure => have := HJ2.out; have := HJ22.out; have := HK3.out; omega
                                  case rel => exact ⟨(wrap64 (x65_3 + 1)), (by first | rfl | (simp; done) | (simp [*]; done)), H', ⟨by have := HJ2.out; have := HJ22.out; have := HK3.out; omega⟩, ⟨by (with_reducible repeat (first | apply Kd.R_alloc | apply Kd.R_drewN | apply Kd.R_drew)); exact Kd.R_mono HO_5.out (fun _ hk => hk.1)⟩, ⟨by (with_reducible repeat (first | refine blk_drewN ?_ _ | refine blk_drew ?_ | refine blk_alloc ?_ _)); exact BK118.out⟩, ⟨by repeat (first | (with_reducible first | exact HB.out | apply below_alloc | apply pw_below_drewN | apply below_drew1 | refine below_set ?_ GE118.out | refine below_set ?_ GE143.out) | exact HB.out)⟩⟩
                                · rw [if_neg c61] at H
                                  have c61b0 : (t145.toList == t147.toList) = false := beq_eq_false_iff_ne.mpr c61
                                  have c61b1 : (t145.toList != t147.toList) = true := bne_iff_ne.mpr c61
                                  obtain rfl := Option.some.inj H
                                  have p142 : 0 ≤ (x65_3 : Int) := of_decide_eq_true (by first | (with_reducible assumption) | assumption)
                                  have q142 : x65_3 < (l0.length : Int) := of_decide_eq_true (by first | (with_reducible assumption) | assumption)
                                  obtain ⟨ad142, e142, hx142_0, hx142_1, hx142_2, hx142_3⟩ := at_T25 HR0.out x65_3 p142 q142
                                  cases e142
                                  replace hx142_0 := (HB.out.cell (World.block_lt_of_cell? w _ hx142_0)).trans hx142_0
                                  replace hx142_1 := (HB.out.cell (World.block_lt_of_cell? w _ hx142_1)).trans hx142_1
                                  replace hx142_2 := (HB.out.cell (World.block_lt_of_cell? w _ hx142_2)).trans hx142_2
                                  replace hx142_3 := (HB.out.cell (World.block_lt_of_cell? w _ hx142_3)).trans hx142_3
                                  replace p142 := eq_true p142
                                  replace q142 := eq_true q142
                                  go_wp2_with (first | ((with_reducible refine gate_dst (N := 9) rfl ?_); (try (refine gate_guard (by rfl) ?_; dsimp only)); refine box_event ?hg (N := 9) ?hd (cs := #[.bool false, .int .u64 0, .string (⟨#[]⟩ : ByteArray), .string (⟨#[]⟩ : ByteArray)]) (t := 25) ?hr ?_; (case hd => rfl); (case hg => rfl); (case hr => first | (go_simp; done) | (go_simp; rfl)); intro gb143 hg w70 hbox hb; have n0_ := Aside0.mk (Kd.R_below (Kd.R_elderB (by (with_reducible repeat (first | apply Kd.R_alloc | apply Kd.R_drewN | apply Kd.R_drew)); exact HO_5.out) gb143 (Nat.le_of_eq hg.symm)) hb); have n1_ := Aside0.mk (blk_below (g := gb118) (o := .cells #[.bool a1_0, .int .u64 a1_1, .string a1_2, .string a1_3] 25 (0, 0)) (by (with_reducible repeat (first | refine blk_drewN ?_ _ | refine blk_drew ?_ | refine blk_alloc ?_ _)); exact BK118.out) hb); have n2_ := Aside0.mk (below_step (by repeat (first | (with_reducible first | exact HB.out | apply below_alloc | apply pw_below_drewN | apply below_drew1 | refine below_set ?_ GE118.out) | exact HB.out)) hb); have n3_ := Aside0.mk (hbox); have n4_ := Aside0.mk ((by rw [hg]; exact (below_size (by repeat (first | (with_reducible first | exact HB.out | apply below_alloc | apply pw_below_drewN | apply below_drew1 | refine below_set ?_ GE118.out) | exact HB.out))) : w.heap.size ≤ gb143)); have n5_ := Aside0.mk ((by rw [hg]; exact (below_size (by repeat (first | (with_reducible first | exact HB.out | apply below_alloc | apply pw_below_drewN | apply below_drew1 | refine below_set ?_ GE118.out) | exact HB.out))) : w.heap.size ≤ gb143)); have n6_ := Aside0.mk ((by rw [hg]; exact Nat.ne_of_lt (blk_lt (g := gb118) (o := .cells #[.bool a1_0, .int .u64 a1_1, .string a1_2, .string a1_3] 25 (0, 0)) (by (with_reducible repeat (first | refine blk_drewN ?_ _ | refine blk_drew ?_ | refine blk_alloc ?_ _)); exact BK118.out)) : gb118 ≠ gb143)); have n7_ := Aside0.mk ((by rw [hg]; exact Nat.ne_of_gt (blk_lt (g := gb118) (o := .cells #[.bool a1_0, .int .u64 a1_1, .string a1_2, .string a1_3] 25 (0, 0)) (by (with_reducible repeat (first | refine blk_drewN ?_ _ | refine blk_drew ?_ | refine blk_alloc ?_ _)); exact BK118.out)) : gb143 ≠ gb118)); clear HO_5; clear BK118; clear HB; have HO_5 := n0_; have BK118 := n1_; have HB := n2_; have BK143 := n3_; have GW143 := n4_; have GE143 := n5_; have NB118_143 := n6_; have NB143_118 := n7_; clear n0_ n1_ n2_ n3_ n4_ n5_ n6_ n7_; clear hb hbox hg; have hnb71 := NB143_118.out; have hnc71 := NB118_143.out; have hcz72_0 : w70.cell? ⟨gb143, 0, none⟩ = some (.bool false) := (blk_cell BK143.out 0).trans rfl; have hcz72_1 : w70.cell? ⟨gb143, 1, none⟩ = some (.int .u64 0) := (blk_cell BK143.out 1).trans rfl; have hcz72_2 : w70.cell? ⟨gb143, 2, none⟩ = some (.string (⟨#[]⟩ : ByteArray)) := (blk_cell BK143.out 2).trans rfl; have hcz72_3 : w70.cell? ⟨gb143, 3, none⟩ = some (.string (⟨#[]⟩ : ByteArray)) := (blk_cell BK143.out 3).trans rfl; have hfz72_0 := blk_frozen BK143.out 0; have hfz72_1 := blk_frozen BK143.out 1; have hfz72_2 := blk_frozen BK143.out 2; have hfz72_3 := blk_frozen BK143.out 3) | ((with_reducible refine gate_callee (f := 12) rfl ?_); refine goesL_ (some 73) rfl rfl Try.func12 (by kernel_rfl) rfl #[.slice (some ad142) l0.length c0, .string ((rd_T25 l0 x65_3).f2)] rfl (by (try simp only [List.map_toArray, List.map_cons, List.map_nil]); first | done | rfl | (simp only [List.length_drop, List.length_take]; rfl)) ?_; (with_reducible refine (fold_At.calls _ _ l0 ((rd_T25 l0 x65_3).f2) t144 t145 _ ?side1 ?side2 A49.out).mono ?_); (case side1 => exact Kd.C_below HR0.out (by repeat (first | (with_reducible first | exact HB.out | apply below_alloc | apply pw_below_drewN | apply below_drew1 | refine below_set ?_ GE118.out | refine below_set ?_ GE143.out) | exact HB.out))); (case side2 => exact HC0.out); rintro e w73 ⟨rfl, hb⟩; refine ⟨_, rfl, ?_⟩; have n0_ := Aside0.mk (Kd.R_below (by (with_reducible repeat (first | apply Kd.R_alloc | apply Kd.R_drewN | apply Kd.R_drew)); exact (Kd.R_mono (Kd.R_far (p := ⟨gb143, 3, none⟩) (Kd.R_far (p := ⟨gb143, 2, none⟩) (Kd.R_far (p := ⟨gb143, 1, none⟩) (Kd.R_far (p := ⟨gb143, 0, none⟩) (Kd.R_mono HO_5.out (fun k_ hk => (⟨hk, hk.2⟩ : _ ∧ k_ ≠ gb143))) (fun _ hk => hk.2) (.bool ((rd_T25 l0 x65_3).f0))) (fun _ hk => hk.2) (.int .u64 ((rd_T25 l0 x65_3).f1))) (fun _ hk => hk.2) (.string ((rd_T25 l0 x65_3).f2))) (fun _ hk => hk.2) (.string ((rd_T25 l0 x65_3).f3))) (fun _ h_ => h_.1))) hb); have n1_ := Aside0.mk (blk_below (g := gb118) (o := .cells #[.bool a1_0, .int .u64 a1_1, .string a1_2, .string a1_3] 25 (0, 0)) (by (with_reducible repeat (first | refine blk_drewN ?_ _ | refine blk_drew ?_ | refine blk_alloc ?_ _)); refine blk_far ?_ NB118_143.out _; (with_reducible repeat (first | refine blk_drewN ?_ _ | refine blk_drew ?_ | refine blk_alloc ?_ _)); refine blk_far ?_ NB118_143.out _; (with_reducible repeat (first | refine blk_drewN ?_ _ | refine blk_drew ?_ | refine blk_alloc ?_ _)); refine blk_far ?_ NB118_143.out _; (with_reducible repeat (first | refine blk_drewN ?_ _ | refine blk_drew ?_ | refine blk_alloc ?_ _)); refine blk_far ?_ NB118_143.out _; (with_reducible repeat (first | refine blk_drewN ?_ _ | refine blk_drew ?_ | refine blk_alloc ?_ _)); exact BK118.out) hb); have n2_ := Aside0.mk (blk_below (g := gb143) (o := .cells #[.bool ((rd_T25 l0 x65_3).f0), .int .u64 ((rd_T25 l0 x65_3).f1), .string ((rd_T25 l0 x65_3).f2), .string ((rd_T25 l0 x65_3).f3)] 25 (0, 0)) (by (with_reducible repeat (first | refine blk_drewN ?_ _ | refine blk_drew ?_ | refine blk_alloc ?_ _)); refine blk_put (cs := #[.bool ((rd_T25 l0 x65_3).f0), .int .u64 ((rd_T25 l0 x65_3).f1), .string ((rd_T25 l0 x65_3).f2), .string (⟨#[]⟩ : ByteArray)]) ?_ 3 _ rfl; (with_reducible repeat (first | refine blk_drewN ?_ _ | refine blk_drew ?_ | refine blk_alloc ?_ _)); refine blk_put (cs := #[.bool ((rd_T25 l0 x65_3).f0), .int .u64 ((rd_T25 l0 x65_3).f1), .string (⟨#[]⟩ : ByteArray), .string (⟨#[]⟩ : ByteArray)]) ?_ 2 _ rfl; (with_reducible repeat (first | refine blk_drewN ?_ _ | refine blk_drew ?_ | refine blk_alloc ?_ _)); refine blk_put (cs := #[.bool ((rd_T25 l0 x65_3).f0), .int .u64 0, .string (⟨#[]⟩ : ByteArray), .string (⟨#[]⟩ : ByteArray)]) ?_ 1 _ rfl; (with_reducible repeat (first | refine blk_drewN ?_ _ | refine blk_drew ?_ | refine blk_alloc ?_ _)); refine blk_put (cs := #[.bool false, .int .u64 0, .string (⟨#[]⟩ : ByteArray), .string (⟨#[]⟩ : ByteArray)]) ?_ 0 _ rfl; (with_reducible repeat (first | refine blk_drewN ?_ _ | refine blk_drew ?_ | refine blk_alloc ?_ _)); exact BK143.out) hb); have n3_ := Aside0.mk (below_step (by repeat (first | (with_reducible first | exact HB.out | apply below_alloc | apply pw_below_drewN | apply below_drew1 | refine below_set ?_ GE118.out | refine below_set ?_ GE143.out) | exact HB.out)) hb); clear HO_5; clear BK118; clear BK143; clear HB; have HO_5 := n0_; have BK118 := n1_; have BK143 := n2_; have HB := n3_; clear n0_ n1_ n2_ n3_; (try clear hb); (try clear hb2); (try clear hk); (try clear hi); have hcz74_0 : w73.cell? ⟨gb143, 0, none⟩ = some (.bool ((rd_T25 l0 x65_3).f0)) := (blk_cell BK143.out 0).trans rfl; have hcz74_1 : w73.cell? ⟨gb143, 1, none⟩ = some (.int .u64 ((rd_T25 l0 x65_3).f1)) := (blk_cell BK143.out 1).trans rfl; have hcz74_2 : w73.cell? ⟨gb143, 2, none⟩ = some (.string ((rd_T25 l0 x65_3).f2)) := (blk_cell BK143.out 2).trans rfl; have hcz74_3 : w73.cell? ⟨gb143, 3, none⟩ = some (.string ((rd_T25 l0 x65_3).f3)) := (blk_cell BK143.out 3).trans rfl; have hfz74_0 := blk_frozen BK143.out 0; have hfz74_1 := blk_frozen BK143.out 1; have hfz74_2 := blk_frozen BK143.out 2; have hfz74_3 := blk_frozen BK143.out 3) | ((with_reducible refine gate_callee (f := 12) rfl ?_); refine goesL_ (some 80) rfl rfl Try.func12 (by kernel_rfl) rfl #[.slice Ao34 y137.length co34, .string ((rd_T25 l0 x65_3).f2)] rfl (by (try simp only [List.map_toArray, List.map_cons, List.map_nil]); first | done | rfl | (simp only [List.length_drop, List.length_take]; rfl)) ?_; (with_reducible refine (fold_At.calls _ _ y137 ((rd_T25 l0 x65_3).f2) t146 t147 _ ?side1 ?side2 A50.out).mono ?_); (case side1 => repeat (first | exact (Kd.R_reads' HO_5.out).2.2 | (with_reducible refine Kd.C_alloc ?_ _) | (with_reducible refine Kd.C_drewN ?_ _) | (with_reducible refine Kd.C_drew ?_))); (case side2 => exact (Kd.R_reads' HO_5.out).2.1); rintro e w75 ⟨rfl, hb⟩; refine ⟨_, rfl, ?_⟩; have n0_ := Aside0.mk (Kd.R_below (by (with_reducible repeat (first | apply Kd.R_alloc | apply Kd.R_drewN | apply Kd.R_drew)); exact HO_5.out) hb); have n1_ := Aside0.mk (blk_below (g := gb118) (o := .cells #[.bool a1_0, .int .u64 a1_1, .string a1_2, .string a1_3] 25 (0, 0)) (by (with_reducible repeat (first | refine blk_drewN ?_ _ | refine blk_drew ?_ | refine blk_alloc ?_ _)); exact BK118.out) hb); have n2_ := Aside0.mk (blk_below (g := gb143) (o := .cells #[.bool ((rd_T25 l0 x65_3).f0), .int .u64 ((rd_T25 l0 x65_3).f1), .string ((rd_T25 l0 x65_3).f2), .string ((rd_T25 l0 x65_3).f3)] 25 (0, 0)) (by (with_reducible repeat (first | refine blk_drewN ?_ _ | refine blk_drew ?_ | refine blk_alloc ?_ _)); exact BK143.out) hb); have n3_ := Aside0.mk (below_step (by repeat (first | (with_reducible first | exact HB.out | apply below_alloc | apply pw_below_drewN | apply below_drew1 | refine below_set ?_ GE118.out | refine below_set ?_ GE143.out) | exact HB.out)) hb); clear HO_5; clear BK118; clear BK143; clear HB; have HO_5 := n0_; have BK118 := n1_; have BK143 := n2_; have HB := n3_; clear n0_ n1_ n2_ n3_; (try clear hb); (try clear hb2); (try clear hk); (try clear hi); have hcz76_0 : w75.cell? ⟨gb143, 0, none⟩ = some (.bool ((rd_T25 l0 x65_3).f0)) := (blk_cell BK143.out 0).trans rfl; have hcz76_1 : w75.cell? ⟨gb143, 1, none⟩ = some (.int .u64 ((rd_T25 l0 x65_3).f1)) := (blk_cell BK143.out 1).trans rfl; have hcz76_2 : w75.cell? ⟨gb143, 2, none⟩ = some (.string ((rd_T25 l0 x65_3).f2)) := (blk_cell BK143.out 2).trans rfl; have hcz76_3 : w75.cell? ⟨gb143, 3, none⟩ = some (.string ((rd_T25 l0 x65_3).f3)) := (blk_cell BK143.out 3).trans rfl; have hfz76_0 := blk_frozen BK143.out 0; have hfz76_1 := blk_frozen BK143.out 1; have hfz76_2 := blk_frozen BK143.out 2; have hfz76_3 := blk_frozen BK143.out 3; have hcz77_0 : w75.cell? ⟨gb118, 0, none⟩ = some (.bool a1_0) := (blk_cell BK118.out 0).trans rfl; have hcz77_1 : w75.cell? ⟨gb118, 1, none⟩ = some (.int .u64 a1_1) := (blk_cell BK118.out 1).trans rfl; have hcz77_2 : w75.cell? ⟨gb118, 2, none⟩ = some (.string a1_2) := (blk_cell BK118.out 2).trans rfl; have hcz77_3 : w75.cell? ⟨gb118, 3, none⟩ = some (.string a1_3) := (blk_cell BK118.out 3).trans rfl; have hfz77_0 := blk_frozen BK118.out 0; have hfz77_1 := blk_frozen BK118.out 1; have hfz77_2 := blk_frozen BK118.out 2; have hfz77_3 := blk_frozen BK118.out 3))
                                  go_ret
                                  exact ⟨by first | rfl | (simp [errW_none, errW_some] <;> rfl) | (simp [*, errW_none, errW_some] <;> rfl), by repeat (first | (with_reducible first | exact HB.out | apply below_alloc | apply pw_below_drewN | apply below_drew1 | refine below_set ?_ GE118.out | refine below_set ?_ GE143.out) | exact HB.out)⟩
                              · rw [if_neg c60] at H
                                have c60b0 : (t144 == t146) = false := beq_eq_false_iff_ne.mpr c60
                                have c60b1 : (t144 != t146) = true := bne_iff_ne.mpr c60
                                obtain rfl := Option.some.inj H
                                have p142 : 0 ≤ (x65_3 : Int) := of_decide_eq_true (by first | (with_reducible assumption) | assumption)
                                have q142 : x65_3 < (l0.length : Int) := of_decide_eq_true (by first | (with_reducible assumption) | assumption)
                                obtain ⟨ad142, e142, hx142_0, hx142_1, hx142_2, hx142_3⟩ := at_T25 HR0.out x65_3 p142 q142
                                cases e142
                                replace hx142_0 := (HB.out.cell (World.block_lt_of_cell? w _ hx142_0)).trans hx142_0
                                replace hx142_1 := (HB.out.cell (World.block_lt_of_cell? w _ hx142_1)).trans hx142_1
                                replace hx142_2 := (HB.out.cell (World.block_lt_of_cell? w _ hx142_2)).trans hx142_2
                                replace hx142_3 := (HB.out.cell (World.block_lt_of_cell? w _ hx142_3)).trans hx142_3
                                replace p142 := eq_true p142
                                replace q142 := eq_true q142
                                go_wp2_with (first | ((with_reducible refine gate_dst (N := 9) rfl ?_); (try (refine gate_guard (by rfl) ?_; dsimp only)); refine box_event ?hg (N := 9) ?hd (cs := #[.bool false, .int .u64 0, .string (⟨#[]⟩ : ByteArray), .string (⟨#[]⟩ : ByteArray)]) (t := 25) ?hr ?_; (case hd => rfl); (case hg => rfl); (case hr => first | (go_simp; done) | (go_simp; rfl)); intro gb143 hg w78 hbox hb; have n0_ := Aside0.mk (Kd.R_below (Kd.R_elderB (by (with_reducible repeat (first | apply Kd.R_alloc | apply Kd.R_drewN | apply Kd.R_drew)); exact HO_5.out) gb143 (Nat.le_of_eq hg.symm)) hb); have n1_ := Aside0.mk (blk_below (g := gb118) (o := .cells #[.bool a1_0, .int .u64 a1_1, .string a1_2, .string a1_3] 25 (0, 0)) (by (with_reducible repeat (first | refine blk_drewN ?_ _ | refine blk_drew ?_ | refine blk_alloc ?_ _)); exact BK118.out) hb); have n2_ := Aside0.mk (below_step (by repeat (first | (with_reducible first | exact HB.out | apply below_alloc | apply pw_below_drewN | apply below_drew1 | refine below_set ?_ GE118.out) | exact HB.out)) hb); have n3_ := Aside0.mk (hbox); have n4_ := Aside0.mk ((by rw [hg]; exact (below_size (by repeat (first | (with_reducible first | exact HB.out | apply below_alloc | apply pw_below_drewN | apply below_drew1 | refine below_set ?_ GE118.out) | exact HB.out))) : w.heap.size ≤ gb143)); have n5_ := Aside0.mk ((by rw [hg]; exact (below_size (by repeat (first | (with_reducible first | exact HB.out | apply below_alloc | apply pw_below_drewN | apply below_drew1 | refine below_set ?_ GE118.out) | exact HB.out))) : w.heap.size ≤ gb143)); have n6_ := Aside0.mk ((by rw [hg]; exact Nat.ne_of_lt (blk_lt (g := gb118) (o := .cells #[.bool a1_0, .int .u64 a1_1, .string a1_2, .string a1_3] 25 (0, 0)) (by (with_reducible repeat (first | refine blk_drewN ?_ _ | refine blk_drew ?_ | refine blk_alloc ?_ _)); exact BK118.out)) : gb118 ≠ gb143)); have n7_ := Aside0.mk ((by rw [hg]; exact Nat.ne_of_gt (blk_lt (g := gb118) (o := .cells #[.bool a1_0, .int .u64 a1_1, .string a1_2, .string a1_3] 25 (0, 0)) (by (with_reducible repeat (first | refine blk_drewN ?_ _ | refine blk_drew ?_ | refine blk_alloc ?_ _)); exact BK118.out)) : gb143 ≠ gb118)); clear HO_5; clear BK118; clear HB; have HO_5 := n0_; have BK118 := n1_; have HB := n2_; have BK143 := n3_; have GW143 := n4_; have GE143 := n5_; have NB118_143 := n6_; have NB143_118 := n7_; clear n0_ n1_ n2_ n3_ n4_ n5_ n6_ n7_; clear hb hbox hg; have hnb79 := NB143_118.out; have hnc79 := NB118_143.out; have hcz80_0 : w78.cell? ⟨gb143, 0, none⟩ = some (.bool false) := (blk_cell BK143.out 0).trans rfl; have hcz80_1 : w78.cell? ⟨gb143, 1, none⟩ = some (.int .u64 0) := (blk_cell BK143.out 1).trans rfl; have hcz80_2 : w78.cell? ⟨gb143, 2, none⟩ = some (.string (⟨#[]⟩ : ByteArray)) := (blk_cell BK143.out 2).trans rfl; have hcz80_3 : w78.cell? ⟨gb143, 3, none⟩ = some (.string (⟨#[]⟩ : ByteArray)) := (blk_cell BK143.out 3).trans rfl; have hfz80_0 := blk_frozen BK143.out 0; have hfz80_1 := blk_frozen BK143.out 1; have hfz80_2 := blk_frozen BK143.out 2; have hfz80_3 := blk_frozen BK143.out 3) | ((with_reducible refine gate_callee (f := 12) rfl ?_); refine goesL_ (some 73) rfl rfl Try.func12 (by kernel_rfl) rfl #[.slice (some ad142) l0.length c0, .string ((rd_T25 l0 x65_3).f2)] rfl (by (try simp only [List.map_toArray, List.map_cons, List.map_nil]); first | done | rfl | (simp only [List.length_drop, List.length_take]; rfl)) ?_; (with_reducible refine (fold_At.calls _ _ l0 ((rd_T25 l0 x65_3).f2) t144 t145 _ ?side1 ?side2 A49.out).mono ?_); (case side1 => exact Kd.C_below HR0.out (by repeat (first | (with_reducible first | exact HB.out | apply below_alloc | apply pw_below_drewN | apply below_drew1 | refine below_set ?_ GE118.out | refine below_set ?_ GE143.out) | exact HB.out))); (case side2 => exact HC0.out); rintro e w81 ⟨rfl, hb⟩; refine ⟨_, rfl, ?_⟩; have n0_ := Aside0.mk (Kd.R_below (by (with_reducible repeat (first | apply Kd.R_alloc | apply Kd.R_drewN | apply Kd.R_drew)); exact (Kd.R_mono (Kd.R_far (p := ⟨gb143, 3, none⟩) (Kd.R_far (p := ⟨gb143, 2, none⟩) (Kd.R_far (p := ⟨gb143, 1, none⟩) (Kd.R_far (p := ⟨gb143, 0, none⟩) (Kd.R_mono HO_5.out (fun k_ hk => (⟨hk, hk.2⟩ : _ ∧ k_ ≠ gb143))) (fun _ hk => hk.2) (.bool ((rd_T25 l0 x65_3).f0))) (fun _ hk => hk.2) (.int .u64 ((rd_T25 l0 x65_3).f1))) (fun _ hk => hk.2) (.string ((rd_T25 l0 x65_3).f2))) (fun _ hk => hk.2) (.string ((rd_T25 l0 x65_3).f3))) (fun _ h_ => h_.1))) hb); have n1_ := Aside0.mk (blk_below (g := gb118) (o := .cells #[.bool a1_0, .int .u64 a1_1, .string a1_2, .string a1_3] 25 (0, 0)) (by (with_reducible repeat (first | refine blk_drewN ?_ _ | refine blk_drew ?_ | refine blk_alloc ?_ _)); refine blk_far ?_ NB118_143.out _; (with_reducible repeat (first | refine blk_drewN ?_ _ | refine blk_drew ?_ | refine blk_alloc ?_ _)); refine blk_far ?_ NB118_143.out _; (with_reducible repeat (first | refine blk_drewN ?_ _ | refine blk_drew ?_ | refine blk_alloc ?_ _)); refine blk_far ?_ NB118_143.out _; (with_reducible repeat (first | refine blk_drewN ?_ _ | refine blk_drew ?_ | refine blk_alloc ?_ _)); refine blk_far ?_ NB118_143.out _; (with_reducible repeat (first | refine blk_drewN ?_ _ | refine blk_drew ?_ | refine blk_alloc ?_ _)); exact BK118.out) hb); have n2_ := Aside0.mk (blk_below (g := gb143) (o := .cells #[.bool ((rd_T25 l0 x65_3).f0), .int .u64 ((rd_T25 l0 x65_3).f1), .string ((rd_T25 l0 x65_3).f2), .string ((rd_T25 l0 x65_3).f3)] 25 (0, 0)) (by (with_reducible repeat (first | refine blk_drewN ?_ _ | refine blk_drew ?_ | refine blk_alloc ?_ _)); refine blk_put (cs := #[.bool ((rd_T25 l0 x65_3).f0), .int .u64 ((rd_T25 l0 x65_3).f1), .string ((rd_T25 l0 x65_3).f2), .string (⟨#[]⟩ : ByteArray)]) ?_ 3 _ rfl; (with_reducible repeat (first | refine blk_drewN ?_ _ | refine blk_drew ?_ | refine blk_alloc ?_ _)); refine blk_put (cs := #[.bool ((rd_T25 l0 x65_3).f0), .int .u64 ((rd_T25 l0 x65_3).f1), .string (⟨#[]⟩ : ByteArray), .string (⟨#[]⟩ : ByteArray)]) ?_ 2 _ rfl; (with_reducible repeat (first | refine blk_drewN ?_ _ | refine blk_drew ?_ | refine blk_alloc ?_ _)); refine blk_put (cs := #[.bool ((rd_T25 l0 x65_3).f0), .int .u64 0, .string (⟨#[]⟩ : ByteArray), .string (⟨#[]⟩ : ByteArray)]) ?_ 1 _ rfl; (with_reducible repeat (first | refine blk_drewN ?_ _ | refine blk_drew ?_ | refine blk_alloc ?_ _)); refine blk_put (cs := #[.bool false, .int .u64 0, .string (⟨#[]⟩ : ByteArray), .string (⟨#[]⟩ : ByteArray)]) ?_ 0 _ rfl; (with_reducible repeat (first | refine blk_drewN ?_ _ | refine blk_drew ?_ | refine blk_alloc ?_ _)); exact BK143.out) hb); have n3_ := Aside0.mk (below_step (by repeat (first | (with_reducible first | exact HB.out | apply below_alloc | apply pw_below_drewN | apply below_drew1 | refine below_set ?_ GE118.out | refine below_set ?_ GE143.out) | exact HB.out)) hb); clear HO_5; clear BK118; clear BK143; clear HB; have HO_5 := n0_; have BK118 := n1_; have BK143 := n2_; have HB := n3_; clear n0_ n1_ n2_ n3_; (try clear hb); (try clear hb2); (try clear hk); (try clear hi); have hcz82_0 : w81.cell? ⟨gb143, 0, none⟩ = some (.bool ((rd_T25 l0 x65_3).f0)) := (blk_cell BK143.out 0).trans rfl; have hcz82_1 : w81.cell? ⟨gb143, 1, none⟩ = some (.int .u64 ((rd_T25 l0 x65_3).f1)) := (blk_cell BK143.out 1).trans rfl; have hcz82_2 : w81.cell? ⟨gb143, 2, none⟩ = some (.string ((rd_T25 l0 x65_3).f2)) := (blk_cell BK143.out 2).trans rfl; have hcz82_3 : w81.cell? ⟨gb143, 3, none⟩ = some (.string ((rd_T25 l0 x65_3).f3)) := (blk_cell BK143.out 3).trans rfl; have hfz82_0 := blk_frozen BK143.out 0; have hfz82_1 := blk_frozen BK143.out 1; have hfz82_2 := blk_frozen BK143.out 2; have hfz82_3 := blk_frozen BK143.out 3) | ((with_reducible refine gate_callee (f := 12) rfl ?_); refine goesL_ (some 80) rfl rfl Try.func12 (by kernel_rfl) rfl #[.slice Ao34 y137.length co34, .string ((rd_T25 l0 x65_3).f2)] rfl (by (try simp only [List.map_toArray, List.map_cons, List.map_nil]); first | done | rfl | (simp only [List.length_drop, List.length_take]; rfl)) ?_; (with_reducible refine (fold_At.calls _ _ y137 ((rd_T25 l0 x65_3).f2) t146 t147 _ ?side1 ?side2 A50.out).mono ?_); (case side1 => repeat (first | exact (Kd.R_reads' HO_5.out).2.2 | (with_reducible refine Kd.C_alloc ?_ _) | (with_reducible refine Kd.C_drewN ?_ _) | (with_reducible refine Kd.C_drew ?_))); (case side2 => exact (Kd.R_reads' HO_5.out).2.1); rintro e w83 ⟨rfl, hb⟩; refine ⟨_, rfl, ?_⟩; have n0_ := Aside0.mk (Kd.R_below (by (with_reducible repeat (first | apply Kd.R_alloc | apply Kd.R_drewN | apply Kd.R_drew)); exact HO_5.out) hb); have n1_ := Aside0.mk (blk_below (g := gb118) (o := .cells #[.bool a1_0, .int .u64 a1_1, .string a1_2, .string a1_3] 25 (0, 0)) (by (with_reducible repeat (first | refine blk_drewN ?_ _ | refine blk_drew ?_ | refine blk_alloc ?_ _)); exact BK118.out) hb); have n2_ := Aside0.mk (blk_below (g := gb143) (o := .cells #[.bool ((rd_T25 l0 x65_3).f0), .int .u64 ((rd_T25 l0 x65_3).f1), .string ((rd_T25 l0 x65_3).f2), .string ((rd_T25 l0 x65_3).f3)] 25 (0, 0)) (by (with_reducible repeat (first | refine blk_drewN ?_ _ | refine blk_drew ?_ | refine blk_alloc ?_ _)); exact BK143.out) hb); have n3_ := Aside0.mk (below_step (by repeat (first | (with_reducible first | exact HB.out | apply below_alloc | apply pw_below_drewN | apply below_drew1 | refine below_set ?_ GE118.out | refine below_set ?_ GE143.out) | exact HB.out)) hb); clear HO_5; clear BK118; clear BK143; clear HB; have HO_5 := n0_; have BK118 := n1_; have BK143 := n2_; have HB := n3_; clear n0_ n1_ n2_ n3_; (try clear hb); (try clear hb2); (try clear hk); (try clear hi); have hcz84_0 : w83.cell? ⟨gb143, 0, none⟩ = some (.bool ((rd_T25 l0 x65_3).f0)) := (blk_cell BK143.out 0).trans rfl; have hcz84_1 : w83.cell? ⟨gb143, 1, none⟩ = some (.int .u64 ((rd_T25 l0 x65_3).f1)) := (blk_cell BK143.out 1).trans rfl; have hcz84_2 : w83.cell? ⟨gb143, 2, none⟩ = some (.string ((rd_T25 l0 x65_3).f2)) := (blk_cell BK143.out 2).trans rfl; have hcz84_3 : w83.cell? ⟨gb143, 3, none⟩ = some (.string ((rd_T25 l0 x65_3).f3)) := (blk_cell BK143.out 3).trans rfl; have hfz84_0 := blk_frozen BK143.out 0; have hfz84_1 := blk_frozen BK143.out 1; have hfz84_2 := blk_frozen BK143.out 2; have hfz84_3 := blk_frozen BK143.out 3; have hcz85_0 : w83.cell? ⟨gb118, 0, none⟩ = some (.bool a1_0) := (blk_cell BK118.out 0).trans rfl; have hcz85_1 : w83.cell? ⟨gb118, 1, none⟩ = some (.int .u64 a1_1) := (blk_cell BK118.out 1).trans rfl; have hcz85_2 : w83.cell? ⟨gb118, 2, none⟩ = some (.string a1_2) := (blk_cell BK118.out 2).trans rfl; have hcz85_3 : w83.cell? ⟨gb118, 3, none⟩ = some (.string a1_3) := (blk_cell BK118.out 3).trans rfl; have hfz85_0 := blk_frozen BK118.out 0; have hfz85_1 := blk_frozen BK118.out 1; have hfz85_2 := blk_frozen BK118.out 2; have hfz85_3 := blk_frozen BK118.out 3))
                                go_ret
                                exact ⟨by first | rfl | (simp [errW_none, errW_some] <;> rfl) | (simp [*, errW_none, errW_some] <;> rfl), by repeat (first | (with_reducible first | exact HB.out | apply below_alloc | apply pw_below_drewN | apply below_drew1 | refine below_set ?_ GE118.out | refine below_set ?_ GE143.out) | exact HB.out)⟩
                          · rw [if_neg c48] at H
                            exact absurd H (by simp)
                        · rw [if_neg c47] at H
                          exact absurd H (by simp)
                      · rw [if_neg c46] at H
                        have c46b0 : decide (x65_3 < (l0.length : Int)) = false := decide_eq_false c46
                        clear c46
                        obtain rfl := Option.some.inj H
                        go_wp2
                        go_ret
                        exact ⟨by first | rfl | (simp [errW_none, errW_some] <;> rfl) | (simp [*, errW_none, errW_some] <;> rfl), by repeat (first | (with_reducible first | exact HB.out | apply below_alloc | apply pw_below_drewN | apply below_drew1 | refine below_set ?_ GE118.out) | exact HB.out)⟩
          · rw [if_neg c21] at H
            exact absurd H (by simp)
        · rw [if_neg c20] at H
          exact absurd H (by simp)

end Go.Proofs.Ytbcccobbmphaeaa.Q
