/- Texts of this claim's author and of the print of its functions, merged by merge.py. -/
import Derived.Test.YtnnofopfbeklbaaGreatMD03
set_option linter.unusedVariables false
set_option linter.unusedSimpArgs false
set_option maxHeartbeats 8000000
set_option maxRecDepth 100000
section
namespace Go.Proofs.YtnnofopfbeklbaaGreat.C
open Go.RowKit Go.Proofs.YtnnofopfbeklbaaGreatW.PrintWords Go.Proofs.YtnnofopfbeklbaaGreatW.PrintLast Go.Proofs.YtnnofopfbeklbaaGreatW.PrintMore
attribute [local go_sem] Qgh Qgi Qgj Qgk Qgl Qgm Qgn Qgo
def Qbz.l0 : Nat → List Int → List (List (S39)) → List (S39) → Int → Int → Option ((List (List (S39))))
 | 0, _, _, _, _, _ => none
 | k + 1, x1, x5, x8, x9, x10 => if x10 < x9 then (if 0 ≤ x10 then (if x10 < (x8.length : Int) then (if x10 < (x1.length : Int) then (if (IntKind.u64.wrap ((x5.length : Int))) ≤ (rd x1 x10) then (if x5.length < 5864062014805 then ((some (x5 ++ [[]] : List (List (S39)))).bind fun y500 => (if 0 ≤ (rd x1 x10) then (if (rd x1 x10) < (y500.length : Int) then (if (Qhc y500 (rd x1 x10)).length < 2932031007402 then (Qbz.l0 k x1 (y500.set ((rd x1 x10) : Int).toNat ((Qhc y500 (rd x1 x10)) ++ [(⟨(Qgy x8 x10).f0, (Qgy x8 x10).f1, (Qgy x8 x10).f2, (Qgy x8 x10).f3⟩ : S39)])) x8 x9 (wrap64 (x10 + 1))) else (none)) else (none)) else (none))) else (none)) else (if 0 ≤ (rd x1 x10) then (if (rd x1 x10) < (x5.length : Int) then (if (Qhc x5 (rd x1 x10)).length < 2932031007402 then (Qbz.l0 k x1 (x5.set ((rd x1 x10) : Int).toNat ((Qhc x5 (rd x1 x10)) ++ [(⟨(Qgy x8 x10).f0, (Qgy x8 x10).f1, (Qgy x8 x10).f2, (Qgy x8 x10).f3⟩ : S39)])) x8 x9 (wrap64 (x10 + 1))) else (none)) else (none)) else (none))) else (none)) else (none)) else (none)) else (some x5)
def Qbz.f (k : Nat) (l0 : List (S39)) (l1 : List Int) : Option ((List (List (S39)))) := Qbz.l0 k l1 ([] : List (List (S39))) l0 (l0.length : Int) 0
def Qbz.T7 : Bool × List (List Nat × List Nat) := (true, [([], []), ([], []), ([], []), ([1, 2], [1, 2]), ([3], [3]), ([], []), ([], []), ([], []), ([6, 7], [6, 7]), ([8], [8]), ([5, 9], [5, 9]), ([10], [10]), ([], []), ([12], [12]), ([11, 13], [11, 13]), ([0, 4, 0, 1, 2, 3, 4, 5, 6, 7, 8, 9, 10, 11, 12, 13, 14], [0, 4]), ([15, 14, 14, 0, 1, 2, 3, 4, 5, 6, 7, 8, 9, 10, 11, 12, 13, 14], [14, 15])])
def Qbz.B7 : List Nat := [0, 0, 0, 6, 14, 0, 0, 0, 192, 448, 992, 2016, 0, 4096, 16352, 32767, 65535]
theorem Qbz.tab7 : rtab .any (Qgb Tryz.f74 7) = Qbz.T7 := by kernel_rfl
theorem Qbz.bits7 : Qfx Qbz.T7.2 Qbz.B7 = true := by kernel_rfl
theorem Qbz.calls (k : Nat) (A0 : Option Addr) (c0 : Nat) (l0 : List (S39)) (A1 : Option Addr) (c1 : Nat) (l1 : List Int) (r : List (List (S39))) (w : World) (hr0 : Kd.C k39 w A0 l0.length l0) (hc0 : l0.length ≤ c0) (hr1 : Kd.C (Kd.int .u64) w A1 l1.length l1) (hc1 : l1.length ≤ c1) (h : Qbz.f k l0 l1 = some r) :
  Calls Tryz.prog 74 #[.slice A0 l0.length c0, .slice A1 l1.length c1] w fun e w' => ∃ v0_ : Value, e = .returned (v0_) ∧ Kd.S (Kd.slice 39 k39) 23 w' w.heap.size (fun _ => True) v0_ r ∧ Below w.heap.size w w' := by
 have hu39 := Tryz.underlying39
 have HR0 := QA hr0
 have HC0 := QA hc0
 clear hr0 hc0
 have HR1 := QA hr1
 have HC1 := QA hc1
 clear hr1 hc1
 have HB := QA (Below.refl w.heap.size w)
 have H : (Qbz.l0 k l1 ([] : List (List (S39))) l0 (l0.length : Int) 0) = some r := h
 clear h
 have H' := QA H
 clear H
 go_enter Tryz.func74, Tryz.ntmps74
 go_wp2
 go_loopg [5, 10] k (fun kq v5 v10 w' => ∃ (x5_1 : List (List (S39))) (x10_1 : Int), v10 = .int .i64 x10_1 ∧ Aside0 (Qbz.l0 kq l1 x5_1 l0 (l0.length : Int) x10_1 = some r) ∧ Aside0 (kq ≤ k) ∧ Aside0 (Kd.S (Kd.slice 39 k39) 23 w' w.heap.size (fun _ => True) v5 x5_1) ∧ Aside0 (Below w.heap.size w w'))
 case atStart => exact ⟨(([] : List (List (S39)))), (0), qq_6, H', ⟨Nat.le_refl _⟩, ⟨by first | exact Kd.S_nil _ _ _ _ _ | exact Kd.N_nil _ _ _ _ _ | exact Kd.V_nil _ _ _ _ _ | exact Kd.Q_nil _ _ _ _ _ | exact Kd.R_nil _ _ _ _ _⟩, ⟨qq_b⟩⟩
 case round =>
  clear H'
  try clear c1
  obtain ⟨x5_1, x10_1, rfl, HA, HK1, HO_5, HB⟩ := hrel
  cases gk with
  | zero => exact absurd HA.out (by simp [Qbz.l0])
  | succ k1 =>
   have H := HA.out
   clear HA
   simp only [Qbz.l0] at H
   by_cases c3 : x10_1 < (l0.length : Int)
   ·rw [if_pos c3] at H
    have c3b0 : decide (x10_1 < (l0.length : Int)) = true := decide_eq_true c3
    clear c3
    by_cases c4 : 0 ≤ x10_1
    ·rw [if_pos c4] at H
     have c4b0 : decide (0 ≤ x10_1) = true := decide_eq_true c4
     clear c4
     by_cases c5 : x10_1 < (l0.length : Int)
     ·rw [if_pos c5] at H
      have c5b0 : decide (x10_1 < (l0.length : Int)) = true := decide_eq_true c5
      clear c5
      by_cases c6 : x10_1 < (l1.length : Int)
      ·rw [if_pos c6] at H
       have c6b0 : decide (x10_1 < (l1.length : Int)) = true := decide_eq_true c6
       clear c6
       by_cases c7 : (IntKind.u64.wrap ((x5_1.length : Int))) ≤ (rd l1 x10_1)
       ·rw [if_pos c7] at H
        have c7b0 : decide ((IntKind.u64.wrap ((x5_1.length : Int))) ≤ (rd l1 x10_1)) = true := decide_eq_true c7
        clear c7
        by_cases c8 : x5_1.length < 5864062014805
        ·rw [if_pos c8] at H
         have LMc8 := QA c8
         clear c8
         obtain ⟨y500, hy500⟩ : ∃ y_ : List (List (S39)), y_ = (x5_1 ++ [[]]) := ⟨_, rfl⟩
         replace H : (if 0 ≤ (rd l1 x10_1) then (if (rd l1 x10_1) < (y500.length : Int) then (if (Qhc y500 (rd l1 x10_1)).length < 2932031007402 then (Qbz.l0 k1 l1 (y500.set ((rd l1 x10_1) : Int).toNat ((Qhc y500 (rd l1 x10_1)) ++ [(⟨(Qgy l0 x10_1).f0, (Qgy l0 x10_1).f1, (Qgy l0 x10_1).f2, (Qgy l0 x10_1).f3⟩ : S39)])) l0 (l0.length : Int) (wrap64 (x10_1 + 1))) else (none)) else (none)) else (none)) = some r := by first | (rw [hy500]; with_reducible exact H) | (have H2_ := (Option.bind_some _ _).symm.trans H; rw [hy500]; with_reducible exact H2_) | (have H2_ := (Option.bind_some _ _).symm.trans H; with_reducible exact H2_) | with_reducible exact H | (rw [hy500]; exact H) | exact H
         have Ny500 := QA hy500
         clear hy500
         by_cases c9 : 0 ≤ (rd l1 x10_1)
         ·rw [if_pos c9] at H
          have c9b0 : decide (0 ≤ (rd l1 x10_1)) = true := decide_eq_true c9
          clear c9
          by_cases c10 : (rd l1 x10_1) < (y500.length : Int)
          ·rw [if_pos c10] at H
           have c10b0 : decide ((rd l1 x10_1) < (y500.length : Int)) = true := decide_eq_true c10
           clear c10
           by_cases c11 : (Qhc y500 (rd l1 x10_1)).length < 2932031007402
           ·rw [if_pos c11] at H
            have LMc11 := QA c11
            clear c11
            obtain ⟨y506, hy506⟩ : ∃ y_ : List (S39), y_ = ((Qhc y500 (rd l1 x10_1)) ++ [(⟨(Qgy l0 x10_1).f0, (Qgy l0 x10_1).f1, (Qgy l0 x10_1).f2, (Qgy l0 x10_1).f3⟩ : S39)]) := ⟨_, rfl⟩
            replace H : (Qbz.l0 k1 l1 (y500.set ((rd l1 x10_1) : Int).toNat y506) l0 (l0.length : Int) (wrap64 (x10_1 + 1))) = some r := by first | (rw [hy506]; with_reducible exact H) | (have H2_ := (Option.bind_some _ _).symm.trans H; rw [hy506]; with_reducible exact H2_) | (have H2_ := (Option.bind_some _ _).symm.trans H; with_reducible exact H2_) | with_reducible exact H | (rw [hy506]; exact H) | exact H
            have Ny506 := QA hy506
            clear hy506
            obtain ⟨y509, hy509⟩ : ∃ y_ : List (List (S39)), y_ = (y500.set ((rd l1 x10_1) : Int).toNat y506) := ⟨_, rfl⟩
            replace H : (Qbz.l0 k1 l1 y509 l0 (l0.length : Int) (wrap64 (x10_1 + 1))) = some r := by first | (rw [hy509]; with_reducible exact H) | (have H2_ := (Option.bind_some _ _).symm.trans H; rw [hy509]; with_reducible exact H2_) | (have H2_ := (Option.bind_some _ _).symm.trans H; with_reducible exact H2_) | with_reducible exact H | (rw [hy509]; exact H) | exact H
            have Ny509 := QA hy509
            clear hy509
            have H' := QA H
            clear H
            have p497 : 0 ≤ (x10_1 : Int) := of_decide_eq_true qq_5
            have q497 : x10_1 < (l0.length : Int) := of_decide_eq_true qq_5
            obtain ⟨ad497, e497, hx497_0, hx497_1, hx497_2, hx497_3⟩ := Qgz HR0.out x10_1 p497 q497
            cases e497
            replace hx497_0 := qq_h HB.out hx497_0
            replace hx497_1 := qq_h HB.out hx497_1
            replace hx497_2 := qq_h HB.out hx497_2
            replace hx497_3 := qq_h HB.out hx497_3
            replace p497 := eq_true p497
            replace q497 := eq_true q497
            try go_wp2_with (first | ((with_reducible refine Qer (N := 7) rfl ?_); refine qq_e 7 #[.bool false, .int .u64 0, .string (⟨#[]⟩ : ByteArray), .string (⟨#[]⟩ : ByteArray)] 39 ?_; intro gb498 hg w13 hbox hb; have n0_ := QA (Kd.S_below (Kd.S_elderB (by (with_reducible repeat (first | apply Kd.S_alloc | apply Kd.S_drewN | apply Kd.S_drew)); exact HO_5.out) gb498 (Nat.le_of_eq hg.symm)) hb); have n1_ := QA (Qem qq_b hb); have n2_ := QA (hbox); have n3_ := QA ((qq_s hg : w.heap.size ≤ gb498)); have n4_ := QA ((qq_s hg : w.heap.size ≤ gb498)); clear HO_5; clear HB; have HO_5 := n0_; have HB := n1_; have BK498 := n2_; have GW498 := n3_; have GE498 := n4_; clear n0_ n1_ n2_ n3_ n4_; clear hb hbox hg; have hcz14_0 := qq_c (.bool false) BK498.out 0 rfl; have hcz14_1 := qq_c (.int .u64 0) BK498.out 1 rfl; have hcz14_2 := qq_c (.string (⟨#[]⟩ : ByteArray)) BK498.out 2 rfl; have hcz14_3 := qq_c (.string (⟨#[]⟩ : ByteArray)) BK498.out 3 rfl; have hfz14_0 := Qdt BK498.out 0; have hfz14_1 := Qdt BK498.out 1; have hfz14_2 := Qdt BK498.out 2; have hfz14_3 := Qdt BK498.out 3; obtain ⟨Ao15, co15, eo15⟩ := Kd.S_slice HO_5.out; subst eo15; have p499 : 0 ≤ (x10_1 : Int) := of_decide_eq_true qq_5; have q499 : x10_1 < (l1.length : Int) := of_decide_eq_true qq_5; obtain ⟨ad499, e499, hx499_0⟩ := Kd.at_int HR1.out x10_1 p499 q499; cases e499; have hn499_0 : ad499.block ≠ gb498 := Nat.ne_of_lt (Nat.lt_of_lt_of_le qq_14 GW498.out); have hn499_1 : ad499.block ≠ gb498 := Nat.ne_of_lt (Nat.lt_of_lt_of_le qq_14 GW498.out); have hn499_2 : ad499.block ≠ gb498 := Nat.ne_of_lt (Nat.lt_of_lt_of_le qq_14 GW498.out); have hn499_3 : ad499.block ≠ gb498 := Nat.ne_of_lt (Nat.lt_of_lt_of_le qq_14 GW498.out); replace hx499_0 := qq_h HB.out hx499_0; replace hx499_0 := (Qeo (p := ⟨gb498, 0, none⟩) qq_3 (.bool ((Qgy l0 x10_1).f0))).trans hx499_0; replace hx499_0 := (Qeo (p := ⟨gb498, 1, none⟩) qq_3 (.int .u64 ((Qgy l0 x10_1).f1))).trans hx499_0; replace hx499_0 := (Qeo (p := ⟨gb498, 2, none⟩) qq_3 (.string ((Qgy l0 x10_1).f2))).trans hx499_0; replace hx499_0 := (Qeo (p := ⟨gb498, 3, none⟩) qq_3 (.string ((Qgy l0 x10_1).f3))).trans hx499_0; clear hn499_0; clear hn499_1; clear hn499_2; clear hn499_3; replace p499 := eq_true p499; replace q499 := eq_true q499) | ((with_reducible refine Qgq (b := .append) (xs := #[.tmp 23, .tmp 24]) rfl ?_); at_builtin; refine Kd.S_append (Kd.slice 39 k39) (w0 := w) w.heap.size rfl (.tmp 23) (.tmp 24) 136 23 (.slice none 0 0) 24 rfl Tryz.underlying136 info23 rfl (by decide) (by omega) (.slice Ao15 x5_1.length co15) x5_1 [] [.slice none 0 0] (fun k_ => k_ ≠ gb498) (fun _ => False) rfl qq_13 ?aP (fun _ hk => hk.elim) ?aF ?aO ?aB ?aS ?aL ?_; (case aP => exact Kd.M_row (Kd.R_nil _ _ _ _ _)); (case aB => exact qq_b); (case aF => exact (fun k_ hk => Kd.freshB (g := gb498) (o := .cells #[.bool ((Qgy l0 x10_1).f0), .int .u64 ((Qgy l0 x10_1).f1), .string ((Qgy l0 x10_1).f2), .string ((Qgy l0 x10_1).f3)] 39 (0, 0)) (by (with_reducible repeat (first | apply Qea | apply Qdz | apply Qdy)); refine Qep (cs := #[.bool ((Qgy l0 x10_1).f0), .int .u64 ((Qgy l0 x10_1).f1), .string ((Qgy l0 x10_1).f2), .string (⟨#[]⟩ : ByteArray)]) ?_ 3 _ rfl; (with_reducible repeat (first | apply Qea | apply Qdz | apply Qdy)); refine Qep (cs := #[.bool ((Qgy l0 x10_1).f0), .int .u64 ((Qgy l0 x10_1).f1), .string (⟨#[]⟩ : ByteArray), .string (⟨#[]⟩ : ByteArray)]) ?_ 2 _ rfl; (with_reducible repeat (first | apply Qea | apply Qdz | apply Qdy)); refine Qep (cs := #[.bool ((Qgy l0 x10_1).f0), .int .u64 0, .string (⟨#[]⟩ : ByteArray), .string (⟨#[]⟩ : ByteArray)]) ?_ 1 _ rfl; (with_reducible repeat (first | apply Qea | apply Qdz | apply Qdy)); refine Qep (cs := #[.bool false, .int .u64 0, .string (⟨#[]⟩ : ByteArray), .string (⟨#[]⟩ : ByteArray)]) ?_ 0 _ rfl; (with_reducible repeat (first | apply Qea | apply Qdz | apply Qdy)); exact BK498.out) k_ hk)); (case aO => exact (by (with_reducible repeat (first | apply Kd.S_alloc | apply Kd.S_drewN | apply Kd.S_drew)); exact Kd.S_mono (Kd.S_far (p := ⟨gb498, 3, none⟩) (Kd.S_far (p := ⟨gb498, 2, none⟩) (Kd.S_far (p := ⟨gb498, 1, none⟩) (Kd.S_far (p := ⟨gb498, 0, none⟩) (Kd.S_mono HO_5.out (fun k_ hk => (⟨hk, hk.2⟩ : _ ∧ k_ ≠ gb498))) (fun _ hk => hk.2) (.bool ((Qgy l0 x10_1).f0))) (fun _ hk => hk.2) (.int .u64 ((Qgy l0 x10_1).f1))) (fun _ hk => hk.2) (.string ((Qgy l0 x10_1).f2))) (fun _ hk => hk.2) (.string ((Qgy l0 x10_1).f3))) (fun k_ hk => ⟨hk.1.2, fun e_ => e_⟩))); (case aS => exact (Qel qq_b)); (case aL => have := LMc8.out; omega); intro v501 w16 ho hb hg hat; rw [← Ny500.out] at ho; have n0_ := QA (Qdu (g := gb498) (o := .cells #[.bool ((Qgy l0 x10_1).f0), .int .u64 ((Qgy l0 x10_1).f1), .string ((Qgy l0 x10_1).f2), .string ((Qgy l0 x10_1).f3)] 39 (0, 0)) (by (with_reducible repeat (first | apply Qea | apply Qdz | apply Qdy)); refine Qep (cs := #[.bool ((Qgy l0 x10_1).f0), .int .u64 ((Qgy l0 x10_1).f1), .string ((Qgy l0 x10_1).f2), .string (⟨#[]⟩ : ByteArray)]) ?_ 3 _ rfl; (with_reducible repeat (first | apply Qea | apply Qdz | apply Qdy)); refine Qep (cs := #[.bool ((Qgy l0 x10_1).f0), .int .u64 ((Qgy l0 x10_1).f1), .string (⟨#[]⟩ : ByteArray), .string (⟨#[]⟩ : ByteArray)]) ?_ 2 _ rfl; (with_reducible repeat (first | apply Qea | apply Qdz | apply Qdy)); refine Qep (cs := #[.bool ((Qgy l0 x10_1).f0), .int .u64 0, .string (⟨#[]⟩ : ByteArray), .string (⟨#[]⟩ : ByteArray)]) ?_ 1 _ rfl; (with_reducible repeat (first | apply Qea | apply Qdz | apply Qdy)); refine Qep (cs := #[.bool false, .int .u64 0, .string (⟨#[]⟩ : ByteArray), .string (⟨#[]⟩ : ByteArray)]) ?_ 0 _ rfl; (with_reducible repeat (first | apply Qea | apply Qdz | apply Qdy)); exact BK498.out) hg (Kd.S_ne HO_5.out BK498.out (by decide))); have n1_ := QA (hb); have n2_ := QA (ho); clear BK498; clear HB; clear HO_5; have BK498 := n0_; have HB := n1_; have HO502 := n2_; clear n0_ n1_ n2_; clear ho hb hg hat))
            have n0_ := QA (Kd.S_drew HO502.out)
            have n1_ := QA (Qdz BK498.out)
            have n2_ := QA (Qeq HB.out)
            clear HO502
            clear BK498
            clear HB
            have HO502 := n0_
            have BK498 := n1_
            have HB := n2_
            clear n0_ n1_ n2_
            have p503 : 0 ≤ (x10_1 : Int) := of_decide_eq_true qq_5
            have q503 : x10_1 < (l1.length : Int) := of_decide_eq_true qq_5
            obtain ⟨ad503, e503, hx503_0⟩ := Kd.at_int HR1.out x10_1 p503 q503
            have hw503_0 := hx503_0
            obtain rfl : ad499 = ad503 := (by injection e503)
            replace hx503_0 := qq_h HB.out hx503_0
            replace p503 := eq_true p503
            replace q503 := eq_true q503
            have p504 : 0 ≤ (x10_1 : Int) := of_decide_eq_true qq_5
            have q504 : x10_1 < (l1.length : Int) := of_decide_eq_true qq_5
            obtain ⟨ad504, e504, hx504_0⟩ := Kd.at_int HR1.out x10_1 p504 q504
            have hw504_0 := hx504_0
            obtain rfl : ad499 = ad504 := (by injection e504)
            replace hx504_0 := qq_h HB.out hx504_0
            replace p504 := eq_true p504
            replace q504 := eq_true q504
            obtain ⟨Ao18, co18, eo18⟩ := Kd.S_slice HO502.out
            (first | subst eo18 | (injection eo18 with f1_ f2_ f3_; have f4_ := f1_.symm; have f5_ := f3_.symm; clear f1_ f2_ f3_; subst f4_; subst f5_))
            have p505 : 0 ≤ ((rd l1 x10_1) : Int) := of_decide_eq_true qq_5
            have q505 : (rd l1 x10_1) < (y500.length : Int) := of_decide_eq_true qq_5
            obtain ⟨ad505, A505_0, c505_0, e505, hx505_0, hl505_0, hi505_0⟩ := at_L10 (Kd.S_reads' HO502.out).2.2 (rd l1 x10_1) p505 q505
            cases e505
            obtain ⟨ce505, hce505, hMe505, hcc505⟩ := Kd.S_get HO502.out [] (rd l1 x10_1) p505 (by first | exact q505 | exact of_decide_eq_true qq_5 | (have e_ := (Kd.S_reads' HO502.out).1; omega))
            obtain ⟨ve505_0, rfl, ge505_0⟩ := hMe505
            have hv505_0 := hcc505 0 _ rfl
            rw [Nat.add_zero, show ((Kd.slice 39 k39)).sz = 1 from rfl, Nat.mul_one] at hv505_0
            replace hv505_0 := Option.some.inj (hv505_0.symm.trans hx505_0)
            rw [hv505_0] at ge505_0
            have HL505_0 := QA (show Kd.R k39 39 _ _ _ _ (Qhc y500 (rd l1 x10_1)) from ge505_0)
            clear hv505_0 ge505_0
            have HX505_0 := QA hx505_0
            clear hcc505 hce505
            have HR505_0 := QA hi505_0
            have HC505_0 := QA hl505_0
            clear hi505_0 hl505_0
            replace p505 := eq_true p505
            replace q505 := eq_true q505
            obtain ⟨go19, co19, eo19, gb19, gl19, cl19, HG19⟩ := Kd.S_form HO502.out (by have h_ : ((rd l1 x10_1) : Int) < ((y500.length : Int) : Int) := of_decide_eq_true qq_5; have h2_ : 0 ≤ ((rd l1 x10_1) : Int) := (of_decide_eq_true qq_5); omega)
            (first | cases eo19 | (injection eo19 with ea_ en_ ec_; (first | subst ea_ | (injection ea_ with ea_; subst ea_)); subst ec_; clear en_))
            have GB19 := QA gb19
            have GG19 := QA HG19
            clear gb19 gl19 HG19
            (first | simp only [Qdd] at hx505_0 | skip)
            obtain ⟨oki19, ce19, hcl19, hM19, hcc19, _, _, hH19⟩ := Kd.S_elem HO502.out [] ((rd l1 x10_1) : Int) (of_decide_eq_true qq_5) (by have h_ : ((rd l1 x10_1) : Int) < ((y500.length : Int) : Int) := of_decide_eq_true qq_5; first | exact h_ | (have e_ := (Kd.S_reads' HO502.out).1; omega) | simpa using h_)
            obtain ⟨ve19_0, rfl, ge19_0⟩ := hM19
            have hv19 := hcc19 0 _ rfl
            have hX19 := HX505_0.out
            (try simp only [Qdd] at hX19)
            (try simp only [Nat.add_zero] at hv19)
            (try rw [show ((Kd.slice 39 k39)).sz = 1 from rfl, Nat.mul_one] at hv19)
            replace hv19 := Option.some.inj (hv19.symm.trans hX19)
            subst hv19
            clear hX19 hcc19 hcl19
            have UU19 := QA (show Kd.R k39 39 _ w.heap.size oki19 (.slice A505_0 (Qhc y500 (rd l1 x10_1)).length c505_0) (Qhc y500 (rd l1 x10_1)) from ge19_0)
            have HH19 := QA hH19
            have HN19 := QA (Kd.S_reads' HO502.out).1
            clear hH19 ge19_0
            refine Qez (n := 17) (S := fun w' => w'.cell? ⟨gb498, 0, none⟩ = some (.bool ((Qgy l0 x10_1).f0)) ∧ w'.cell? ⟨gb498, 1, none⟩ = some (.int .u64 ((Qgy l0 x10_1).f1)) ∧ w'.cell? ⟨gb498, 2, none⟩ = some (.string ((Qgy l0 x10_1).f2)) ∧ w'.cell? ⟨gb498, 3, none⟩ = some (.string ((Qgy l0 x10_1).f3)) ∧ w'.cell? (ad499.add (x10_1).toNat) = some (.int .u64 (rd l1 x10_1)) ∧ w'.cell? (ad499.add (x10_1).toNat) = some (.int .u64 (rd l1 x10_1)) ∧ w'.cell? ⟨go19, ((rd l1 x10_1)).toNat, none⟩ = some (.slice A505_0 (Qhc y500 (rd l1 x10_1)).length c505_0)) (ds := [16]) #[false, false, false, false, false, false, false, false, false, false, false, false, false, false, false, false, false] qq_7 rfl rfl ⟨(Qds BK498.out 0).trans rfl, (Qds BK498.out 1).trans rfl, (Qds BK498.out 2).trans rfl, (Qds BK498.out 3).trans rfl, ((HB.out.cell (World.block_lt_of_cell? w _ hw503_0)).trans hw503_0), ((HB.out.cell (World.block_lt_of_cell? w _ hw504_0)).trans hw504_0), hx505_0⟩ (fun hHeld => ?_); refine Qfz Qbz.tab7 Qbz.bits7 (fun HT_ HW_ => ?_)
            generalize w16.drew = w17 at HO502 BK498 HB GG19 HH19 HL505_0 HR505_0 HX505_0 UU19 hx503_0 hx504_0 hx505_0 hHeld ⊢
            refine Qfa (i := 0) (N := some 26) (v := ?_) (a' := ?_) #[true, false, false, false, false, false, false, false, false, false, false, false, false, false, false, false, false] rfl rfl (Qft HT_.out qq_7) (fun _ _ _ h => h) (Or.inl ⟨by rfl, ?_⟩) ?_ ?_
            rotate_left
            ·intro w'
             go_simp
             with_reducible rfl
            rotate_left
            ·exact qq_2
            refine Qfa (i := 1) (N := some 27) (v := ?_) (a' := ?_) #[true, true, false, false, false, false, false, false, false, false, false, false, false, false, false, false, false] rfl rfl (Qft HT_.out qq_7) (fun _ _ _ h => h) (Or.inl ⟨by rfl, ?_⟩) ?_ ?_
            rotate_left
            ·intro w'
             go_simp
             with_reducible rfl
            rotate_left
            ·exact qq_2
            refine Qfa (i := 2) (N := some 28) (v := ?_) (a' := ?_) #[true, true, true, false, false, false, false, false, false, false, false, false, false, false, false, false, false] rfl rfl (Qft HT_.out qq_7) (fun _ _ _ h => h) (Or.inl ⟨by rfl, ?_⟩) ?_ ?_
            rotate_left
            ·intro w'
             go_simp
             with_reducible rfl
            rotate_left
            ·exact qq_2
            refine Qfa (i := 3) (N := some 29) (v := ?_) (a' := ?_) #[true, true, true, true, false, false, false, false, false, false, false, false, false, false, false, false, false] rfl rfl (Qft HT_.out qq_7) (fun _ _ _ h => h) (Or.inl ⟨by rfl, ?_⟩) ?_ ?_
            rotate_left
            ·intro w'
             go_simp
             with_reducible rfl
            rotate_left
            ·exact qq_2
            refine Qfa (i := 5) (N := some 31) (v := ?_) (a' := ?_) #[true, true, true, true, false, true, false, false, false, false, false, false, false, false, false, false, false] rfl rfl (Qft HT_.out qq_7) (fun _ _ _ h => h) (Or.inl ⟨by rfl, ?_⟩) ?_ ?_
            rotate_left
            ·intro w'
             go_simp
             with_reducible rfl
            rotate_left
            ·exact qq_2
            refine Qfa (i := 6) (N := some 32) (v := ?_) (a' := ?_) #[true, true, true, true, false, true, true, false, false, false, false, false, false, false, false, false, false] rfl rfl (Qft HT_.out qq_7) (fun _ _ _ h => h) (Or.inl ⟨by rfl, ?_⟩) ?_ ?_
            rotate_left
            ·intro w'
             go_simp
             with_reducible rfl
            rotate_left
            ·exact qq_2
            refine Qfa (i := 7) (N := some 33) (v := ?_) (a' := ?_) #[true, true, true, true, false, true, true, true, false, false, false, false, false, false, false, false, false] rfl rfl (Qft HT_.out qq_7) (fun _ _ _ h => h) (Or.inl ⟨by rfl, ?_⟩) ?_ ?_
            rotate_left
            ·intro w'
             go_simp
             with_reducible rfl
            rotate_left
            ·exact qq_2
            refine Qfa (i := 8) (N := some 34) (v := ?_) (a' := ?_) #[true, true, true, true, false, true, true, true, true, false, false, false, false, false, false, false, false] rfl rfl (Qft HT_.out qq_7) (fun _ _ _ h => h) (Or.inl ⟨by rfl, ?_⟩) ?_ ?_
            rotate_left
            ·intro w'
             go_simp
             with_reducible rfl
            rotate_left
            ·exact qq_2
            refine take_ (i := 4) (N := some 30) (v := ?_) (a' := ?_) #[true, true, true, true, true, true, true, true, true, false, false, false, false, false, false, false, false] rfl rfl (Qfy HT_.out HW_.out qq_7) (fun _ _ _ h => h) (Or.inl ⟨by rfl, ?_⟩) hHeld ?_ ?_
            rotate_left
            ·rintro w' ⟨s0, s1, s2, s3, s4, s5, s6⟩
             go_simp
             with_reducible rfl
            rotate_left
            ·exact qq_2
            refine take_ (i := 9) (N := some 35) (v := ?_) (a' := ?_) #[true, true, true, true, true, true, true, true, true, true, false, false, false, false, false, false, false] rfl rfl (Qfy HT_.out HW_.out qq_7) (fun _ _ _ h => h) (Or.inl ⟨by rfl, ?_⟩) hHeld ?_ ?_
            rotate_left
            ·rintro w' ⟨s0, s1, s2, s3, s4, s5, s6⟩
             go_simp
             with_reducible rfl
            rotate_left
            ·exact qq_2
            refine Qfa (i := 10) (N := some 36) (v := ?_) (a' := ?_) #[true, true, true, true, true, true, true, true, true, true, true, false, false, false, false, false, false] rfl rfl (Qft HT_.out qq_7) (fun _ _ _ h => h) (Or.inl ⟨by rfl, ?_⟩) ?_ ?_
            rotate_left
            ·intro w'
             go_simp
             with_reducible rfl
            rotate_left
            ·exact qq_2
            refine take_ (i := 11) (N := some 37) (v := ?_) (a' := ?_) #[true, true, true, true, true, true, true, true, true, true, true, true, false, false, false, false, false] rfl rfl (Qfy HT_.out HW_.out qq_7) (fun _ _ _ h => h) (Or.inl ⟨by rfl, ?_⟩) hHeld ?_ ?_
            rotate_left
            ·rintro w' ⟨s0, s1, s2, s3, s4, s5, s6⟩
             go_simp
             with_reducible rfl
            rotate_left
            ·exact qq_2
            refine take_ (i := 12) (N := some 38) (v := ?_) (a' := ?_) #[true, true, true, true, true, true, true, true, true, true, true, true, true, false, false, false, false] rfl rfl (Qfy HT_.out HW_.out qq_7) (fun _ _ _ h => h) (Or.inl ⟨by rfl, ?_⟩) hHeld ?_ ?_
            rotate_left
            ·rintro w' ⟨s0, s1, s2, s3, s4, s5, s6⟩
             go_simp
             with_reducible rfl
            rotate_left
            ·exact qq_2
            refine one_ (i := 13) (N := some 39) #[true, true, true, true, true, true, true, true, true, true, true, true, true, true, false, false, false] rfl rfl (Qfu HT_.out qq_7) (by decide) (fun K hK => ?_)
            refine Qfh (w1 := ?_) (v := ?_) (by rfl) rfl ?_ ?_
            rotate_left 2
            ·go_simp
             constructor
             ·rfl
             ·rfl
            refine hK.out _ _ ⟨(Qds (Qdy BK498.out _) 0).trans rfl, (Qds (Qdy BK498.out _) 1).trans rfl, (Qds (Qdy BK498.out _) 2).trans rfl, (Qds (Qdy BK498.out _) 3).trans rfl, (World.cell?_alloc_lt _ _ _ (World.block_lt_of_cell? _ _ (((HB.out.cell (World.block_lt_of_cell? w _ hw503_0)).trans hw503_0)))).trans (((HB.out.cell (World.block_lt_of_cell? w _ hw503_0)).trans hw503_0)), (World.cell?_alloc_lt _ _ _ (World.block_lt_of_cell? _ _ (((HB.out.cell (World.block_lt_of_cell? w _ hw504_0)).trans hw504_0)))).trans (((HB.out.cell (World.block_lt_of_cell? w _ hw504_0)).trans hw504_0)), (World.cell?_alloc_lt _ _ _ (World.block_lt_of_cell? _ _ (hHeld.2.2.2.2.2.2))).trans (hHeld.2.2.2.2.2.2)⟩ (fun hHeld => ?_)
            clear hK K
            refine Qfe (a' := ?_) ?_ ?_
            rotate_left
            ·show Act.put _ (some 39) _ = _
             simp only [Act.put, List.setIfInBounds_toArray, List.set_cons_zero, List.set_cons_succ, Qfi, Qfj]
             rfl
            refine one_ (i := 14) (N := some 40) #[true, true, true, true, true, true, true, true, true, true, true, true, true, true, true, false, false] rfl rfl (Qfu HT_.out qq_7) (by decide) (fun K hK => ?_)
            refine Kd.R_append_step k39 (w0 := w) w.heap.size (by rfl) (.tmp 37) (.tmp 39) 23 39 (.agg #[(.bool false), (.int .u64 0), (.string ⟨#[]⟩), (.string ⟨#[]⟩)]) 48 rfl Tryz.underlying23 info39 rfl (by decide) (by omega) (.slice A505_0 (Qhc y500 (rd l1 x10_1)).length c505_0) (Qhc y500 (rd l1 x10_1)) (⟨(Qgy l0 x10_1).f0, (Qgy l0 x10_1).f1, (Qgy l0 x10_1).f2, (Qgy l0 x10_1).f3⟩ : S39) [.bool ((Qgy l0 x10_1).f0), .int .u64 ((Qgy l0 x10_1).f1), .string ((Qgy l0 x10_1).f2), .string ((Qgy l0 x10_1).f3)] (fun k_ => oki19 k_ ∨ ((fun k_ => k_ ≠ gb498)) k_ ∧ w17.heap.size ≤ k_) (fun _ => False) rfl rfl ?aP (fun _ hk => hk.elim) ?aF ?aO ?aB ?aS ?aL ?_
            (case aP => exact k39_mkM _ _ _ (⟨(Qgy l0 x10_1).f0, (Qgy l0 x10_1).f1, (Qgy l0 x10_1).f2, (Qgy l0 x10_1).f3⟩ : S39))
            (case aB => exact qq_b)
            (case aF => exact (fun k_ hk => .inr ⟨Kd.freshB (g := gb498) (o := .cells #[.bool ((Qgy l0 x10_1).f0), .int .u64 ((Qgy l0 x10_1).f1), .string ((Qgy l0 x10_1).f2), .string ((Qgy l0 x10_1).f3)] 39 (0, 0)) qq_0 k_ hk, hk⟩))
            (case aO => exact (by (with_reducible repeat (first | apply Kd.R_alloc | apply Kd.R_drewN | apply Kd.R_drew)); exact Kd.R_mono UU19.out (fun _ hk => .inl hk)))
            (case aS => exact (Qel qq_b))
            (case aL => have := LMc11.out; omega)
            intro v507 w20 ho hb hg hat
            (first | have HS6_ := Qgt hg (hHeld.2.2.2.2.2.2) (by first | (rw [Qen]; exact (fun e_ => ((HL505_0.out.1 _ e_.symm).2) rfl)) | (show some (Addr.add _ _).block ≠ _; rw [Qen]; exact (fun e_ => ((HL505_0.out.1 _ e_.symm).2) rfl)) | exact (fun e_ => ((HL505_0.out.1 _ e_.symm).2) rfl)) | have HS6_ := Qgt hg (Qgs (hHeld.2.2.2.2.2.2) (by first | (rw [Qen]; exact Kd.S_lt HO502.out _ rfl) | (show (Addr.add _ _).block < _; rw [Qen]; exact Kd.S_lt HO502.out _ rfl) | exact Kd.S_lt HO502.out _ rfl)) (by first | (rw [Qen]; exact (fun e_ => ((HL505_0.out.1 _ e_.symm).2) rfl)) | (show some (Addr.add _ _).block ≠ _; rw [Qen]; exact (fun e_ => ((HL505_0.out.1 _ e_.symm).2) rfl)) | exact (fun e_ => ((HL505_0.out.1 _ e_.symm).2) rfl)))
            rw [← Ny506.out] at ho
            have n0_ := QA (Qdu (g := gb498) (o := .cells #[.bool ((Qgy l0 x10_1).f0), .int .u64 ((Qgy l0 x10_1).f1), .string ((Qgy l0 x10_1).f2), .string ((Qgy l0 x10_1).f3)] 39 (0, 0)) qq_0 hg (Kd.R_away HL505_0.out (fun _ hk => hk.1)))
            have n1_ := QA (hb)
            have n2_ := QA (Kd.H_grown (Kd.H_widen (by repeat (first | exact HH19.out | refine Kd.H_alloc ?_ _ | refine Kd.H_drewN ?_ _ | refine Kd.H_drew ?_))) hg (fun k_ e_ => .inl (UU19.out.1 k_ e_)))
            have n3_ := QA (ho)
            clear BK498
            clear HB
            clear HH19
            clear HO502
            clear UU19
            clear HL505_0
            have BK498 := n0_
            have HB := n1_
            have HH19 := n2_
            have HO508 := n3_
            clear n0_ n1_ n2_ n3_
            clear ho hb hg hat
            have p12 : 0 ≤ ((rd l1 x10_1) : Int) := of_decide_eq_true qq_5
            have q12 : ((rd l1 x10_1) : Int) < ((y500.length : Int) : Int) := of_decide_eq_true qq_5
            replace p12 := eq_true p12
            replace q12 := eq_true q12
            obtain ⟨Ao23, co23, eo23⟩ := Kd.R_slice HO508.out
            (first | subst eo23 | (injection eo23 with f1_ f2_ f3_; have f4_ := f1_.symm; have f5_ := f3_.symm; clear f1_ f2_ f3_; subst f4_; subst f5_))
            obtain ⟨_, _, hraw21, _, _, hcc21, _⟩ := Kd.H_raw HH19.out (of_decide_eq_true qq_5) qq_19
            obtain ⟨_, hfr21⟩ := Kd.H_at HH19.out (of_decide_eq_true qq_5) qq_19
            have hx21_0 := hcc21 0 _ rfl
            have hf21_0 := hfr21 0
            (try simp only [Nat.add_zero] at hx21_0 hf21_0)
            (try rw [show ((Kd.slice 39 k39)).sz = 1 from rfl, Nat.mul_one] at hx21_0)
            (try rw [show ((Kd.slice 39 k39)).sz = 1 from rfl, Nat.mul_one] at hf21_0)
            have HP21 := Kd.S_seg0 HH19.out (of_decide_eq_true qq_5) qq_19 (seg := [.slice Ao23 y506.length co23]) (j := 0) (show 1 ≤ 1 from by decide) (x' := y506) (Kd.M_row HO508.out) (fun _ hk => hk)
            (try simp only [show ((Kd.slice 39 k39)).sz = 1 from rfl, Nat.mul_one, Nat.add_zero] at HP21)
            clear hcc21 hfr21
            have HNB498_go19 := QA (show gb498 ≠ go19 from by have h_ := Kd.R_ne hraw21 BK498.out (by decide); intro e_; exact h_ (by rw [e_]; rfl))
            have HS21 := HP21.1
            rw [← Ny509.out] at HS21
            have HQ21 := QA HS21
            obtain ⟨_, hgg21⟩ := Kd.R_typed hraw21 go19 rfl
            have GG21_ := QA hgg21
            clear HP21 HS21 hgg21
            refine hK.out _ _ ⟨(Qds BK498.out 0).trans rfl, (Qds BK498.out 1).trans rfl, (Qds BK498.out 2).trans rfl, (Qds BK498.out 3).trans rfl, ((HB.out.cell (World.block_lt_of_cell? w _ hw503_0)).trans hw503_0), ((HB.out.cell (World.block_lt_of_cell? w _ hw504_0)).trans hw504_0), HS6_⟩ (fun hHeld => ?_)
            clear hK K
            refine Qfe (a' := ?_) ?_ ?_
            rotate_left
            ·show Act.put _ (some 40) _ = _
             simp only [Act.put, List.setIfInBounds_toArray, List.set_cons_zero, List.set_cons_succ, Qfi, Qfj]
             rfl
            refine Qfa (i := 15) (N := some 41) (v := ?_) (a' := ?_) #[true, true, true, true, true, true, true, true, true, true, true, true, true, true, true, true, false] rfl rfl (Qft HT_.out qq_7) (fun _ _ _ h => h) (Or.inl ⟨by rfl, ?_⟩) ?_ ?_
            rotate_left
            ·intro w'
             go_simp
             with_reducible rfl
            rotate_left
            ·exact qq_2
            refine last_ (i := 16) (N := none) #[true, true, true, true, true, true, true, true, true, true, true, true, true, true, true, true, true] rfl rfl (Qfu HT_.out qq_7) (by decide) (fun K hK => ?_)
            refine skip_ (w1 := ?_) (by rfl) rfl ?_ ?_
            rotate_left
            ·go_simp
             rfl
            refine hK.out _ _ ?_
            clear hK K
            refine Qfc (Qfw HT_.out qq_7) ?_
            try go_wp2
            go_roundg k1
            case measure => have := HK1.out; omega
            case rel => exact ⟨(y509), (wrap64 (x10_1 + 1)), qq_6, H', ⟨by have := HK1.out; omega⟩, ⟨by (with_reducible repeat (first | apply Kd.S_alloc | apply Kd.S_drewN | apply Kd.S_drew)); exact Kd.S_mono HQ21.out (fun _ hk => trivial)⟩, ⟨qq_b⟩⟩
           ·rw [if_neg c11] at H
            exact absurd H (by simp)
          ·rw [if_neg c10] at H
           exact absurd H (by simp)
         ·rw [if_neg c9] at H
          exact absurd H (by simp)
        ·rw [if_neg c8] at H
         exact absurd H (by simp)
       ·rw [if_neg c7] at H
        have c7b0 : decide ((IntKind.u64.wrap ((x5_1.length : Int))) ≤ (rd l1 x10_1)) = false := decide_eq_false c7
        clear c7
        by_cases c24 : 0 ≤ (rd l1 x10_1)
        ·rw [if_pos c24] at H
         have c24b0 : decide (0 ≤ (rd l1 x10_1)) = true := decide_eq_true c24
         clear c24
         by_cases c25 : (rd l1 x10_1) < (x5_1.length : Int)
         ·rw [if_pos c25] at H
          have c25b0 : decide ((rd l1 x10_1) < (x5_1.length : Int)) = true := decide_eq_true c25
          clear c25
          by_cases c26 : (Qhc x5_1 (rd l1 x10_1)).length < 2932031007402
          ·rw [if_pos c26] at H
           have LMc26 := QA c26
           clear c26
           obtain ⟨y513, hy513⟩ : ∃ y_ : List (S39), y_ = ((Qhc x5_1 (rd l1 x10_1)) ++ [(⟨(Qgy l0 x10_1).f0, (Qgy l0 x10_1).f1, (Qgy l0 x10_1).f2, (Qgy l0 x10_1).f3⟩ : S39)]) := ⟨_, rfl⟩
           replace H : (Qbz.l0 k1 l1 (x5_1.set ((rd l1 x10_1) : Int).toNat y513) l0 (l0.length : Int) (wrap64 (x10_1 + 1))) = some r := by first | (rw [hy513]; with_reducible exact H) | (have H2_ := (Option.bind_some _ _).symm.trans H; rw [hy513]; with_reducible exact H2_) | (have H2_ := (Option.bind_some _ _).symm.trans H; with_reducible exact H2_) | with_reducible exact H | (rw [hy513]; exact H) | exact H
           have Ny513 := QA hy513
           clear hy513
           obtain ⟨y516, hy516⟩ : ∃ y_ : List (List (S39)), y_ = (x5_1.set ((rd l1 x10_1) : Int).toNat y513) := ⟨_, rfl⟩
           replace H : (Qbz.l0 k1 l1 y516 l0 (l0.length : Int) (wrap64 (x10_1 + 1))) = some r := by first | (rw [hy516]; with_reducible exact H) | (have H2_ := (Option.bind_some _ _).symm.trans H; rw [hy516]; with_reducible exact H2_) | (have H2_ := (Option.bind_some _ _).symm.trans H; with_reducible exact H2_) | with_reducible exact H | (rw [hy516]; exact H) | exact H
           have Ny516 := QA hy516
           clear hy516
           have H' := QA H
           clear H
           have p497 : 0 ≤ (x10_1 : Int) := of_decide_eq_true qq_5
           have q497 : x10_1 < (l0.length : Int) := of_decide_eq_true qq_5
           obtain ⟨ad497, e497, hx497_0, hx497_1, hx497_2, hx497_3⟩ := Qgz HR0.out x10_1 p497 q497
           cases e497
           replace hx497_0 := qq_h HB.out hx497_0
           replace hx497_1 := qq_h HB.out hx497_1
           replace hx497_2 := qq_h HB.out hx497_2
           replace hx497_3 := qq_h HB.out hx497_3
           replace p497 := eq_true p497
           replace q497 := eq_true q497
           try go_wp2_with (first | ((with_reducible refine Qer (N := 7) rfl ?_); refine qq_e 7 #[.bool false, .int .u64 0, .string (⟨#[]⟩ : ByteArray), .string (⟨#[]⟩ : ByteArray)] 39 ?_; intro gb498 hg w28 hbox hb; have n0_ := QA (Kd.S_below (Kd.S_elderB (by (with_reducible repeat (first | apply Kd.S_alloc | apply Kd.S_drewN | apply Kd.S_drew)); exact HO_5.out) gb498 (Nat.le_of_eq hg.symm)) hb); have n1_ := QA (Qem qq_b hb); have n2_ := QA (hbox); have n3_ := QA ((qq_s hg : w.heap.size ≤ gb498)); have n4_ := QA ((qq_s hg : w.heap.size ≤ gb498)); clear HO_5; clear HB; have HO_5 := n0_; have HB := n1_; have BK498 := n2_; have GW498 := n3_; have GE498 := n4_; clear n0_ n1_ n2_ n3_ n4_; clear hb hbox hg; have hcz29_0 := qq_c (.bool false) BK498.out 0 rfl; have hcz29_1 := qq_c (.int .u64 0) BK498.out 1 rfl; have hcz29_2 := qq_c (.string (⟨#[]⟩ : ByteArray)) BK498.out 2 rfl; have hcz29_3 := qq_c (.string (⟨#[]⟩ : ByteArray)) BK498.out 3 rfl; have hfz29_0 := Qdt BK498.out 0; have hfz29_1 := Qdt BK498.out 1; have hfz29_2 := Qdt BK498.out 2; have hfz29_3 := Qdt BK498.out 3; obtain ⟨Ao30, co30, eo30⟩ := Kd.S_slice HO_5.out; subst eo30; have p499 : 0 ≤ (x10_1 : Int) := of_decide_eq_true qq_5; have q499 : x10_1 < (l1.length : Int) := of_decide_eq_true qq_5; obtain ⟨ad499, e499, hx499_0⟩ := Kd.at_int HR1.out x10_1 p499 q499; cases e499; have hn499_0 : ad499.block ≠ gb498 := Nat.ne_of_lt (Nat.lt_of_lt_of_le qq_14 GW498.out); have hn499_1 : ad499.block ≠ gb498 := Nat.ne_of_lt (Nat.lt_of_lt_of_le qq_14 GW498.out); have hn499_2 : ad499.block ≠ gb498 := Nat.ne_of_lt (Nat.lt_of_lt_of_le qq_14 GW498.out); have hn499_3 : ad499.block ≠ gb498 := Nat.ne_of_lt (Nat.lt_of_lt_of_le qq_14 GW498.out); replace hx499_0 := qq_h HB.out hx499_0; replace hx499_0 := (Qeo (p := ⟨gb498, 0, none⟩) qq_3 (.bool ((Qgy l0 x10_1).f0))).trans hx499_0; replace hx499_0 := (Qeo (p := ⟨gb498, 1, none⟩) qq_3 (.int .u64 ((Qgy l0 x10_1).f1))).trans hx499_0; replace hx499_0 := (Qeo (p := ⟨gb498, 2, none⟩) qq_3 (.string ((Qgy l0 x10_1).f2))).trans hx499_0; replace hx499_0 := (Qeo (p := ⟨gb498, 3, none⟩) qq_3 (.string ((Qgy l0 x10_1).f3))).trans hx499_0; clear hn499_0; clear hn499_1; clear hn499_2; clear hn499_3; replace p499 := eq_true p499; replace q499 := eq_true q499))
           have n0_ : Aside0 (Kd.S (Kd.slice 39 k39) 23 ((((w28.setCell ⟨gb498, 0, none⟩ (.bool ((Qgy l0 x10_1).f0))).setCell ⟨gb498, 1, none⟩ (.int .u64 ((Qgy l0 x10_1).f1))).setCell ⟨gb498, 2, none⟩ (.string ((Qgy l0 x10_1).f2))).setCell ⟨gb498, 3, none⟩ (.string ((Qgy l0 x10_1).f3))) w.heap.size (fun k_ => k_ ≠ gb498) (.slice Ao30 x5_1.length co30) x5_1) := ⟨by (with_reducible repeat (first | apply Kd.S_alloc | apply Kd.S_drewN | apply Kd.S_drew)); exact Kd.S_mono (Kd.S_far (p := ⟨gb498, 3, none⟩) (Kd.S_far (p := ⟨gb498, 2, none⟩) (Kd.S_far (p := ⟨gb498, 1, none⟩) (Kd.S_far (p := ⟨gb498, 0, none⟩) (Kd.S_mono HO_5.out (fun k_ hk => (⟨hk, hk.2⟩ : _ ∧ k_ ≠ gb498))) (fun _ hk => hk.2) (.bool ((Qgy l0 x10_1).f0))) (fun _ hk => hk.2) (.int .u64 ((Qgy l0 x10_1).f1))) (fun _ hk => hk.2) (.string ((Qgy l0 x10_1).f2))) (fun _ hk => hk.2) (.string ((Qgy l0 x10_1).f3))) (fun _ hk => hk.1.2)⟩
           have n1_ : Aside0 (((((w28.setCell ⟨gb498, 0, none⟩ (.bool ((Qgy l0 x10_1).f0))).setCell ⟨gb498, 1, none⟩ (.int .u64 ((Qgy l0 x10_1).f1))).setCell ⟨gb498, 2, none⟩ (.string ((Qgy l0 x10_1).f2))).setCell ⟨gb498, 3, none⟩ (.string ((Qgy l0 x10_1).f3))).heap[gb498]? = some (.cells #[.bool ((Qgy l0 x10_1).f0), .int .u64 ((Qgy l0 x10_1).f1), .string ((Qgy l0 x10_1).f2), .string ((Qgy l0 x10_1).f3)] 39 (0, 0))) := ⟨by (with_reducible repeat (first | apply Qea | apply Qdz | apply Qdy)); refine Qep (cs := #[.bool ((Qgy l0 x10_1).f0), .int .u64 ((Qgy l0 x10_1).f1), .string ((Qgy l0 x10_1).f2), .string (⟨#[]⟩ : ByteArray)]) ?_ 3 _ rfl; (with_reducible repeat (first | apply Qea | apply Qdz | apply Qdy)); refine Qep (cs := #[.bool ((Qgy l0 x10_1).f0), .int .u64 ((Qgy l0 x10_1).f1), .string (⟨#[]⟩ : ByteArray), .string (⟨#[]⟩ : ByteArray)]) ?_ 2 _ rfl; (with_reducible repeat (first | apply Qea | apply Qdz | apply Qdy)); refine Qep (cs := #[.bool ((Qgy l0 x10_1).f0), .int .u64 0, .string (⟨#[]⟩ : ByteArray), .string (⟨#[]⟩ : ByteArray)]) ?_ 1 _ rfl; (with_reducible repeat (first | apply Qea | apply Qdz | apply Qdy)); refine Qep (cs := #[.bool false, .int .u64 0, .string (⟨#[]⟩ : ByteArray), .string (⟨#[]⟩ : ByteArray)]) ?_ 0 _ rfl; (with_reducible repeat (first | apply Qea | apply Qdz | apply Qdy)); exact BK498.out⟩
           have n2_ : Aside0 (Below w.heap.size w ((((w28.setCell ⟨gb498, 0, none⟩ (.bool ((Qgy l0 x10_1).f0))).setCell ⟨gb498, 1, none⟩ (.int .u64 ((Qgy l0 x10_1).f1))).setCell ⟨gb498, 2, none⟩ (.string ((Qgy l0 x10_1).f2))).setCell ⟨gb498, 3, none⟩ (.string ((Qgy l0 x10_1).f3)))) := ⟨qq_b⟩
           (try clear HO_5)
           (try clear BK498)
           (try clear HB)
           generalize ((((w28.setCell ⟨gb498, 0, none⟩ (.bool ((Qgy l0 x10_1).f0))).setCell ⟨gb498, 1, none⟩ (.int .u64 ((Qgy l0 x10_1).f1))).setCell ⟨gb498, 2, none⟩ (.string ((Qgy l0 x10_1).f2))).setCell ⟨gb498, 3, none⟩ (.string ((Qgy l0 x10_1).f3))) = w31 at n0_ n1_ n2_ ⊢
           have HO_5 := n0_
           have BK498 := n1_
           have HB := n2_
           clear n0_ n1_ n2_
           have n0_ := QA (Kd.S_drew HO_5.out)
           have n1_ := QA (Qdz BK498.out)
           have n2_ := QA (Qeq HB.out)
           clear HO_5
           clear BK498
           clear HB
           have HO_5 := n0_
           have BK498 := n1_
           have HB := n2_
           clear n0_ n1_ n2_
           have p510 : 0 ≤ (x10_1 : Int) := of_decide_eq_true qq_5
           have q510 : x10_1 < (l1.length : Int) := of_decide_eq_true qq_5
           obtain ⟨ad510, e510, hx510_0⟩ := Kd.at_int HR1.out x10_1 p510 q510
           have hw510_0 := hx510_0
           obtain rfl : ad499 = ad510 := (by injection e510)
           replace hx510_0 := qq_h HB.out hx510_0
           replace p510 := eq_true p510
           replace q510 := eq_true q510
           have p511 : 0 ≤ (x10_1 : Int) := of_decide_eq_true qq_5
           have q511 : x10_1 < (l1.length : Int) := of_decide_eq_true qq_5
           obtain ⟨ad511, e511, hx511_0⟩ := Kd.at_int HR1.out x10_1 p511 q511
           have hw511_0 := hx511_0
           obtain rfl : ad499 = ad511 := (by injection e511)
           replace hx511_0 := qq_h HB.out hx511_0
           replace p511 := eq_true p511
           replace q511 := eq_true q511
           have p512 : 0 ≤ ((rd l1 x10_1) : Int) := of_decide_eq_true qq_5
           have q512 : (rd l1 x10_1) < (x5_1.length : Int) := of_decide_eq_true qq_5
           obtain ⟨ad512, A512_0, c512_0, e512, hx512_0, hl512_0, hi512_0⟩ := at_L10 (Kd.S_reads' HO_5.out).2.2 (rd l1 x10_1) p512 q512
           cases e512
           obtain ⟨ce512, hce512, hMe512, hcc512⟩ := Kd.S_get HO_5.out [] (rd l1 x10_1) p512 (by first | exact q512 | exact of_decide_eq_true qq_5 | (have e_ := (Kd.S_reads' HO_5.out).1; omega))
           obtain ⟨ve512_0, rfl, ge512_0⟩ := hMe512
           have hv512_0 := hcc512 0 _ rfl
           rw [Nat.add_zero, show ((Kd.slice 39 k39)).sz = 1 from rfl, Nat.mul_one] at hv512_0
           replace hv512_0 := Option.some.inj (hv512_0.symm.trans hx512_0)
           rw [hv512_0] at ge512_0
           have HL512_0 := QA (show Kd.R k39 39 _ _ _ _ (Qhc x5_1 (rd l1 x10_1)) from ge512_0)
           clear hv512_0 ge512_0
           have HX512_0 := QA hx512_0
           clear hcc512 hce512
           have HR512_0 := QA hi512_0
           have HC512_0 := QA hl512_0
           clear hi512_0 hl512_0
           replace p512 := eq_true p512
           replace q512 := eq_true q512
           obtain ⟨go33, co33, eo33, gb33, gl33, cl33, HG33⟩ := Kd.S_form HO_5.out (by have h_ : ((rd l1 x10_1) : Int) < ((x5_1.length : Int) : Int) := of_decide_eq_true qq_5; have h2_ : 0 ≤ ((rd l1 x10_1) : Int) := (of_decide_eq_true qq_5); omega)
           (first | cases eo33 | (injection eo33 with ea_ en_ ec_; (first | subst ea_ | (injection ea_ with ea_; subst ea_)); subst ec_; clear en_))
           have GB33 := QA gb33
           have GG33 := QA HG33
           clear gb33 gl33 HG33
           (first | simp only [Qdd] at hx512_0 | skip)
           obtain ⟨oki33, ce33, hcl33, hM33, hcc33, _, _, hH33⟩ := Kd.S_elem HO_5.out [] ((rd l1 x10_1) : Int) (of_decide_eq_true qq_5) (by have h_ : ((rd l1 x10_1) : Int) < ((x5_1.length : Int) : Int) := of_decide_eq_true qq_5; first | exact h_ | (have e_ := (Kd.S_reads' HO_5.out).1; omega) | simpa using h_)
           obtain ⟨ve33_0, rfl, ge33_0⟩ := hM33
           have hv33 := hcc33 0 _ rfl
           have hX33 := HX512_0.out
           (try simp only [Qdd] at hX33)
           (try simp only [Nat.add_zero] at hv33)
           (try rw [show ((Kd.slice 39 k39)).sz = 1 from rfl, Nat.mul_one] at hv33)
           replace hv33 := Option.some.inj (hv33.symm.trans hX33)
           subst hv33
           clear hX33 hcc33 hcl33
           have UU33 := QA (show Kd.R k39 39 _ w.heap.size oki33 (.slice A512_0 (Qhc x5_1 (rd l1 x10_1)).length c512_0) (Qhc x5_1 (rd l1 x10_1)) from ge33_0)
           have HH33 := QA hH33
           have HN33 := QA (Kd.S_reads' HO_5.out).1
           clear hH33 ge33_0
           refine Qez (n := 17) (S := fun w' => w'.cell? ⟨gb498, 0, none⟩ = some (.bool ((Qgy l0 x10_1).f0)) ∧ w'.cell? ⟨gb498, 1, none⟩ = some (.int .u64 ((Qgy l0 x10_1).f1)) ∧ w'.cell? ⟨gb498, 2, none⟩ = some (.string ((Qgy l0 x10_1).f2)) ∧ w'.cell? ⟨gb498, 3, none⟩ = some (.string ((Qgy l0 x10_1).f3)) ∧ w'.cell? (ad499.add (x10_1).toNat) = some (.int .u64 (rd l1 x10_1)) ∧ w'.cell? (ad499.add (x10_1).toNat) = some (.int .u64 (rd l1 x10_1)) ∧ w'.cell? ⟨go33, ((rd l1 x10_1)).toNat, none⟩ = some (.slice A512_0 (Qhc x5_1 (rd l1 x10_1)).length c512_0)) (ds := [16]) #[false, false, false, false, false, false, false, false, false, false, false, false, false, false, false, false, false] qq_7 rfl rfl ⟨(Qds BK498.out 0).trans rfl, (Qds BK498.out 1).trans rfl, (Qds BK498.out 2).trans rfl, (Qds BK498.out 3).trans rfl, ((HB.out.cell (World.block_lt_of_cell? w _ hw510_0)).trans hw510_0), ((HB.out.cell (World.block_lt_of_cell? w _ hw511_0)).trans hw511_0), hx512_0⟩ (fun hHeld => ?_); refine Qfz Qbz.tab7 Qbz.bits7 (fun HT_ HW_ => ?_)
           generalize w31.drew = w32 at HO_5 BK498 HB GG33 HH33 HL512_0 HR512_0 HX512_0 UU33 hx510_0 hx511_0 hx512_0 hHeld ⊢
           refine Qfa (i := 0) (N := some 26) (v := ?_) (a' := ?_) #[true, false, false, false, false, false, false, false, false, false, false, false, false, false, false, false, false] rfl rfl (Qft HT_.out qq_7) (fun _ _ _ h => h) (Or.inl ⟨by rfl, ?_⟩) ?_ ?_
           rotate_left
           ·intro w'
            go_simp
            with_reducible rfl
           rotate_left
           ·exact qq_2
           refine Qfa (i := 1) (N := some 27) (v := ?_) (a' := ?_) #[true, true, false, false, false, false, false, false, false, false, false, false, false, false, false, false, false] rfl rfl (Qft HT_.out qq_7) (fun _ _ _ h => h) (Or.inl ⟨by rfl, ?_⟩) ?_ ?_
           rotate_left
           ·intro w'
            go_simp
            with_reducible rfl
           rotate_left
           ·exact qq_2
           refine Qfa (i := 2) (N := some 28) (v := ?_) (a' := ?_) #[true, true, true, false, false, false, false, false, false, false, false, false, false, false, false, false, false] rfl rfl (Qft HT_.out qq_7) (fun _ _ _ h => h) (Or.inl ⟨by rfl, ?_⟩) ?_ ?_
           rotate_left
           ·intro w'
            go_simp
            with_reducible rfl
           rotate_left
           ·exact qq_2
           refine Qfa (i := 3) (N := some 29) (v := ?_) (a' := ?_) #[true, true, true, true, false, false, false, false, false, false, false, false, false, false, false, false, false] rfl rfl (Qft HT_.out qq_7) (fun _ _ _ h => h) (Or.inl ⟨by rfl, ?_⟩) ?_ ?_
           rotate_left
           ·intro w'
            go_simp
            with_reducible rfl
           rotate_left
           ·exact qq_2
           refine Qfa (i := 5) (N := some 31) (v := ?_) (a' := ?_) #[true, true, true, true, false, true, false, false, false, false, false, false, false, false, false, false, false] rfl rfl (Qft HT_.out qq_7) (fun _ _ _ h => h) (Or.inl ⟨by rfl, ?_⟩) ?_ ?_
           rotate_left
           ·intro w'
            go_simp
            with_reducible rfl
           rotate_left
           ·exact qq_2
           refine Qfa (i := 6) (N := some 32) (v := ?_) (a' := ?_) #[true, true, true, true, false, true, true, false, false, false, false, false, false, false, false, false, false] rfl rfl (Qft HT_.out qq_7) (fun _ _ _ h => h) (Or.inl ⟨by rfl, ?_⟩) ?_ ?_
           rotate_left
           ·intro w'
            go_simp
            with_reducible rfl
           rotate_left
           ·exact qq_2
           refine Qfa (i := 7) (N := some 33) (v := ?_) (a' := ?_) #[true, true, true, true, false, true, true, true, false, false, false, false, false, false, false, false, false] rfl rfl (Qft HT_.out qq_7) (fun _ _ _ h => h) (Or.inl ⟨by rfl, ?_⟩) ?_ ?_
           rotate_left
           ·intro w'
            go_simp
            with_reducible rfl
           rotate_left
           ·exact qq_2
           refine Qfa (i := 8) (N := some 34) (v := ?_) (a' := ?_) #[true, true, true, true, false, true, true, true, true, false, false, false, false, false, false, false, false] rfl rfl (Qft HT_.out qq_7) (fun _ _ _ h => h) (Or.inl ⟨by rfl, ?_⟩) ?_ ?_
           rotate_left
           ·intro w'
            go_simp
            with_reducible rfl
           rotate_left
           ·exact qq_2
           refine take_ (i := 4) (N := some 30) (v := ?_) (a' := ?_) #[true, true, true, true, true, true, true, true, true, false, false, false, false, false, false, false, false] rfl rfl (Qfy HT_.out HW_.out qq_7) (fun _ _ _ h => h) (Or.inl ⟨by rfl, ?_⟩) hHeld ?_ ?_
           rotate_left
           ·rintro w' ⟨s0, s1, s2, s3, s4, s5, s6⟩
            go_simp
            with_reducible rfl
           rotate_left
           ·exact qq_2
           refine take_ (i := 9) (N := some 35) (v := ?_) (a' := ?_) #[true, true, true, true, true, true, true, true, true, true, false, false, false, false, false, false, false] rfl rfl (Qfy HT_.out HW_.out qq_7) (fun _ _ _ h => h) (Or.inl ⟨by rfl, ?_⟩) hHeld ?_ ?_
           rotate_left
           ·rintro w' ⟨s0, s1, s2, s3, s4, s5, s6⟩
            go_simp
            with_reducible rfl
           rotate_left
           ·exact qq_2
           refine Qfa (i := 10) (N := some 36) (v := ?_) (a' := ?_) #[true, true, true, true, true, true, true, true, true, true, true, false, false, false, false, false, false] rfl rfl (Qft HT_.out qq_7) (fun _ _ _ h => h) (Or.inl ⟨by rfl, ?_⟩) ?_ ?_
           rotate_left
           ·intro w'
            go_simp
            with_reducible rfl
           rotate_left
           ·exact qq_2
           refine take_ (i := 11) (N := some 37) (v := ?_) (a' := ?_) #[true, true, true, true, true, true, true, true, true, true, true, true, false, false, false, false, false] rfl rfl (Qfy HT_.out HW_.out qq_7) (fun _ _ _ h => h) (Or.inl ⟨by rfl, ?_⟩) hHeld ?_ ?_
           rotate_left
           ·rintro w' ⟨s0, s1, s2, s3, s4, s5, s6⟩
            go_simp
            with_reducible rfl
           rotate_left
           ·exact qq_2
           refine take_ (i := 12) (N := some 38) (v := ?_) (a' := ?_) #[true, true, true, true, true, true, true, true, true, true, true, true, true, false, false, false, false] rfl rfl (Qfy HT_.out HW_.out qq_7) (fun _ _ _ h => h) (Or.inl ⟨by rfl, ?_⟩) hHeld ?_ ?_
           rotate_left
           ·rintro w' ⟨s0, s1, s2, s3, s4, s5, s6⟩
            go_simp
            with_reducible rfl
           rotate_left
           ·exact qq_2
           refine one_ (i := 13) (N := some 39) #[true, true, true, true, true, true, true, true, true, true, true, true, true, true, false, false, false] rfl rfl (Qfu HT_.out qq_7) (by decide) (fun K hK => ?_)
           refine Qfh (w1 := ?_) (v := ?_) (by rfl) rfl ?_ ?_
           rotate_left 2
           ·go_simp
            constructor
            ·rfl
            ·rfl
           refine hK.out _ _ ⟨(Qds (Qdy BK498.out _) 0).trans rfl, (Qds (Qdy BK498.out _) 1).trans rfl, (Qds (Qdy BK498.out _) 2).trans rfl, (Qds (Qdy BK498.out _) 3).trans rfl, (World.cell?_alloc_lt _ _ _ (World.block_lt_of_cell? _ _ (((HB.out.cell (World.block_lt_of_cell? w _ hw510_0)).trans hw510_0)))).trans (((HB.out.cell (World.block_lt_of_cell? w _ hw510_0)).trans hw510_0)), (World.cell?_alloc_lt _ _ _ (World.block_lt_of_cell? _ _ (((HB.out.cell (World.block_lt_of_cell? w _ hw511_0)).trans hw511_0)))).trans (((HB.out.cell (World.block_lt_of_cell? w _ hw511_0)).trans hw511_0)), (World.cell?_alloc_lt _ _ _ (World.block_lt_of_cell? _ _ (hHeld.2.2.2.2.2.2))).trans (hHeld.2.2.2.2.2.2)⟩ (fun hHeld => ?_)
           clear hK K
           refine Qfe (a' := ?_) ?_ ?_
           rotate_left
           ·show Act.put _ (some 39) _ = _
            simp only [Act.put, List.setIfInBounds_toArray, List.set_cons_zero, List.set_cons_succ, Qfi, Qfj]
            rfl
           refine one_ (i := 14) (N := some 40) #[true, true, true, true, true, true, true, true, true, true, true, true, true, true, true, false, false] rfl rfl (Qfu HT_.out qq_7) (by decide) (fun K hK => ?_)
           refine Kd.R_append_step k39 (w0 := w) w.heap.size (by rfl) (.tmp 37) (.tmp 39) 23 39 (.agg #[(.bool false), (.int .u64 0), (.string ⟨#[]⟩), (.string ⟨#[]⟩)]) 48 rfl Tryz.underlying23 info39 rfl (by decide) (by omega) (.slice A512_0 (Qhc x5_1 (rd l1 x10_1)).length c512_0) (Qhc x5_1 (rd l1 x10_1)) (⟨(Qgy l0 x10_1).f0, (Qgy l0 x10_1).f1, (Qgy l0 x10_1).f2, (Qgy l0 x10_1).f3⟩ : S39) [.bool ((Qgy l0 x10_1).f0), .int .u64 ((Qgy l0 x10_1).f1), .string ((Qgy l0 x10_1).f2), .string ((Qgy l0 x10_1).f3)] (fun k_ => oki33 k_ ∨ ((fun k_ => k_ ≠ gb498)) k_ ∧ w32.heap.size ≤ k_) (fun _ => False) rfl rfl ?aP (fun _ hk => hk.elim) ?aF ?aO ?aB ?aS ?aL ?_
           (case aP => exact k39_mkM _ _ _ (⟨(Qgy l0 x10_1).f0, (Qgy l0 x10_1).f1, (Qgy l0 x10_1).f2, (Qgy l0 x10_1).f3⟩ : S39))
           (case aB => exact qq_b)
           (case aF => exact (fun k_ hk => .inr ⟨Kd.freshB (g := gb498) (o := .cells #[.bool ((Qgy l0 x10_1).f0), .int .u64 ((Qgy l0 x10_1).f1), .string ((Qgy l0 x10_1).f2), .string ((Qgy l0 x10_1).f3)] 39 (0, 0)) qq_0 k_ hk, hk⟩))
           (case aO => exact (by (with_reducible repeat (first | apply Kd.R_alloc | apply Kd.R_drewN | apply Kd.R_drew)); exact Kd.R_mono UU33.out (fun _ hk => .inl hk)))
           (case aS => exact (Qel qq_b))
           (case aL => have := LMc26.out; omega)
           intro v514 w34 ho hb hg hat
           (first | have HS6_ := Qgt hg (hHeld.2.2.2.2.2.2) (by first | (rw [Qen]; exact (fun e_ => ((HL512_0.out.1 _ e_.symm).2) rfl)) | (show some (Addr.add _ _).block ≠ _; rw [Qen]; exact (fun e_ => ((HL512_0.out.1 _ e_.symm).2) rfl)) | exact (fun e_ => ((HL512_0.out.1 _ e_.symm).2) rfl)) | have HS6_ := Qgt hg (Qgs (hHeld.2.2.2.2.2.2) (by first | (rw [Qen]; exact Kd.S_lt HO_5.out _ rfl) | (show (Addr.add _ _).block < _; rw [Qen]; exact Kd.S_lt HO_5.out _ rfl) | exact Kd.S_lt HO_5.out _ rfl)) (by first | (rw [Qen]; exact (fun e_ => ((HL512_0.out.1 _ e_.symm).2) rfl)) | (show some (Addr.add _ _).block ≠ _; rw [Qen]; exact (fun e_ => ((HL512_0.out.1 _ e_.symm).2) rfl)) | exact (fun e_ => ((HL512_0.out.1 _ e_.symm).2) rfl)))
           rw [← Ny513.out] at ho
           have n0_ := QA (Qdu (g := gb498) (o := .cells #[.bool ((Qgy l0 x10_1).f0), .int .u64 ((Qgy l0 x10_1).f1), .string ((Qgy l0 x10_1).f2), .string ((Qgy l0 x10_1).f3)] 39 (0, 0)) qq_0 hg (Kd.R_away HL512_0.out (fun _ hk => hk.1)))
           have n1_ := QA (hb)
           have n2_ := QA (Kd.H_grown (Kd.H_widen (by repeat (first | exact HH33.out | refine Kd.H_alloc ?_ _ | refine Kd.H_drewN ?_ _ | refine Kd.H_drew ?_))) hg (fun k_ e_ => .inl (UU33.out.1 k_ e_)))
           have n3_ := QA (ho)
           clear BK498
           clear HB
           clear HH33
           clear HO_5
           clear UU33
           clear HL512_0
           have BK498 := n0_
           have HB := n1_
           have HH33 := n2_
           have HO515 := n3_
           clear n0_ n1_ n2_ n3_
           clear ho hb hg hat
           have p27 : 0 ≤ ((rd l1 x10_1) : Int) := of_decide_eq_true qq_5
           have q27 : ((rd l1 x10_1) : Int) < ((x5_1.length : Int) : Int) := of_decide_eq_true qq_5
           replace p27 := eq_true p27
           replace q27 := eq_true q27
           obtain ⟨Ao37, co37, eo37⟩ := Kd.R_slice HO515.out
           (first | subst eo37 | (injection eo37 with f1_ f2_ f3_; have f4_ := f1_.symm; have f5_ := f3_.symm; clear f1_ f2_ f3_; subst f4_; subst f5_))
           obtain ⟨_, _, hraw35, _, _, hcc35, _⟩ := Kd.H_raw HH33.out (of_decide_eq_true qq_5) qq_20
           obtain ⟨_, hfr35⟩ := Kd.H_at HH33.out (of_decide_eq_true qq_5) qq_20
           have hx35_0 := hcc35 0 _ rfl
           have hf35_0 := hfr35 0
           (try simp only [Nat.add_zero] at hx35_0 hf35_0)
           (try rw [show ((Kd.slice 39 k39)).sz = 1 from rfl, Nat.mul_one] at hx35_0)
           (try rw [show ((Kd.slice 39 k39)).sz = 1 from rfl, Nat.mul_one] at hf35_0)
           have HP35 := Kd.S_seg0 HH33.out (of_decide_eq_true qq_5) qq_20 (seg := [.slice Ao37 y513.length co37]) (j := 0) (show 1 ≤ 1 from by decide) (x' := y513) (Kd.M_row HO515.out) (fun _ hk => hk)
           (try simp only [show ((Kd.slice 39 k39)).sz = 1 from rfl, Nat.mul_one, Nat.add_zero] at HP35)
           clear hcc35 hfr35
           have HNB498_go33 := QA (show gb498 ≠ go33 from by have h_ := Kd.R_ne hraw35 BK498.out (by decide); intro e_; exact h_ (by rw [e_]; rfl))
           have HS35 := HP35.1
           rw [← Ny516.out] at HS35
           have HQ35 := QA HS35
           obtain ⟨_, hgg35⟩ := Kd.R_typed hraw35 go33 rfl
           have GG35_ := QA hgg35
           clear HP35 HS35 hgg35
           refine hK.out _ _ ⟨(Qds BK498.out 0).trans rfl, (Qds BK498.out 1).trans rfl, (Qds BK498.out 2).trans rfl, (Qds BK498.out 3).trans rfl, ((HB.out.cell (World.block_lt_of_cell? w _ hw510_0)).trans hw510_0), ((HB.out.cell (World.block_lt_of_cell? w _ hw511_0)).trans hw511_0), HS6_⟩ (fun hHeld => ?_)
           clear hK K
           refine Qfe (a' := ?_) ?_ ?_
           rotate_left
           ·show Act.put _ (some 40) _ = _
            simp only [Act.put, List.setIfInBounds_toArray, List.set_cons_zero, List.set_cons_succ, Qfi, Qfj]
            rfl
           refine Qfa (i := 15) (N := some 41) (v := ?_) (a' := ?_) #[true, true, true, true, true, true, true, true, true, true, true, true, true, true, true, true, false] rfl rfl (Qft HT_.out qq_7) (fun _ _ _ h => h) (Or.inl ⟨by rfl, ?_⟩) ?_ ?_
           rotate_left
           ·intro w'
            go_simp
            with_reducible rfl
           rotate_left
           ·exact qq_2
           refine last_ (i := 16) (N := none) #[true, true, true, true, true, true, true, true, true, true, true, true, true, true, true, true, true] rfl rfl (Qfu HT_.out qq_7) (by decide) (fun K hK => ?_)
           refine skip_ (w1 := ?_) (by rfl) rfl ?_ ?_
           rotate_left
           ·go_simp
            rfl
           refine hK.out _ _ ?_
           clear hK K
           refine Qfc (Qfw HT_.out qq_7) ?_
           try go_wp2
           go_roundg k1
           case measure => have := HK1.out; omega
           case rel => exact ⟨(y516), (wrap64 (x10_1 + 1)), qq_6, H', ⟨by have := HK1.out; omega⟩, ⟨by (with_reducible repeat (first | apply Kd.S_alloc | apply Kd.S_drewN | apply Kd.S_drew)); exact Kd.S_mono HQ35.out (fun _ hk => trivial)⟩, ⟨qq_b⟩⟩
          ·rw [if_neg c26] at H
           exact absurd H (by simp)
         ·rw [if_neg c25] at H
          exact absurd H (by simp)
        ·rw [if_neg c24] at H
         exact absurd H (by simp)
      ·rw [if_neg c6] at H
       exact absurd H (by simp)
     ·rw [if_neg c5] at H
      exact absurd H (by simp)
    ·rw [if_neg c4] at H
     exact absurd H (by simp)
   ·rw [if_neg c3] at H
    have c3b0 : decide (x10_1 < (l0.length : Int)) = false := decide_eq_false c3
    clear c3
    obtain rfl := Option.some.inj H
    go_wp2
    go_ret
    exact ⟨_, by first | rfl | (simp [Qgu, Qgv] <;> rfl) | (simp [*, Qgu, Qgv] <;> rfl), by (with_reducible repeat (first | apply Kd.S_alloc | apply Kd.S_drewN | apply Kd.S_drew)); exact HO_5.out, qq_b⟩
end Go.Proofs.YtnnofopfbeklbaaGreat.C
end
