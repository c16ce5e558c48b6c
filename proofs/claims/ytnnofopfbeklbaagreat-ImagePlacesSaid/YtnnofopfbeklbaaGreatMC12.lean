/- Texts of this claim's author and of the print of its functions, merged by merge.py. -/
import Derived.Test.YtnnofopfbeklbaaGreatMC02
import Derived.Test.YtnnofopfbeklbaaGreatMC11
set_option linter.unusedVariables false
set_option linter.unusedSimpArgs false
section
namespace Go.Proofs.YtnnofopfbeklbaaGreat.C
open Go.RowKit Go.Proofs.YtnnofopfbeklbaaGreatW.PrintWords Go.Proofs.YtnnofopfbeklbaaGreatW.PrintLast Go.Proofs.YtnnofopfbeklbaaGreatW.PrintMore
attribute [local go_sem] Qfg Qfh Qfi Qfj Qfk Qfl Qfm Qfn
def Qbs.f (a0_0 : Int) (a0_1 : Int) (a0_2 : Int) (a0_3 : Int) (a0_4 : Int) : Option (Int) := (Qal.f a0_0 a0_1).bind fun t129 => ((Qbf.f (wrap64 (a0_4 + 1))).bind fun t130 => (some (mx 0 (wrap64 ((wrap64 (t129 - a0_3)) - t130)))))
def Qbs.T1 : Bool × List (List Nat × List Nat) := (true, [([], []), ([0], [0]), ([1], [1]), ([], []), ([3], [3]), ([2, 4], [2, 4]), ([], []), ([6], [6]), ([7], [7]), ([8, 2], [8]), ([5, 9], [5, 9]), ([10], [10]), ([11, 9, 0, 1, 2, 3, 4, 5, 6, 7, 8, 9, 10, 11], [11])])
def Qbs.B1 : List Nat := [0, 1, 3, 0, 8, 31, 0, 64, 192, 455, 1023, 2047, 4095]
theorem Qbs.tab1 : rtab .any (opsOf Tryz.f154 1) = Qbs.T1 := by kernel_rfl
theorem Qbs.bits1 : Qey Qbs.T1.2 Qbs.B1 = true := by kernel_rfl
set_option maxHeartbeats 8000000 in
set_option maxRecDepth 100000 in
theorem Qbs.calls (a0_0 : Int) (a0_1 : Int) (a0_2 : Int) (a0_3 : Int) (a0_4 : Int) (r : Int) (w : World) (h : Qbs.f a0_0 a0_1 a0_2 a0_3 a0_4 = some r) :
  Calls Tryz.prog 154 #[.agg #[.int .u8 a0_0, .int .u32 a0_1, .int .u32 a0_2, .int .i64 a0_3, .int .i64 a0_4]] w fun e w' => e = .returned (.int .i64 r) ∧ Below w.heap.size w w' := by
 have hu47 := Tryz.underlying47
 have hu27 := Tryz.underlying27
 have HB := QA (Below.refl w.heap.size w)
 have H : ((Qal.f a0_0 a0_1).bind fun t129 => ((Qbf.f (wrap64 (a0_4 + 1))).bind fun t130 => (some (mx 0 (wrap64 ((wrap64 (t129 - a0_3)) - t130)))))) = some r := h
 clear h
 replace H := Option.bind_eq_some_iff.mp H
 obtain ⟨t129, A20, H⟩ := H
 replace H : ((Qbf.f (wrap64 (a0_4 + 1))).bind fun t130 => (some (mx 0 (wrap64 ((wrap64 (t129 - a0_3)) - t130))))) = some r := H
 have A2 := QA A20
 clear A20
 replace H := Option.bind_eq_some_iff.mp H
 obtain ⟨t130, A30, H⟩ := H
 replace H : (some (mx 0 (wrap64 ((wrap64 (t129 - a0_3)) - t130)))) = some r := H
 have A3 := QA A30
 clear A30
 obtain ⟨ji4, hji4⟩ : ∃ j_ : Int, (mx 0 (wrap64 ((wrap64 (t129 - a0_3)) - t130))) = j_ := ⟨_, rfl⟩
 replace H : (some ji4) = some r := by first | (rw [hji4] at H; exact H) | (simp only [hji4] at H ⊢; exact H)
 (try rw [hji4] at A2)
 (try rw [hji4] at A3)
 (try (have hji4l : 0 ≤ ji4 := by (rw [← hji4]; unfold mx; (repeat' split) <;> omega)))
 (try (have hji4m : 0 ≤ ji4 := by omega))
 have hji4_ : (if 0 < (wrap64 ((wrap64 (t129 - a0_3)) - t130)) then (wrap64 ((wrap64 (t129 - a0_3)) - t130)) else 0) = ji4 := hji4
 obtain rfl := Option.some.inj H
 go_enter Tryz.func154, Tryz.ntmps154
 try go_wp2_with (first | ((with_reducible refine Qdw (N := 1) rfl ?_); refine Qdv ?hg (N := 1) ?hd (cs := #[.int .u8 a0_0, .int .u32 a0_1, .int .u32 a0_2, .int .i64 a0_3, .int .i64 a0_4]) (t := 47) ?hr ?_; (case hd => rfl); (case hg => rfl); (case hr => first | (go_simp; done) | (go_simp; rfl)); intro gb128 hg w5 hbox hb; have n0_ := QA (Qdo (by repeat (first | (with_reducible first | exact HB.out | apply Qcc | apply Qce | apply Qdt) | exact HB.out)) hb); have n1_ := QA (hbox); have n2_ := QA ((by rw [hg]; exact (Qdn (by repeat (first | (with_reducible first | exact HB.out | apply Qcc | apply Qce | apply Qdt) | exact HB.out))) : w.heap.size ≤ gb128)); have n3_ := QA ((by rw [hg]; exact (Qdn (by repeat (first | (with_reducible first | exact HB.out | apply Qcc | apply Qce | apply Qdt) | exact HB.out))) : w.heap.size ≤ gb128)); clear HB; have HB := n0_; have BK128 := n1_; have GW128 := n2_; have GE128 := n3_; clear n0_ n1_ n2_ n3_; clear hb hbox hg))
 have n0_ := QA (Qde BK128.out)
 have n1_ := QA (Qdt HB.out)
 clear BK128
 clear HB
 have BK128 := n0_
 have HB := n1_
 clear n0_ n1_
 refine Qee (n := 13) (S := fun w' => w'.cell? ⟨gb128, 0, none⟩ = some (.int .u8 a0_0) ∧ w'.cell? ⟨gb128, 1, none⟩ = some (.int .u32 a0_1) ∧ w'.cell? ⟨gb128, 2, none⟩ = some (.int .u32 a0_2) ∧ w'.cell? ⟨gb128, 3, none⟩ = some (.int .i64 a0_3) ∧ w'.cell? ⟨gb128, 4, none⟩ = some (.int .i64 a0_4)) (ds := []) #[false, false, false, false, false, false, false, false, false, false, false, false, false] (by kernel_rfl) rfl rfl ⟨(Qcx BK128.out 0).trans rfl, (Qcx BK128.out 1).trans rfl, (Qcx BK128.out 2).trans rfl, (Qcx BK128.out 3).trans rfl, (Qcx BK128.out 4).trans rfl⟩ (fun hHeld => ?_); refine Qfa Qbs.tab1 Qbs.bits1 (fun HT_ HW_ => ?_)
 generalize w5.drew = w6 at BK128 HB hHeld ⊢
 refine Qef (i := 0) (N := some 3) (v := ?_) (a' := ?_) #[true, false, false, false, false, false, false, false, false, false, false, false, false] rfl rfl (Qev HT_.out (by kernel_rfl)) (fun _ _ _ h => h) (Or.inl ⟨by rfl, ?_⟩) ?_ ?_
 rotate_left
 ·intro w'
  go_simp
  with_reducible rfl
 rotate_left
 ·simp only [Act.put, List.setIfInBounds_toArray, List.set_cons_zero, List.set_cons_succ, Qek, Qel]
  rfl
 refine Qef (i := 3) (N := some 6) (v := ?_) (a' := ?_) #[true, false, false, true, false, false, false, false, false, false, false, false, false] rfl rfl (Qev HT_.out (by kernel_rfl)) (fun _ _ _ h => h) (Or.inl ⟨by rfl, ?_⟩) ?_ ?_
 rotate_left
 ·intro w'
  go_simp
  with_reducible rfl
 rotate_left
 ·simp only [Act.put, List.setIfInBounds_toArray, List.set_cons_zero, List.set_cons_succ, Qek, Qel]
  rfl
 refine Qef (i := 6) (N := some 9) (v := ?_) (a' := ?_) #[true, false, false, true, false, false, true, false, false, false, false, false, false] rfl rfl (Qev HT_.out (by kernel_rfl)) (fun _ _ _ h => h) (Or.inl ⟨by rfl, ?_⟩) ?_ ?_
 rotate_left
 ·intro w'
  go_simp
  with_reducible rfl
 rotate_left
 ·simp only [Act.put, List.setIfInBounds_toArray, List.set_cons_zero, List.set_cons_succ, Qek, Qel]
  rfl
 refine take_ (i := 1) (N := some 4) (v := ?_) (a' := ?_) #[true, true, false, true, false, false, true, false, false, false, false, false, false] rfl rfl (Qez HT_.out HW_.out (by kernel_rfl)) (fun _ _ _ h => h) (Or.inl ⟨by rfl, ?_⟩) hHeld ?_ ?_
 rotate_left
 ·rintro w' ⟨s0, s1, s2, s3, s4⟩
  go_simp
  with_reducible rfl
 rotate_left
 ·simp only [Act.put, List.setIfInBounds_toArray, List.set_cons_zero, List.set_cons_succ, Qek, Qel]
  rfl
 refine take_ (i := 4) (N := some 7) (v := ?_) (a' := ?_) #[true, true, false, true, true, false, true, false, false, false, false, false, false] rfl rfl (Qez HT_.out HW_.out (by kernel_rfl)) (fun _ _ _ h => h) (Or.inl ⟨by rfl, ?_⟩) hHeld ?_ ?_
 rotate_left
 ·rintro w' ⟨s0, s1, s2, s3, s4⟩
  go_simp
  with_reducible rfl
 rotate_left
 ·simp only [Act.put, List.setIfInBounds_toArray, List.set_cons_zero, List.set_cons_succ, Qek, Qel]
  rfl
 refine take_ (i := 7) (N := some 10) (v := ?_) (a' := ?_) #[true, true, false, true, true, false, true, true, false, false, false, false, false] rfl rfl (Qez HT_.out HW_.out (by kernel_rfl)) (fun _ _ _ h => h) (Or.inl ⟨by rfl, ?_⟩) hHeld ?_ ?_
 rotate_left
 ·rintro w' ⟨s0, s1, s2, s3, s4⟩
  go_simp
  with_reducible rfl
 rotate_left
 ·simp only [Act.put, List.setIfInBounds_toArray, List.set_cons_zero, List.set_cons_succ, Qek, Qel]
  rfl
 refine Qef (i := 8) (N := some 11) (v := ?_) (a' := ?_) #[true, true, false, true, true, false, true, true, true, false, false, false, false] rfl rfl (Qev HT_.out (by kernel_rfl)) (fun _ _ _ h => h) (Or.inl ⟨by rfl, ?_⟩) ?_ ?_
 rotate_left
 ·intro w'
  go_simp
  with_reducible rfl
 rotate_left
 ·simp only [Act.put, List.setIfInBounds_toArray, List.set_cons_zero, List.set_cons_succ, Qek, Qel]
  rfl
 refine one_ (i := 2) (N := some 5) #[true, true, true, true, true, false, true, true, true, false, false, false, false] rfl rfl (Qew HT_.out (by kernel_rfl)) (by decide) (fun K hK => ?_)
 refine Qei Tryz.func78 (by kernel_rfl) rfl #[.agg #[.int .u8 a0_0, .int .u32 a0_1]] (by rfl) rfl rfl (by (try simp only [List.map_toArray, List.map_cons, List.map_nil]); first | done | rfl | (simp only [List.length_drop, List.length_take]; rfl)) ?_
 with_reducible refine (Qal.calls a0_0 a0_1 t129 _ A2.out).mono ?_
 rintro e w7 ⟨rfl, hb⟩
 refine ⟨_, rfl, ?_⟩
 have n0_ := QA (Qdg (g := gb128) (o := .cells #[.int .u8 a0_0, .int .u32 a0_1, .int .u32 a0_2, .int .i64 a0_3, .int .i64 a0_4] 47 (0, 0)) (by (with_reducible repeat (first | apply Qdf | apply Qde | apply Qdd)); exact BK128.out) hb)
 have n1_ := QA (Qdo (by repeat (first | (with_reducible first | exact HB.out | apply Qcc | apply Qce | apply Qdt | refine Qdp ?_ GE128.out) | exact HB.out)) hb)
 clear BK128
 clear HB
 have BK128 := n0_
 have HB := n1_
 clear n0_ n1_
 (try clear hb)
 (try clear hb2)
 (try clear hk)
 (try clear hi)
 refine hK.out _ _ ⟨(Qcx BK128.out 0).trans rfl, (Qcx BK128.out 1).trans rfl, (Qcx BK128.out 2).trans rfl, (Qcx BK128.out 3).trans rfl, (Qcx BK128.out 4).trans rfl⟩ (fun hHeld => ?_)
 clear hK K
 refine Qeh (a' := ?_) ?_ ?_
 rotate_left
 ·show Act.put _ (some 5) _ = _
  simp only [Act.put, List.setIfInBounds_toArray, List.set_cons_zero, List.set_cons_succ, Qek, Qel]
  rfl
 refine Qef (i := 5) (N := some 8) (v := ?_) (a' := ?_) #[true, true, true, true, true, true, true, true, true, false, false, false, false] rfl rfl (Qev HT_.out (by kernel_rfl)) (fun _ _ _ h => h) (Or.inl ⟨by rfl, ?_⟩) ?_ ?_
 rotate_left
 ·intro w'
  go_simp
  with_reducible rfl
 rotate_left
 ·simp only [Act.put, List.setIfInBounds_toArray, List.set_cons_zero, List.set_cons_succ, Qek, Qel]
  rfl
 refine one_ (i := 9) (N := some 12) #[true, true, true, true, true, true, true, true, true, true, false, false, false] rfl rfl (Qew HT_.out (by kernel_rfl)) (by decide) (fun K hK => ?_)
 refine Qei Tryz.func198 (by kernel_rfl) rfl #[.int .i64 (wrap64 (a0_4 + 1))] (by rfl) rfl rfl (by (try simp only [List.map_toArray, List.map_cons, List.map_nil]); first | done | rfl | (simp only [List.length_drop, List.length_take]; rfl)) ?_
 with_reducible refine (Qbf.calls (wrap64 (a0_4 + 1)) t130 _ A3.out).mono ?_
 rintro e w8 ⟨rfl, hb⟩
 refine ⟨_, rfl, ?_⟩
 have n0_ := QA (Qdg (g := gb128) (o := .cells #[.int .u8 a0_0, .int .u32 a0_1, .int .u32 a0_2, .int .i64 a0_3, .int .i64 a0_4] 47 (0, 0)) (by (with_reducible repeat (first | apply Qdf | apply Qde | apply Qdd)); exact BK128.out) hb)
 have n1_ := QA (Qdo (by repeat (first | (with_reducible first | exact HB.out | apply Qcc | apply Qce | apply Qdt | refine Qdp ?_ GE128.out) | exact HB.out)) hb)
 clear BK128
 clear HB
 have BK128 := n0_
 have HB := n1_
 clear n0_ n1_
 (try clear hb)
 (try clear hb2)
 (try clear hk)
 (try clear hi)
 refine hK.out _ _ ⟨(Qcx BK128.out 0).trans rfl, (Qcx BK128.out 1).trans rfl, (Qcx BK128.out 2).trans rfl, (Qcx BK128.out 3).trans rfl, (Qcx BK128.out 4).trans rfl⟩ (fun hHeld => ?_)
 clear hK K
 refine Qeh (a' := ?_) ?_ ?_
 rotate_left
 ·show Act.put _ (some 12) _ = _
  simp only [Act.put, List.setIfInBounds_toArray, List.set_cons_zero, List.set_cons_succ, Qek, Qel]
  rfl
 refine Qef (i := 10) (N := some 13) (v := ?_) (a' := ?_) #[true, true, true, true, true, true, true, true, true, true, true, false, false] rfl rfl (Qev HT_.out (by kernel_rfl)) (fun _ _ _ h => h) (Or.inl ⟨by rfl, ?_⟩) ?_ ?_
 rotate_left
 ·intro w'
  go_simp
  with_reducible rfl
 rotate_left
 ·simp only [Act.put, List.setIfInBounds_toArray, List.set_cons_zero, List.set_cons_succ, Qek, Qel]
  rfl
 refine Qef (i := 11) (N := some 14) (v := ?_) (a' := ?_) #[true, true, true, true, true, true, true, true, true, true, true, true, false] rfl rfl (Qev HT_.out (by kernel_rfl)) (fun _ _ _ h => h) (Or.inl ⟨by rfl, ?_⟩) ?_ ?_
 rotate_left
 ·intro w'
  go_simp
  with_reducible rfl
 rotate_left
 ·simp only [Act.put, List.setIfInBounds_toArray, List.set_cons_zero, List.set_cons_succ, Qek, Qel]
  rfl
 refine Qef (i := 12) (N := some 2) (v := ?_) (a' := ?_) #[true, true, true, true, true, true, true, true, true, true, true, true, true] rfl rfl (Qev HT_.out (by kernel_rfl)) (fun _ _ _ h => h) (Or.inl ⟨by rfl, ?_⟩) ?_ ?_
 rotate_left
 ·intro w'
  go_simp
  with_reducible rfl
 rotate_left
 ·simp only [Act.put, List.setIfInBounds_toArray, List.set_cons_zero, List.set_cons_succ, Qek, Qel]
  rfl
 refine done_ (Qex HT_.out (by kernel_rfl)) ?_
 try go_wp2
 go_ret
 exact ⟨by first | rfl | (simp [Qfr, Qfs] <;> rfl) | (simp only [← hji4]; first | rfl | (simp [Qfr, Qfs] <;> rfl)) | (simp [*, Qfr, Qfs] <;> rfl), by repeat (first | (with_reducible first | exact HB.out | apply Qcc | apply Qce | apply Qdt | refine Qdp ?_ GE128.out) | exact HB.out)⟩
def Qbr.f (a0_0 : Int) (a0_1 : Int) (a0_2 : Int) (a0_3 : Int) (a0_4 : Int) (a1 : Int) : Option (Bool) := if a1 ≥ 1 then ((Qbs.f a0_0 a0_1 a0_2 a0_3 a0_4).bind fun t132 => (some (decide (a1 ≤ t132)))) else (some false)
set_option maxHeartbeats 8000000 in
set_option maxRecDepth 100000 in
theorem Qbr.calls (a0_0 : Int) (a0_1 : Int) (a0_2 : Int) (a0_3 : Int) (a0_4 : Int) (a1 : Int) (r : Bool) (w : World) (h : Qbr.f a0_0 a0_1 a0_2 a0_3 a0_4 a1 = some r) :
  Calls Tryz.prog 100 #[.agg #[.int .u8 a0_0, .int .u32 a0_1, .int .u32 a0_2, .int .i64 a0_3, .int .i64 a0_4], .int .i64 a1] w fun e w' => e = .returned (.bool r) ∧ Below w.heap.size w w' := by
 have hu47 := Tryz.underlying47
 have HB := QA (Below.refl w.heap.size w)
 have H : (if a1 ≥ 1 then ((Qbs.f a0_0 a0_1 a0_2 a0_3 a0_4).bind fun t132 => (some (decide (a1 ≤ t132)))) else (some false)) = some r := h
 clear h
 by_cases c3 : a1 ≥ 1
 ·rw [if_pos c3] at H
  have c3b0 : decide (1 ≤ a1) = true := decide_eq_true c3
  clear c3
  replace H := Option.bind_eq_some_iff.mp H
  obtain ⟨t132, A40, H⟩ := H
  replace H : (some (decide (a1 ≤ t132))) = some r := H
  have A4 := QA A40
  clear A40
  obtain rfl := Option.some.inj H
  go_enter Tryz.func100, Tryz.ntmps100
  go_wp2_with (first | ((with_reducible refine Qdw (N := 2) rfl ?_); refine Qdv ?hg (N := 2) ?hd (cs := #[.int .u8 a0_0, .int .u32 a0_1, .int .u32 a0_2, .int .i64 a0_3, .int .i64 a0_4]) (t := 47) ?hr ?_; (case hd => rfl); (case hg => rfl); (case hr => first | (go_simp; done) | (go_simp; rfl)); intro gb131 hg w5 hbox hb; have n0_ := QA (Qdo (by repeat (first | (with_reducible first | exact HB.out | apply Qcc | apply Qce | apply Qdt) | exact HB.out)) hb); have n1_ := QA (hbox); have n2_ := QA ((by rw [hg]; exact (Qdn (by repeat (first | (with_reducible first | exact HB.out | apply Qcc | apply Qce | apply Qdt) | exact HB.out))) : w.heap.size ≤ gb131)); have n3_ := QA ((by rw [hg]; exact (Qdn (by repeat (first | (with_reducible first | exact HB.out | apply Qcc | apply Qce | apply Qdt) | exact HB.out))) : w.heap.size ≤ gb131)); clear HB; have HB := n0_; have BK131 := n1_; have GW131 := n2_; have GE131 := n3_; clear n0_ n1_ n2_ n3_; clear hb hbox hg; have hcz6_0 : w5.cell? ⟨gb131, 0, none⟩ = some (.int .u8 a0_0) := (Qcx BK131.out 0).trans rfl; have hcz6_1 : w5.cell? ⟨gb131, 1, none⟩ = some (.int .u32 a0_1) := (Qcx BK131.out 1).trans rfl; have hcz6_2 : w5.cell? ⟨gb131, 2, none⟩ = some (.int .u32 a0_2) := (Qcx BK131.out 2).trans rfl; have hcz6_3 : w5.cell? ⟨gb131, 3, none⟩ = some (.int .i64 a0_3) := (Qcx BK131.out 3).trans rfl; have hcz6_4 : w5.cell? ⟨gb131, 4, none⟩ = some (.int .i64 a0_4) := (Qcx BK131.out 4).trans rfl; have hfz6_0 := Qcy BK131.out 0; have hfz6_1 := Qcy BK131.out 1; have hfz6_2 := Qcy BK131.out 2; have hfz6_3 := Qcy BK131.out 3; have hfz6_4 := Qcy BK131.out 4) | (go_at_call 154; (with_reducible refine (Qbs.calls a0_0 a0_1 a0_2 a0_3 a0_4 t132 _ A4.out).mono ?_); rintro e w7 ⟨rfl, hb⟩; have n0_ := QA (Qdg (g := gb131) (o := .cells #[.int .u8 a0_0, .int .u32 a0_1, .int .u32 a0_2, .int .i64 a0_3, .int .i64 a0_4] 47 (0, 0)) (by (with_reducible repeat (first | apply Qdf | apply Qde | apply Qdd)); exact BK131.out) hb); have n1_ := QA (Qdo (by repeat (first | (with_reducible first | exact HB.out | apply Qcc | apply Qce | apply Qdt | refine Qdp ?_ GE131.out) | exact HB.out)) hb); clear BK131; clear HB; have BK131 := n0_; have HB := n1_; clear n0_ n1_; (try clear hb); (try clear hb2); (try clear hk); (try clear hi)))
  go_ret
  exact ⟨by first | rfl | (simp [Qfr, Qfs] <;> rfl) | (simp [*, Qfr, Qfs] <;> rfl), by repeat (first | (with_reducible first | exact HB.out | apply Qcc | apply Qce | apply Qdt | refine Qdp ?_ GE131.out) | exact HB.out)⟩
 ·rw [if_neg c3] at H
  have c3b0 : decide (1 ≤ a1) = false := decide_eq_false c3
  clear c3
  obtain rfl := Option.some.inj H
  go_enter Tryz.func100, Tryz.ntmps100
  go_wp2_with (first | ((with_reducible refine Qdw (N := 2) rfl ?_); refine Qdv ?hg (N := 2) ?hd (cs := #[.int .u8 a0_0, .int .u32 a0_1, .int .u32 a0_2, .int .i64 a0_3, .int .i64 a0_4]) (t := 47) ?hr ?_; (case hd => rfl); (case hg => rfl); (case hr => first | (go_simp; done) | (go_simp; rfl)); intro gb131 hg w8 hbox hb; have n0_ := QA (Qdo (by repeat (first | (with_reducible first | exact HB.out | apply Qcc | apply Qce | apply Qdt) | exact HB.out)) hb); have n1_ := QA (hbox); have n2_ := QA ((by rw [hg]; exact (Qdn (by repeat (first | (with_reducible first | exact HB.out | apply Qcc | apply Qce | apply Qdt) | exact HB.out))) : w.heap.size ≤ gb131)); have n3_ := QA ((by rw [hg]; exact (Qdn (by repeat (first | (with_reducible first | exact HB.out | apply Qcc | apply Qce | apply Qdt) | exact HB.out))) : w.heap.size ≤ gb131)); clear HB; have HB := n0_; have BK131 := n1_; have GW131 := n2_; have GE131 := n3_; clear n0_ n1_ n2_ n3_; clear hb hbox hg))
  go_ret
  exact ⟨by first | rfl | (simp [Qfr, Qfs] <;> rfl) | (simp [*, Qfr, Qfs] <;> rfl), by repeat (first | (with_reducible first | exact HB.out | apply Qcc | apply Qce | apply Qdt | refine Qdp ?_ GE131.out) | exact HB.out)⟩
def Qbt.f (a0_0 : Int) (a0_1 : Int) (a0_2 : Int) (a0_3 : Int) (a0_4 : Int) (a1 : Int) : Option (Int × Int × Int × Int × Int × Int) := (Qbr.f a0_0 a0_1 a0_2 a0_3 a0_4 a1).bind fun t144 => (if t144 = true then (some (a0_0, a0_1, a0_2, wrap64 (a0_3 + a1), wrap64 (a0_4 + 1), 0)) else (some (0, 0, 0, 0, 0, 7)))
set_option maxHeartbeats 8000000 in
set_option maxRecDepth 100000 in
theorem Qbt.calls (a0_0 : Int) (a0_1 : Int) (a0_2 : Int) (a0_3 : Int) (a0_4 : Int) (a1 : Int) (r1 : Int) (r2 : Int) (r3 : Int) (r4 : Int) (r5 : Int) (r6 : Int) (w : World) (h : Qbt.f a0_0 a0_1 a0_2 a0_3 a0_4 a1 = some (r1, r2, r3, r4, r5, r6)) :
  Calls Tryz.prog 59 #[.agg #[.int .u8 a0_0, .int .u32 a0_1, .int .u32 a0_2, .int .i64 a0_3, .int .i64 a0_4], .int .i64 a1] w fun e w' => e = .returned (.tuple #[.agg #[.int .u8 r1, .int .u32 r2, .int .u32 r3, .int .i64 r4, .int .i64 r5], .int .i64 r6]) ∧ Below w.heap.size w w' := by
 have hu47 := Tryz.underlying47
 have HB := QA (Below.refl w.heap.size w)
 have H : ((Qbr.f a0_0 a0_1 a0_2 a0_3 a0_4 a1).bind fun t144 => (if t144 = true then (some (a0_0, a0_1, a0_2, wrap64 (a0_3 + a1), wrap64 (a0_4 + 1), 0)) else (some (0, 0, 0, 0, 0, 7)))) = some (r1, r2, r3, r4, r5, r6) := h
 clear h
 replace H := Option.bind_eq_some_iff.mp H
 obtain ⟨t144, A30, H⟩ := H
 replace H : (if t144 = true then (some (a0_0, a0_1, a0_2, wrap64 (a0_3 + a1), wrap64 (a0_4 + 1), 0)) else (some (0, 0, 0, 0, 0, 7))) = some (r1, r2, r3, r4, r5, r6) := H
 have A3 := QA A30
 clear A30
 by_cases c4 : t144 = true
 ·subst c4
  have H1 : (some (a0_0, a0_1, a0_2, wrap64 (a0_3 + a1), wrap64 (a0_4 + 1), 0)) = some (r1, r2, r3, r4, r5, r6) := by rw [if_pos rfl] at H; exact H
  clear H
  have H := H1
  clear H1
  simp only [Option.some.injEq, Prod.mk.injEq] at H
  obtain ⟨rfl, rfl, rfl, rfl, rfl, rfl⟩ := H
  go_enter Tryz.func59, Tryz.ntmps59
  go_wp2_with (first | ((with_reducible refine Qdw (N := 2) rfl ?_); refine Qdv ?hg (N := 2) ?hd (cs := #[.int .u8 a0_0, .int .u32 a0_1, .int .u32 a0_2, .int .i64 a0_3, .int .i64 a0_4]) (t := 47) ?hr ?_; (case hd => rfl); (case hg => rfl); (case hr => first | (go_simp; done) | (go_simp; rfl)); intro gb142 hg w5 hbox hb; have n0_ := QA (Qdo (by repeat (first | (with_reducible first | exact HB.out | apply Qcc | apply Qce | apply Qdt) | exact HB.out)) hb); have n1_ := QA (hbox); have n2_ := QA ((by rw [hg]; exact (Qdn (by repeat (first | (with_reducible first | exact HB.out | apply Qcc | apply Qce | apply Qdt) | exact HB.out))) : w.heap.size ≤ gb142)); have n3_ := QA ((by rw [hg]; exact (Qdn (by repeat (first | (with_reducible first | exact HB.out | apply Qcc | apply Qce | apply Qdt) | exact HB.out))) : w.heap.size ≤ gb142)); clear HB; have HB := n0_; have BK142 := n1_; have GW142 := n2_; have GE142 := n3_; clear n0_ n1_ n2_ n3_; clear hb hbox hg) | ((with_reducible refine Qdw (N := 4) rfl ?_); refine Qdv ?hg (N := 4) ?hd (cs := #[.int .u8 0, .int .u32 0, .int .u32 0, .int .i64 0, .int .i64 0]) (t := 47) ?hr ?_; (case hd => rfl); (case hg => rfl); (case hr => first | (go_simp; done) | (go_simp; rfl)); intro gb143 hg w6 hbox hb; have n0_ := QA (Qdg (g := gb142) (o := .cells #[.int .u8 a0_0, .int .u32 a0_1, .int .u32 a0_2, .int .i64 a0_3, .int .i64 a0_4] 47 (0, 0)) (by (with_reducible repeat (first | apply Qdf | apply Qde | apply Qdd)); exact BK142.out) hb); have n1_ := QA (Qdo (by repeat (first | (with_reducible first | exact HB.out | apply Qcc | apply Qce | apply Qdt | refine Qdp ?_ GE142.out) | exact HB.out)) hb); have n2_ := QA (hbox); have n3_ := QA ((by rw [hg]; exact (Qdn (by repeat (first | (with_reducible first | exact HB.out | apply Qcc | apply Qce | apply Qdt | refine Qdp ?_ GE142.out) | exact HB.out))) : w.heap.size ≤ gb143)); have n4_ := QA ((by rw [hg]; exact (Qdn (by repeat (first | (with_reducible first | exact HB.out | apply Qcc | apply Qce | apply Qdt | refine Qdp ?_ GE142.out) | exact HB.out))) : w.heap.size ≤ gb143)); have n5_ := QA ((by rw [hg]; exact Nat.ne_of_lt (Qcw (g := gb142) (o := .cells #[.int .u8 a0_0, .int .u32 a0_1, .int .u32 a0_2, .int .i64 a0_3, .int .i64 a0_4] 47 (0, 0)) (by (with_reducible repeat (first | apply Qdf | apply Qde | apply Qdd)); exact BK142.out)) : gb142 ≠ gb143)); have n6_ := QA ((by rw [hg]; exact Nat.ne_of_gt (Qcw (g := gb142) (o := .cells #[.int .u8 a0_0, .int .u32 a0_1, .int .u32 a0_2, .int .i64 a0_3, .int .i64 a0_4] 47 (0, 0)) (by (with_reducible repeat (first | apply Qdf | apply Qde | apply Qdd)); exact BK142.out)) : gb143 ≠ gb142)); clear BK142; clear HB; have BK142 := n0_; have HB := n1_; have BK143 := n2_; have GW143 := n3_; have GE143 := n4_; have NB142_143 := n5_; have NB143_142 := n6_; clear n0_ n1_ n2_ n3_ n4_ n5_ n6_; clear hb hbox hg; have hnb7 := NB142_143.out; have hnc7 := NB143_142.out; have hcz8_0 : w6.cell? ⟨gb142, 0, none⟩ = some (.int .u8 a0_0) := (Qcx BK142.out 0).trans rfl; have hcz8_1 : w6.cell? ⟨gb142, 1, none⟩ = some (.int .u32 a0_1) := (Qcx BK142.out 1).trans rfl; have hcz8_2 : w6.cell? ⟨gb142, 2, none⟩ = some (.int .u32 a0_2) := (Qcx BK142.out 2).trans rfl; have hcz8_3 : w6.cell? ⟨gb142, 3, none⟩ = some (.int .i64 a0_3) := (Qcx BK142.out 3).trans rfl; have hcz8_4 : w6.cell? ⟨gb142, 4, none⟩ = some (.int .i64 a0_4) := (Qcx BK142.out 4).trans rfl; have hfz8_0 := Qcy BK142.out 0; have hfz8_1 := Qcy BK142.out 1; have hfz8_2 := Qcy BK142.out 2; have hfz8_3 := Qcy BK142.out 3; have hfz8_4 := Qcy BK142.out 4) | ((with_reducible refine Qfo (f := 100) rfl ?_); refine Qej (some 8) rfl rfl Tryz.func100 (by kernel_rfl) rfl #[.agg #[.int .u8 a0_0, .int .u32 a0_1, .int .u32 a0_2, .int .i64 a0_3, .int .i64 a0_4], .int .i64 a1] rfl (by (try simp only [List.map_toArray, List.map_cons, List.map_nil]); first | done | rfl | (simp only [List.length_drop, List.length_take]; rfl)) ?_; (with_reducible refine (Qbr.calls a0_0 a0_1 a0_2 a0_3 a0_4 a1 true _ A3.out).mono ?_); rintro e w9 ⟨rfl, hb⟩; refine ⟨_, rfl, ?_⟩; have n0_ := QA (Qdg (g := gb142) (o := .cells #[.int .u8 a0_0, .int .u32 a0_1, .int .u32 a0_2, .int .i64 a0_3, .int .i64 a0_4] 47 (0, 0)) (by (with_reducible repeat (first | apply Qdf | apply Qde | apply Qdd)); exact BK142.out) hb); have n1_ := QA (Qdg (g := gb143) (o := .cells #[.int .u8 0, .int .u32 0, .int .u32 0, .int .i64 0, .int .i64 0] 47 (0, 0)) (by (with_reducible repeat (first | apply Qdf | apply Qde | apply Qdd)); exact BK143.out) hb); have n2_ := QA (Qdo (by repeat (first | (with_reducible first | exact HB.out | apply Qcc | apply Qce | apply Qdt | refine Qdp ?_ GE142.out | refine Qdp ?_ GE143.out) | exact HB.out)) hb); clear BK142; clear BK143; clear HB; have BK142 := n0_; have BK143 := n1_; have HB := n2_; clear n0_ n1_ n2_; (try clear hb); (try clear hb2); (try clear hk); (try clear hi); have hcz10_0 : w9.cell? ⟨gb142, 0, none⟩ = some (.int .u8 a0_0) := (Qcx BK142.out 0).trans rfl; have hcz10_1 : w9.cell? ⟨gb142, 1, none⟩ = some (.int .u32 a0_1) := (Qcx BK142.out 1).trans rfl; have hcz10_2 : w9.cell? ⟨gb142, 2, none⟩ = some (.int .u32 a0_2) := (Qcx BK142.out 2).trans rfl; have hcz10_3 : w9.cell? ⟨gb142, 3, none⟩ = some (.int .i64 a0_3) := (Qcx BK142.out 3).trans rfl; have hcz10_4 : w9.cell? ⟨gb142, 4, none⟩ = some (.int .i64 a0_4) := (Qcx BK142.out 4).trans rfl; have hfz10_0 := Qcy BK142.out 0; have hfz10_1 := Qcy BK142.out 1; have hfz10_2 := Qcy BK142.out 2; have hfz10_3 := Qcy BK142.out 3; have hfz10_4 := Qcy BK142.out 4; have hcz11_0 : w9.cell? ⟨gb143, 0, none⟩ = some (.int .u8 0) := (Qcx BK143.out 0).trans rfl; have hcz11_1 : w9.cell? ⟨gb143, 1, none⟩ = some (.int .u32 0) := (Qcx BK143.out 1).trans rfl; have hcz11_2 : w9.cell? ⟨gb143, 2, none⟩ = some (.int .u32 0) := (Qcx BK143.out 2).trans rfl; have hcz11_3 : w9.cell? ⟨gb143, 3, none⟩ = some (.int .i64 0) := (Qcx BK143.out 3).trans rfl; have hcz11_4 : w9.cell? ⟨gb143, 4, none⟩ = some (.int .i64 0) := (Qcx BK143.out 4).trans rfl; have hfz11_0 := Qcy BK143.out 0; have hfz11_1 := Qcy BK143.out 1; have hfz11_2 := Qcy BK143.out 2; have hfz11_3 := Qcy BK143.out 3; have hfz11_4 := Qcy BK143.out 4))
  refine bodyPost_ret (Qdi rfl _ _ gb143 47 #[.int .u8 a0_0, .int .u32 a0_1, .int .u32 a0_2, .int .i64 (wrap64 (a0_3 + a1)), .int .i64 (wrap64 (a0_4 + 1))] (0, 0) _ rfl (by (with_reducible repeat (first | apply Qdf | apply Qde | apply Qdd)); refine Qds (cs := #[.int .u8 a0_0, .int .u32 a0_1, .int .u32 a0_2, .int .i64 (wrap64 (a0_3 + a1)), .int .i64 0]) ?_ 4 _ rfl; (with_reducible repeat (first | apply Qdf | apply Qde | apply Qdd)); refine Qds (cs := #[.int .u8 a0_0, .int .u32 a0_1, .int .u32 a0_2, .int .i64 0, .int .i64 0]) ?_ 3 _ rfl; (with_reducible repeat (first | apply Qdf | apply Qde | apply Qdd)); refine Qds (cs := #[.int .u8 a0_0, .int .u32 a0_1, .int .u32 0, .int .i64 0, .int .i64 0]) ?_ 2 _ rfl; (with_reducible repeat (first | apply Qdf | apply Qde | apply Qdd)); refine Qds (cs := #[.int .u8 a0_0, .int .u32 0, .int .u32 0, .int .i64 0, .int .i64 0]) ?_ 1 _ rfl; (with_reducible repeat (first | apply Qdf | apply Qde | apply Qdd)); refine Qds (cs := #[.int .u8 0, .int .u32 0, .int .u32 0, .int .i64 0, .int .i64 0]) ?_ 0 _ rfl; (with_reducible repeat (first | apply Qdf | apply Qde | apply Qdd)); refine Qcv ?_ NB143_142.out _; (with_reducible repeat (first | apply Qdf | apply Qde | apply Qdd)); refine Qcv ?_ NB143_142.out _; (with_reducible repeat (first | apply Qdf | apply Qde | apply Qdd)); exact BK143.out) Tryz.underlying47 rfl (by kernel_rfl)) rfl ?_
  exact ⟨by first | rfl | (simp [Qfr, Qfs] <;> rfl) | (simp [*, Qfr, Qfs] <;> rfl), by repeat (first | (with_reducible first | exact HB.out | apply Qcc | apply Qce | apply Qdt | refine Qdp ?_ GE142.out | refine Qdp ?_ GE143.out) | exact HB.out)⟩
 ·replace c4 := Bool.eq_false_iff.mpr c4
  subst c4
  have H1 : (some (0, 0, 0, 0, 0, 7)) = some (r1, r2, r3, r4, r5, r6) := by rw [if_neg (show ¬ (false = true) by decide)] at H; exact H
  clear H
  have H := H1
  clear H1
  simp only [Option.some.injEq, Prod.mk.injEq] at H
  obtain ⟨rfl, rfl, rfl, rfl, rfl, rfl⟩ := H
  go_enter Tryz.func59, Tryz.ntmps59
  go_wp2_with (first | ((with_reducible refine Qdw (N := 2) rfl ?_); refine Qdv ?hg (N := 2) ?hd (cs := #[.int .u8 a0_0, .int .u32 a0_1, .int .u32 a0_2, .int .i64 a0_3, .int .i64 a0_4]) (t := 47) ?hr ?_; (case hd => rfl); (case hg => rfl); (case hr => first | (go_simp; done) | (go_simp; rfl)); intro gb142 hg w12 hbox hb; have n0_ := QA (Qdo (by repeat (first | (with_reducible first | exact HB.out | apply Qcc | apply Qce | apply Qdt) | exact HB.out)) hb); have n1_ := QA (hbox); have n2_ := QA ((by rw [hg]; exact (Qdn (by repeat (first | (with_reducible first | exact HB.out | apply Qcc | apply Qce | apply Qdt) | exact HB.out))) : w.heap.size ≤ gb142)); have n3_ := QA ((by rw [hg]; exact (Qdn (by repeat (first | (with_reducible first | exact HB.out | apply Qcc | apply Qce | apply Qdt) | exact HB.out))) : w.heap.size ≤ gb142)); clear HB; have HB := n0_; have BK142 := n1_; have GW142 := n2_; have GE142 := n3_; clear n0_ n1_ n2_ n3_; clear hb hbox hg) | ((with_reducible refine Qdw (N := 4) rfl ?_); refine Qdv ?hg (N := 4) ?hd (cs := #[.int .u8 0, .int .u32 0, .int .u32 0, .int .i64 0, .int .i64 0]) (t := 47) ?hr ?_; (case hd => rfl); (case hg => rfl); (case hr => first | (go_simp; done) | (go_simp; rfl)); intro gb143 hg w13 hbox hb; have n0_ := QA (Qdg (g := gb142) (o := .cells #[.int .u8 a0_0, .int .u32 a0_1, .int .u32 a0_2, .int .i64 a0_3, .int .i64 a0_4] 47 (0, 0)) (by (with_reducible repeat (first | apply Qdf | apply Qde | apply Qdd)); exact BK142.out) hb); have n1_ := QA (Qdo (by repeat (first | (with_reducible first | exact HB.out | apply Qcc | apply Qce | apply Qdt | refine Qdp ?_ GE142.out) | exact HB.out)) hb); have n2_ := QA (hbox); have n3_ := QA ((by rw [hg]; exact (Qdn (by repeat (first | (with_reducible first | exact HB.out | apply Qcc | apply Qce | apply Qdt | refine Qdp ?_ GE142.out) | exact HB.out))) : w.heap.size ≤ gb143)); have n4_ := QA ((by rw [hg]; exact (Qdn (by repeat (first | (with_reducible first | exact HB.out | apply Qcc | apply Qce | apply Qdt | refine Qdp ?_ GE142.out) | exact HB.out))) : w.heap.size ≤ gb143)); have n5_ := QA ((by rw [hg]; exact Nat.ne_of_lt (Qcw (g := gb142) (o := .cells #[.int .u8 a0_0, .int .u32 a0_1, .int .u32 a0_2, .int .i64 a0_3, .int .i64 a0_4] 47 (0, 0)) (by (with_reducible repeat (first | apply Qdf | apply Qde | apply Qdd)); exact BK142.out)) : gb142 ≠ gb143)); have n6_ := QA ((by rw [hg]; exact Nat.ne_of_gt (Qcw (g := gb142) (o := .cells #[.int .u8 a0_0, .int .u32 a0_1, .int .u32 a0_2, .int .i64 a0_3, .int .i64 a0_4] 47 (0, 0)) (by (with_reducible repeat (first | apply Qdf | apply Qde | apply Qdd)); exact BK142.out)) : gb143 ≠ gb142)); clear BK142; clear HB; have BK142 := n0_; have HB := n1_; have BK143 := n2_; have GW143 := n3_; have GE143 := n4_; have NB142_143 := n5_; have NB143_142 := n6_; clear n0_ n1_ n2_ n3_ n4_ n5_ n6_; clear hb hbox hg; have hnb14 := NB142_143.out; have hnc14 := NB143_142.out; have hcz15_0 : w13.cell? ⟨gb142, 0, none⟩ = some (.int .u8 a0_0) := (Qcx BK142.out 0).trans rfl; have hcz15_1 : w13.cell? ⟨gb142, 1, none⟩ = some (.int .u32 a0_1) := (Qcx BK142.out 1).trans rfl; have hcz15_2 : w13.cell? ⟨gb142, 2, none⟩ = some (.int .u32 a0_2) := (Qcx BK142.out 2).trans rfl; have hcz15_3 : w13.cell? ⟨gb142, 3, none⟩ = some (.int .i64 a0_3) := (Qcx BK142.out 3).trans rfl; have hcz15_4 : w13.cell? ⟨gb142, 4, none⟩ = some (.int .i64 a0_4) := (Qcx BK142.out 4).trans rfl; have hfz15_0 := Qcy BK142.out 0; have hfz15_1 := Qcy BK142.out 1; have hfz15_2 := Qcy BK142.out 2; have hfz15_3 := Qcy BK142.out 3; have hfz15_4 := Qcy BK142.out 4) | ((with_reducible refine Qfo (f := 100) rfl ?_); refine Qej (some 8) rfl rfl Tryz.func100 (by kernel_rfl) rfl #[.agg #[.int .u8 a0_0, .int .u32 a0_1, .int .u32 a0_2, .int .i64 a0_3, .int .i64 a0_4], .int .i64 a1] rfl (by (try simp only [List.map_toArray, List.map_cons, List.map_nil]); first | done | rfl | (simp only [List.length_drop, List.length_take]; rfl)) ?_; (with_reducible refine (Qbr.calls a0_0 a0_1 a0_2 a0_3 a0_4 a1 false _ A3.out).mono ?_); rintro e w16 ⟨rfl, hb⟩; refine ⟨_, rfl, ?_⟩; have n0_ := QA (Qdg (g := gb142) (o := .cells #[.int .u8 a0_0, .int .u32 a0_1, .int .u32 a0_2, .int .i64 a0_3, .int .i64 a0_4] 47 (0, 0)) (by (with_reducible repeat (first | apply Qdf | apply Qde | apply Qdd)); exact BK142.out) hb); have n1_ := QA (Qdg (g := gb143) (o := .cells #[.int .u8 0, .int .u32 0, .int .u32 0, .int .i64 0, .int .i64 0] 47 (0, 0)) (by (with_reducible repeat (first | apply Qdf | apply Qde | apply Qdd)); exact BK143.out) hb); have n2_ := QA (Qdo (by repeat (first | (with_reducible first | exact HB.out | apply Qcc | apply Qce | apply Qdt | refine Qdp ?_ GE142.out | refine Qdp ?_ GE143.out) | exact HB.out)) hb); clear BK142; clear BK143; clear HB; have BK142 := n0_; have BK143 := n1_; have HB := n2_; clear n0_ n1_ n2_; (try clear hb); (try clear hb2); (try clear hk); (try clear hi); have hcz17_0 : w16.cell? ⟨gb143, 0, none⟩ = some (.int .u8 0) := (Qcx BK143.out 0).trans rfl; have hcz17_1 : w16.cell? ⟨gb143, 1, none⟩ = some (.int .u32 0) := (Qcx BK143.out 1).trans rfl; have hcz17_2 : w16.cell? ⟨gb143, 2, none⟩ = some (.int .u32 0) := (Qcx BK143.out 2).trans rfl; have hcz17_3 : w16.cell? ⟨gb143, 3, none⟩ = some (.int .i64 0) := (Qcx BK143.out 3).trans rfl; have hcz17_4 : w16.cell? ⟨gb143, 4, none⟩ = some (.int .i64 0) := (Qcx BK143.out 4).trans rfl; have hfz17_0 := Qcy BK143.out 0; have hfz17_1 := Qcy BK143.out 1; have hfz17_2 := Qcy BK143.out 2; have hfz17_3 := Qcy BK143.out 3; have hfz17_4 := Qcy BK143.out 4))
  refine bodyPost_ret (Qdi rfl _ _ gb143 47 #[.int .u8 0, .int .u32 0, .int .u32 0, .int .i64 0, .int .i64 0] (0, 0) _ rfl (by (with_reducible repeat (first | apply Qdf | apply Qde | apply Qdd)); refine Qds (cs := #[.int .u8 0, .int .u32 0, .int .u32 0, .int .i64 0, .int .i64 0]) ?_ 4 _ rfl; (with_reducible repeat (first | apply Qdf | apply Qde | apply Qdd)); refine Qds (cs := #[.int .u8 0, .int .u32 0, .int .u32 0, .int .i64 0, .int .i64 0]) ?_ 3 _ rfl; (with_reducible repeat (first | apply Qdf | apply Qde | apply Qdd)); refine Qds (cs := #[.int .u8 0, .int .u32 0, .int .u32 0, .int .i64 0, .int .i64 0]) ?_ 2 _ rfl; (with_reducible repeat (first | apply Qdf | apply Qde | apply Qdd)); refine Qds (cs := #[.int .u8 0, .int .u32 0, .int .u32 0, .int .i64 0, .int .i64 0]) ?_ 1 _ rfl; (with_reducible repeat (first | apply Qdf | apply Qde | apply Qdd)); refine Qds (cs := #[.int .u8 0, .int .u32 0, .int .u32 0, .int .i64 0, .int .i64 0]) ?_ 0 _ rfl; (with_reducible repeat (first | apply Qdf | apply Qde | apply Qdd)); exact BK143.out) Tryz.underlying47 rfl (by kernel_rfl)) rfl ?_
  exact ⟨by first | rfl | (simp [Qfr, Qfs] <;> rfl) | (simp [*, Qfr, Qfs] <;> rfl), by repeat (first | (with_reducible first | exact HB.out | apply Qcc | apply Qce | apply Qdt | refine Qdp ?_ GE142.out | refine Qdp ?_ GE143.out) | exact HB.out)⟩
end Go.Proofs.YtnnofopfbeklbaaGreat.C
end
