/- Texts of this claim's author and of the print of its functions, merged by merge.py. -/
import Derived.Test.YtnnofopfbeklbaaGreatMG02
import Derived.Test.YtnnofopfbeklbaaGreatMG06
set_option linter.unusedVariables false
set_option linter.unusedSimpArgs false
set_option maxHeartbeats 8000000
set_option maxRecDepth 100000
section
namespace Go.Proofs.YtnnofopfbeklbaaGreat.C
open Go.RowKit Go.Proofs.YtnnofopfbeklbaaGreatW.PrintWords Go.Proofs.YtnnofopfbeklbaaGreatW.PrintLast Go.Proofs.YtnnofopfbeklbaaGreatW.PrintMore
attribute [local go_sem] Qfx Qfy Qfz Qga Qgb Qgc Qgd Qge
def Qcf.f (a0_0 : Int) (a0_1 : Int) (a0_2 : Int) (a0_3 : Int) (a0_4 : Int) : Option (Int) := (Qal.f a0_0 a0_1).bind fun t129 => ((Qbx.f (wrap64 (a0_4 + 1))).bind fun t130 => (some (mx 0 (wrap64 ((wrap64 (t129 - a0_3)) - t130)))))
def Qcf.T1 : Bool × List (List Nat × List Nat) := (true, [([], []), ([0], [0]), ([1], [1]), ([], []), ([3], [3]), ([2, 4], [2, 4]), ([], []), ([6], [6]), ([7], [7]), ([8, 2], [8]), ([5, 9], [5, 9]), ([10], [10]), ([11, 9, 0, 1, 2, 3, 4, 5, 6, 7, 8, 9, 10, 11], [11])])
def Qcf.B1 : List Nat := [0, 1, 3, 0, 8, 31, 0, 64, 192, 455, 1023, 2047, 4095]
theorem Qcf.tab1 : rtab .any (Qfp Tryz.f154 1) = Qcf.T1 := by kernel_rfl
theorem Qcf.bits1 : Qfl Qcf.T1.2 Qcf.B1 = true := by kernel_rfl
theorem Qcf.calls (a0_0 : Int) (a0_1 : Int) (a0_2 : Int) (a0_3 : Int) (a0_4 : Int) (r : Int) (w : World) (h : Qcf.f a0_0 a0_1 a0_2 a0_3 a0_4 = some r) :
  Calls Tryz.prog 154 #[.agg #[.int .u8 a0_0, .int .u32 a0_1, .int .u32 a0_2, .int .i64 a0_3, .int .i64 a0_4]] w fun e w' => e = .returned (.int .i64 r) ∧ Below w.heap.size w w' := by
 have hu47 := Tryz.underlying47
 have hu27 := Tryz.underlying27
 have HB := QA (Below.refl w.heap.size w)
 have H : ((Qal.f a0_0 a0_1).bind fun t129 => ((Qbx.f (wrap64 (a0_4 + 1))).bind fun t130 => (some (mx 0 (wrap64 ((wrap64 (t129 - a0_3)) - t130)))))) = some r := h
 clear h
 replace H := Option.bind_eq_some_iff.mp H
 obtain ⟨t129, A20, H⟩ := H
 replace H : ((Qbx.f (wrap64 (a0_4 + 1))).bind fun t130 => (some (mx 0 (wrap64 ((wrap64 (t129 - a0_3)) - t130))))) = some r := H
 have A2 := QA A20
 clear A20
 replace H := Option.bind_eq_some_iff.mp H
 obtain ⟨t130, A30, H⟩ := H
 replace H : (some (mx 0 (wrap64 ((wrap64 (t129 - a0_3)) - t130)))) = some r := H
 have A3 := QA A30
 clear A30
 obtain ⟨ji4, hji4⟩ : ∃ j_ : Int, (mx 0 (wrap64 ((wrap64 (t129 - a0_3)) - t130))) = j_ := ⟨_, rfl⟩
 replace H : (some ji4) = some r := by first | (rw [hji4] at H; exact H) | (simp only [hji4] at H ⊢; exact H)
 (try rw [hji4] at A2)
 (try rw [hji4] at A3)
 (try (have hji4l : 0 ≤ ji4 := by (rw [← hji4]; unfold mx; (repeat' split) <;> omega)))
 (try (have hji4m : 0 ≤ ji4 := by omega))
 have hji4_ : (if 0 < (wrap64 ((wrap64 (t129 - a0_3)) - t130)) then (wrap64 ((wrap64 (t129 - a0_3)) - t130)) else 0) = ji4 := hji4
 obtain rfl := Option.some.inj H
 go_enter Tryz.func154, Tryz.ntmps154
 try go_wp2_with (first | ((with_reducible refine Qef (N := 1) rfl ?_); refine qq_e 1 #[.int .u8 a0_0, .int .u32 a0_1, .int .u32 a0_2, .int .i64 a0_3, .int .i64 a0_4] 47 ?_; intro gb128 hg w5 hbox hb; have n0_ := QA (Qea qq_b hb); have n1_ := QA (hbox); have n2_ := QA ((qq_s hg : w.heap.size ≤ gb128)); have n3_ := QA ((qq_s hg : w.heap.size ≤ gb128)); clear HB; have HB := n0_; have BK128 := n1_; have GW128 := n2_; have GE128 := n3_; clear n0_ n1_ n2_ n3_; clear hb hbox hg))
 have n0_ := QA (Qdr BK128.out)
 have n1_ := QA (Qee HB.out)
 clear BK128
 clear HB
 have BK128 := n0_
 have HB := n1_
 clear n0_ n1_
 refine Qen (n := 13) (S := fun w' => w'.cell? ⟨gb128, 0, none⟩ = some (.int .u8 a0_0) ∧ w'.cell? ⟨gb128, 1, none⟩ = some (.int .u32 a0_1) ∧ w'.cell? ⟨gb128, 2, none⟩ = some (.int .u32 a0_2) ∧ w'.cell? ⟨gb128, 3, none⟩ = some (.int .i64 a0_3) ∧ w'.cell? ⟨gb128, 4, none⟩ = some (.int .i64 a0_4)) (ds := []) #[false, false, false, false, false, false, false, false, false, false, false, false, false] qq_6 rfl rfl ⟨(Qdj BK128.out 0).trans rfl, (Qdj BK128.out 1).trans rfl, (Qdj BK128.out 2).trans rfl, (Qdj BK128.out 3).trans rfl, (Qdj BK128.out 4).trans rfl⟩ (fun hHeld => ?_); refine Qfn Qcf.tab1 Qcf.bits1 (fun HT_ HW_ => ?_)
 generalize w5.drew = w6 at BK128 HB hHeld ⊢
 refine Qeo (i := 0) (N := some 3) (v := ?_) (a' := ?_) #[true, false, false, false, false, false, false, false, false, false, false, false, false] rfl rfl (Qfh HT_.out qq_6) (fun _ _ _ h => h) (Or.inl ⟨by rfl, ?_⟩) ?_ ?_
 rotate_left
 ·intro w'
  go_simp
  with_reducible rfl
 rotate_left
 ·exact qq_2
 refine Qeo (i := 3) (N := some 6) (v := ?_) (a' := ?_) #[true, false, false, true, false, false, false, false, false, false, false, false, false] rfl rfl (Qfh HT_.out qq_6) (fun _ _ _ h => h) (Or.inl ⟨by rfl, ?_⟩) ?_ ?_
 rotate_left
 ·intro w'
  go_simp
  with_reducible rfl
 rotate_left
 ·exact qq_2
 refine Qeo (i := 6) (N := some 9) (v := ?_) (a' := ?_) #[true, false, false, true, false, false, true, false, false, false, false, false, false] rfl rfl (Qfh HT_.out qq_6) (fun _ _ _ h => h) (Or.inl ⟨by rfl, ?_⟩) ?_ ?_
 rotate_left
 ·intro w'
  go_simp
  with_reducible rfl
 rotate_left
 ·exact qq_2
 refine take_ (i := 1) (N := some 4) (v := ?_) (a' := ?_) #[true, true, false, true, false, false, true, false, false, false, false, false, false] rfl rfl (Qfm HT_.out HW_.out qq_6) (fun _ _ _ h => h) (Or.inl ⟨by rfl, ?_⟩) hHeld ?_ ?_
 rotate_left
 ·rintro w' ⟨s0, s1, s2, s3, s4⟩
  go_simp
  with_reducible rfl
 rotate_left
 ·exact qq_2
 refine take_ (i := 4) (N := some 7) (v := ?_) (a' := ?_) #[true, true, false, true, true, false, true, false, false, false, false, false, false] rfl rfl (Qfm HT_.out HW_.out qq_6) (fun _ _ _ h => h) (Or.inl ⟨by rfl, ?_⟩) hHeld ?_ ?_
 rotate_left
 ·rintro w' ⟨s0, s1, s2, s3, s4⟩
  go_simp
  with_reducible rfl
 rotate_left
 ·exact qq_2
 refine take_ (i := 7) (N := some 10) (v := ?_) (a' := ?_) #[true, true, false, true, true, false, true, true, false, false, false, false, false] rfl rfl (Qfm HT_.out HW_.out qq_6) (fun _ _ _ h => h) (Or.inl ⟨by rfl, ?_⟩) hHeld ?_ ?_
 rotate_left
 ·rintro w' ⟨s0, s1, s2, s3, s4⟩
  go_simp
  with_reducible rfl
 rotate_left
 ·exact qq_2
 refine Qeo (i := 8) (N := some 11) (v := ?_) (a' := ?_) #[true, true, false, true, true, false, true, true, true, false, false, false, false] rfl rfl (Qfh HT_.out qq_6) (fun _ _ _ h => h) (Or.inl ⟨by rfl, ?_⟩) ?_ ?_
 rotate_left
 ·intro w'
  go_simp
  with_reducible rfl
 rotate_left
 ·exact qq_2
 refine one_ (i := 2) (N := some 5) #[true, true, true, true, true, false, true, true, true, false, false, false, false] rfl rfl (Qfi HT_.out qq_6) (by decide) (fun K hK => ?_)
 refine Qet Tryz.func78 qq_6 rfl #[.agg #[.int .u8 a0_0, .int .u32 a0_1]] (by rfl) rfl rfl qq_1 ?_
 with_reducible refine (Qal.calls a0_0 a0_1 t129 _ A2.out).mono ?_
 rintro e w7 ⟨rfl, hb⟩
 refine ⟨_, rfl, ?_⟩
 have n0_ := QA (Qdt (g := gb128) (o := .cells #[.int .u8 a0_0, .int .u32 a0_1, .int .u32 a0_2, .int .i64 a0_3, .int .i64 a0_4] 47 (0, 0)) qq_0 hb)
 have n1_ := QA (Qea qq_b hb)
 clear BK128
 clear HB
 have BK128 := n0_
 have HB := n1_
 clear n0_ n1_
 (try clear hb)
 (try clear hb2)
 (try clear hk)
 (try clear hi)
 refine hK.out _ _ ⟨(Qdj BK128.out 0).trans rfl, (Qdj BK128.out 1).trans rfl, (Qdj BK128.out 2).trans rfl, (Qdj BK128.out 3).trans rfl, (Qdj BK128.out 4).trans rfl⟩ (fun hHeld => ?_)
 clear hK K
 refine Qes (a' := ?_) ?_ ?_
 rotate_left
 ·show Act.put _ (some 5) _ = _
  simp only [Act.put, List.setIfInBounds_toArray, List.set_cons_zero, List.set_cons_succ, Qew, Qex]
  rfl
 refine Qeo (i := 5) (N := some 8) (v := ?_) (a' := ?_) #[true, true, true, true, true, true, true, true, true, false, false, false, false] rfl rfl (Qfh HT_.out qq_6) (fun _ _ _ h => h) (Or.inl ⟨by rfl, ?_⟩) ?_ ?_
 rotate_left
 ·intro w'
  go_simp
  with_reducible rfl
 rotate_left
 ·exact qq_2
 refine one_ (i := 9) (N := some 12) #[true, true, true, true, true, true, true, true, true, true, false, false, false] rfl rfl (Qfi HT_.out qq_6) (by decide) (fun K hK => ?_)
 refine Qet Tryz.func198 qq_6 rfl #[.int .i64 (wrap64 (a0_4 + 1))] (by rfl) rfl rfl qq_1 ?_
 with_reducible refine (Qbx.calls (wrap64 (a0_4 + 1)) t130 _ A3.out).mono ?_
 rintro e w8 ⟨rfl, hb⟩
 refine ⟨_, rfl, ?_⟩
 have n0_ := QA (Qdt (g := gb128) (o := .cells #[.int .u8 a0_0, .int .u32 a0_1, .int .u32 a0_2, .int .i64 a0_3, .int .i64 a0_4] 47 (0, 0)) qq_0 hb)
 have n1_ := QA (Qea qq_b hb)
 clear BK128
 clear HB
 have BK128 := n0_
 have HB := n1_
 clear n0_ n1_
 (try clear hb)
 (try clear hb2)
 (try clear hk)
 (try clear hi)
 refine hK.out _ _ ⟨(Qdj BK128.out 0).trans rfl, (Qdj BK128.out 1).trans rfl, (Qdj BK128.out 2).trans rfl, (Qdj BK128.out 3).trans rfl, (Qdj BK128.out 4).trans rfl⟩ (fun hHeld => ?_)
 clear hK K
 refine Qes (a' := ?_) ?_ ?_
 rotate_left
 ·show Act.put _ (some 12) _ = _
  simp only [Act.put, List.setIfInBounds_toArray, List.set_cons_zero, List.set_cons_succ, Qew, Qex]
  rfl
 refine Qeo (i := 10) (N := some 13) (v := ?_) (a' := ?_) #[true, true, true, true, true, true, true, true, true, true, true, false, false] rfl rfl (Qfh HT_.out qq_6) (fun _ _ _ h => h) (Or.inl ⟨by rfl, ?_⟩) ?_ ?_
 rotate_left
 ·intro w'
  go_simp
  with_reducible rfl
 rotate_left
 ·exact qq_2
 refine Qeo (i := 11) (N := some 14) (v := ?_) (a' := ?_) #[true, true, true, true, true, true, true, true, true, true, true, true, false] rfl rfl (Qfh HT_.out qq_6) (fun _ _ _ h => h) (Or.inl ⟨by rfl, ?_⟩) ?_ ?_
 rotate_left
 ·intro w'
  go_simp
  with_reducible rfl
 rotate_left
 ·exact qq_2
 refine Qeo (i := 12) (N := some 2) (v := ?_) (a' := ?_) #[true, true, true, true, true, true, true, true, true, true, true, true, true] rfl rfl (Qfh HT_.out qq_6) (fun _ _ _ h => h) (Or.inl ⟨by rfl, ?_⟩) ?_ ?_
 rotate_left
 ·intro w'
  go_simp
  with_reducible rfl
 rotate_left
 ·exact qq_2
 refine Qep (Qfk HT_.out qq_6) ?_
 try go_wp2
 go_ret
 exact ⟨by first | rfl | (simp [Qgi, Qgj] <;> rfl) | (simp only [← hji4]; first | rfl | (simp [Qgi, Qgj] <;> rfl)) | (simp [*, Qgi, Qgj] <;> rfl), qq_b⟩
def Qce.f (a0_0 : Int) (a0_1 : Int) (a0_2 : Int) (a0_3 : Int) (a0_4 : Int) (a1 : Int) : Option (Bool) := if a1 ≥ 1 then ((Qcf.f a0_0 a0_1 a0_2 a0_3 a0_4).bind fun t132 => (some (decide (a1 ≤ t132)))) else (some false)
theorem Qce.calls (a0_0 : Int) (a0_1 : Int) (a0_2 : Int) (a0_3 : Int) (a0_4 : Int) (a1 : Int) (r : Bool) (w : World) (h : Qce.f a0_0 a0_1 a0_2 a0_3 a0_4 a1 = some r) :
  Calls Tryz.prog 100 #[.agg #[.int .u8 a0_0, .int .u32 a0_1, .int .u32 a0_2, .int .i64 a0_3, .int .i64 a0_4], .int .i64 a1] w fun e w' => e = .returned (.bool r) ∧ Below w.heap.size w w' := by
 have hu47 := Tryz.underlying47
 have HB := QA (Below.refl w.heap.size w)
 have H : (if a1 ≥ 1 then ((Qcf.f a0_0 a0_1 a0_2 a0_3 a0_4).bind fun t132 => (some (decide (a1 ≤ t132)))) else (some false)) = some r := h
 clear h
 by_cases c3 : a1 ≥ 1
 ·rw [if_pos c3] at H
  have c3b0 : decide (1 ≤ a1) = true := decide_eq_true c3
  clear c3
  replace H := Option.bind_eq_some_iff.mp H
  obtain ⟨t132, A40, H⟩ := H
  replace H : (some (decide (a1 ≤ t132))) = some r := H
  have A4 := QA A40
  clear A40
  obtain rfl := Option.some.inj H
  go_enter Tryz.func100, Tryz.ntmps100
  go_wp2_with (first | ((with_reducible refine Qef (N := 2) rfl ?_); refine qq_e 2 #[.int .u8 a0_0, .int .u32 a0_1, .int .u32 a0_2, .int .i64 a0_3, .int .i64 a0_4] 47 ?_; intro gb131 hg w5 hbox hb; have n0_ := QA (Qea qq_b hb); have n1_ := QA (hbox); have n2_ := QA ((qq_s hg : w.heap.size ≤ gb131)); have n3_ := QA ((qq_s hg : w.heap.size ≤ gb131)); clear HB; have HB := n0_; have BK131 := n1_; have GW131 := n2_; have GE131 := n3_; clear n0_ n1_ n2_ n3_; clear hb hbox hg; have hcz6_0 := qq_c (.int .u8 a0_0) BK131.out 0 rfl; have hcz6_1 := qq_c (.int .u32 a0_1) BK131.out 1 rfl; have hcz6_2 := qq_c (.int .u32 a0_2) BK131.out 2 rfl; have hcz6_3 := qq_c (.int .i64 a0_3) BK131.out 3 rfl; have hcz6_4 := qq_c (.int .i64 a0_4) BK131.out 4 rfl; have hfz6_0 := Qdk BK131.out 0; have hfz6_1 := Qdk BK131.out 1; have hfz6_2 := Qdk BK131.out 2; have hfz6_3 := Qdk BK131.out 3; have hfz6_4 := Qdk BK131.out 4) | (go_at_call 154; (with_reducible refine (Qcf.calls a0_0 a0_1 a0_2 a0_3 a0_4 t132 _ A4.out).mono ?_); rintro e w7 ⟨rfl, hb⟩; have n0_ := QA (Qdt (g := gb131) (o := .cells #[.int .u8 a0_0, .int .u32 a0_1, .int .u32 a0_2, .int .i64 a0_3, .int .i64 a0_4] 47 (0, 0)) qq_0 hb); have n1_ := QA (Qea qq_b hb); clear BK131; clear HB; have BK131 := n0_; have HB := n1_; clear n0_ n1_; (try clear hb); (try clear hb2); (try clear hk); (try clear hi)))
  go_ret
  exact ⟨by first | rfl | (simp [Qgi, Qgj] <;> rfl) | (simp [*, Qgi, Qgj] <;> rfl), qq_b⟩
 ·rw [if_neg c3] at H
  have c3b0 : decide (1 ≤ a1) = false := decide_eq_false c3
  clear c3
  obtain rfl := Option.some.inj H
  go_enter Tryz.func100, Tryz.ntmps100
  go_wp2_with (first | ((with_reducible refine Qef (N := 2) rfl ?_); refine qq_e 2 #[.int .u8 a0_0, .int .u32 a0_1, .int .u32 a0_2, .int .i64 a0_3, .int .i64 a0_4] 47 ?_; intro gb131 hg w8 hbox hb; have n0_ := QA (Qea qq_b hb); have n1_ := QA (hbox); have n2_ := QA ((qq_s hg : w.heap.size ≤ gb131)); have n3_ := QA ((qq_s hg : w.heap.size ≤ gb131)); clear HB; have HB := n0_; have BK131 := n1_; have GW131 := n2_; have GE131 := n3_; clear n0_ n1_ n2_ n3_; clear hb hbox hg))
  go_ret
  exact ⟨by first | rfl | (simp [Qgi, Qgj] <;> rfl) | (simp [*, Qgi, Qgj] <;> rfl), qq_b⟩
def Qcg.f (a0_0 : Int) (a0_1 : Int) (a0_2 : Int) (a0_3 : Int) (a0_4 : Int) (a1 : Int) : Option (Int × Int × Int × Int × Int × Int) := (Qce.f a0_0 a0_1 a0_2 a0_3 a0_4 a1).bind fun t144 => (if t144 = true then (some (a0_0, a0_1, a0_2, wrap64 (a0_3 + a1), wrap64 (a0_4 + 1), 0)) else (some (0, 0, 0, 0, 0, 7)))
theorem Qcg.calls (a0_0 : Int) (a0_1 : Int) (a0_2 : Int) (a0_3 : Int) (a0_4 : Int) (a1 : Int) (r1 : Int) (r2 : Int) (r3 : Int) (r4 : Int) (r5 : Int) (r6 : Int) (w : World) (h : Qcg.f a0_0 a0_1 a0_2 a0_3 a0_4 a1 = some (r1, r2, r3, r4, r5, r6)) :
  Calls Tryz.prog 59 #[.agg #[.int .u8 a0_0, .int .u32 a0_1, .int .u32 a0_2, .int .i64 a0_3, .int .i64 a0_4], .int .i64 a1] w fun e w' => e = .returned (.tuple #[.agg #[.int .u8 r1, .int .u32 r2, .int .u32 r3, .int .i64 r4, .int .i64 r5], .int .i64 r6]) ∧ Below w.heap.size w w' := by
 have hu47 := Tryz.underlying47
 have HB := QA (Below.refl w.heap.size w)
 have H : ((Qce.f a0_0 a0_1 a0_2 a0_3 a0_4 a1).bind fun t144 => (if t144 = true then (some (a0_0, a0_1, a0_2, wrap64 (a0_3 + a1), wrap64 (a0_4 + 1), 0)) else (some (0, 0, 0, 0, 0, 7)))) = some (r1, r2, r3, r4, r5, r6) := h
 clear h
 replace H := Option.bind_eq_some_iff.mp H
 obtain ⟨t144, A30, H⟩ := H
 replace H : (if t144 = true then (some (a0_0, a0_1, a0_2, wrap64 (a0_3 + a1), wrap64 (a0_4 + 1), 0)) else (some (0, 0, 0, 0, 0, 7))) = some (r1, r2, r3, r4, r5, r6) := H
 have A3 := QA A30
 clear A30
 by_cases c4 : t144 = true
 ·subst c4
  have H1 : (some (a0_0, a0_1, a0_2, wrap64 (a0_3 + a1), wrap64 (a0_4 + 1), 0)) = some (r1, r2, r3, r4, r5, r6) := by rw [if_pos rfl] at H; exact H
  clear H
  have H := H1
  clear H1
  simp only [Option.some.injEq, Prod.mk.injEq] at H
  obtain ⟨rfl, rfl, rfl, rfl, rfl, rfl⟩ := H
  go_enter Tryz.func59, Tryz.ntmps59
  go_wp2_with (first | ((with_reducible refine Qef (N := 2) rfl ?_); refine qq_e 2 #[.int .u8 a0_0, .int .u32 a0_1, .int .u32 a0_2, .int .i64 a0_3, .int .i64 a0_4] 47 ?_; intro gb142 hg w5 hbox hb; have n0_ := QA (Qea qq_b hb); have n1_ := QA (hbox); have n2_ := QA ((qq_s hg : w.heap.size ≤ gb142)); have n3_ := QA ((qq_s hg : w.heap.size ≤ gb142)); clear HB; have HB := n0_; have BK142 := n1_; have GW142 := n2_; have GE142 := n3_; clear n0_ n1_ n2_ n3_; clear hb hbox hg) | ((with_reducible refine Qef (N := 4) rfl ?_); refine qq_e 4 #[.int .u8 0, .int .u32 0, .int .u32 0, .int .i64 0, .int .i64 0] 47 ?_; intro gb143 hg w6 hbox hb; have n0_ := QA (Qdt (g := gb142) (o := .cells #[.int .u8 a0_0, .int .u32 a0_1, .int .u32 a0_2, .int .i64 a0_3, .int .i64 a0_4] 47 (0, 0)) qq_0 hb); have n1_ := QA (Qea qq_b hb); have n2_ := QA (hbox); have n3_ := QA ((qq_s hg : w.heap.size ≤ gb143)); have n4_ := QA ((qq_s hg : w.heap.size ≤ gb143)); have n5_ := QA ((by rw [hg]; exact Nat.ne_of_lt (Qdi (g := gb142) (o := .cells #[.int .u8 a0_0, .int .u32 a0_1, .int .u32 a0_2, .int .i64 a0_3, .int .i64 a0_4] 47 (0, 0)) qq_0) : gb142 ≠ gb143)); have n6_ := QA ((by rw [hg]; exact Nat.ne_of_gt (Qdi (g := gb142) (o := .cells #[.int .u8 a0_0, .int .u32 a0_1, .int .u32 a0_2, .int .i64 a0_3, .int .i64 a0_4] 47 (0, 0)) qq_0) : gb143 ≠ gb142)); clear BK142; clear HB; have BK142 := n0_; have HB := n1_; have BK143 := n2_; have GW143 := n3_; have GE143 := n4_; have NB142_143 := n5_; have NB143_142 := n6_; clear n0_ n1_ n2_ n3_ n4_ n5_ n6_; clear hb hbox hg; have hnb7 := NB142_143.out; have hnc7 := NB143_142.out; have hcz8_0 := qq_c (.int .u8 a0_0) BK142.out 0 rfl; have hcz8_1 := qq_c (.int .u32 a0_1) BK142.out 1 rfl; have hcz8_2 := qq_c (.int .u32 a0_2) BK142.out 2 rfl; have hcz8_3 := qq_c (.int .i64 a0_3) BK142.out 3 rfl; have hcz8_4 := qq_c (.int .i64 a0_4) BK142.out 4 rfl; have hfz8_0 := Qdk BK142.out 0; have hfz8_1 := Qdk BK142.out 1; have hfz8_2 := Qdk BK142.out 2; have hfz8_3 := Qdk BK142.out 3; have hfz8_4 := Qdk BK142.out 4) | ((with_reducible refine Qgf (f := 100) rfl ?_); refine Qeu (some 8) rfl rfl Tryz.func100 qq_6 rfl #[.agg #[.int .u8 a0_0, .int .u32 a0_1, .int .u32 a0_2, .int .i64 a0_3, .int .i64 a0_4], .int .i64 a1] rfl qq_1 ?_; (with_reducible refine (Qce.calls a0_0 a0_1 a0_2 a0_3 a0_4 a1 true _ A3.out).mono ?_); rintro e w9 ⟨rfl, hb⟩; refine ⟨_, rfl, ?_⟩; have n0_ := QA (Qdt (g := gb142) (o := .cells #[.int .u8 a0_0, .int .u32 a0_1, .int .u32 a0_2, .int .i64 a0_3, .int .i64 a0_4] 47 (0, 0)) qq_0 hb); have n1_ := QA (Qdt (g := gb143) (o := .cells #[.int .u8 0, .int .u32 0, .int .u32 0, .int .i64 0, .int .i64 0] 47 (0, 0)) qq_0 hb); have n2_ := QA (Qea qq_b hb); clear BK142; clear BK143; clear HB; have BK142 := n0_; have BK143 := n1_; have HB := n2_; clear n0_ n1_ n2_; (try clear hb); (try clear hb2); (try clear hk); (try clear hi); have hcz10_0 := qq_c (.int .u8 a0_0) BK142.out 0 rfl; have hcz10_1 := qq_c (.int .u32 a0_1) BK142.out 1 rfl; have hcz10_2 := qq_c (.int .u32 a0_2) BK142.out 2 rfl; have hcz10_3 := qq_c (.int .i64 a0_3) BK142.out 3 rfl; have hcz10_4 := qq_c (.int .i64 a0_4) BK142.out 4 rfl; have hfz10_0 := Qdk BK142.out 0; have hfz10_1 := Qdk BK142.out 1; have hfz10_2 := Qdk BK142.out 2; have hfz10_3 := Qdk BK142.out 3; have hfz10_4 := Qdk BK142.out 4; have hcz11_0 := qq_c (.int .u8 0) BK143.out 0 rfl; have hcz11_1 := qq_c (.int .u32 0) BK143.out 1 rfl; have hcz11_2 := qq_c (.int .u32 0) BK143.out 2 rfl; have hcz11_3 := qq_c (.int .i64 0) BK143.out 3 rfl; have hcz11_4 := qq_c (.int .i64 0) BK143.out 4 rfl; have hfz11_0 := Qdk BK143.out 0; have hfz11_1 := Qdk BK143.out 1; have hfz11_2 := Qdk BK143.out 2; have hfz11_3 := Qdk BK143.out 3; have hfz11_4 := Qdk BK143.out 4))
  refine bodyPost_ret (Qdv rfl _ _ gb143 47 #[.int .u8 a0_0, .int .u32 a0_1, .int .u32 a0_2, .int .i64 (wrap64 (a0_3 + a1)), .int .i64 (wrap64 (a0_4 + 1))] (0, 0) _ rfl (by (with_reducible repeat (first | apply Qds | apply Qdr | apply Qdq)); refine Qed (cs := #[.int .u8 a0_0, .int .u32 a0_1, .int .u32 a0_2, .int .i64 (wrap64 (a0_3 + a1)), .int .i64 0]) ?_ 4 _ rfl; (with_reducible repeat (first | apply Qds | apply Qdr | apply Qdq)); refine Qed (cs := #[.int .u8 a0_0, .int .u32 a0_1, .int .u32 a0_2, .int .i64 0, .int .i64 0]) ?_ 3 _ rfl; (with_reducible repeat (first | apply Qds | apply Qdr | apply Qdq)); refine Qed (cs := #[.int .u8 a0_0, .int .u32 a0_1, .int .u32 0, .int .i64 0, .int .i64 0]) ?_ 2 _ rfl; (with_reducible repeat (first | apply Qds | apply Qdr | apply Qdq)); refine Qed (cs := #[.int .u8 a0_0, .int .u32 0, .int .u32 0, .int .i64 0, .int .i64 0]) ?_ 1 _ rfl; (with_reducible repeat (first | apply Qds | apply Qdr | apply Qdq)); refine Qed (cs := #[.int .u8 0, .int .u32 0, .int .u32 0, .int .i64 0, .int .i64 0]) ?_ 0 _ rfl; (with_reducible repeat (first | apply Qds | apply Qdr | apply Qdq)); refine Qdh ?_ NB143_142.out _; (with_reducible repeat (first | apply Qds | apply Qdr | apply Qdq)); refine Qdh ?_ NB143_142.out _; (with_reducible repeat (first | apply Qds | apply Qdr | apply Qdq)); exact BK143.out) Tryz.underlying47 rfl qq_6) rfl ?_
  exact ⟨by first | rfl | (simp [Qgi, Qgj] <;> rfl) | (simp [*, Qgi, Qgj] <;> rfl), qq_b⟩
 ·replace c4 := Bool.eq_false_iff.mpr c4
  subst c4
  have H1 : (some (0, 0, 0, 0, 0, 7)) = some (r1, r2, r3, r4, r5, r6) := by rw [if_neg (show ¬ (false = true) by decide)] at H; exact H
  clear H
  have H := H1
  clear H1
  simp only [Option.some.injEq, Prod.mk.injEq] at H
  obtain ⟨rfl, rfl, rfl, rfl, rfl, rfl⟩ := H
  go_enter Tryz.func59, Tryz.ntmps59
  go_wp2_with (first | ((with_reducible refine Qef (N := 2) rfl ?_); refine qq_e 2 #[.int .u8 a0_0, .int .u32 a0_1, .int .u32 a0_2, .int .i64 a0_3, .int .i64 a0_4] 47 ?_; intro gb142 hg w12 hbox hb; have n0_ := QA (Qea qq_b hb); have n1_ := QA (hbox); have n2_ := QA ((qq_s hg : w.heap.size ≤ gb142)); have n3_ := QA ((qq_s hg : w.heap.size ≤ gb142)); clear HB; have HB := n0_; have BK142 := n1_; have GW142 := n2_; have GE142 := n3_; clear n0_ n1_ n2_ n3_; clear hb hbox hg) | ((with_reducible refine Qef (N := 4) rfl ?_); refine qq_e 4 #[.int .u8 0, .int .u32 0, .int .u32 0, .int .i64 0, .int .i64 0] 47 ?_; intro gb143 hg w13 hbox hb; have n0_ := QA (Qdt (g := gb142) (o := .cells #[.int .u8 a0_0, .int .u32 a0_1, .int .u32 a0_2, .int .i64 a0_3, .int .i64 a0_4] 47 (0, 0)) qq_0 hb); have n1_ := QA (Qea qq_b hb); have n2_ := QA (hbox); have n3_ := QA ((qq_s hg : w.heap.size ≤ gb143)); have n4_ := QA ((qq_s hg : w.heap.size ≤ gb143)); have n5_ := QA ((by rw [hg]; exact Nat.ne_of_lt (Qdi (g := gb142) (o := .cells #[.int .u8 a0_0, .int .u32 a0_1, .int .u32 a0_2, .int .i64 a0_3, .int .i64 a0_4] 47 (0, 0)) qq_0) : gb142 ≠ gb143)); have n6_ := QA ((by rw [hg]; exact Nat.ne_of_gt (Qdi (g := gb142) (o := .cells #[.int .u8 a0_0, .int .u32 a0_1, .int .u32 a0_2, .int .i64 a0_3, .int .i64 a0_4] 47 (0, 0)) qq_0) : gb143 ≠ gb142)); clear BK142; clear HB; have BK142 := n0_; have HB := n1_; have BK143 := n2_; have GW143 := n3_; have GE143 := n4_; have NB142_143 := n5_; have NB143_142 := n6_; clear n0_ n1_ n2_ n3_ n4_ n5_ n6_; clear hb hbox hg; have hnb14 := NB142_143.out; have hnc14 := NB143_142.out; have hcz15_0 := qq_c (.int .u8 a0_0) BK142.out 0 rfl; have hcz15_1 := qq_c (.int .u32 a0_1) BK142.out 1 rfl; have hcz15_2 := qq_c (.int .u32 a0_2) BK142.out 2 rfl; have hcz15_3 := qq_c (.int .i64 a0_3) BK142.out 3 rfl; have hcz15_4 := qq_c (.int .i64 a0_4) BK142.out 4 rfl; have hfz15_0 := Qdk BK142.out 0; have hfz15_1 := Qdk BK142.out 1; have hfz15_2 := Qdk BK142.out 2; have hfz15_3 := Qdk BK142.out 3; have hfz15_4 := Qdk BK142.out 4) | ((with_reducible refine Qgf (f := 100) rfl ?_); refine Qeu (some 8) rfl rfl Tryz.func100 qq_6 rfl #[.agg #[.int .u8 a0_0, .int .u32 a0_1, .int .u32 a0_2, .int .i64 a0_3, .int .i64 a0_4], .int .i64 a1] rfl qq_1 ?_; (with_reducible refine (Qce.calls a0_0 a0_1 a0_2 a0_3 a0_4 a1 false _ A3.out).mono ?_); rintro e w16 ⟨rfl, hb⟩; refine ⟨_, rfl, ?_⟩; have n0_ := QA (Qdt (g := gb142) (o := .cells #[.int .u8 a0_0, .int .u32 a0_1, .int .u32 a0_2, .int .i64 a0_3, .int .i64 a0_4] 47 (0, 0)) qq_0 hb); have n1_ := QA (Qdt (g := gb143) (o := .cells #[.int .u8 0, .int .u32 0, .int .u32 0, .int .i64 0, .int .i64 0] 47 (0, 0)) qq_0 hb); have n2_ := QA (Qea qq_b hb); clear BK142; clear BK143; clear HB; have BK142 := n0_; have BK143 := n1_; have HB := n2_; clear n0_ n1_ n2_; (try clear hb); (try clear hb2); (try clear hk); (try clear hi); have hcz17_0 := qq_c (.int .u8 0) BK143.out 0 rfl; have hcz17_1 := qq_c (.int .u32 0) BK143.out 1 rfl; have hcz17_2 := qq_c (.int .u32 0) BK143.out 2 rfl; have hcz17_3 := qq_c (.int .i64 0) BK143.out 3 rfl; have hcz17_4 := qq_c (.int .i64 0) BK143.out 4 rfl; have hfz17_0 := Qdk BK143.out 0; have hfz17_1 := Qdk BK143.out 1; have hfz17_2 := Qdk BK143.out 2; have hfz17_3 := Qdk BK143.out 3; have hfz17_4 := Qdk BK143.out 4))
  refine bodyPost_ret (Qdv rfl _ _ gb143 47 #[.int .u8 0, .int .u32 0, .int .u32 0, .int .i64 0, .int .i64 0] (0, 0) _ rfl (by (with_reducible repeat (first | apply Qds | apply Qdr | apply Qdq)); refine Qed (cs := #[.int .u8 0, .int .u32 0, .int .u32 0, .int .i64 0, .int .i64 0]) ?_ 4 _ rfl; (with_reducible repeat (first | apply Qds | apply Qdr | apply Qdq)); refine Qed (cs := #[.int .u8 0, .int .u32 0, .int .u32 0, .int .i64 0, .int .i64 0]) ?_ 3 _ rfl; (with_reducible repeat (first | apply Qds | apply Qdr | apply Qdq)); refine Qed (cs := #[.int .u8 0, .int .u32 0, .int .u32 0, .int .i64 0, .int .i64 0]) ?_ 2 _ rfl; (with_reducible repeat (first | apply Qds | apply Qdr | apply Qdq)); refine Qed (cs := #[.int .u8 0, .int .u32 0, .int .u32 0, .int .i64 0, .int .i64 0]) ?_ 1 _ rfl; (with_reducible repeat (first | apply Qds | apply Qdr | apply Qdq)); refine Qed (cs := #[.int .u8 0, .int .u32 0, .int .u32 0, .int .i64 0, .int .i64 0]) ?_ 0 _ rfl; (with_reducible repeat (first | apply Qds | apply Qdr | apply Qdq)); exact BK143.out) Tryz.underlying47 rfl qq_6) rfl ?_
  exact ⟨by first | rfl | (simp [Qgi, Qgj] <;> rfl) | (simp [*, Qgi, Qgj] <;> rfl), qq_b⟩
def Qch.f (a0_0 : Int) (a0_1 : Int) (a1 : Int) : Option (Bool) := (Qcd.f a0_0 a0_1 ((a0_1 - 1) % 4294967296)).bind fun bt134 => (if bt134.2.2.2.2.2 = 0 then ((Qce.f bt134.1 bt134.2.1 bt134.2.2.1 bt134.2.2.2.1 bt134.2.2.2.2.1 a1).bind fun t141 => (some (!t141))) else (some true))
theorem Qch.calls (a0_0 : Int) (a0_1 : Int) (a1 : Int) (r : Bool) (w : World) (h : Qch.f a0_0 a0_1 a1 = some r) :
  Calls Tryz.prog 58 #[.agg #[.int .u8 a0_0, .int .u32 a0_1], .int .i64 a1] w fun e w' => e = .returned (.bool r) ∧ Below w.heap.size w w' := by
 have hu27 := Tryz.underlying27
 have hu47 := Tryz.underlying47
 have HB := QA (Below.refl w.heap.size w)
 have H : ((Qcd.f a0_0 a0_1 ((a0_1 - 1) % 4294967296)).bind fun bt134 => (if bt134.2.2.2.2.2 = 0 then ((Qce.f bt134.1 bt134.2.1 bt134.2.2.1 bt134.2.2.2.1 bt134.2.2.2.2.1 a1).bind fun t141 => (some (!t141))) else (some true))) = some r := h
 clear h
 replace H := Option.bind_eq_some_iff.mp H
 obtain ⟨⟨t134, t135, t136, t137, t138, t139⟩, A30, H⟩ := H
 replace H : (if t139 = 0 then ((Qce.f t134 t135 t136 t137 t138 a1).bind fun t141 => (some (!t141))) else (some true)) = some r := H
 have A3 := QA A30
 clear A30
 by_cases c4 : t139 = 0
 ·rw [if_pos c4] at H
  have c4b0 : (t139 == 0) = true := beq_iff_eq.mpr c4
  have c4b1 : (t139 != 0) = false := bne_eq_false_iff_eq.mpr c4
  clear c4
  replace H := Option.bind_eq_some_iff.mp H
  obtain ⟨t141, A50, H⟩ := H
  replace H : (some (!t141)) = some r := H
  have A5 := QA A50
  clear A50
  obtain rfl := Option.some.inj H
  go_enter Tryz.func58, Tryz.ntmps58
  go_wp2_with (first | ((with_reducible refine Qef (N := 2) rfl ?_); refine qq_e 2 #[.int .u8 a0_0, .int .u32 a0_1] 27 ?_; intro gb133 hg w6 hbox hb; have n0_ := QA (Qea qq_b hb); have n1_ := QA (hbox); have n2_ := QA ((qq_s hg : w.heap.size ≤ gb133)); have n3_ := QA ((qq_s hg : w.heap.size ≤ gb133)); clear HB; have HB := n0_; have BK133 := n1_; have GW133 := n2_; have GE133 := n3_; clear n0_ n1_ n2_ n3_; clear hb hbox hg; have hcz7_0 := qq_c (.int .u8 a0_0) BK133.out 0 rfl; have hcz7_1 := qq_c (.int .u32 a0_1) BK133.out 1 rfl; have hfz7_0 := Qdk BK133.out 0; have hfz7_1 := Qdk BK133.out 1) | ((with_reducible refine Qgf (f := 52) rfl ?_); refine Qeu (some 12) rfl rfl Tryz.func52 qq_6 rfl #[.agg #[.int .u8 a0_0, .int .u32 a0_1], .int .u32 ((a0_1 - 1) % 4294967296)] rfl qq_1 ?_; (with_reducible refine (Qcd.calls a0_0 a0_1 ((a0_1 - 1) % 4294967296) t134 t135 t136 t137 t138 t139 _ A3.out).mono ?_); rintro e w8 ⟨rfl, hb⟩; refine ⟨_, rfl, ?_⟩; have n0_ := QA (Qdt (g := gb133) (o := .cells #[.int .u8 a0_0, .int .u32 a0_1] 27 (0, 0)) qq_0 hb); have n1_ := QA (Qea qq_b hb); clear BK133; clear HB; have BK133 := n0_; have HB := n1_; clear n0_ n1_; (try clear hb); (try clear hb2); (try clear hk); (try clear hi)) | ((with_reducible refine Qef (N := 5) rfl ?_); refine qq_e 5 #[.int .u8 0, .int .u32 0, .int .u32 0, .int .i64 0, .int .i64 0] 47 ?_; intro gb140 hg w9 hbox hb; have n0_ := QA (Qdt (g := gb133) (o := .cells #[.int .u8 a0_0, .int .u32 a0_1] 27 (0, 0)) qq_0 hb); have n1_ := QA (Qea qq_b hb); have n2_ := QA (hbox); have n3_ := QA ((qq_s hg : w.heap.size ≤ gb140)); have n4_ := QA ((qq_s hg : w.heap.size ≤ gb140)); have n5_ := QA ((by rw [hg]; exact Nat.ne_of_lt (Qdi (g := gb133) (o := .cells #[.int .u8 a0_0, .int .u32 a0_1] 27 (0, 0)) qq_0) : gb133 ≠ gb140)); have n6_ := QA ((by rw [hg]; exact Nat.ne_of_gt (Qdi (g := gb133) (o := .cells #[.int .u8 a0_0, .int .u32 a0_1] 27 (0, 0)) qq_0) : gb140 ≠ gb133)); clear BK133; clear HB; have BK133 := n0_; have HB := n1_; have BK140 := n2_; have GW140 := n3_; have GE140 := n4_; have NB133_140 := n5_; have NB140_133 := n6_; clear n0_ n1_ n2_ n3_ n4_ n5_ n6_; clear hb hbox hg; have hnb10 := NB140_133.out; have hnc10 := NB133_140.out; have hcz11_0 := qq_c (.int .u8 0) BK140.out 0 rfl; have hcz11_1 := qq_c (.int .u32 0) BK140.out 1 rfl; have hcz11_2 := qq_c (.int .u32 0) BK140.out 2 rfl; have hcz11_3 := qq_c (.int .i64 0) BK140.out 3 rfl; have hcz11_4 := qq_c (.int .i64 0) BK140.out 4 rfl; have hfz11_0 := Qdk BK140.out 0; have hfz11_1 := Qdk BK140.out 1; have hfz11_2 := Qdk BK140.out 2; have hfz11_3 := Qdk BK140.out 3; have hfz11_4 := Qdk BK140.out 4) | (go_at_call 100; (with_reducible refine (Qce.calls t134 t135 t136 t137 t138 a1 t141 _ A5.out).mono ?_); rintro e w12 ⟨rfl, hb⟩; have n0_ := QA (Qdt (g := gb133) (o := .cells #[.int .u8 a0_0, .int .u32 a0_1] 27 (0, 0)) qq_9 hb); have n1_ := QA (Qdt (g := gb140) (o := .cells #[.int .u8 t134, .int .u32 t135, .int .u32 t136, .int .i64 t137, .int .i64 t138] 47 (0, 0)) (by (with_reducible repeat (first | apply Qds | apply Qdr | apply Qdq)); refine Qed (cs := #[.int .u8 t134, .int .u32 t135, .int .u32 t136, .int .i64 t137, .int .i64 0]) ?_ 4 _ rfl; (with_reducible repeat (first | apply Qds | apply Qdr | apply Qdq)); refine Qed (cs := #[.int .u8 t134, .int .u32 t135, .int .u32 t136, .int .i64 0, .int .i64 0]) ?_ 3 _ rfl; (with_reducible repeat (first | apply Qds | apply Qdr | apply Qdq)); refine Qed (cs := #[.int .u8 t134, .int .u32 t135, .int .u32 0, .int .i64 0, .int .i64 0]) ?_ 2 _ rfl; (with_reducible repeat (first | apply Qds | apply Qdr | apply Qdq)); refine Qed (cs := #[.int .u8 t134, .int .u32 0, .int .u32 0, .int .i64 0, .int .i64 0]) ?_ 1 _ rfl; (with_reducible repeat (first | apply Qds | apply Qdr | apply Qdq)); refine Qed (cs := #[.int .u8 0, .int .u32 0, .int .u32 0, .int .i64 0, .int .i64 0]) ?_ 0 _ rfl; (with_reducible repeat (first | apply Qds | apply Qdr | apply Qdq)); exact BK140.out) hb); have n2_ := QA (Qea qq_b hb); clear BK133; clear BK140; clear HB; have BK133 := n0_; have BK140 := n1_; have HB := n2_; clear n0_ n1_ n2_; (try clear hb); (try clear hb2); (try clear hk); (try clear hi)))
  go_ret
  exact ⟨by first | rfl | (simp [Qgi, Qgj] <;> rfl) | (simp [*, Qgi, Qgj] <;> rfl), qq_b⟩
 ·rw [if_neg c4] at H
  have c4b0 : (t139 == 0) = false := beq_eq_false_iff_ne.mpr c4
  have c4b1 : (t139 != 0) = true := bne_iff_ne.mpr c4
  obtain rfl := Option.some.inj H
  go_enter Tryz.func58, Tryz.ntmps58
  go_wp2_with (first | ((with_reducible refine Qef (N := 2) rfl ?_); refine qq_e 2 #[.int .u8 a0_0, .int .u32 a0_1] 27 ?_; intro gb133 hg w13 hbox hb; have n0_ := QA (Qea qq_b hb); have n1_ := QA (hbox); have n2_ := QA ((qq_s hg : w.heap.size ≤ gb133)); have n3_ := QA ((qq_s hg : w.heap.size ≤ gb133)); clear HB; have HB := n0_; have BK133 := n1_; have GW133 := n2_; have GE133 := n3_; clear n0_ n1_ n2_ n3_; clear hb hbox hg; have hcz14_0 := qq_c (.int .u8 a0_0) BK133.out 0 rfl; have hcz14_1 := qq_c (.int .u32 a0_1) BK133.out 1 rfl; have hfz14_0 := Qdk BK133.out 0; have hfz14_1 := Qdk BK133.out 1) | ((with_reducible refine Qgf (f := 52) rfl ?_); refine Qeu (some 12) rfl rfl Tryz.func52 qq_6 rfl #[.agg #[.int .u8 a0_0, .int .u32 a0_1], .int .u32 ((a0_1 - 1) % 4294967296)] rfl qq_1 ?_; (with_reducible refine (Qcd.calls a0_0 a0_1 ((a0_1 - 1) % 4294967296) t134 t135 t136 t137 t138 t139 _ A3.out).mono ?_); rintro e w15 ⟨rfl, hb⟩; refine ⟨_, rfl, ?_⟩; have n0_ := QA (Qdt (g := gb133) (o := .cells #[.int .u8 a0_0, .int .u32 a0_1] 27 (0, 0)) qq_0 hb); have n1_ := QA (Qea qq_b hb); clear BK133; clear HB; have BK133 := n0_; have HB := n1_; clear n0_ n1_; (try clear hb); (try clear hb2); (try clear hk); (try clear hi)) | ((with_reducible refine Qef (N := 5) rfl ?_); refine qq_e 5 #[.int .u8 0, .int .u32 0, .int .u32 0, .int .i64 0, .int .i64 0] 47 ?_; intro gb140 hg w16 hbox hb; have n0_ := QA (Qdt (g := gb133) (o := .cells #[.int .u8 a0_0, .int .u32 a0_1] 27 (0, 0)) qq_0 hb); have n1_ := QA (Qea qq_b hb); have n2_ := QA (hbox); have n3_ := QA ((qq_s hg : w.heap.size ≤ gb140)); have n4_ := QA ((qq_s hg : w.heap.size ≤ gb140)); have n5_ := QA ((by rw [hg]; exact Nat.ne_of_lt (Qdi (g := gb133) (o := .cells #[.int .u8 a0_0, .int .u32 a0_1] 27 (0, 0)) qq_0) : gb133 ≠ gb140)); have n6_ := QA ((by rw [hg]; exact Nat.ne_of_gt (Qdi (g := gb133) (o := .cells #[.int .u8 a0_0, .int .u32 a0_1] 27 (0, 0)) qq_0) : gb140 ≠ gb133)); clear BK133; clear HB; have BK133 := n0_; have HB := n1_; have BK140 := n2_; have GW140 := n3_; have GE140 := n4_; have NB133_140 := n5_; have NB140_133 := n6_; clear n0_ n1_ n2_ n3_ n4_ n5_ n6_; clear hb hbox hg; have hnb17 := NB140_133.out; have hnc17 := NB133_140.out; have hcz18_0 := qq_c (.int .u8 0) BK140.out 0 rfl; have hcz18_1 := qq_c (.int .u32 0) BK140.out 1 rfl; have hcz18_2 := qq_c (.int .u32 0) BK140.out 2 rfl; have hcz18_3 := qq_c (.int .i64 0) BK140.out 3 rfl; have hcz18_4 := qq_c (.int .i64 0) BK140.out 4 rfl; have hfz18_0 := Qdk BK140.out 0; have hfz18_1 := Qdk BK140.out 1; have hfz18_2 := Qdk BK140.out 2; have hfz18_3 := Qdk BK140.out 3; have hfz18_4 := Qdk BK140.out 4))
  go_ret
  exact ⟨by first | rfl | (simp [Qgi, Qgj] <;> rfl) | (simp [*, Qgi, Qgj] <;> rfl), qq_b⟩
def Qab.f (a0 : Int) (a1 : Int) : Option (Int × Int) := some (IntKind.u64.wrap ((IntKind.u64.wrap ((IntKind.u64.wrap ((a0 / 4294967296) * (a1 / 4294967296))) + ((IntKind.u64.wrap ((IntKind.u64.wrap ((a0 / 4294967296) * (Go.bits .and .u64 a1 4294967295))) + ((IntKind.u64.wrap ((Go.bits .and .u64 a0 4294967295) * (Go.bits .and .u64 a1 4294967295))) / 4294967296))) / 4294967296))) + ((IntKind.u64.wrap ((Go.bits .and .u64 (IntKind.u64.wrap ((IntKind.u64.wrap ((a0 / 4294967296) * (Go.bits .and .u64 a1 4294967295))) + ((IntKind.u64.wrap ((Go.bits .and .u64 a0 4294967295) * (Go.bits .and .u64 a1 4294967295))) / 4294967296))) 4294967295) + (IntKind.u64.wrap ((Go.bits .and .u64 a0 4294967295) * (a1 / 4294967296))))) / 4294967296)), IntKind.u64.wrap (a0 * a1))
theorem Qab.calls (a0 : Int) (a1 : Int) (r1 : Int) (r2 : Int) (w : World) (h : Qab.f a0 a1 = some (r1, r2)) :
  Calls Tryz.prog 218 #[.int .u64 a0, .int .u64 a1] w fun e w' => e = .returned (.tuple #[.int .u64 r1, .int .u64 r2]) ∧ Drawn0 w w' := by
 have H : (some (IntKind.u64.wrap ((IntKind.u64.wrap ((IntKind.u64.wrap ((a0 / 4294967296) * (a1 / 4294967296))) + ((IntKind.u64.wrap ((IntKind.u64.wrap ((a0 / 4294967296) * (Go.bits .and .u64 a1 4294967295))) + ((IntKind.u64.wrap ((Go.bits .and .u64 a0 4294967295) * (Go.bits .and .u64 a1 4294967295))) / 4294967296))) / 4294967296))) + ((IntKind.u64.wrap ((Go.bits .and .u64 (IntKind.u64.wrap ((IntKind.u64.wrap ((a0 / 4294967296) * (Go.bits .and .u64 a1 4294967295))) + ((IntKind.u64.wrap ((Go.bits .and .u64 a0 4294967295) * (Go.bits .and .u64 a1 4294967295))) / 4294967296))) 4294967295) + (IntKind.u64.wrap ((Go.bits .and .u64 a0 4294967295) * (a1 / 4294967296))))) / 4294967296)), IntKind.u64.wrap (a0 * a1))) = some (r1, r2) := h
 clear h
 simp only [Option.some.injEq, Prod.mk.injEq] at H
 obtain ⟨rfl, rfl⟩ := H
 go_enter Tryz.func218, Tryz.ntmps218
 go_wp2
 go_ret2
 exact ⟨by first | rfl | (simp; done) | (simp [*]; done), by repeat (first | exact Drawn0.refl _ | apply Drawn0.step)⟩
def Qaa.f (a0 : Int) (a1 : Int) : Option (Int × Int) := (Qab.f a0 a1).bind fun bt114 => (some (bt114.1, bt114.2))
theorem Qaa.calls (a0 : Int) (a1 : Int) (r1 : Int) (r2 : Int) (w : World) (h : Qaa.f a0 a1 = some (r1, r2)) :
  Calls Tryz.prog 168 #[.int .u64 a0, .int .u64 a1] w fun e w' => e = .returned (.tuple #[.int .u64 r1, .int .u64 r2]) ∧ Drawn0 w w' := by
 have H : ((Qab.f a0 a1).bind fun bt114 => (some (bt114.1, bt114.2))) = some (r1, r2) := h
 clear h
 replace H := Option.bind_eq_some_iff.mp H
 obtain ⟨⟨t114, t115⟩, A30, H⟩ := H
 replace H : (some (t114, t115)) = some (r1, r2) := H
 have A3 := QA A30
 clear A30
 simp only [Option.some.injEq, Prod.mk.injEq] at H
 obtain ⟨rfl, rfl⟩ := H
 go_enter Tryz.func168, Tryz.ntmps168
 go_wp2_with (first | ((with_reducible refine Qgf (f := 218) rfl ?_); refine Qeu (some 25) rfl rfl Tryz.func218 qq_6 rfl #[.int .u64 a0, .int .u64 a1] rfl qq_1 ?_; (with_reducible refine (Qab.calls a0 a1 t114 t115 _ A3.out).mono ?_); rintro e w' ⟨rfl, ⟨nd, rfl⟩⟩; refine ⟨_, rfl, ?_⟩))
 go_ret2
 exact ⟨by first | rfl | (simp; done) | (simp [*]; done), by repeat (first | exact Drawn0.refl _ | apply Drawn0.step)⟩
end Go.Proofs.YtnnofopfbeklbaaGreat.C
end
