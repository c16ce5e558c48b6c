/- Texts of this claim's author and of the print of its functions, merged by merge.py. -/
import Derived.Test.YtnnofopfbeklbaaGreatME02
import Derived.Test.YtnnofopfbeklbaaGreatME03
set_option linter.unusedVariables false
set_option linter.unusedSimpArgs false
set_option maxHeartbeats 8000000
set_option maxRecDepth 100000
section
namespace Go.Proofs.YtnnofopfbeklbaaGreat.C
open Go.RowKit Go.Proofs.YtnnofopfbeklbaaGreatW.PrintWords Go.Proofs.YtnnofopfbeklbaaGreatW.PrintLast Go.Proofs.YtnnofopfbeklbaaGreatW.PrintMore
attribute [local go_sem] Qeh Qei Qej Qek Qel Qem Qen Qeo
def Qam.f (a0_0 : Int) (a0_1 : Int) : Option (Int) := (Qal.f a0_0 a0_1).bind fun t113 => (if t113 = 0 then (if 0 ≤ a0_0 then (some (shl .i64 1 a0_0)) else (none)) else (some 0))
theorem Qam.calls (a0_0 : Int) (a0_1 : Int) (r : Int) (w : World) (h : Qam.f a0_0 a0_1 = some r) :
  Calls Tryz.prog 78 #[.agg #[.int .u8 a0_0, .int .u32 a0_1]] w fun e w' => e = .returned (.int .i64 r) ∧ Below w.heap.size w w' := by
 have hu27 := Tryz.underlying27
 have HB := QA (Below.refl w.heap.size w)
 have H : ((Qal.f a0_0 a0_1).bind fun t113 => (if t113 = 0 then (if 0 ≤ a0_0 then (some (shl .i64 1 a0_0)) else (none)) else (some 0))) = some r := h
 clear h
 replace H := Option.bind_eq_some_iff.mp H
 obtain ⟨t113, A20, H⟩ := H
 replace H : (if t113 = 0 then (if 0 ≤ a0_0 then (some (shl .i64 1 a0_0)) else (none)) else (some 0)) = some r := H
 have A2 := QA A20
 clear A20
 by_cases c3 : t113 = 0
 ·rw [if_pos c3] at H
  have c3b0 : (t113 == 0) = true := beq_iff_eq.mpr c3
  have c3b1 : (t113 != 0) = false := bne_eq_false_iff_eq.mpr c3
  clear c3
  by_cases c4 : 0 ≤ a0_0
  ·rw [if_pos c4] at H
   have c4b0 := eq_true c4
   have c4b1 : decide (0 ≤ a0_0) = true := decide_eq_true c4
   clear c4
   obtain ⟨ji5, hji5⟩ : ∃ j_ : Int, (shl .i64 1 a0_0) = j_ := ⟨_, rfl⟩
   replace H : (some ji5) = some r := by first | (rw [hji5] at H; exact H) | (simp only [hji5] at H ⊢; exact H)
   (try rw [hji5] at A2)
   have hji5_ : (IntKind.i64.wrap (1 * 2 ^ min a0_0.toNat 64)) = ji5 := hji5
   have hji5z : a0_0 ≤ 64 → (IntKind.i64.wrap (1 * 2 ^ a0_0.toNat)) = ji5 := Qer hji5
   have hji5u : (IntKind.i64.wrap (2 ^ min a0_0.toNat 64)) = ji5 := by have h_ := hji5_; rw [Int.one_mul] at h_; exact h_
   have hji5v : a0_0 ≤ 64 → (IntKind.i64.wrap (2 ^ a0_0.toNat)) = ji5 := fun hle_ => by have h_ := hji5z hle_; rw [Int.one_mul] at h_; exact h_
   have hji5y : (wrap64 (1 * 2 ^ min a0_0.toNat 64)) = ji5 := (Qdo _).symm.trans hji5_
   have hji5x : a0_0 ≤ 64 → (wrap64 (1 * 2 ^ a0_0.toNat)) = ji5 := fun h_ => (Qdo _).symm.trans (hji5z h_)
   obtain rfl := Option.some.inj H
   go_enter Tryz.func78, Tryz.ntmps78
   go_wp2_with (first | ((with_reducible refine Qde (N := 1) rfl ?_); refine qq_e 1 #[.int .u8 a0_0, .int .u32 a0_1] 27 ?_; intro gb112 hg w6 hbox hb; have n0_ := QA (Qcz qq_b hb); have n1_ := QA (hbox); have n2_ := QA ((qq_s hg : w.heap.size ≤ gb112)); have n3_ := QA ((qq_s hg : w.heap.size ≤ gb112)); clear HB; have HB := n0_; have BK112 := n1_; have GW112 := n2_; have GE112 := n3_; clear n0_ n1_ n2_ n3_; clear hb hbox hg; have hcz7_0 := qq_c (.int .u8 a0_0) BK112.out 0 rfl; have hcz7_1 := qq_c (.int .u32 a0_1) BK112.out 1 rfl; have hfz7_0 := Qck BK112.out 0; have hfz7_1 := Qck BK112.out 1) | ((with_reducible refine Qep (f := 85) rfl ?_); refine Qdn (some 4) rfl rfl Tryz.func85 qq_6 rfl #[.agg #[.int .u8 a0_0, .int .u32 a0_1]] rfl qq_1 ?_; (with_reducible refine (Qal.calls a0_0 a0_1 t113 _ A2.out).mono ?_); rintro e w8 ⟨rfl, hb⟩; refine ⟨_, rfl, ?_⟩; have n0_ := QA (Qcs (g := gb112) (o := .cells #[.int .u8 a0_0, .int .u32 a0_1] 27 (0, 0)) qq_0 hb); have n1_ := QA (Qcz qq_b hb); clear BK112; clear HB; have BK112 := n0_; have HB := n1_; clear n0_ n1_; (try clear hb); (try clear hb2); (try clear hk); (try clear hi); have hcz9_0 := qq_c (.int .u8 a0_0) BK112.out 0 rfl; have hcz9_1 := qq_c (.int .u32 a0_1) BK112.out 1 rfl; have hfz9_0 := Qck BK112.out 0; have hfz9_1 := Qck BK112.out 1))
   go_ret
   exact ⟨by first | rfl | (simp [Qes, Qet] <;> rfl) | (simp only [← hji5]; first | rfl | (simp [Qes, Qet] <;> rfl)) | (simp [*, Qes, Qet] <;> rfl), qq_b⟩
  ·rw [if_neg c4] at H
   exact absurd H (by simp)
 ·rw [if_neg c3] at H
  have c3b0 : (t113 == 0) = false := beq_eq_false_iff_ne.mpr c3
  have c3b1 : (t113 != 0) = true := bne_iff_ne.mpr c3
  obtain rfl := Option.some.inj H
  go_enter Tryz.func78, Tryz.ntmps78
  go_wp2_with (first | ((with_reducible refine Qde (N := 1) rfl ?_); refine qq_e 1 #[.int .u8 a0_0, .int .u32 a0_1] 27 ?_; intro gb112 hg w10 hbox hb; have n0_ := QA (Qcz qq_b hb); have n1_ := QA (hbox); have n2_ := QA ((qq_s hg : w.heap.size ≤ gb112)); have n3_ := QA ((qq_s hg : w.heap.size ≤ gb112)); clear HB; have HB := n0_; have BK112 := n1_; have GW112 := n2_; have GE112 := n3_; clear n0_ n1_ n2_ n3_; clear hb hbox hg; have hcz11_0 := qq_c (.int .u8 a0_0) BK112.out 0 rfl; have hcz11_1 := qq_c (.int .u32 a0_1) BK112.out 1 rfl; have hfz11_0 := Qck BK112.out 0; have hfz11_1 := Qck BK112.out 1) | ((with_reducible refine Qep (f := 85) rfl ?_); refine Qdn (some 4) rfl rfl Tryz.func85 qq_6 rfl #[.agg #[.int .u8 a0_0, .int .u32 a0_1]] rfl qq_1 ?_; (with_reducible refine (Qal.calls a0_0 a0_1 t113 _ A2.out).mono ?_); rintro e w12 ⟨rfl, hb⟩; refine ⟨_, rfl, ?_⟩; have n0_ := QA (Qcs (g := gb112) (o := .cells #[.int .u8 a0_0, .int .u32 a0_1] 27 (0, 0)) qq_0 hb); have n1_ := QA (Qcz qq_b hb); clear BK112; clear HB; have BK112 := n0_; have HB := n1_; clear n0_ n1_; (try clear hb); (try clear hb2); (try clear hk); (try clear hi)))
  go_ret
  exact ⟨by first | rfl | (simp [Qes, Qet] <;> rfl) | (simp [*, Qes, Qet] <;> rfl), qq_b⟩
def Qat.f (a0 : Int) : Option (Int) := some (wrap64 (Int.tdiv (wrap64 ((wrap64 ((mx 0 a0) + 16)) - 1)) 16))
theorem Qat.calls (a0 : Int) (r : Int) (w : World) (h : Qat.f a0 = some r) :
  Calls Tryz.prog 183 #[.int .i64 a0] w fun e w' => e = .returned (.int .i64 r) ∧ Below w.heap.size w w' := by
 have HB := QA (Below.refl w.heap.size w)
 have H : (some (wrap64 (Int.tdiv (wrap64 ((wrap64 ((mx 0 a0) + 16)) - 1)) 16))) = some r := h
 clear h
 obtain ⟨ji2, hji2⟩ : ∃ j_ : Int, (mx 0 a0) = j_ := ⟨_, rfl⟩
 replace H : (some (wrap64 (Int.tdiv (wrap64 ((wrap64 ((ji2) + 16)) - 1)) 16))) = some r := by first | (rw [hji2] at H; exact H) | (simp only [hji2] at H ⊢; exact H)
 (try (have hji2l : 0 ≤ ji2 := by (rw [← hji2]; unfold mx; (repeat' split) <;> omega)))
 (try (have hji2m : 0 ≤ ji2 := by omega))
 have hji2_ : (if 0 < a0 then a0 else 0) = ji2 := hji2
 obtain rfl := Option.some.inj H
 go_enter Tryz.func183, Tryz.ntmps183
 go_wp2
 go_ret
 exact ⟨by first | rfl | (simp [Qes, Qet] <;> rfl) | (simp only [← hji2]; first | rfl | (simp [Qes, Qet] <;> rfl)) | (simp [*, Qes, Qet] <;> rfl), qq_b⟩
def Qay.f (a0 : Int) : Option (Int) := (Qak.f (wrap64 ((mx 0 a0) + 8))).bind fun t125 => (some (wrap64 (t125 + 1)))
theorem Qay.calls (a0 : Int) (r : Int) (w : World) (h : Qay.f a0 = some r) :
  Calls Tryz.prog 226 #[.int .i64 a0] w fun e w' => e = .returned (.int .i64 r) ∧ Below w.heap.size w w' := by
 have HB := QA (Below.refl w.heap.size w)
 have H : ((Qak.f (wrap64 ((mx 0 a0) + 8))).bind fun t125 => (some (wrap64 (t125 + 1)))) = some r := h
 clear h
 obtain ⟨ji2, hji2⟩ : ∃ j_ : Int, (mx 0 a0) = j_ := ⟨_, rfl⟩
 replace H : ((Qak.f (wrap64 ((ji2) + 8))).bind fun t125 => (some (wrap64 (t125 + 1)))) = some r := by first | (rw [hji2] at H; exact H) | (simp only [hji2] at H ⊢; exact H)
 (try (have hji2l : 0 ≤ ji2 := by (rw [← hji2]; unfold mx; (repeat' split) <;> omega)))
 (try (have hji2m : 0 ≤ ji2 := by omega))
 have hji2_ : (if 0 < a0 then a0 else 0) = ji2 := hji2
 replace H := Option.bind_eq_some_iff.mp H
 obtain ⟨t125, A30, H⟩ := H
 replace H : (some (wrap64 (t125 + 1))) = some r := H
 have A3 := QA A30
 clear A30
 obtain rfl := Option.some.inj H
 go_enter Tryz.func226, Tryz.ntmps226
 go_wp2_with (first | ((with_reducible refine Qep (f := 197) rfl ?_); refine Qdn (some 6) rfl rfl Tryz.func197 qq_6 rfl #[.int .i64 (wrap64 ((ji2) + 8))] rfl qq_9 ?_; (with_reducible refine (Qak.calls (wrap64 ((ji2) + 8)) t125 _ A3.out).mono ?_); rintro e w' ⟨rfl, ⟨nd, rfl⟩⟩; refine ⟨_, rfl, ?_⟩))
 go_ret
 exact ⟨by first | rfl | (simp [Qes, Qet] <;> rfl) | (simp only [← hji2]; first | rfl | (simp [Qes, Qet] <;> rfl)) | (simp [*, Qes, Qet] <;> rfl), qq_b⟩
def Qau.f (a0 : Int) : Option (Int) := (Qat.f (mx 0 a0)).bind fun t126 => ((Qay.f (wrap64 ((wrap64 (9 + (wrap64 (12 * (mx 0 a0))))) + (wrap64 (8 * t126))))).bind fun t127 => (some t127))
theorem Qau.calls (a0 : Int) (r : Int) (w : World) (h : Qau.f a0 = some r) :
  Calls Tryz.prog 198 #[.int .i64 a0] w fun e w' => e = .returned (.int .i64 r) ∧ Below w.heap.size w w' := by
 have HB := QA (Below.refl w.heap.size w)
 have H : ((Qat.f (mx 0 a0)).bind fun t126 => ((Qay.f (wrap64 ((wrap64 (9 + (wrap64 (12 * (mx 0 a0))))) + (wrap64 (8 * t126))))).bind fun t127 => (some t127))) = some r := h
 clear h
 obtain ⟨ji2, hji2⟩ : ∃ j_ : Int, (mx 0 a0) = j_ := ⟨_, rfl⟩
 replace H : ((Qat.f (ji2)).bind fun t126 => ((Qay.f (wrap64 ((wrap64 (9 + (wrap64 (12 * (ji2))))) + (wrap64 (8 * t126))))).bind fun t127 => (some t127))) = some r := by first | (rw [hji2] at H; exact H) | (simp only [hji2] at H ⊢; exact H)
 (try (have hji2l : 0 ≤ ji2 := by (rw [← hji2]; unfold mx; (repeat' split) <;> omega)))
 (try (have hji2m : 0 ≤ ji2 := by omega))
 have hji2_ : (if 0 < a0 then a0 else 0) = ji2 := hji2
 replace H := Option.bind_eq_some_iff.mp H
 obtain ⟨t126, A30, H⟩ := H
 replace H : ((Qay.f (wrap64 ((wrap64 (9 + (wrap64 (12 * (ji2))))) + (wrap64 (8 * t126))))).bind fun t127 => (some t127)) = some r := H
 have A3 := QA A30
 clear A30
 replace H := Option.bind_eq_some_iff.mp H
 obtain ⟨t127, A40, H⟩ := H
 replace H : (some t127) = some r := H
 have A4 := QA A40
 clear A40
 obtain rfl := Option.some.inj H
 go_enter Tryz.func198, Tryz.ntmps198
 go_wp2_with (first | ((with_reducible refine Qep (f := 183) rfl ?_); refine Qdn (some 9) rfl rfl Tryz.func183 qq_6 rfl #[.int .i64 ji2] rfl qq_9 ?_; (with_reducible refine (Qat.calls ji2 t126 _ A3.out).mono ?_); rintro e w5 ⟨rfl, hb⟩; refine ⟨_, rfl, ?_⟩; have n0_ := QA (Qcz qq_b hb); clear HB; have HB := n0_; clear n0_; (try clear hb); (try clear hb2); (try clear hk); (try clear hi)) | ((with_reducible refine Qep (f := 226) rfl ?_); refine Qdn (some 12) rfl rfl Tryz.func226 qq_6 rfl #[.int .i64 (wrap64 ((wrap64 (9 + (wrap64 (12 * (ji2))))) + (wrap64 (8 * t126))))] rfl qq_9 ?_; (with_reducible refine (Qay.calls (wrap64 ((wrap64 (9 + (wrap64 (12 * (ji2))))) + (wrap64 (8 * t126)))) t127 _ A4.out).mono ?_); rintro e w6 ⟨rfl, hb⟩; refine ⟨_, rfl, ?_⟩; have n0_ := QA (Qcz qq_b hb); clear HB; have HB := n0_; clear n0_; (try clear hb); (try clear hb2); (try clear hk); (try clear hi)))
 go_ret
 exact ⟨by first | rfl | (simp [Qes, Qet] <;> rfl) | (simp only [← hji2]; first | rfl | (simp [Qes, Qet] <;> rfl)) | (simp [*, Qes, Qet] <;> rfl), qq_b⟩
def Qbg.f (a0_0 : Int) (a0_1 : Int) (a0_2 : Int) (a0_3 : Int) (a0_4 : Int) : Option (Int) := (Qam.f a0_0 a0_1).bind fun t129 => ((Qau.f (wrap64 (a0_4 + 1))).bind fun t130 => (some (mx 0 (wrap64 ((wrap64 (t129 - a0_3)) - t130)))))
def Qbg.T1 : Bool × List (List Nat × List Nat) := (true, [([], []), ([0], [0]), ([1], [1]), ([], []), ([3], [3]), ([2, 4], [2, 4]), ([], []), ([6], [6]), ([7], [7]), ([8, 2], [8]), ([5, 9], [5, 9]), ([10], [10]), ([11, 9, 0, 1, 2, 3, 4, 5, 6, 7, 8, 9, 10, 11], [11])])
def Qbg.B1 : List Nat := [0, 1, 3, 0, 8, 31, 0, 64, 192, 455, 1023, 2047, 4095]
theorem Qbg.tab1 : rtab .any (opsOf Tryz.f154 1) = Qbg.T1 := by kernel_rfl
theorem Qbg.bits1 : Qdy Qbg.T1.2 Qbg.B1 = true := by kernel_rfl
theorem Qbg.calls (a0_0 : Int) (a0_1 : Int) (a0_2 : Int) (a0_3 : Int) (a0_4 : Int) (r : Int) (w : World) (h : Qbg.f a0_0 a0_1 a0_2 a0_3 a0_4 = some r) :
  Calls Tryz.prog 154 #[.agg #[.int .u8 a0_0, .int .u32 a0_1, .int .u32 a0_2, .int .i64 a0_3, .int .i64 a0_4]] w fun e w' => e = .returned (.int .i64 r) ∧ Below w.heap.size w w' := by
 have hu47 := Tryz.underlying47
 have hu27 := Tryz.underlying27
 have HB := QA (Below.refl w.heap.size w)
 have H : ((Qam.f a0_0 a0_1).bind fun t129 => ((Qau.f (wrap64 (a0_4 + 1))).bind fun t130 => (some (mx 0 (wrap64 ((wrap64 (t129 - a0_3)) - t130)))))) = some r := h
 clear h
 replace H := Option.bind_eq_some_iff.mp H
 obtain ⟨t129, A20, H⟩ := H
 replace H : ((Qau.f (wrap64 (a0_4 + 1))).bind fun t130 => (some (mx 0 (wrap64 ((wrap64 (t129 - a0_3)) - t130))))) = some r := H
 have A2 := QA A20
 clear A20
 replace H := Option.bind_eq_some_iff.mp H
 obtain ⟨t130, A30, H⟩ := H
 replace H : (some (mx 0 (wrap64 ((wrap64 (t129 - a0_3)) - t130)))) = some r := H
 have A3 := QA A30
 clear A30
 obtain ⟨ji4, hji4⟩ : ∃ j_ : Int, (mx 0 (wrap64 ((wrap64 (t129 - a0_3)) - t130))) = j_ := ⟨_, rfl⟩
 replace H : (some ji4) = some r := by first | (rw [hji4] at H; exact H) | (simp only [hji4] at H ⊢; exact H)
 (try rw [hji4] at A2)
 (try rw [hji4] at A3)
 (try (have hji4l : 0 ≤ ji4 := by (rw [← hji4]; unfold mx; (repeat' split) <;> omega)))
 (try (have hji4m : 0 ≤ ji4 := by omega))
 have hji4_ : (if 0 < (wrap64 ((wrap64 (t129 - a0_3)) - t130)) then (wrap64 ((wrap64 (t129 - a0_3)) - t130)) else 0) = ji4 := hji4
 obtain rfl := Option.some.inj H
 go_enter Tryz.func154, Tryz.ntmps154
 try go_wp2_with (first | ((with_reducible refine Qde (N := 1) rfl ?_); refine qq_e 1 #[.int .u8 a0_0, .int .u32 a0_1, .int .u32 a0_2, .int .i64 a0_3, .int .i64 a0_4] 47 ?_; intro gb128 hg w5 hbox hb; have n0_ := QA (Qcz qq_b hb); have n1_ := QA (hbox); have n2_ := QA ((qq_s hg : w.heap.size ≤ gb128)); have n3_ := QA ((qq_s hg : w.heap.size ≤ gb128)); clear HB; have HB := n0_; have BK128 := n1_; have GW128 := n2_; have GE128 := n3_; clear n0_ n1_ n2_ n3_; clear hb hbox hg))
 have n0_ := QA (Qcq BK128.out)
 have n1_ := QA (Qdc HB.out)
 clear BK128
 clear HB
 have BK128 := n0_
 have HB := n1_
 clear n0_ n1_
 refine start_ (n := 13) (S := fun w' => w'.cell? ⟨gb128, 0, none⟩ = some (.int .u8 a0_0) ∧ w'.cell? ⟨gb128, 1, none⟩ = some (.int .u32 a0_1) ∧ w'.cell? ⟨gb128, 2, none⟩ = some (.int .u32 a0_2) ∧ w'.cell? ⟨gb128, 3, none⟩ = some (.int .i64 a0_3) ∧ w'.cell? ⟨gb128, 4, none⟩ = some (.int .i64 a0_4)) (ds := []) #[false, false, false, false, false, false, false, false, false, false, false, false, false] qq_6 rfl rfl ⟨(Qcj BK128.out 0).trans rfl, (Qcj BK128.out 1).trans rfl, (Qcj BK128.out 2).trans rfl, (Qcj BK128.out 3).trans rfl, (Qcj BK128.out 4).trans rfl⟩ (fun hHeld => ?_); refine Qea Qbg.tab1 Qbg.bits1 (fun HT_ HW_ => ?_)
 generalize w5.drew = w6 at BK128 HB hHeld ⊢
 refine Qdm (i := 0) (N := some 3) (v := ?_) (a' := ?_) #[true, false, false, false, false, false, false, false, false, false, false, false, false] rfl rfl (Qdw HT_.out qq_6) (fun _ _ _ h => h) (Or.inl ⟨by rfl, ?_⟩) ?_ ?_
 rotate_left
 ·intro w'
  go_simp
  with_reducible rfl
 rotate_left
 ·exact qq_4
 refine Qdm (i := 3) (N := some 6) (v := ?_) (a' := ?_) #[true, false, false, true, false, false, false, false, false, false, false, false, false] rfl rfl (Qdw HT_.out qq_6) (fun _ _ _ h => h) (Or.inl ⟨by rfl, ?_⟩) ?_ ?_
 rotate_left
 ·intro w'
  go_simp
  with_reducible rfl
 rotate_left
 ·exact qq_4
 refine Qdm (i := 6) (N := some 9) (v := ?_) (a' := ?_) #[true, false, false, true, false, false, true, false, false, false, false, false, false] rfl rfl (Qdw HT_.out qq_6) (fun _ _ _ h => h) (Or.inl ⟨by rfl, ?_⟩) ?_ ?_
 rotate_left
 ·intro w'
  go_simp
  with_reducible rfl
 rotate_left
 ·exact qq_4
 refine take_ (i := 1) (N := some 4) (v := ?_) (a' := ?_) #[true, true, false, true, false, false, true, false, false, false, false, false, false] rfl rfl (Qdz HT_.out HW_.out qq_6) (fun _ _ _ h => h) (Or.inl ⟨by rfl, ?_⟩) hHeld ?_ ?_
 rotate_left
 ·rintro w' ⟨s0, s1, s2, s3, s4⟩
  go_simp
  with_reducible rfl
 rotate_left
 ·exact qq_4
 refine take_ (i := 4) (N := some 7) (v := ?_) (a' := ?_) #[true, true, false, true, true, false, true, false, false, false, false, false, false] rfl rfl (Qdz HT_.out HW_.out qq_6) (fun _ _ _ h => h) (Or.inl ⟨by rfl, ?_⟩) hHeld ?_ ?_
 rotate_left
 ·rintro w' ⟨s0, s1, s2, s3, s4⟩
  go_simp
  with_reducible rfl
 rotate_left
 ·exact qq_4
 refine take_ (i := 7) (N := some 10) (v := ?_) (a' := ?_) #[true, true, false, true, true, false, true, true, false, false, false, false, false] rfl rfl (Qdz HT_.out HW_.out qq_6) (fun _ _ _ h => h) (Or.inl ⟨by rfl, ?_⟩) hHeld ?_ ?_
 rotate_left
 ·rintro w' ⟨s0, s1, s2, s3, s4⟩
  go_simp
  with_reducible rfl
 rotate_left
 ·exact qq_4
 refine Qdm (i := 8) (N := some 11) (v := ?_) (a' := ?_) #[true, true, false, true, true, false, true, true, true, false, false, false, false] rfl rfl (Qdw HT_.out qq_6) (fun _ _ _ h => h) (Or.inl ⟨by rfl, ?_⟩) ?_ ?_
 rotate_left
 ·intro w'
  go_simp
  with_reducible rfl
 rotate_left
 ·exact qq_4
 refine one_ (i := 2) (N := some 5) #[true, true, true, true, true, false, true, true, true, false, false, false, false] rfl rfl (Qdx HT_.out qq_6) (by decide) (fun K hK => ?_)
 refine goes_ Tryz.func78 qq_6 rfl #[.agg #[.int .u8 a0_0, .int .u32 a0_1]] (by rfl) rfl rfl qq_1 ?_
 with_reducible refine (Qam.calls a0_0 a0_1 t129 _ A2.out).mono ?_
 rintro e w7 ⟨rfl, hb⟩
 refine ⟨_, rfl, ?_⟩
 have n0_ := QA (Qcs (g := gb128) (o := .cells #[.int .u8 a0_0, .int .u32 a0_1, .int .u32 a0_2, .int .i64 a0_3, .int .i64 a0_4] 47 (0, 0)) qq_0 hb)
 have n1_ := QA (Qcz qq_b hb)
 clear BK128
 clear HB
 have BK128 := n0_
 have HB := n1_
 clear n0_ n1_
 (try clear hb)
 (try clear hb2)
 (try clear hk)
 (try clear hi)
 refine hK.out _ _ ⟨(Qcj BK128.out 0).trans rfl, (Qcj BK128.out 1).trans rfl, (Qcj BK128.out 2).trans rfl, (Qcj BK128.out 3).trans rfl, (Qcj BK128.out 4).trans rfl⟩ (fun hHeld => ?_)
 clear hK K
 refine norm_ (a' := ?_) ?_ ?_
 rotate_left
 ·show Act.put _ (some 5) _ = _
  simp only [Act.put, List.setIfInBounds_toArray, List.set_cons_zero, List.set_cons_succ, Qdo, i32_w]
  rfl
 refine Qdm (i := 5) (N := some 8) (v := ?_) (a' := ?_) #[true, true, true, true, true, true, true, true, true, false, false, false, false] rfl rfl (Qdw HT_.out qq_6) (fun _ _ _ h => h) (Or.inl ⟨by rfl, ?_⟩) ?_ ?_
 rotate_left
 ·intro w'
  go_simp
  with_reducible rfl
 rotate_left
 ·exact qq_4
 refine one_ (i := 9) (N := some 12) #[true, true, true, true, true, true, true, true, true, true, false, false, false] rfl rfl (Qdx HT_.out qq_6) (by decide) (fun K hK => ?_)
 refine goes_ Tryz.func198 qq_6 rfl #[.int .i64 (wrap64 (a0_4 + 1))] (by rfl) rfl rfl qq_1 ?_
 with_reducible refine (Qau.calls (wrap64 (a0_4 + 1)) t130 _ A3.out).mono ?_
 rintro e w8 ⟨rfl, hb⟩
 refine ⟨_, rfl, ?_⟩
 have n0_ := QA (Qcs (g := gb128) (o := .cells #[.int .u8 a0_0, .int .u32 a0_1, .int .u32 a0_2, .int .i64 a0_3, .int .i64 a0_4] 47 (0, 0)) qq_0 hb)
 have n1_ := QA (Qcz qq_b hb)
 clear BK128
 clear HB
 have BK128 := n0_
 have HB := n1_
 clear n0_ n1_
 (try clear hb)
 (try clear hb2)
 (try clear hk)
 (try clear hi)
 refine hK.out _ _ ⟨(Qcj BK128.out 0).trans rfl, (Qcj BK128.out 1).trans rfl, (Qcj BK128.out 2).trans rfl, (Qcj BK128.out 3).trans rfl, (Qcj BK128.out 4).trans rfl⟩ (fun hHeld => ?_)
 clear hK K
 refine norm_ (a' := ?_) ?_ ?_
 rotate_left
 ·show Act.put _ (some 12) _ = _
  simp only [Act.put, List.setIfInBounds_toArray, List.set_cons_zero, List.set_cons_succ, Qdo, i32_w]
  rfl
 refine Qdm (i := 10) (N := some 13) (v := ?_) (a' := ?_) #[true, true, true, true, true, true, true, true, true, true, true, false, false] rfl rfl (Qdw HT_.out qq_6) (fun _ _ _ h => h) (Or.inl ⟨by rfl, ?_⟩) ?_ ?_
 rotate_left
 ·intro w'
  go_simp
  with_reducible rfl
 rotate_left
 ·exact qq_4
 refine Qdm (i := 11) (N := some 14) (v := ?_) (a' := ?_) #[true, true, true, true, true, true, true, true, true, true, true, true, false] rfl rfl (Qdw HT_.out qq_6) (fun _ _ _ h => h) (Or.inl ⟨by rfl, ?_⟩) ?_ ?_
 rotate_left
 ·intro w'
  go_simp
  with_reducible rfl
 rotate_left
 ·exact qq_4
 refine Qdm (i := 12) (N := some 2) (v := ?_) (a' := ?_) #[true, true, true, true, true, true, true, true, true, true, true, true, true] rfl rfl (Qdw HT_.out qq_6) (fun _ _ _ h => h) (Or.inl ⟨by rfl, ?_⟩) ?_ ?_
 rotate_left
 ·intro w'
  go_simp
  with_reducible rfl
 rotate_left
 ·exact qq_4
 refine done_ (done_of HT_.out qq_6) ?_
 try go_wp2
 go_ret
 exact ⟨by first | rfl | (simp [Qes, Qet] <;> rfl) | (simp only [← hji4]; first | rfl | (simp [Qes, Qet] <;> rfl)) | (simp [*, Qes, Qet] <;> rfl), qq_b⟩
def Qbf.f (a0_0 : Int) (a0_1 : Int) (a0_2 : Int) (a0_3 : Int) (a0_4 : Int) (a1 : Int) : Option (Bool) := if a1 ≥ 1 then ((Qbg.f a0_0 a0_1 a0_2 a0_3 a0_4).bind fun t132 => (some (decide (a1 ≤ t132)))) else (some false)
theorem Qbf.calls (a0_0 : Int) (a0_1 : Int) (a0_2 : Int) (a0_3 : Int) (a0_4 : Int) (a1 : Int) (r : Bool) (w : World) (h : Qbf.f a0_0 a0_1 a0_2 a0_3 a0_4 a1 = some r) :
  Calls Tryz.prog 100 #[.agg #[.int .u8 a0_0, .int .u32 a0_1, .int .u32 a0_2, .int .i64 a0_3, .int .i64 a0_4], .int .i64 a1] w fun e w' => e = .returned (.bool r) ∧ Below w.heap.size w w' := by
 have hu47 := Tryz.underlying47
 have HB := QA (Below.refl w.heap.size w)
 have H : (if a1 ≥ 1 then ((Qbg.f a0_0 a0_1 a0_2 a0_3 a0_4).bind fun t132 => (some (decide (a1 ≤ t132)))) else (some false)) = some r := h
 clear h
 by_cases c3 : a1 ≥ 1
 ·rw [if_pos c3] at H
  have c3b0 : decide (1 ≤ a1) = true := decide_eq_true c3
  clear c3
  replace H := Option.bind_eq_some_iff.mp H
  obtain ⟨t132, A40, H⟩ := H
  replace H : (some (decide (a1 ≤ t132))) = some r := H
  have A4 := QA A40
  clear A40
  obtain rfl := Option.some.inj H
  go_enter Tryz.func100, Tryz.ntmps100
  go_wp2_with (first | ((with_reducible refine Qde (N := 2) rfl ?_); refine qq_e 2 #[.int .u8 a0_0, .int .u32 a0_1, .int .u32 a0_2, .int .i64 a0_3, .int .i64 a0_4] 47 ?_; intro gb131 hg w5 hbox hb; have n0_ := QA (Qcz qq_b hb); have n1_ := QA (hbox); have n2_ := QA ((qq_s hg : w.heap.size ≤ gb131)); have n3_ := QA ((qq_s hg : w.heap.size ≤ gb131)); clear HB; have HB := n0_; have BK131 := n1_; have GW131 := n2_; have GE131 := n3_; clear n0_ n1_ n2_ n3_; clear hb hbox hg; have hcz6_0 := qq_c (.int .u8 a0_0) BK131.out 0 rfl; have hcz6_1 := qq_c (.int .u32 a0_1) BK131.out 1 rfl; have hcz6_2 := qq_c (.int .u32 a0_2) BK131.out 2 rfl; have hcz6_3 := qq_c (.int .i64 a0_3) BK131.out 3 rfl; have hcz6_4 := qq_c (.int .i64 a0_4) BK131.out 4 rfl; have hfz6_0 := Qck BK131.out 0; have hfz6_1 := Qck BK131.out 1; have hfz6_2 := Qck BK131.out 2; have hfz6_3 := Qck BK131.out 3; have hfz6_4 := Qck BK131.out 4) | (go_at_call 154; (with_reducible refine (Qbg.calls a0_0 a0_1 a0_2 a0_3 a0_4 t132 _ A4.out).mono ?_); rintro e w7 ⟨rfl, hb⟩; have n0_ := QA (Qcs (g := gb131) (o := .cells #[.int .u8 a0_0, .int .u32 a0_1, .int .u32 a0_2, .int .i64 a0_3, .int .i64 a0_4] 47 (0, 0)) qq_0 hb); have n1_ := QA (Qcz qq_b hb); clear BK131; clear HB; have BK131 := n0_; have HB := n1_; clear n0_ n1_; (try clear hb); (try clear hb2); (try clear hk); (try clear hi)))
  go_ret
  exact ⟨by first | rfl | (simp [Qes, Qet] <;> rfl) | (simp [*, Qes, Qet] <;> rfl), qq_b⟩
 ·rw [if_neg c3] at H
  have c3b0 : decide (1 ≤ a1) = false := decide_eq_false c3
  clear c3
  obtain rfl := Option.some.inj H
  go_enter Tryz.func100, Tryz.ntmps100
  go_wp2_with (first | ((with_reducible refine Qde (N := 2) rfl ?_); refine qq_e 2 #[.int .u8 a0_0, .int .u32 a0_1, .int .u32 a0_2, .int .i64 a0_3, .int .i64 a0_4] 47 ?_; intro gb131 hg w8 hbox hb; have n0_ := QA (Qcz qq_b hb); have n1_ := QA (hbox); have n2_ := QA ((qq_s hg : w.heap.size ≤ gb131)); have n3_ := QA ((qq_s hg : w.heap.size ≤ gb131)); clear HB; have HB := n0_; have BK131 := n1_; have GW131 := n2_; have GE131 := n3_; clear n0_ n1_ n2_ n3_; clear hb hbox hg))
  go_ret
  exact ⟨by first | rfl | (simp [Qes, Qet] <;> rfl) | (simp [*, Qes, Qet] <;> rfl), qq_b⟩
def Qbh.f (a0_0 : Int) (a0_1 : Int) (a0_2 : Int) (a0_3 : Int) (a0_4 : Int) (a1 : Int) : Option (Int × Int × Int × Int × Int × Int) := (Qbf.f a0_0 a0_1 a0_2 a0_3 a0_4 a1).bind fun t144 => (if t144 = true then (some (a0_0, a0_1, a0_2, wrap64 (a0_3 + a1), wrap64 (a0_4 + 1), 0)) else (some (0, 0, 0, 0, 0, 7)))
theorem Qbh.calls (a0_0 : Int) (a0_1 : Int) (a0_2 : Int) (a0_3 : Int) (a0_4 : Int) (a1 : Int) (r1 : Int) (r2 : Int) (r3 : Int) (r4 : Int) (r5 : Int) (r6 : Int) (w : World) (h : Qbh.f a0_0 a0_1 a0_2 a0_3 a0_4 a1 = some (r1, r2, r3, r4, r5, r6)) :
  Calls Tryz.prog 59 #[.agg #[.int .u8 a0_0, .int .u32 a0_1, .int .u32 a0_2, .int .i64 a0_3, .int .i64 a0_4], .int .i64 a1] w fun e w' => e = .returned (.tuple #[.agg #[.int .u8 r1, .int .u32 r2, .int .u32 r3, .int .i64 r4, .int .i64 r5], .int .i64 r6]) ∧ Below w.heap.size w w' := by
 have hu47 := Tryz.underlying47
 have HB := QA (Below.refl w.heap.size w)
 have H : ((Qbf.f a0_0 a0_1 a0_2 a0_3 a0_4 a1).bind fun t144 => (if t144 = true then (some (a0_0, a0_1, a0_2, wrap64 (a0_3 + a1), wrap64 (a0_4 + 1), 0)) else (some (0, 0, 0, 0, 0, 7)))) = some (r1, r2, r3, r4, r5, r6) := h
 clear h
 replace H := Option.bind_eq_some_iff.mp H
 obtain ⟨t144, A30, H⟩ := H
 replace H : (if t144 = true then (some (a0_0, a0_1, a0_2, wrap64 (a0_3 + a1), wrap64 (a0_4 + 1), 0)) else (some (0, 0, 0, 0, 0, 7))) = some (r1, r2, r3, r4, r5, r6) := H
 have A3 := QA A30
 clear A30
 by_cases c4 : t144 = true
 ·subst c4
  have H1 : (some (a0_0, a0_1, a0_2, wrap64 (a0_3 + a1), wrap64 (a0_4 + 1), 0)) = some (r1, r2, r3, r4, r5, r6) := by rw [if_pos rfl] at H; exact H
  clear H
  have H := H1
  clear H1
  simp only [Option.some.injEq, Prod.mk.injEq] at H
  obtain ⟨rfl, rfl, rfl, rfl, rfl, rfl⟩ := H
  go_enter Tryz.func59, Tryz.ntmps59
  go_wp2_with (first | ((with_reducible refine Qde (N := 2) rfl ?_); refine qq_e 2 #[.int .u8 a0_0, .int .u32 a0_1, .int .u32 a0_2, .int .i64 a0_3, .int .i64 a0_4] 47 ?_; intro gb142 hg w5 hbox hb; have n0_ := QA (Qcz qq_b hb); have n1_ := QA (hbox); have n2_ := QA ((qq_s hg : w.heap.size ≤ gb142)); have n3_ := QA ((qq_s hg : w.heap.size ≤ gb142)); clear HB; have HB := n0_; have BK142 := n1_; have GW142 := n2_; have GE142 := n3_; clear n0_ n1_ n2_ n3_; clear hb hbox hg) | ((with_reducible refine Qde (N := 4) rfl ?_); refine qq_e 4 #[.int .u8 0, .int .u32 0, .int .u32 0, .int .i64 0, .int .i64 0] 47 ?_; intro gb143 hg w6 hbox hb; have n0_ := QA (Qcs (g := gb142) (o := .cells #[.int .u8 a0_0, .int .u32 a0_1, .int .u32 a0_2, .int .i64 a0_3, .int .i64 a0_4] 47 (0, 0)) qq_0 hb); have n1_ := QA (Qcz qq_b hb); have n2_ := QA (hbox); have n3_ := QA ((qq_s hg : w.heap.size ≤ gb143)); have n4_ := QA ((qq_s hg : w.heap.size ≤ gb143)); have n5_ := QA ((by rw [hg]; exact Nat.ne_of_lt (Qci (g := gb142) (o := .cells #[.int .u8 a0_0, .int .u32 a0_1, .int .u32 a0_2, .int .i64 a0_3, .int .i64 a0_4] 47 (0, 0)) qq_0) : gb142 ≠ gb143)); have n6_ := QA ((by rw [hg]; exact Nat.ne_of_gt (Qci (g := gb142) (o := .cells #[.int .u8 a0_0, .int .u32 a0_1, .int .u32 a0_2, .int .i64 a0_3, .int .i64 a0_4] 47 (0, 0)) qq_0) : gb143 ≠ gb142)); clear BK142; clear HB; have BK142 := n0_; have HB := n1_; have BK143 := n2_; have GW143 := n3_; have GE143 := n4_; have NB142_143 := n5_; have NB143_142 := n6_; clear n0_ n1_ n2_ n3_ n4_ n5_ n6_; clear hb hbox hg; have hnb7 := NB142_143.out; have hnc7 := NB143_142.out; have hcz8_0 := qq_c (.int .u8 a0_0) BK142.out 0 rfl; have hcz8_1 := qq_c (.int .u32 a0_1) BK142.out 1 rfl; have hcz8_2 := qq_c (.int .u32 a0_2) BK142.out 2 rfl; have hcz8_3 := qq_c (.int .i64 a0_3) BK142.out 3 rfl; have hcz8_4 := qq_c (.int .i64 a0_4) BK142.out 4 rfl; have hfz8_0 := Qck BK142.out 0; have hfz8_1 := Qck BK142.out 1; have hfz8_2 := Qck BK142.out 2; have hfz8_3 := Qck BK142.out 3; have hfz8_4 := Qck BK142.out 4) | ((with_reducible refine Qep (f := 100) rfl ?_); refine Qdn (some 8) rfl rfl Tryz.func100 qq_6 rfl #[.agg #[.int .u8 a0_0, .int .u32 a0_1, .int .u32 a0_2, .int .i64 a0_3, .int .i64 a0_4], .int .i64 a1] rfl qq_1 ?_; (with_reducible refine (Qbf.calls a0_0 a0_1 a0_2 a0_3 a0_4 a1 true _ A3.out).mono ?_); rintro e w9 ⟨rfl, hb⟩; refine ⟨_, rfl, ?_⟩; have n0_ := QA (Qcs (g := gb142) (o := .cells #[.int .u8 a0_0, .int .u32 a0_1, .int .u32 a0_2, .int .i64 a0_3, .int .i64 a0_4] 47 (0, 0)) qq_0 hb); have n1_ := QA (Qcs (g := gb143) (o := .cells #[.int .u8 0, .int .u32 0, .int .u32 0, .int .i64 0, .int .i64 0] 47 (0, 0)) qq_0 hb); have n2_ := QA (Qcz qq_b hb); clear BK142; clear BK143; clear HB; have BK142 := n0_; have BK143 := n1_; have HB := n2_; clear n0_ n1_ n2_; (try clear hb); (try clear hb2); (try clear hk); (try clear hi); have hcz10_0 := qq_c (.int .u8 a0_0) BK142.out 0 rfl; have hcz10_1 := qq_c (.int .u32 a0_1) BK142.out 1 rfl; have hcz10_2 := qq_c (.int .u32 a0_2) BK142.out 2 rfl; have hcz10_3 := qq_c (.int .i64 a0_3) BK142.out 3 rfl; have hcz10_4 := qq_c (.int .i64 a0_4) BK142.out 4 rfl; have hfz10_0 := Qck BK142.out 0; have hfz10_1 := Qck BK142.out 1; have hfz10_2 := Qck BK142.out 2; have hfz10_3 := Qck BK142.out 3; have hfz10_4 := Qck BK142.out 4; have hcz11_0 := qq_c (.int .u8 0) BK143.out 0 rfl; have hcz11_1 := qq_c (.int .u32 0) BK143.out 1 rfl; have hcz11_2 := qq_c (.int .u32 0) BK143.out 2 rfl; have hcz11_3 := qq_c (.int .i64 0) BK143.out 3 rfl; have hcz11_4 := qq_c (.int .i64 0) BK143.out 4 rfl; have hfz11_0 := Qck BK143.out 0; have hfz11_1 := Qck BK143.out 1; have hfz11_2 := Qck BK143.out 2; have hfz11_3 := Qck BK143.out 3; have hfz11_4 := Qck BK143.out 4))
  refine bodyPost_ret (Qcu rfl _ _ gb143 47 #[.int .u8 a0_0, .int .u32 a0_1, .int .u32 a0_2, .int .i64 (wrap64 (a0_3 + a1)), .int .i64 (wrap64 (a0_4 + 1))] (0, 0) _ rfl (by (with_reducible repeat (first | apply Qcr | apply Qcq | apply Qcp)); refine Qdb (cs := #[.int .u8 a0_0, .int .u32 a0_1, .int .u32 a0_2, .int .i64 (wrap64 (a0_3 + a1)), .int .i64 0]) ?_ 4 _ rfl; (with_reducible repeat (first | apply Qcr | apply Qcq | apply Qcp)); refine Qdb (cs := #[.int .u8 a0_0, .int .u32 a0_1, .int .u32 a0_2, .int .i64 0, .int .i64 0]) ?_ 3 _ rfl; (with_reducible repeat (first | apply Qcr | apply Qcq | apply Qcp)); refine Qdb (cs := #[.int .u8 a0_0, .int .u32 a0_1, .int .u32 0, .int .i64 0, .int .i64 0]) ?_ 2 _ rfl; (with_reducible repeat (first | apply Qcr | apply Qcq | apply Qcp)); refine Qdb (cs := #[.int .u8 a0_0, .int .u32 0, .int .u32 0, .int .i64 0, .int .i64 0]) ?_ 1 _ rfl; (with_reducible repeat (first | apply Qcr | apply Qcq | apply Qcp)); refine Qdb (cs := #[.int .u8 0, .int .u32 0, .int .u32 0, .int .i64 0, .int .i64 0]) ?_ 0 _ rfl; (with_reducible repeat (first | apply Qcr | apply Qcq | apply Qcp)); refine Qch ?_ NB143_142.out _; (with_reducible repeat (first | apply Qcr | apply Qcq | apply Qcp)); refine Qch ?_ NB143_142.out _; (with_reducible repeat (first | apply Qcr | apply Qcq | apply Qcp)); exact BK143.out) Tryz.underlying47 rfl qq_6) rfl ?_
  exact ⟨by first | rfl | (simp [Qes, Qet] <;> rfl) | (simp [*, Qes, Qet] <;> rfl), qq_b⟩
 ·replace c4 := Bool.eq_false_iff.mpr c4
  subst c4
  have H1 : (some (0, 0, 0, 0, 0, 7)) = some (r1, r2, r3, r4, r5, r6) := by rw [if_neg (show ¬ (false = true) by decide)] at H; exact H
  clear H
  have H := H1
  clear H1
  simp only [Option.some.injEq, Prod.mk.injEq] at H
  obtain ⟨rfl, rfl, rfl, rfl, rfl, rfl⟩ := H
  go_enter Tryz.func59, Tryz.ntmps59
  go_wp2_with (first | ((with_reducible refine Qde (N := 2) rfl ?_); refine qq_e 2 #[.int .u8 a0_0, .int .u32 a0_1, .int .u32 a0_2, .int .i64 a0_3, .int .i64 a0_4] 47 ?_; intro gb142 hg w12 hbox hb; have n0_ := QA (Qcz qq_b hb); have n1_ := QA (hbox); have n2_ := QA ((qq_s hg : w.heap.size ≤ gb142)); have n3_ := QA ((qq_s hg : w.heap.size ≤ gb142)); clear HB; have HB := n0_; have BK142 := n1_; have GW142 := n2_; have GE142 := n3_; clear n0_ n1_ n2_ n3_; clear hb hbox hg) | ((with_reducible refine Qde (N := 4) rfl ?_); refine qq_e 4 #[.int .u8 0, .int .u32 0, .int .u32 0, .int .i64 0, .int .i64 0] 47 ?_; intro gb143 hg w13 hbox hb; have n0_ := QA (Qcs (g := gb142) (o := .cells #[.int .u8 a0_0, .int .u32 a0_1, .int .u32 a0_2, .int .i64 a0_3, .int .i64 a0_4] 47 (0, 0)) qq_0 hb); have n1_ := QA (Qcz qq_b hb); have n2_ := QA (hbox); have n3_ := QA ((qq_s hg : w.heap.size ≤ gb143)); have n4_ := QA ((qq_s hg : w.heap.size ≤ gb143)); have n5_ := QA ((by rw [hg]; exact Nat.ne_of_lt (Qci (g := gb142) (o := .cells #[.int .u8 a0_0, .int .u32 a0_1, .int .u32 a0_2, .int .i64 a0_3, .int .i64 a0_4] 47 (0, 0)) qq_0) : gb142 ≠ gb143)); have n6_ := QA ((by rw [hg]; exact Nat.ne_of_gt (Qci (g := gb142) (o := .cells #[.int .u8 a0_0, .int .u32 a0_1, .int .u32 a0_2, .int .i64 a0_3, .int .i64 a0_4] 47 (0, 0)) qq_0) : gb143 ≠ gb142)); clear BK142; clear HB; have BK142 := n0_; have HB := n1_; have BK143 := n2_; have GW143 := n3_; have GE143 := n4_; have NB142_143 := n5_; have NB143_142 := n6_; clear n0_ n1_ n2_ n3_ n4_ n5_ n6_; clear hb hbox hg; have hnb14 := NB142_143.out; have hnc14 := NB143_142.out; have hcz15_0 := qq_c (.int .u8 a0_0) BK142.out 0 rfl; have hcz15_1 := qq_c (.int .u32 a0_1) BK142.out 1 rfl; have hcz15_2 := qq_c (.int .u32 a0_2) BK142.out 2 rfl; have hcz15_3 := qq_c (.int .i64 a0_3) BK142.out 3 rfl; have hcz15_4 := qq_c (.int .i64 a0_4) BK142.out 4 rfl; have hfz15_0 := Qck BK142.out 0; have hfz15_1 := Qck BK142.out 1; have hfz15_2 := Qck BK142.out 2; have hfz15_3 := Qck BK142.out 3; have hfz15_4 := Qck BK142.out 4) | ((with_reducible refine Qep (f := 100) rfl ?_); refine Qdn (some 8) rfl rfl Tryz.func100 qq_6 rfl #[.agg #[.int .u8 a0_0, .int .u32 a0_1, .int .u32 a0_2, .int .i64 a0_3, .int .i64 a0_4], .int .i64 a1] rfl qq_1 ?_; (with_reducible refine (Qbf.calls a0_0 a0_1 a0_2 a0_3 a0_4 a1 false _ A3.out).mono ?_); rintro e w16 ⟨rfl, hb⟩; refine ⟨_, rfl, ?_⟩; have n0_ := QA (Qcs (g := gb142) (o := .cells #[.int .u8 a0_0, .int .u32 a0_1, .int .u32 a0_2, .int .i64 a0_3, .int .i64 a0_4] 47 (0, 0)) qq_0 hb); have n1_ := QA (Qcs (g := gb143) (o := .cells #[.int .u8 0, .int .u32 0, .int .u32 0, .int .i64 0, .int .i64 0] 47 (0, 0)) qq_0 hb); have n2_ := QA (Qcz qq_b hb); clear BK142; clear BK143; clear HB; have BK142 := n0_; have BK143 := n1_; have HB := n2_; clear n0_ n1_ n2_; (try clear hb); (try clear hb2); (try clear hk); (try clear hi); have hcz17_0 := qq_c (.int .u8 0) BK143.out 0 rfl; have hcz17_1 := qq_c (.int .u32 0) BK143.out 1 rfl; have hcz17_2 := qq_c (.int .u32 0) BK143.out 2 rfl; have hcz17_3 := qq_c (.int .i64 0) BK143.out 3 rfl; have hcz17_4 := qq_c (.int .i64 0) BK143.out 4 rfl; have hfz17_0 := Qck BK143.out 0; have hfz17_1 := Qck BK143.out 1; have hfz17_2 := Qck BK143.out 2; have hfz17_3 := Qck BK143.out 3; have hfz17_4 := Qck BK143.out 4))
  refine bodyPost_ret (Qcu rfl _ _ gb143 47 #[.int .u8 0, .int .u32 0, .int .u32 0, .int .i64 0, .int .i64 0] (0, 0) _ rfl (by (with_reducible repeat (first | apply Qcr | apply Qcq | apply Qcp)); refine Qdb (cs := #[.int .u8 0, .int .u32 0, .int .u32 0, .int .i64 0, .int .i64 0]) ?_ 4 _ rfl; (with_reducible repeat (first | apply Qcr | apply Qcq | apply Qcp)); refine Qdb (cs := #[.int .u8 0, .int .u32 0, .int .u32 0, .int .i64 0, .int .i64 0]) ?_ 3 _ rfl; (with_reducible repeat (first | apply Qcr | apply Qcq | apply Qcp)); refine Qdb (cs := #[.int .u8 0, .int .u32 0, .int .u32 0, .int .i64 0, .int .i64 0]) ?_ 2 _ rfl; (with_reducible repeat (first | apply Qcr | apply Qcq | apply Qcp)); refine Qdb (cs := #[.int .u8 0, .int .u32 0, .int .u32 0, .int .i64 0, .int .i64 0]) ?_ 1 _ rfl; (with_reducible repeat (first | apply Qcr | apply Qcq | apply Qcp)); refine Qdb (cs := #[.int .u8 0, .int .u32 0, .int .u32 0, .int .i64 0, .int .i64 0]) ?_ 0 _ rfl; (with_reducible repeat (first | apply Qcr | apply Qcq | apply Qcp)); exact BK143.out) Tryz.underlying47 rfl qq_6) rfl ?_
  exact ⟨by first | rfl | (simp [Qes, Qet] <;> rfl) | (simp [*, Qes, Qet] <;> rfl), qq_b⟩
end Go.Proofs.YtnnofopfbeklbaaGreat.C
end
