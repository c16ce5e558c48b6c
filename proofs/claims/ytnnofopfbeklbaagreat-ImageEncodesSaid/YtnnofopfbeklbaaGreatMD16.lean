/- Texts of this claim's author and of the print of its functions, merged by merge.py. -/
import Derived.Test.YtnnofopfbeklbaaGreatMD03
import Derived.Test.YtnnofopfbeklbaaGreatMD09
set_option linter.unusedVariables false
set_option linter.unusedSimpArgs false
set_option maxHeartbeats 8000000
set_option maxRecDepth 100000
section
namespace Go.Proofs.YtnnofopfbeklbaaGreat.C
open Go.RowKit Go.Proofs.YtnnofopfbeklbaaGreatW.PrintWords Go.Proofs.YtnnofopfbeklbaaGreatW.PrintLast Go.Proofs.YtnnofopfbeklbaaGreatW.PrintMore
attribute [local go_sem] Qgh Qgi Qgj Qgk Qgl Qgm Qgn Qgo
def Qbe.f (a0_0 : Int) (a0_1 : Int) : Option (Bool) := if a0_0 ≥ 12 then (if a0_0 ≤ 24 then (if a0_1 ≥ 1 then (some (decide (a0_1 ≤ 65536))) else (some false)) else (some false)) else (some false)
theorem Qbe.calls (a0_0 : Int) (a0_1 : Int) (r : Bool) (w : World) (h : Qbe.f a0_0 a0_1 = some r) :
  Calls Tryz.prog 54 #[.agg #[.int .u8 a0_0, .int .u32 a0_1]] w fun e w' => e = .returned (.bool r) ∧ Below w.heap.size w w' := by
 have hu27 := Tryz.underlying27
 have HB := QA (Below.refl w.heap.size w)
 have H : (if a0_0 ≥ 12 then (if a0_0 ≤ 24 then (if a0_1 ≥ 1 then (some (decide (a0_1 ≤ 65536))) else (some false)) else (some false)) else (some false)) = some r := h
 clear h
 by_cases c2 : a0_0 ≥ 12
 ·rw [if_pos c2] at H
  have c2b0 : decide (12 ≤ a0_0) = true := decide_eq_true c2
  clear c2
  by_cases c3 : a0_0 ≤ 24
  ·rw [if_pos c3] at H
   have c3b0 : decide (a0_0 ≤ 24) = true := decide_eq_true c3
   clear c3
   by_cases c4 : a0_1 ≥ 1
   ·rw [if_pos c4] at H
    have c4b0 : decide (1 ≤ a0_1) = true := decide_eq_true c4
    clear c4
    obtain rfl := Option.some.inj H
    go_enter Tryz.func54, Tryz.ntmps54
    go_wp2_with (first | ((with_reducible refine Qer (N := 1) rfl ?_); refine qq_e 1 #[.int .u8 a0_0, .int .u32 a0_1] 27 ?_; intro gb308 hg w5 hbox hb; have n0_ := QA (Qem qq_b hb); have n1_ := QA (hbox); have n2_ := QA ((qq_s hg : w.heap.size ≤ gb308)); have n3_ := QA ((qq_s hg : w.heap.size ≤ gb308)); clear HB; have HB := n0_; have BK308 := n1_; have GW308 := n2_; have GE308 := n3_; clear n0_ n1_ n2_ n3_; clear hb hbox hg; have hcz6_0 := qq_c (.int .u8 a0_0) BK308.out 0 rfl; have hcz6_1 := qq_c (.int .u32 a0_1) BK308.out 1 rfl; have hfz6_0 := Qdt BK308.out 0; have hfz6_1 := Qdt BK308.out 1))
    go_ret
    exact ⟨by first | rfl | (simp [Qgu, Qgv] <;> rfl) | (simp [*, Qgu, Qgv] <;> rfl), qq_b⟩
   ·rw [if_neg c4] at H
    have c4b0 : decide (1 ≤ a0_1) = false := decide_eq_false c4
    clear c4
    obtain rfl := Option.some.inj H
    go_enter Tryz.func54, Tryz.ntmps54
    go_wp2_with (first | ((with_reducible refine Qer (N := 1) rfl ?_); refine qq_e 1 #[.int .u8 a0_0, .int .u32 a0_1] 27 ?_; intro gb308 hg w7 hbox hb; have n0_ := QA (Qem qq_b hb); have n1_ := QA (hbox); have n2_ := QA ((qq_s hg : w.heap.size ≤ gb308)); have n3_ := QA ((qq_s hg : w.heap.size ≤ gb308)); clear HB; have HB := n0_; have BK308 := n1_; have GW308 := n2_; have GE308 := n3_; clear n0_ n1_ n2_ n3_; clear hb hbox hg; have hcz8_0 := qq_c (.int .u8 a0_0) BK308.out 0 rfl; have hcz8_1 := qq_c (.int .u32 a0_1) BK308.out 1 rfl; have hfz8_0 := Qdt BK308.out 0; have hfz8_1 := Qdt BK308.out 1))
    go_ret
    exact ⟨by first | rfl | (simp [Qgu, Qgv] <;> rfl) | (simp [*, Qgu, Qgv] <;> rfl), qq_b⟩
  ·rw [if_neg c3] at H
   have c3b0 : decide (a0_0 ≤ 24) = false := decide_eq_false c3
   clear c3
   obtain rfl := Option.some.inj H
   go_enter Tryz.func54, Tryz.ntmps54
   go_wp2_with (first | ((with_reducible refine Qer (N := 1) rfl ?_); refine qq_e 1 #[.int .u8 a0_0, .int .u32 a0_1] 27 ?_; intro gb308 hg w9 hbox hb; have n0_ := QA (Qem qq_b hb); have n1_ := QA (hbox); have n2_ := QA ((qq_s hg : w.heap.size ≤ gb308)); have n3_ := QA ((qq_s hg : w.heap.size ≤ gb308)); clear HB; have HB := n0_; have BK308 := n1_; have GW308 := n2_; have GE308 := n3_; clear n0_ n1_ n2_ n3_; clear hb hbox hg; have hcz10_0 := qq_c (.int .u8 a0_0) BK308.out 0 rfl; have hcz10_1 := qq_c (.int .u32 a0_1) BK308.out 1 rfl; have hfz10_0 := Qdt BK308.out 0; have hfz10_1 := Qdt BK308.out 1))
   go_ret
   exact ⟨by first | rfl | (simp [Qgu, Qgv] <;> rfl) | (simp [*, Qgu, Qgv] <;> rfl), qq_b⟩
 ·rw [if_neg c2] at H
  have c2b0 : decide (12 ≤ a0_0) = false := decide_eq_false c2
  clear c2
  obtain rfl := Option.some.inj H
  go_enter Tryz.func54, Tryz.ntmps54
  go_wp2_with (first | ((with_reducible refine Qer (N := 1) rfl ?_); refine qq_e 1 #[.int .u8 a0_0, .int .u32 a0_1] 27 ?_; intro gb308 hg w11 hbox hb; have n0_ := QA (Qem qq_b hb); have n1_ := QA (hbox); have n2_ := QA ((qq_s hg : w.heap.size ≤ gb308)); have n3_ := QA ((qq_s hg : w.heap.size ≤ gb308)); clear HB; have HB := n0_; have BK308 := n1_; have GW308 := n2_; have GE308 := n3_; clear n0_ n1_ n2_ n3_; clear hb hbox hg; have hcz12_0 := qq_c (.int .u8 a0_0) BK308.out 0 rfl; have hcz12_1 := qq_c (.int .u32 a0_1) BK308.out 1 rfl; have hfz12_0 := Qdt BK308.out 0; have hfz12_1 := Qdt BK308.out 1))
  go_ret
  exact ⟨by first | rfl | (simp [Qgu, Qgv] <;> rfl) | (simp [*, Qgu, Qgv] <;> rfl), qq_b⟩
def Qbr.f (k : Nat) (a0_0 : Int) (a0_1 : Int) (a1 : Int) : Option (Int × Int × Int × Int × Int) := (Qbg.f k a0_0 a0_1 a1).bind fun t325 => (some (a0_0, a0_1, a1, (t325.size : Int), 0))
def Qbr.T1 : Bool × List (List Nat × List Nat) := (true, [([], []), ([], []), ([], []), ([], []), ([2, 3], [2, 3]), ([4], [4]), ([0, 1, 5], [0, 1, 5]), ([6, 4, 0, 1, 2, 3, 4, 5, 6], [6])])
def Qbr.B1 : List Nat := [0, 0, 0, 0, 12, 28, 63, 127]
theorem Qbr.tab1 : rtab .any (Qgb Tryz.f20 1) = Qbr.T1 := by kernel_rfl
theorem Qbr.bits1 : Qfx Qbr.T1.2 Qbr.B1 = true := by kernel_rfl
theorem Qbr.calls (k : Nat) (a0_0 : Int) (a0_1 : Int) (a1 : Int) (r1 : Int) (r2 : Int) (r3 : Int) (r4 : Int) (r5 : Int) (w : World) (h : Qbr.f k a0_0 a0_1 a1 = some (r1, r2, r3, r4, r5)) :
  Calls Tryz.prog 20 #[.agg #[.int .u8 a0_0, .int .u32 a0_1], .int .u64 a1] w fun e w' => e = .returned (.agg #[.int .u8 r1, .int .u32 r2, .int .u64 r3, .int .i64 r4, .int .i64 r5]) ∧ Below w.heap.size w w' := by
 have hu27 := Tryz.underlying27
 have hu36 := Tryz.underlying36
 have HB := QA (Below.refl w.heap.size w)
 have H : ((Qbg.f k a0_0 a0_1 a1).bind fun t325 => (some (a0_0, a0_1, a1, (t325.size : Int), 0))) = some (r1, r2, r3, r4, r5) := h
 clear h
 replace H := Option.bind_eq_some_iff.mp H
 obtain ⟨t325, A30, H⟩ := H
 replace H : (some (a0_0, a0_1, a1, (t325.size : Int), 0)) = some (r1, r2, r3, r4, r5) := H
 have A3 := QA A30
 clear A30
 simp only [Option.some.injEq, Prod.mk.injEq] at H
 obtain ⟨rfl, rfl, rfl, rfl, rfl⟩ := H
 go_enter Tryz.func20, Tryz.ntmps20
 try go_wp2_with (first | ((with_reducible refine Qer (N := 2) rfl ?_); refine qq_e 2 #[.int .u8 a0_0, .int .u32 a0_1] 27 ?_; intro gb323 hg w4 hbox hb; have n0_ := QA (Qem qq_b hb); have n1_ := QA (hbox); have n2_ := QA ((qq_s hg : w.heap.size ≤ gb323)); have n3_ := QA ((qq_s hg : w.heap.size ≤ gb323)); clear HB; have HB := n0_; have BK323 := n1_; have GW323 := n2_; have GE323 := n3_; clear n0_ n1_ n2_ n3_; clear hb hbox hg) | ((with_reducible refine Qer (N := 4) rfl ?_); refine qq_e 4 #[.int .u8 0, .int .u32 0, .int .u64 0, .int .i64 0, .int .i64 0] 36 ?_; intro gb324 hg w5 hbox hb; have n0_ := QA (Qeb (g := gb323) (o := .cells #[.int .u8 a0_0, .int .u32 a0_1] 27 (0, 0)) qq_0 hb); have n1_ := QA (Qem qq_b hb); have n2_ := QA (hbox); have n3_ := QA ((qq_s hg : w.heap.size ≤ gb324)); have n4_ := QA ((qq_s hg : w.heap.size ≤ gb324)); have n5_ := QA ((by rw [hg]; exact Nat.ne_of_lt (Qdr (g := gb323) (o := .cells #[.int .u8 a0_0, .int .u32 a0_1] 27 (0, 0)) qq_0) : gb323 ≠ gb324)); have n6_ := QA ((by rw [hg]; exact Nat.ne_of_gt (Qdr (g := gb323) (o := .cells #[.int .u8 a0_0, .int .u32 a0_1] 27 (0, 0)) qq_0) : gb324 ≠ gb323)); clear BK323; clear HB; have BK323 := n0_; have HB := n1_; have BK324 := n2_; have GW324 := n3_; have GE324 := n4_; have NB323_324 := n5_; have NB324_323 := n6_; clear n0_ n1_ n2_ n3_ n4_ n5_ n6_; clear hb hbox hg))
 have n0_ := QA (Qdz BK323.out)
 have n1_ := QA (Qdz BK324.out)
 have n2_ := QA (Qeq HB.out)
 clear BK323
 clear BK324
 clear HB
 have BK323 := n0_
 have BK324 := n1_
 have HB := n2_
 clear n0_ n1_ n2_
 refine Qez (n := 8) (S := fun w' => w'.cell? ⟨gb323, 0, none⟩ = some (.int .u8 a0_0) ∧ w'.cell? ⟨gb323, 1, none⟩ = some (.int .u32 a0_1)) (ds := []) #[false, false, false, false, false, false, false, false] qq_7 rfl rfl ⟨(Qds BK323.out 0).trans rfl, (Qds BK323.out 1).trans rfl⟩ (fun hHeld => ?_); refine Qfz Qbr.tab1 Qbr.bits1 (fun HT_ HW_ => ?_)
 generalize w5.drew = w6 at BK323 BK324 HB hHeld ⊢
 refine Qfa (i := 1) (N := some 6) (v := ?_) (a' := ?_) #[false, true, false, false, false, false, false, false] rfl rfl (Qft HT_.out qq_7) (fun _ _ _ h => h) (Or.inl ⟨by rfl, ?_⟩) ?_ ?_
 rotate_left
 ·intro w'
  go_simp
  with_reducible rfl
 rotate_left
 ·exact qq_2
 refine Qfa (i := 3) (N := some 8) (v := ?_) (a' := ?_) #[false, true, false, true, false, false, false, false] rfl rfl (Qft HT_.out qq_7) (fun _ _ _ h => h) (Or.inl ⟨by rfl, ?_⟩) ?_ ?_
 rotate_left
 ·intro w'
  go_simp
  with_reducible rfl
 rotate_left
 ·exact qq_2
 refine take_ (i := 0) (N := some 5) (v := ?_) (a' := ?_) #[true, true, false, true, false, false, false, false] rfl rfl (Qfy HT_.out HW_.out qq_7) (fun _ _ _ h => h) (Or.inl ⟨by rfl, ?_⟩) hHeld ?_ ?_
 rotate_left
 ·rintro w' ⟨s0, s1⟩
  go_simp
  with_reducible rfl
 rotate_left
 ·exact qq_2
 refine take_ (i := 2) (N := some 7) (v := ?_) (a' := ?_) #[true, true, true, true, false, false, false, false] rfl rfl (Qfy HT_.out HW_.out qq_7) (fun _ _ _ h => h) (Or.inl ⟨by rfl, ?_⟩) hHeld ?_ ?_
 rotate_left
 ·rintro w' ⟨s0, s1⟩
  go_simp
  with_reducible rfl
 rotate_left
 ·exact qq_2
 refine one_ (i := 4) (N := some 9) #[true, true, true, true, true, false, false, false] rfl rfl (Qfu HT_.out qq_7) (by decide) (fun K hK => ?_)
 refine Qff Tryz.func55 qq_7 rfl #[.agg #[.int .u8 a0_0, .int .u32 a0_1], .int .u64 a1] (by rfl) rfl rfl qq_1 ?_
 with_reducible refine (Qbg.calls k a0_0 a0_1 a1 t325 _ A3.out).mono ?_
 rintro e w7 ⟨rfl, hb⟩
 refine ⟨_, rfl, ?_⟩
 have n0_ := QA (Qeb (g := gb323) (o := .cells #[.int .u8 a0_0, .int .u32 a0_1] 27 (0, 0)) qq_0 hb)
 have n1_ := QA (Qeb (g := gb324) (o := .cells #[.int .u8 0, .int .u32 0, .int .u64 0, .int .i64 0, .int .i64 0] 36 (0, 0)) qq_0 hb)
 have n2_ := QA (Qem qq_b hb)
 clear BK323
 clear BK324
 clear HB
 have BK323 := n0_
 have BK324 := n1_
 have HB := n2_
 clear n0_ n1_ n2_
 (try clear hb)
 (try clear hb2)
 (try clear hk)
 (try clear hi)
 refine hK.out _ _ ⟨(Qds BK323.out 0).trans rfl, (Qds BK323.out 1).trans rfl⟩ (fun hHeld => ?_)
 clear hK K
 refine Qfe (a' := ?_) ?_ ?_
 rotate_left
 ·show Act.put _ (some 9) _ = _
  simp only [Act.put, List.setIfInBounds_toArray, List.set_cons_zero, List.set_cons_succ, Qfi, Qfj]
  rfl
 refine Qfa (i := 5) (N := some 10) (v := ?_) (a' := ?_) #[true, true, true, true, true, true, false, false] rfl rfl (Qft HT_.out qq_7) (fun _ _ _ h => h) (Or.inl ⟨by rfl, ?_⟩) ?_ ?_
 rotate_left
 ·intro w'
  go_simp
  with_reducible rfl
 rotate_left
 ·exact qq_2
 refine Qfa (i := 6) (N := some 11) (v := ?_) (a' := ?_) #[true, true, true, true, true, true, true, false] rfl rfl (Qft HT_.out qq_7) (fun _ _ _ h => h) (Or.inl ⟨by rfl, ?_⟩) ?_ ?_
 rotate_left
 ·intro w'
  go_simp
  with_reducible rfl
 rotate_left
 ·exact qq_2
 refine one_ (i := 7) (N := none) #[true, true, true, true, true, true, true, true] rfl rfl (Qfu HT_.out qq_7) (by decide) (fun K hK => ?_)
 have hs8 : w7.cell? ⟨gb324, 0, none⟩ = some (.int .u8 0) := (Qds BK324.out 0).trans rfl
 have hfs8 := Qdt BK324.out 0
 have hns8_0 := NB323_324.out
 have hms8_0 := NB324_323.out
 have hs9 : w7.cell? ⟨gb324, 1, none⟩ = some (.int .u32 0) := (Qds BK324.out 1).trans rfl
 have hfs9 := Qdt BK324.out 1
 have hns9_0 := NB323_324.out
 have hms9_0 := NB324_323.out
 have hs10 : w7.cell? ⟨gb324, 2, none⟩ = some (.int .u64 0) := (Qds BK324.out 2).trans rfl
 have hfs10 := Qdt BK324.out 2
 have hns10_0 := NB323_324.out
 have hms10_0 := NB324_323.out
 have hs11 : w7.cell? ⟨gb324, 3, none⟩ = some (.int .i64 0) := (Qds BK324.out 3).trans rfl
 have hfs11 := Qdt BK324.out 3
 have hns11_0 := NB323_324.out
 have hms11_0 := NB324_323.out
 have hs12 : w7.cell? ⟨gb324, 4, none⟩ = some (.int .i64 0) := (Qds BK324.out 4).trans rfl
 have hfs12 := Qdt BK324.out 4
 have hns12_0 := NB323_324.out
 have hms12_0 := NB324_323.out
 refine skip_ (w1 := ?_) (by rfl) rfl ?_ ?_
 rotate_left
 ·go_simp
  rfl
 refine hK.out _ _ ⟨((Qeo (p := ⟨gb324, _, none⟩) NB323_324.out _).trans (((Qeo (p := ⟨gb324, _, none⟩) NB323_324.out _).trans (((Qeo (p := ⟨gb324, _, none⟩) NB323_324.out _).trans (((Qeo (p := ⟨gb324, _, none⟩) NB323_324.out _).trans (((Qeo (p := ⟨gb324, _, none⟩) NB323_324.out _).trans (hHeld.1)))))))))), ((Qeo (p := ⟨gb324, _, none⟩) NB323_324.out _).trans (((Qeo (p := ⟨gb324, _, none⟩) NB323_324.out _).trans (((Qeo (p := ⟨gb324, _, none⟩) NB323_324.out _).trans (((Qeo (p := ⟨gb324, _, none⟩) NB323_324.out _).trans (((Qeo (p := ⟨gb324, _, none⟩) NB323_324.out _).trans (hHeld.2))))))))))⟩ (fun hHeld => ?_)
 clear hK K
 refine Qfc (Qfw HT_.out qq_7) ?_
 try go_wp2
 refine bodyPost_ret (results_cell_row rfl _ _ gb324 36 #[.int .u8 a0_0, .int .u32 a0_1, .int .u64 a1, .int .i64 (t325.size : Int), .int .i64 0] (0, 0) _ rfl (by (with_reducible repeat (first | apply Qea | apply Qdz | apply Qdy)); refine Qep (cs := #[.int .u8 a0_0, .int .u32 a0_1, .int .u64 a1, .int .i64 (t325.size : Int), .int .i64 0]) ?_ 4 _ rfl; (with_reducible repeat (first | apply Qea | apply Qdz | apply Qdy)); refine Qep (cs := #[.int .u8 a0_0, .int .u32 a0_1, .int .u64 a1, .int .i64 0, .int .i64 0]) ?_ 3 _ rfl; (with_reducible repeat (first | apply Qea | apply Qdz | apply Qdy)); refine Qep (cs := #[.int .u8 a0_0, .int .u32 a0_1, .int .u64 0, .int .i64 0, .int .i64 0]) ?_ 2 _ rfl; (with_reducible repeat (first | apply Qea | apply Qdz | apply Qdy)); refine Qep (cs := #[.int .u8 a0_0, .int .u32 0, .int .u64 0, .int .i64 0, .int .i64 0]) ?_ 1 _ rfl; (with_reducible repeat (first | apply Qea | apply Qdz | apply Qdy)); refine Qep (cs := #[.int .u8 0, .int .u32 0, .int .u64 0, .int .i64 0, .int .i64 0]) ?_ 0 _ rfl; (with_reducible repeat (first | apply Qea | apply Qdz | apply Qdy)); exact BK324.out) Tryz.underlying36 rfl qq_7) rfl ?_
 exact ⟨by first | rfl | (simp [Qgu, Qgv] <;> rfl) | (simp [*, Qgu, Qgv] <;> rfl), qq_b⟩
def Qbp.f (a0 : Int) : Option (Int) := some (wrap64 ((wrap64 ((wrap64 ((wrap64 ((wrap64 ((wrap64 (9 + (wrap64 (12 * a0)))) + (wrap64 (8 * (wrap64 (Int.tdiv (wrap64 (a0 + 15)) 16)))))) + 8)) + 1)) + (wrap64 (Int.tdiv (wrap64 ((wrap64 ((wrap64 ((wrap64 (9 + (wrap64 (12 * a0)))) + (wrap64 (8 * (wrap64 (Int.tdiv (wrap64 (a0 + 15)) 16)))))) + 8)) - 1)) 254)))) + 1))
theorem Qbp.calls (a0 : Int) (r : Int) (w : World) (h : Qbp.f a0 = some r) :
  Calls Tryz.prog 64 #[.int .i64 a0] w fun e w' => e = .returned (.int .i64 r) ∧ Drawn0 w w' := by
 have H : (some (wrap64 ((wrap64 ((wrap64 ((wrap64 ((wrap64 ((wrap64 (9 + (wrap64 (12 * a0)))) + (wrap64 (8 * (wrap64 (Int.tdiv (wrap64 (a0 + 15)) 16)))))) + 8)) + 1)) + (wrap64 (Int.tdiv (wrap64 ((wrap64 ((wrap64 ((wrap64 (9 + (wrap64 (12 * a0)))) + (wrap64 (8 * (wrap64 (Int.tdiv (wrap64 (a0 + 15)) 16)))))) + 8)) - 1)) 254)))) + 1))) = some r := h
 clear h
 obtain rfl := Option.some.inj H
 go_enter Tryz.func64, Tryz.ntmps64
 go_wp2
 go_ret
 exact ⟨by first | rfl | (simp; done) | (simp [*]; done), by repeat (first | exact Drawn0.refl _ | apply Drawn0.step)⟩
def Qbs.j0 : Nat → Int → Bool → Int → Int → Int → Int → Int → Option (Bool)
 | 0, _, _, _, _, _, _, _ => none
 | k + 1, x1, x14, x328000, x328001, x328002, x328003, x328004 => if x14 = true then (some false) else ((Qbp.f (wrap64 (x328004 + 1))).bind fun t329 => ((Qbf.f k x328000 x328001).bind fun t330 => (some (decide ((IntKind.u64.wrap (wrap64 ((wrap64 (x328003 + x1)) + t329))) ≤ t330)))))
def Qbs.f (k : Nat) (a0_0 : Int) (a0_1 : Int) (a0_2 : Int) (a0_3 : Int) (a0_4 : Int) (a1 : Int) : Option (Bool) := if a1 < 1 then (Qbs.j0 k a1 true a0_0 a0_1 a0_2 a0_3 a0_4) else ((Qbf.f k a0_0 a0_1).bind fun t328 => (Qbs.j0 k a1 (decide ((IntKind.u64.wrap (a1)) > t328)) a0_0 a0_1 a0_2 a0_3 a0_4))
def Qbs.T3 : Bool × List (List Nat × List Nat) := (true, [([], []), ([0], [0]), ([], []), ([1, 2], [1, 2]), ([], []), ([4], [4]), ([5], [5]), ([6], [6]), ([3, 7], [3, 7]), ([8], [8]), ([], []), ([10], [10]), ([11, 7], [11]), ([9, 12], [9, 12]), ([13, 12, 0, 1, 2, 3, 4, 5, 6, 7, 8, 9, 10, 11, 12, 13], [13])])
def Qbs.B3 : List Nat := [0, 1, 0, 7, 0, 16, 48, 112, 255, 511, 0, 1024, 3312, 8191, 16383]
theorem Qbs.tab3 : rtab .any (Qgb Tryz.f24 3) = Qbs.T3 := by kernel_rfl
theorem Qbs.bits3 : Qfx Qbs.T3.2 Qbs.B3 = true := by kernel_rfl
theorem Qbs.calls (k : Nat) (a0_0 : Int) (a0_1 : Int) (a0_2 : Int) (a0_3 : Int) (a0_4 : Int) (a1 : Int) (r : Bool) (w : World) (h : Qbs.f k a0_0 a0_1 a0_2 a0_3 a0_4 a1 = some r) :
  Calls Tryz.prog 24 #[.agg #[.int .u8 a0_0, .int .u32 a0_1, .int .u64 a0_2, .int .i64 a0_3, .int .i64 a0_4], .int .i64 a1] w fun e w' => e = .returned (.bool r) ∧ Below w.heap.size w w' := by
 have hu36 := Tryz.underlying36
 have hu27 := Tryz.underlying27
 have HB := QA (Below.refl w.heap.size w)
 have H : (if a1 < 1 then (Qbs.j0 k a1 true a0_0 a0_1 a0_2 a0_3 a0_4) else ((Qbf.f k a0_0 a0_1).bind fun t328 => (Qbs.j0 k a1 (decide ((IntKind.u64.wrap (a1)) > t328)) a0_0 a0_1 a0_2 a0_3 a0_4))) = some r := h
 clear h
 have HC3 := QA H
 clear H
 go_enter Tryz.func24, Tryz.ntmps24
 go_upto_region 1 with (first | ((with_reducible refine Qer (N := 2) rfl ?_); refine qq_e 2 #[.int .u8 a0_0, .int .u32 a0_1, .int .u64 a0_2, .int .i64 a0_3, .int .i64 a0_4] 36 ?_; intro gb327 hg w4 hbox hb; have n0_ := QA (Qem qq_b hb); have n1_ := QA (hbox); have n2_ := QA ((qq_s hg : w.heap.size ≤ gb327)); have n3_ := QA ((qq_s hg : w.heap.size ≤ gb327)); clear HB; have HB := n0_; have BK327 := n1_; have GW327 := n2_; have GE327 := n3_; clear n0_ n1_ n2_ n3_; clear hb hbox hg))
 (try simp only [Act.put, List.setIfInBounds_toArray, List.set_cons_zero, List.set_cons_succ])
 go_cut [14] (fun v14 wc => ∃ (kq : Nat) (x14_2 : Bool), v14 = .bool x14_2 ∧ Aside0 (Qbs.j0 kq a1 x14_2 a0_0 a0_1 a0_2 a0_3 a0_4 = some r) ∧ Aside0 (kq ≤ k) ∧ Aside0 (wc.heap[gb327]? = some (.cells #[.int .u8 a0_0, .int .u32 a0_1, .int .u64 a0_2, .int .i64 a0_3, .int .i64 a0_4] 36 (0, 0))) ∧ Aside0 (Below w.heap.size w wc))
 case first =>
  have H := HC3.out
  clear HC3
  by_cases c5 : a1 < 1
  ·rw [if_pos c5] at H
   have c5b0 : decide (a1 < 1) = true := decide_eq_true c5
   clear c5
   (first | rw [c5b0] | (simp only [Qfi, Qfj]; rw [c5b0]) | skip)
   have H' := QA H
   clear H
   go_wp2
   go_meet
   case rel => exact ⟨_, (true), qq_6, H', ⟨by first | omega | exact Nat.le_refl _⟩, ⟨by (with_reducible repeat (first | apply Qea | apply Qdz | apply Qdy)); exact BK327.out⟩, ⟨qq_b⟩⟩
  ·rw [if_neg c5] at H
   have c5b0 : decide (a1 < 1) = false := decide_eq_false c5
   clear c5
   (first | rw [c5b0] | (simp only [Qfi, Qfj]; rw [c5b0]) | skip)
   replace H := Option.bind_eq_some_iff.mp H
   obtain ⟨t328, A60, H⟩ := H
   replace H : (Qbs.j0 k a1 (decide ((IntKind.u64.wrap (a1)) > t328)) a0_0 a0_1 a0_2 a0_3 a0_4) = some r := H
   have A6 := QA A60
   clear A60
   have H' := QA H
   clear H
   have hcz7_0 := qq_c (.int .u8 a0_0) BK327.out 0 rfl
   have hcz7_1 := qq_c (.int .u32 a0_1) BK327.out 1 rfl
   have hcz7_2 := qq_c (.int .u64 a0_2) BK327.out 2 rfl
   have hcz7_3 := qq_c (.int .i64 a0_3) BK327.out 3 rfl
   have hcz7_4 := qq_c (.int .i64 a0_4) BK327.out 4 rfl
   have hfz7_0 := Qdt BK327.out 0
   have hfz7_1 := Qdt BK327.out 1
   have hfz7_2 := Qdt BK327.out 2
   have hfz7_3 := Qdt BK327.out 3
   have hfz7_4 := Qdt BK327.out 4
   go_wp2_with (first | (go_at_call 63; (with_reducible refine (Qbf.calls k a0_0 a0_1 t328 _ A6.out).mono ?_); rintro e w8 ⟨rfl, hb⟩; have n0_ := QA (Qeb (g := gb327) (o := .cells #[.int .u8 a0_0, .int .u32 a0_1, .int .u64 a0_2, .int .i64 a0_3, .int .i64 a0_4] 36 (0, 0)) qq_0 hb); have n1_ := QA (Qem qq_b hb); clear BK327; clear HB; have BK327 := n0_; have HB := n1_; clear n0_ n1_; (try clear hb); (try clear hb2); (try clear hk); (try clear hi)))
   go_meet
   case rel => exact ⟨_, (decide ((IntKind.u64.wrap (a1)) > t328)), qq_6, H', ⟨by first | omega | exact Nat.le_refl _⟩, ⟨by (with_reducible repeat (first | apply Qea | apply Qdz | apply Qdy)); exact BK327.out⟩, ⟨qq_b⟩⟩
 case rest =>
  clear HC3
  try clear c5
  try clear c5b0
  try clear hcz7_0
  try clear hcz7_1
  try clear hcz7_2
  try clear hcz7_3
  try clear hcz7_4
  try clear hfz7_0
  try clear hfz7_1
  try clear hfz7_2
  try clear hfz7_3
  try clear hfz7_4
  obtain ⟨kq, x14_2, rfl, HA, HJ2, BK327, HB⟩ := hcut
  cases kq with
  | zero => exact absurd HA.out (by simp [Qbs.j0])
  | succ kj2 =>
   have H := HA.out
   clear HA
   simp only [Qbs.j0] at H
   by_cases c9 : x14_2 = true
   ·subst c9
    have H1 : (some false) = some r := by rw [if_pos rfl] at H; exact H
    clear H
    have H := H1
    clear H1
    obtain rfl := Option.some.inj H
    go_wp2
    go_ret
    exact ⟨by first | rfl | (simp [Qgu, Qgv] <;> rfl) | (simp [*, Qgu, Qgv] <;> rfl), qq_b⟩
   ·replace c9 := Bool.eq_false_iff.mpr c9
    subst c9
    have H1 : ((Qbp.f (wrap64 (a0_4 + 1))).bind fun t329 => ((Qbf.f kj2 a0_0 a0_1).bind fun t330 => (some (decide ((IntKind.u64.wrap (wrap64 ((wrap64 (a0_3 + a1)) + t329))) ≤ t330))))) = some r := by rw [if_neg (show ¬ (false = true) by decide)] at H; exact H
    clear H
    have H := H1
    clear H1
    replace H := Option.bind_eq_some_iff.mp H
    obtain ⟨t329, A100, H⟩ := H
    replace H : ((Qbf.f kj2 a0_0 a0_1).bind fun t330 => (some (decide ((IntKind.u64.wrap (wrap64 ((wrap64 (a0_3 + a1)) + t329))) ≤ t330)))) = some r := H
    have A10 := QA A100
    clear A100
    replace H := Option.bind_eq_some_iff.mp H
    obtain ⟨t330, A110, H⟩ := H
    replace H : (some (decide ((IntKind.u64.wrap (wrap64 ((wrap64 (a0_3 + a1)) + t329))) ≤ t330))) = some r := H
    have A11 := QA A110
    clear A110
    obtain rfl := Option.some.inj H
    try go_wp2
    have n0_ := QA (Qdz BK327.out)
    have n1_ := QA (Qeq HB.out)
    clear BK327
    clear HB
    have BK327 := n0_
    have HB := n1_
    clear n0_ n1_
    refine Qez (n := 15) (S := fun w' => w'.cell? ⟨gb327, 0, none⟩ = some (.int .u8 a0_0) ∧ w'.cell? ⟨gb327, 1, none⟩ = some (.int .u32 a0_1) ∧ w'.cell? ⟨gb327, 2, none⟩ = some (.int .u64 a0_2) ∧ w'.cell? ⟨gb327, 3, none⟩ = some (.int .i64 a0_3) ∧ w'.cell? ⟨gb327, 4, none⟩ = some (.int .i64 a0_4)) (ds := []) #[false, false, false, false, false, false, false, false, false, false, false, false, false, false, false] qq_7 rfl rfl ⟨(Qds BK327.out 0).trans rfl, (Qds BK327.out 1).trans rfl, (Qds BK327.out 2).trans rfl, (Qds BK327.out 3).trans rfl, (Qds BK327.out 4).trans rfl⟩ (fun hHeld => ?_); refine Qfz Qbs.tab3 Qbs.bits3 (fun HT_ HW_ => ?_)
    generalize wc.drew = w12 at BK327 HB hHeld ⊢
    refine Qfa (i := 0) (N := some 15) (v := ?_) (a' := ?_) #[true, false, false, false, false, false, false, false, false, false, false, false, false, false, false] rfl rfl (Qft HT_.out qq_7) (fun _ _ _ h => h) (Or.inl ⟨by rfl, ?_⟩) ?_ ?_
    rotate_left
    ·intro w'
     go_simp
     with_reducible rfl
    rotate_left
    ·exact qq_2
    refine Qfa (i := 2) (N := some 17) (v := ?_) (a' := ?_) #[true, false, true, false, false, false, false, false, false, false, false, false, false, false, false] rfl rfl (Qft HT_.out qq_7) (fun _ _ _ h => h) (Or.inl ⟨by rfl, ?_⟩) ?_ ?_
    rotate_left
    ·intro w'
     go_simp
     with_reducible rfl
    rotate_left
    ·exact qq_2
    refine Qfa (i := 4) (N := some 19) (v := ?_) (a' := ?_) #[true, false, true, false, true, false, false, false, false, false, false, false, false, false, false] rfl rfl (Qft HT_.out qq_7) (fun _ _ _ h => h) (Or.inl ⟨by rfl, ?_⟩) ?_ ?_
    rotate_left
    ·intro w'
     go_simp
     with_reducible rfl
    rotate_left
    ·exact qq_2
    refine Qfa (i := 10) (N := some 25) (v := ?_) (a' := ?_) #[true, false, true, false, true, false, false, false, false, false, true, false, false, false, false] rfl rfl (Qft HT_.out qq_7) (fun _ _ _ h => h) (Or.inl ⟨by rfl, ?_⟩) ?_ ?_
    rotate_left
    ·intro w'
     go_simp
     with_reducible rfl
    rotate_left
    ·exact qq_2
    refine take_ (i := 1) (N := some 16) (v := ?_) (a' := ?_) #[true, true, true, false, true, false, false, false, false, false, true, false, false, false, false] rfl rfl (Qfy HT_.out HW_.out qq_7) (fun _ _ _ h => h) (Or.inl ⟨by rfl, ?_⟩) hHeld ?_ ?_
    rotate_left
    ·rintro w' ⟨s0, s1, s2, s3, s4⟩
     go_simp
     with_reducible rfl
    rotate_left
    ·exact qq_2
    refine Qfa (i := 3) (N := some 18) (v := ?_) (a' := ?_) #[true, true, true, true, true, false, false, false, false, false, true, false, false, false, false] rfl rfl (Qft HT_.out qq_7) (fun _ _ _ h => h) (Or.inl ⟨by rfl, ?_⟩) ?_ ?_
    rotate_left
    ·intro w'
     go_simp
     with_reducible rfl
    rotate_left
    ·exact qq_2
    refine take_ (i := 5) (N := some 20) (v := ?_) (a' := ?_) #[true, true, true, true, true, true, false, false, false, false, true, false, false, false, false] rfl rfl (Qfy HT_.out HW_.out qq_7) (fun _ _ _ h => h) (Or.inl ⟨by rfl, ?_⟩) hHeld ?_ ?_
    rotate_left
    ·rintro w' ⟨s0, s1, s2, s3, s4⟩
     go_simp
     with_reducible rfl
    rotate_left
    ·exact qq_2
    refine Qfa (i := 6) (N := some 21) (v := ?_) (a' := ?_) #[true, true, true, true, true, true, true, false, false, false, true, false, false, false, false] rfl rfl (Qft HT_.out qq_7) (fun _ _ _ h => h) (Or.inl ⟨by rfl, ?_⟩) ?_ ?_
    rotate_left
    ·intro w'
     go_simp
     with_reducible rfl
    rotate_left
    ·exact qq_2
    refine take_ (i := 11) (N := some 26) (v := ?_) (a' := ?_) #[true, true, true, true, true, true, true, false, false, false, true, true, false, false, false] rfl rfl (Qfy HT_.out HW_.out qq_7) (fun _ _ _ h => h) (Or.inl ⟨by rfl, ?_⟩) hHeld ?_ ?_
    rotate_left
    ·rintro w' ⟨s0, s1, s2, s3, s4⟩
     go_simp
     with_reducible rfl
    rotate_left
    ·exact qq_2
    refine one_ (i := 7) (N := some 22) #[true, true, true, true, true, true, true, true, false, false, true, true, false, false, false] rfl rfl (Qfu HT_.out qq_7) (by decide) (fun K hK => ?_)
    refine Qff Tryz.func64 qq_7 rfl #[.int .i64 (wrap64 (a0_4 + 1))] (by rfl) rfl rfl qq_1 ?_
    with_reducible refine (Qbp.calls (wrap64 (a0_4 + 1)) t329 _ A10.out).mono ?_
    rintro e w' ⟨rfl, ⟨nd, rfl⟩⟩
    refine ⟨_, rfl, ?_⟩
    refine hK.out _ _ ⟨(Qds BK327.out 0).trans rfl, (Qds BK327.out 1).trans rfl, (Qds BK327.out 2).trans rfl, (Qds BK327.out 3).trans rfl, (Qds BK327.out 4).trans rfl⟩ (fun hHeld => ?_)
    clear hK K
    refine Qfe (a' := ?_) ?_ ?_
    rotate_left
    ·show Act.put _ (some 22) _ = _
     simp only [Act.put, List.setIfInBounds_toArray, List.set_cons_zero, List.set_cons_succ, Qfi, Qfj]
     rfl
    refine Qfa (i := 8) (N := some 23) (v := ?_) (a' := ?_) #[true, true, true, true, true, true, true, true, true, false, true, true, false, false, false] rfl rfl (Qft HT_.out qq_7) (fun _ _ _ h => h) (Or.inl ⟨by rfl, ?_⟩) ?_ ?_
    rotate_left
    ·intro w'
     go_simp
     with_reducible rfl
    rotate_left
    ·exact qq_2
    refine Qfa (i := 9) (N := some 24) (v := ?_) (a' := ?_) #[true, true, true, true, true, true, true, true, true, true, true, true, false, false, false] rfl rfl (Qft HT_.out qq_7) (fun _ _ _ h => h) (Or.inl ⟨by rfl, ?_⟩) ?_ ?_
    rotate_left
    ·intro w'
     go_simp
     with_reducible rfl
    rotate_left
    ·exact qq_2
    refine one_ (i := 12) (N := some 27) #[true, true, true, true, true, true, true, true, true, true, true, true, true, false, false] rfl rfl (Qfu HT_.out qq_7) (by decide) (fun K hK => ?_)
    refine Qff Tryz.func63 qq_7 rfl #[.agg #[.int .u8 a0_0, .int .u32 a0_1]] (by rfl) rfl rfl qq_1 ?_
    with_reducible refine (Qbf.calls kj2 a0_0 a0_1 t330 _ A11.out).mono ?_
    rintro e w13 ⟨rfl, hb⟩
    refine ⟨_, rfl, ?_⟩
    have n0_ := QA (Qeb (g := gb327) (o := .cells #[.int .u8 a0_0, .int .u32 a0_1, .int .u64 a0_2, .int .i64 a0_3, .int .i64 a0_4] 36 (0, 0)) qq_0 hb)
    have n1_ := QA (Qem qq_b hb)
    clear BK327
    clear HB
    have BK327 := n0_
    have HB := n1_
    clear n0_ n1_
    (try clear hb)
    (try clear hb2)
    (try clear hk)
    (try clear hi)
    refine hK.out _ _ ⟨(Qds BK327.out 0).trans rfl, (Qds BK327.out 1).trans rfl, (Qds BK327.out 2).trans rfl, (Qds BK327.out 3).trans rfl, (Qds BK327.out 4).trans rfl⟩ (fun hHeld => ?_)
    clear hK K
    refine Qfe (a' := ?_) ?_ ?_
    rotate_left
    ·show Act.put _ (some 27) _ = _
     simp only [Act.put, List.setIfInBounds_toArray, List.set_cons_zero, List.set_cons_succ, Qfi, Qfj]
     rfl
    refine Qfa (i := 13) (N := some 28) (v := ?_) (a' := ?_) #[true, true, true, true, true, true, true, true, true, true, true, true, true, true, false] rfl rfl (Qft HT_.out qq_7) (fun _ _ _ h => h) (Or.inl ⟨by rfl, ?_⟩) ?_ ?_
    rotate_left
    ·intro w'
     go_simp
     with_reducible rfl
    rotate_left
    ·exact qq_2
    refine Qfa (i := 14) (N := some 4) (v := ?_) (a' := ?_) #[true, true, true, true, true, true, true, true, true, true, true, true, true, true, true] rfl rfl (Qft HT_.out qq_7) (fun _ _ _ h => h) (Or.inl ⟨by rfl, ?_⟩) ?_ ?_
    rotate_left
    ·intro w'
     go_simp
     with_reducible rfl
    rotate_left
    ·exact qq_2
    refine Qfc (Qfw HT_.out qq_7) ?_
    try go_wp2
    go_ret
    exact ⟨by first | rfl | (simp [Qgu, Qgv] <;> rfl) | (simp [*, Qgu, Qgv] <;> rfl), qq_b⟩
def Qbu.f (a0_0 : Int) (a0_1 : Int) (a0_2 : Int) (a0_3 : Int) (a0_4 : Int) (a1 : Int) : Option (Int × Int × Int × Int × Int) := some (a0_0, a0_1, a0_2, wrap64 (a0_3 + a1), wrap64 (a0_4 + 1))
theorem Qbu.calls (a0_0 : Int) (a0_1 : Int) (a0_2 : Int) (a0_3 : Int) (a0_4 : Int) (a1 : Int) (r1 : Int) (r2 : Int) (r3 : Int) (r4 : Int) (r5 : Int) (w : World) (h : Qbu.f a0_0 a0_1 a0_2 a0_3 a0_4 a1 = some (r1, r2, r3, r4, r5)) :
  Calls Tryz.prog 25 #[.agg #[.int .u8 a0_0, .int .u32 a0_1, .int .u64 a0_2, .int .i64 a0_3, .int .i64 a0_4], .int .i64 a1] w fun e w' => e = .returned (.agg #[.int .u8 r1, .int .u32 r2, .int .u64 r3, .int .i64 r4, .int .i64 r5]) ∧ Below w.heap.size w w' := by
 have hu36 := Tryz.underlying36
 have HB := QA (Below.refl w.heap.size w)
 have H : (some (a0_0, a0_1, a0_2, wrap64 (a0_3 + a1), wrap64 (a0_4 + 1))) = some (r1, r2, r3, r4, r5) := h
 clear h
 simp only [Option.some.injEq, Prod.mk.injEq] at H
 obtain ⟨rfl, rfl, rfl, rfl, rfl⟩ := H
 go_enter Tryz.func25, Tryz.ntmps25
 go_wp2_with (first | ((with_reducible refine Qer (N := 2) rfl ?_); refine qq_e 2 #[.int .u8 a0_0, .int .u32 a0_1, .int .u64 a0_2, .int .i64 a0_3, .int .i64 a0_4] 36 ?_; intro gb331 hg w3 hbox hb; have n0_ := QA (Qem qq_b hb); have n1_ := QA (hbox); have n2_ := QA ((qq_s hg : w.heap.size ≤ gb331)); have n3_ := QA ((qq_s hg : w.heap.size ≤ gb331)); clear HB; have HB := n0_; have BK331 := n1_; have GW331 := n2_; have GE331 := n3_; clear n0_ n1_ n2_ n3_; clear hb hbox hg) | ((with_reducible refine Qer (N := 4) rfl ?_); refine qq_e 4 #[.int .u8 0, .int .u32 0, .int .u64 0, .int .i64 0, .int .i64 0] 36 ?_; intro gb332 hg w4 hbox hb; have n0_ := QA (Qeb (g := gb331) (o := .cells #[.int .u8 a0_0, .int .u32 a0_1, .int .u64 a0_2, .int .i64 a0_3, .int .i64 a0_4] 36 (0, 0)) qq_0 hb); have n1_ := QA (Qem qq_b hb); have n2_ := QA (hbox); have n3_ := QA ((qq_s hg : w.heap.size ≤ gb332)); have n4_ := QA ((qq_s hg : w.heap.size ≤ gb332)); have n5_ := QA ((by rw [hg]; exact Nat.ne_of_lt (Qdr (g := gb331) (o := .cells #[.int .u8 a0_0, .int .u32 a0_1, .int .u64 a0_2, .int .i64 a0_3, .int .i64 a0_4] 36 (0, 0)) qq_0) : gb331 ≠ gb332)); have n6_ := QA ((by rw [hg]; exact Nat.ne_of_gt (Qdr (g := gb331) (o := .cells #[.int .u8 a0_0, .int .u32 a0_1, .int .u64 a0_2, .int .i64 a0_3, .int .i64 a0_4] 36 (0, 0)) qq_0) : gb332 ≠ gb331)); clear BK331; clear HB; have BK331 := n0_; have HB := n1_; have BK332 := n2_; have GW332 := n3_; have GE332 := n4_; have NB331_332 := n5_; have NB332_331 := n6_; clear n0_ n1_ n2_ n3_ n4_ n5_ n6_; clear hb hbox hg; have hnb5 := NB331_332.out; have hnc5 := NB332_331.out; have hcz6_0 := qq_c (.int .u8 a0_0) BK331.out 0 rfl; have hcz6_1 := qq_c (.int .u32 a0_1) BK331.out 1 rfl; have hcz6_2 := qq_c (.int .u64 a0_2) BK331.out 2 rfl; have hcz6_3 := qq_c (.int .i64 a0_3) BK331.out 3 rfl; have hcz6_4 := qq_c (.int .i64 a0_4) BK331.out 4 rfl; have hfz6_0 := Qdt BK331.out 0; have hfz6_1 := Qdt BK331.out 1; have hfz6_2 := Qdt BK331.out 2; have hfz6_3 := Qdt BK331.out 3; have hfz6_4 := Qdt BK331.out 4; have hcz7_0 := qq_c (.int .u8 0) BK332.out 0 rfl; have hcz7_1 := qq_c (.int .u32 0) BK332.out 1 rfl; have hcz7_2 := qq_c (.int .u64 0) BK332.out 2 rfl; have hcz7_3 := qq_c (.int .i64 0) BK332.out 3 rfl; have hcz7_4 := qq_c (.int .i64 0) BK332.out 4 rfl; have hfz7_0 := Qdt BK332.out 0; have hfz7_1 := Qdt BK332.out 1; have hfz7_2 := Qdt BK332.out 2; have hfz7_3 := Qdt BK332.out 3; have hfz7_4 := Qdt BK332.out 4))
 refine bodyPost_ret (results_cell_row rfl _ _ gb332 36 #[.int .u8 a0_0, .int .u32 a0_1, .int .u64 a0_2, .int .i64 (wrap64 (a0_3 + a1)), .int .i64 (wrap64 (a0_4 + 1))] (0, 0) _ rfl (by (with_reducible repeat (first | apply Qea | apply Qdz | apply Qdy)); refine Qep (cs := #[.int .u8 a0_0, .int .u32 a0_1, .int .u64 a0_2, .int .i64 (wrap64 (a0_3 + a1)), .int .i64 0]) ?_ 4 _ rfl; (with_reducible repeat (first | apply Qea | apply Qdz | apply Qdy)); refine Qep (cs := #[.int .u8 a0_0, .int .u32 a0_1, .int .u64 a0_2, .int .i64 0, .int .i64 0]) ?_ 3 _ rfl; (with_reducible repeat (first | apply Qea | apply Qdz | apply Qdy)); refine Qep (cs := #[.int .u8 a0_0, .int .u32 a0_1, .int .u64 0, .int .i64 0, .int .i64 0]) ?_ 2 _ rfl; (with_reducible repeat (first | apply Qea | apply Qdz | apply Qdy)); refine Qep (cs := #[.int .u8 a0_0, .int .u32 0, .int .u64 0, .int .i64 0, .int .i64 0]) ?_ 1 _ rfl; (with_reducible repeat (first | apply Qea | apply Qdz | apply Qdy)); refine Qep (cs := #[.int .u8 0, .int .u32 0, .int .u64 0, .int .i64 0, .int .i64 0]) ?_ 0 _ rfl; (with_reducible repeat (first | apply Qea | apply Qdz | apply Qdy)); refine Qdq ?_ NB332_331.out _; (with_reducible repeat (first | apply Qea | apply Qdz | apply Qdy)); refine Qdq ?_ NB332_331.out _; (with_reducible repeat (first | apply Qea | apply Qdz | apply Qdy)); exact BK332.out) Tryz.underlying36 rfl qq_7) rfl ?_
 exact ⟨by first | rfl | (simp [Qgu, Qgv] <;> rfl) | (simp [*, Qgu, Qgv] <;> rfl), qq_b⟩
end Go.Proofs.YtnnofopfbeklbaaGreat.C
end
