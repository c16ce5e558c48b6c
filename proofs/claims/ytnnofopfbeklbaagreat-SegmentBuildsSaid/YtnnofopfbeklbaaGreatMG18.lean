/- Texts of this claim's author and of the print of its functions, merged by merge.py. -/
import Derived.Test.YtnnofopfbeklbaaGreatMG02
import Derived.Test.YtnnofopfbeklbaaGreatMG17
set_option linter.unusedVariables false
set_option linter.unusedSimpArgs false
set_option maxHeartbeats 8000000
set_option maxRecDepth 100000
section
namespace Go.Proofs.YtnnofopfbeklbaaGreat.C
open Go.RowKit Go.Proofs.YtnnofopfbeklbaaGreatW.PrintWords Go.Proofs.YtnnofopfbeklbaaGreatW.PrintLast Go.Proofs.YtnnofopfbeklbaaGreatW.PrintMore
attribute [local go_sem] Qfx Qfy Qfz Qga Qgb Qgc Qgd Qge
def Qbq.f (k : Nat) (a0_0 : Int) (a0_1 : Int) (a1 : Int) : Option (Int × Int × Int × Int × Int) := (Qbe.f k a0_0 a0_1 a1).bind fun t325 => (some (a0_0, a0_1, a1, (t325.size : Int), 0))
def Qbq.T1 : Bool × List (List Nat × List Nat) := (true, [([], []), ([], []), ([], []), ([], []), ([2, 3], [2, 3]), ([4], [4]), ([0, 1, 5], [0, 1, 5]), ([6, 4, 0, 1, 2, 3, 4, 5, 6], [6])])
def Qbq.B1 : List Nat := [0, 0, 0, 0, 12, 28, 63, 127]
theorem Qbq.tab1 : rtab .any (Qfp Tryz.f20 1) = Qbq.T1 := by kernel_rfl
theorem Qbq.bits1 : Qfl Qbq.T1.2 Qbq.B1 = true := by kernel_rfl
theorem Qbq.calls (k : Nat) (a0_0 : Int) (a0_1 : Int) (a1 : Int) (r1 : Int) (r2 : Int) (r3 : Int) (r4 : Int) (r5 : Int) (w : World) (h : Qbq.f k a0_0 a0_1 a1 = some (r1, r2, r3, r4, r5)) :
  Calls Tryz.prog 20 #[.agg #[.int .u8 a0_0, .int .u32 a0_1], .int .u64 a1] w fun e w' => e = .returned (.agg #[.int .u8 r1, .int .u32 r2, .int .u64 r3, .int .i64 r4, .int .i64 r5]) ∧ Below w.heap.size w w' := by
 have hu27 := Tryz.underlying27
 have hu36 := Tryz.underlying36
 have HB := QA (Below.refl w.heap.size w)
 have H : ((Qbe.f k a0_0 a0_1 a1).bind fun t325 => (some (a0_0, a0_1, a1, (t325.size : Int), 0))) = some (r1, r2, r3, r4, r5) := h
 clear h
 replace H := Option.bind_eq_some_iff.mp H
 obtain ⟨t325, A30, H⟩ := H
 replace H : (some (a0_0, a0_1, a1, (t325.size : Int), 0)) = some (r1, r2, r3, r4, r5) := H
 have A3 := QA A30
 clear A30
 simp only [Option.some.injEq, Prod.mk.injEq] at H
 obtain ⟨rfl, rfl, rfl, rfl, rfl⟩ := H
 go_enter Tryz.func20, Tryz.ntmps20
 try go_wp2_with (first | ((with_reducible refine Qef (N := 2) rfl ?_); refine qq_e 2 #[.int .u8 a0_0, .int .u32 a0_1] 27 ?_; intro gb323 hg w4 hbox hb; have n0_ := QA (Qea qq_b hb); have n1_ := QA (hbox); have n2_ := QA ((qq_s hg : w.heap.size ≤ gb323)); have n3_ := QA ((qq_s hg : w.heap.size ≤ gb323)); clear HB; have HB := n0_; have BK323 := n1_; have GW323 := n2_; have GE323 := n3_; clear n0_ n1_ n2_ n3_; clear hb hbox hg) | ((with_reducible refine Qef (N := 4) rfl ?_); refine qq_e 4 #[.int .u8 0, .int .u32 0, .int .u64 0, .int .i64 0, .int .i64 0] 36 ?_; intro gb324 hg w5 hbox hb; have n0_ := QA (Qdt (g := gb323) (o := .cells #[.int .u8 a0_0, .int .u32 a0_1] 27 (0, 0)) qq_0 hb); have n1_ := QA (Qea qq_b hb); have n2_ := QA (hbox); have n3_ := QA ((qq_s hg : w.heap.size ≤ gb324)); have n4_ := QA ((qq_s hg : w.heap.size ≤ gb324)); have n5_ := QA ((by rw [hg]; exact Nat.ne_of_lt (Qdi (g := gb323) (o := .cells #[.int .u8 a0_0, .int .u32 a0_1] 27 (0, 0)) qq_0) : gb323 ≠ gb324)); have n6_ := QA ((by rw [hg]; exact Nat.ne_of_gt (Qdi (g := gb323) (o := .cells #[.int .u8 a0_0, .int .u32 a0_1] 27 (0, 0)) qq_0) : gb324 ≠ gb323)); clear BK323; clear HB; have BK323 := n0_; have HB := n1_; have BK324 := n2_; have GW324 := n3_; have GE324 := n4_; have NB323_324 := n5_; have NB324_323 := n6_; clear n0_ n1_ n2_ n3_ n4_ n5_ n6_; clear hb hbox hg))
 have n0_ := QA (Qdr BK323.out)
 have n1_ := QA (Qdr BK324.out)
 have n2_ := QA (Qee HB.out)
 clear BK323
 clear BK324
 clear HB
 have BK323 := n0_
 have BK324 := n1_
 have HB := n2_
 clear n0_ n1_ n2_
 refine Qen (n := 8) (S := fun w' => w'.cell? ⟨gb323, 0, none⟩ = some (.int .u8 a0_0) ∧ w'.cell? ⟨gb323, 1, none⟩ = some (.int .u32 a0_1)) (ds := []) #[false, false, false, false, false, false, false, false] qq_6 rfl rfl ⟨(Qdj BK323.out 0).trans rfl, (Qdj BK323.out 1).trans rfl⟩ (fun hHeld => ?_); refine Qfn Qbq.tab1 Qbq.bits1 (fun HT_ HW_ => ?_)
 generalize w5.drew = w6 at BK323 BK324 HB hHeld ⊢
 refine Qeo (i := 1) (N := some 6) (v := ?_) (a' := ?_) #[false, true, false, false, false, false, false, false] rfl rfl (Qfh HT_.out qq_6) (fun _ _ _ h => h) (Or.inl ⟨by rfl, ?_⟩) ?_ ?_
 rotate_left
 ·intro w'
  go_simp
  with_reducible rfl
 rotate_left
 ·exact qq_2
 refine Qeo (i := 3) (N := some 8) (v := ?_) (a' := ?_) #[false, true, false, true, false, false, false, false] rfl rfl (Qfh HT_.out qq_6) (fun _ _ _ h => h) (Or.inl ⟨by rfl, ?_⟩) ?_ ?_
 rotate_left
 ·intro w'
  go_simp
  with_reducible rfl
 rotate_left
 ·exact qq_2
 refine take_ (i := 0) (N := some 5) (v := ?_) (a' := ?_) #[true, true, false, true, false, false, false, false] rfl rfl (Qfm HT_.out HW_.out qq_6) (fun _ _ _ h => h) (Or.inl ⟨by rfl, ?_⟩) hHeld ?_ ?_
 rotate_left
 ·rintro w' ⟨s0, s1⟩
  go_simp
  with_reducible rfl
 rotate_left
 ·exact qq_2
 refine take_ (i := 2) (N := some 7) (v := ?_) (a' := ?_) #[true, true, true, true, false, false, false, false] rfl rfl (Qfm HT_.out HW_.out qq_6) (fun _ _ _ h => h) (Or.inl ⟨by rfl, ?_⟩) hHeld ?_ ?_
 rotate_left
 ·rintro w' ⟨s0, s1⟩
  go_simp
  with_reducible rfl
 rotate_left
 ·exact qq_2
 refine one_ (i := 4) (N := some 9) #[true, true, true, true, true, false, false, false] rfl rfl (Qfi HT_.out qq_6) (by decide) (fun K hK => ?_)
 refine Qet Tryz.func55 qq_6 rfl #[.agg #[.int .u8 a0_0, .int .u32 a0_1], .int .u64 a1] (by rfl) rfl rfl qq_1 ?_
 with_reducible refine (Qbe.calls k a0_0 a0_1 a1 t325 _ A3.out).mono ?_
 rintro e w7 ⟨rfl, hb⟩
 refine ⟨_, rfl, ?_⟩
 have n0_ := QA (Qdt (g := gb323) (o := .cells #[.int .u8 a0_0, .int .u32 a0_1] 27 (0, 0)) qq_0 hb)
 have n1_ := QA (Qdt (g := gb324) (o := .cells #[.int .u8 0, .int .u32 0, .int .u64 0, .int .i64 0, .int .i64 0] 36 (0, 0)) qq_0 hb)
 have n2_ := QA (Qea qq_b hb)
 clear BK323
 clear BK324
 clear HB
 have BK323 := n0_
 have BK324 := n1_
 have HB := n2_
 clear n0_ n1_ n2_
 (try clear hb)
 (try clear hb2)
 (try clear hk)
 (try clear hi)
 refine hK.out _ _ ⟨(Qdj BK323.out 0).trans rfl, (Qdj BK323.out 1).trans rfl⟩ (fun hHeld => ?_)
 clear hK K
 refine Qes (a' := ?_) ?_ ?_
 rotate_left
 ·show Act.put _ (some 9) _ = _
  simp only [Act.put, List.setIfInBounds_toArray, List.set_cons_zero, List.set_cons_succ, Qew, Qex]
  rfl
 refine Qeo (i := 5) (N := some 10) (v := ?_) (a' := ?_) #[true, true, true, true, true, true, false, false] rfl rfl (Qfh HT_.out qq_6) (fun _ _ _ h => h) (Or.inl ⟨by rfl, ?_⟩) ?_ ?_
 rotate_left
 ·intro w'
  go_simp
  with_reducible rfl
 rotate_left
 ·exact qq_2
 refine Qeo (i := 6) (N := some 11) (v := ?_) (a' := ?_) #[true, true, true, true, true, true, true, false] rfl rfl (Qfh HT_.out qq_6) (fun _ _ _ h => h) (Or.inl ⟨by rfl, ?_⟩) ?_ ?_
 rotate_left
 ·intro w'
  go_simp
  with_reducible rfl
 rotate_left
 ·exact qq_2
 refine one_ (i := 7) (N := none) #[true, true, true, true, true, true, true, true] rfl rfl (Qfi HT_.out qq_6) (by decide) (fun K hK => ?_)
 have hs8 : w7.cell? ⟨gb324, 0, none⟩ = some (.int .u8 0) := (Qdj BK324.out 0).trans rfl
 have hfs8 := Qdk BK324.out 0
 have hns8_0 := NB323_324.out
 have hms8_0 := NB324_323.out
 have hs9 : w7.cell? ⟨gb324, 1, none⟩ = some (.int .u32 0) := (Qdj BK324.out 1).trans rfl
 have hfs9 := Qdk BK324.out 1
 have hns9_0 := NB323_324.out
 have hms9_0 := NB324_323.out
 have hs10 : w7.cell? ⟨gb324, 2, none⟩ = some (.int .u64 0) := (Qdj BK324.out 2).trans rfl
 have hfs10 := Qdk BK324.out 2
 have hns10_0 := NB323_324.out
 have hms10_0 := NB324_323.out
 have hs11 : w7.cell? ⟨gb324, 3, none⟩ = some (.int .i64 0) := (Qdj BK324.out 3).trans rfl
 have hfs11 := Qdk BK324.out 3
 have hns11_0 := NB323_324.out
 have hms11_0 := NB324_323.out
 have hs12 : w7.cell? ⟨gb324, 4, none⟩ = some (.int .i64 0) := (Qdj BK324.out 4).trans rfl
 have hfs12 := Qdk BK324.out 4
 have hns12_0 := NB323_324.out
 have hms12_0 := NB324_323.out
 refine skip_ (w1 := ?_) (by rfl) rfl ?_ ?_
 rotate_left
 ·go_simp
  rfl
 refine hK.out _ _ ⟨((Qec (p := ⟨gb324, _, none⟩) NB323_324.out _).trans (((Qec (p := ⟨gb324, _, none⟩) NB323_324.out _).trans (((Qec (p := ⟨gb324, _, none⟩) NB323_324.out _).trans (((Qec (p := ⟨gb324, _, none⟩) NB323_324.out _).trans (((Qec (p := ⟨gb324, _, none⟩) NB323_324.out _).trans (hHeld.1)))))))))), ((Qec (p := ⟨gb324, _, none⟩) NB323_324.out _).trans (((Qec (p := ⟨gb324, _, none⟩) NB323_324.out _).trans (((Qec (p := ⟨gb324, _, none⟩) NB323_324.out _).trans (((Qec (p := ⟨gb324, _, none⟩) NB323_324.out _).trans (((Qec (p := ⟨gb324, _, none⟩) NB323_324.out _).trans (hHeld.2))))))))))⟩ (fun hHeld => ?_)
 clear hK K
 refine Qep (Qfk HT_.out qq_6) ?_
 try go_wp2
 refine bodyPost_ret (results_cell_row rfl _ _ gb324 36 #[.int .u8 a0_0, .int .u32 a0_1, .int .u64 a1, .int .i64 (t325.size : Int), .int .i64 0] (0, 0) _ rfl (by (with_reducible repeat (first | apply Qds | apply Qdr | apply Qdq)); refine Qed (cs := #[.int .u8 a0_0, .int .u32 a0_1, .int .u64 a1, .int .i64 (t325.size : Int), .int .i64 0]) ?_ 4 _ rfl; (with_reducible repeat (first | apply Qds | apply Qdr | apply Qdq)); refine Qed (cs := #[.int .u8 a0_0, .int .u32 a0_1, .int .u64 a1, .int .i64 0, .int .i64 0]) ?_ 3 _ rfl; (with_reducible repeat (first | apply Qds | apply Qdr | apply Qdq)); refine Qed (cs := #[.int .u8 a0_0, .int .u32 a0_1, .int .u64 0, .int .i64 0, .int .i64 0]) ?_ 2 _ rfl; (with_reducible repeat (first | apply Qds | apply Qdr | apply Qdq)); refine Qed (cs := #[.int .u8 a0_0, .int .u32 0, .int .u64 0, .int .i64 0, .int .i64 0]) ?_ 1 _ rfl; (with_reducible repeat (first | apply Qds | apply Qdr | apply Qdq)); refine Qed (cs := #[.int .u8 0, .int .u32 0, .int .u64 0, .int .i64 0, .int .i64 0]) ?_ 0 _ rfl; (with_reducible repeat (first | apply Qds | apply Qdr | apply Qdq)); exact BK324.out) Tryz.underlying36 rfl qq_6) rfl ?_
 exact ⟨by first | rfl | (simp [Qgi, Qgj] <;> rfl) | (simp [*, Qgi, Qgj] <;> rfl), qq_b⟩
def Qbd.l0 : Nat → Int → Int → Int → Option (Int)
 | 0, _, _, _ => none
 | k + 1, x3, x5, x6 => if x6 < x5 then (Qbd.l0 k (IntKind.u64.wrap (2 * x3)) x5 ((x6 + 1) % 256)) else (some x3)
def Qbd.f (k : Nat) (a0_0 : Int) (a0_1 : Int) : Option (Int) := Qbd.l0 k 1 a0_0 0
theorem Qbd.calls (k : Nat) (a0_0 : Int) (a0_1 : Int) (r : Int) (w : World) (h : Qbd.f k a0_0 a0_1 = some r) :
  Calls Tryz.prog 63 #[.agg #[.int .u8 a0_0, .int .u32 a0_1]] w fun e w' => e = .returned (.int .u64 r) ∧ Below w.heap.size w w' := by
 have hu27 := Tryz.underlying27
 have HB := QA (Below.refl w.heap.size w)
 have H : (Qbd.l0 k 1 a0_0 0) = some r := h
 clear h
 have H' := QA H
 clear H
 go_enter Tryz.func63, Tryz.ntmps63
 go_wp2_with (first | ((with_reducible refine Qef (N := 1) rfl ?_); refine qq_e 1 #[.int .u8 a0_0, .int .u32 a0_1] 27 ?_; intro gb326 hg w2 hbox hb; have n0_ := QA (Qea qq_b hb); have n1_ := QA (hbox); have n2_ := QA ((qq_s hg : w.heap.size ≤ gb326)); have n3_ := QA ((qq_s hg : w.heap.size ≤ gb326)); clear HB; have HB := n0_; have BK326 := n1_; have GW326 := n2_; have GE326 := n3_; clear n0_ n1_ n2_ n3_; clear hb hbox hg; have hcz3_0 := qq_c (.int .u8 a0_0) BK326.out 0 rfl; have hcz3_1 := qq_c (.int .u32 a0_1) BK326.out 1 rfl; have hfz3_0 := Qdk BK326.out 0; have hfz3_1 := Qdk BK326.out 1))
 go_loopg [3, 6] k (fun kq v3 v6 w' => ∃ (x3_1 : Int) (x6_1 : Int), v3 = .int .u64 x3_1 ∧ v6 = .int .u8 x6_1 ∧ Aside0 (Qbd.l0 kq x3_1 a0_0 x6_1 = some r) ∧ Aside0 (kq ≤ k) ∧ Aside0 (w'.heap[gb326]? = some (.cells #[.int .u8 a0_0, .int .u32 a0_1] 27 (0, 0))) ∧ Aside0 (Below w.heap.size w w'))
 case atStart => exact ⟨(1), (0), qq_5, qq_5, H', ⟨Nat.le_refl _⟩, ⟨by (with_reducible repeat (first | apply Qds | apply Qdr | apply Qdq)); exact BK326.out⟩, ⟨qq_b⟩⟩
 case round =>
  clear H'
  try clear hcz3_0
  try clear hcz3_1
  try clear hfz3_0
  try clear hfz3_1
  obtain ⟨x3_1, x6_1, rfl, rfl, HA, HK1, BK326, HB⟩ := hrel
  cases gk with
  | zero => exact absurd HA.out (by simp [Qbd.l0])
  | succ k1 =>
   have H := HA.out
   clear HA
   simp only [Qbd.l0] at H
   by_cases c4 : x6_1 < a0_0
   ·rw [if_pos c4] at H
    have c4b0 : decide (x6_1 < a0_0) = true := decide_eq_true c4
    clear c4
    have H' := QA H
    clear H
    go_wp2
    go_roundg k1
    case measure => have := HK1.out; omega
    case rel => exact ⟨(IntKind.u64.wrap (2 * x3_1)), ((x6_1 + 1) % 256), qq_5, qq_5, H', ⟨by have := HK1.out; omega⟩, ⟨by (with_reducible repeat (first | apply Qds | apply Qdr | apply Qdq)); exact BK326.out⟩, ⟨qq_b⟩⟩
   ·rw [if_neg c4] at H
    have c4b0 : decide (x6_1 < a0_0) = false := decide_eq_false c4
    clear c4
    obtain rfl := Option.some.inj H
    go_wp2
    go_ret
    exact ⟨by first | rfl | (simp [Qgi, Qgj] <;> rfl) | (simp [*, Qgi, Qgj] <;> rfl), qq_b⟩
def Qbo.f (a0 : Int) : Option (Int) := some (wrap64 ((wrap64 ((wrap64 ((wrap64 ((wrap64 ((wrap64 (9 + (wrap64 (12 * a0)))) + (wrap64 (8 * (wrap64 (Int.tdiv (wrap64 (a0 + 15)) 16)))))) + 8)) + 1)) + (wrap64 (Int.tdiv (wrap64 ((wrap64 ((wrap64 ((wrap64 (9 + (wrap64 (12 * a0)))) + (wrap64 (8 * (wrap64 (Int.tdiv (wrap64 (a0 + 15)) 16)))))) + 8)) - 1)) 254)))) + 1))
theorem Qbo.calls (a0 : Int) (r : Int) (w : World) (h : Qbo.f a0 = some r) :
  Calls Tryz.prog 64 #[.int .i64 a0] w fun e w' => e = .returned (.int .i64 r) ∧ Drawn0 w w' := by
 have H : (some (wrap64 ((wrap64 ((wrap64 ((wrap64 ((wrap64 ((wrap64 (9 + (wrap64 (12 * a0)))) + (wrap64 (8 * (wrap64 (Int.tdiv (wrap64 (a0 + 15)) 16)))))) + 8)) + 1)) + (wrap64 (Int.tdiv (wrap64 ((wrap64 ((wrap64 ((wrap64 (9 + (wrap64 (12 * a0)))) + (wrap64 (8 * (wrap64 (Int.tdiv (wrap64 (a0 + 15)) 16)))))) + 8)) - 1)) 254)))) + 1))) = some r := h
 clear h
 obtain rfl := Option.some.inj H
 go_enter Tryz.func64, Tryz.ntmps64
 go_wp2
 go_ret
 exact ⟨by first | rfl | (simp; done) | (simp [*]; done), by repeat (first | exact Drawn0.refl _ | apply Drawn0.step)⟩
def Qbr.j0 : Nat → Int → Bool → Int → Int → Int → Int → Int → Option (Bool)
 | 0, _, _, _, _, _, _, _ => none
 | k + 1, x1, x14, x328000, x328001, x328002, x328003, x328004 => if x14 = true then (some false) else ((Qbo.f (wrap64 (x328004 + 1))).bind fun t329 => ((Qbd.f k x328000 x328001).bind fun t330 => (some (decide ((IntKind.u64.wrap (wrap64 ((wrap64 (x328003 + x1)) + t329))) ≤ t330)))))
def Qbr.f (k : Nat) (a0_0 : Int) (a0_1 : Int) (a0_2 : Int) (a0_3 : Int) (a0_4 : Int) (a1 : Int) : Option (Bool) := if a1 < 1 then (Qbr.j0 k a1 true a0_0 a0_1 a0_2 a0_3 a0_4) else ((Qbd.f k a0_0 a0_1).bind fun t328 => (Qbr.j0 k a1 (decide ((IntKind.u64.wrap (a1)) > t328)) a0_0 a0_1 a0_2 a0_3 a0_4))
def Qbr.T3 : Bool × List (List Nat × List Nat) := (true, [([], []), ([0], [0]), ([], []), ([1, 2], [1, 2]), ([], []), ([4], [4]), ([5], [5]), ([6], [6]), ([3, 7], [3, 7]), ([8], [8]), ([], []), ([10], [10]), ([11, 7], [11]), ([9, 12], [9, 12]), ([13, 12, 0, 1, 2, 3, 4, 5, 6, 7, 8, 9, 10, 11, 12, 13], [13])])
def Qbr.B3 : List Nat := [0, 1, 0, 7, 0, 16, 48, 112, 255, 511, 0, 1024, 3312, 8191, 16383]
theorem Qbr.tab3 : rtab .any (Qfp Tryz.f24 3) = Qbr.T3 := by kernel_rfl
theorem Qbr.bits3 : Qfl Qbr.T3.2 Qbr.B3 = true := by kernel_rfl
theorem Qbr.calls (k : Nat) (a0_0 : Int) (a0_1 : Int) (a0_2 : Int) (a0_3 : Int) (a0_4 : Int) (a1 : Int) (r : Bool) (w : World) (h : Qbr.f k a0_0 a0_1 a0_2 a0_3 a0_4 a1 = some r) :
  Calls Tryz.prog 24 #[.agg #[.int .u8 a0_0, .int .u32 a0_1, .int .u64 a0_2, .int .i64 a0_3, .int .i64 a0_4], .int .i64 a1] w fun e w' => e = .returned (.bool r) ∧ Below w.heap.size w w' := by
 have hu36 := Tryz.underlying36
 have hu27 := Tryz.underlying27
 have HB := QA (Below.refl w.heap.size w)
 have H : (if a1 < 1 then (Qbr.j0 k a1 true a0_0 a0_1 a0_2 a0_3 a0_4) else ((Qbd.f k a0_0 a0_1).bind fun t328 => (Qbr.j0 k a1 (decide ((IntKind.u64.wrap (a1)) > t328)) a0_0 a0_1 a0_2 a0_3 a0_4))) = some r := h
 clear h
 have HC3 := QA H
 clear H
 go_enter Tryz.func24, Tryz.ntmps24
 go_upto_region 1 with (first | ((with_reducible refine Qef (N := 2) rfl ?_); refine qq_e 2 #[.int .u8 a0_0, .int .u32 a0_1, .int .u64 a0_2, .int .i64 a0_3, .int .i64 a0_4] 36 ?_; intro gb327 hg w4 hbox hb; have n0_ := QA (Qea qq_b hb); have n1_ := QA (hbox); have n2_ := QA ((qq_s hg : w.heap.size ≤ gb327)); have n3_ := QA ((qq_s hg : w.heap.size ≤ gb327)); clear HB; have HB := n0_; have BK327 := n1_; have GW327 := n2_; have GE327 := n3_; clear n0_ n1_ n2_ n3_; clear hb hbox hg))
 (try simp only [Act.put, List.setIfInBounds_toArray, List.set_cons_zero, List.set_cons_succ])
 go_cut [14] (fun v14 wc => ∃ (kq : Nat) (x14_2 : Bool), v14 = .bool x14_2 ∧ Aside0 (Qbr.j0 kq a1 x14_2 a0_0 a0_1 a0_2 a0_3 a0_4 = some r) ∧ Aside0 (kq ≤ k) ∧ Aside0 (wc.heap[gb327]? = some (.cells #[.int .u8 a0_0, .int .u32 a0_1, .int .u64 a0_2, .int .i64 a0_3, .int .i64 a0_4] 36 (0, 0))) ∧ Aside0 (Below w.heap.size w wc))
 case first =>
  have H := HC3.out
  clear HC3
  by_cases c5 : a1 < 1
  ·rw [if_pos c5] at H
   have c5b0 : decide (a1 < 1) = true := decide_eq_true c5
   clear c5
   (first | rw [c5b0] | (simp only [Qew, Qex]; rw [c5b0]) | skip)
   have H' := QA H
   clear H
   go_wp2
   go_meet
   case rel => exact ⟨_, (true), qq_5, H', ⟨by first | omega | exact Nat.le_refl _⟩, ⟨by (with_reducible repeat (first | apply Qds | apply Qdr | apply Qdq)); exact BK327.out⟩, ⟨qq_b⟩⟩
  ·rw [if_neg c5] at H
   have c5b0 : decide (a1 < 1) = false := decide_eq_false c5
   clear c5
   (first | rw [c5b0] | (simp only [Qew, Qex]; rw [c5b0]) | skip)
   replace H := Option.bind_eq_some_iff.mp H
   obtain ⟨t328, A60, H⟩ := H
   replace H : (Qbr.j0 k a1 (decide ((IntKind.u64.wrap (a1)) > t328)) a0_0 a0_1 a0_2 a0_3 a0_4) = some r := H
   have A6 := QA A60
   clear A60
   have H' := QA H
   clear H
   have hcz7_0 := qq_c (.int .u8 a0_0) BK327.out 0 rfl
   have hcz7_1 := qq_c (.int .u32 a0_1) BK327.out 1 rfl
   have hcz7_2 := qq_c (.int .u64 a0_2) BK327.out 2 rfl
   have hcz7_3 := qq_c (.int .i64 a0_3) BK327.out 3 rfl
   have hcz7_4 := qq_c (.int .i64 a0_4) BK327.out 4 rfl
   have hfz7_0 := Qdk BK327.out 0
   have hfz7_1 := Qdk BK327.out 1
   have hfz7_2 := Qdk BK327.out 2
   have hfz7_3 := Qdk BK327.out 3
   have hfz7_4 := Qdk BK327.out 4
   go_wp2_with (first | (go_at_call 63; (with_reducible refine (Qbd.calls k a0_0 a0_1 t328 _ A6.out).mono ?_); rintro e w8 ⟨rfl, hb⟩; have n0_ := QA (Qdt (g := gb327) (o := .cells #[.int .u8 a0_0, .int .u32 a0_1, .int .u64 a0_2, .int .i64 a0_3, .int .i64 a0_4] 36 (0, 0)) qq_0 hb); have n1_ := QA (Qea qq_b hb); clear BK327; clear HB; have BK327 := n0_; have HB := n1_; clear n0_ n1_; (try clear hb); (try clear hb2); (try clear hk); (try clear hi)))
   go_meet
   case rel => exact ⟨_, (decide ((IntKind.u64.wrap (a1)) > t328)), qq_5, H', ⟨by first | omega | exact Nat.le_refl _⟩, ⟨by (with_reducible repeat (first | apply Qds | apply Qdr | apply Qdq)); exact BK327.out⟩, ⟨qq_b⟩⟩
 case rest =>
  clear HC3
  try clear c5
  try clear c5b0
  try clear hcz7_0
  try clear hcz7_1
  try clear hcz7_2
  try clear hcz7_3
  try clear hcz7_4
  try clear hfz7_0
  try clear hfz7_1
  try clear hfz7_2
  try clear hfz7_3
  try clear hfz7_4
  obtain ⟨kq, x14_2, rfl, HA, HJ2, BK327, HB⟩ := hcut
  cases kq with
  | zero => exact absurd HA.out (by simp [Qbr.j0])
  | succ kj2 =>
   have H := HA.out
   clear HA
   simp only [Qbr.j0] at H
   by_cases c9 : x14_2 = true
   ·subst c9
    have H1 : (some false) = some r := by rw [if_pos rfl] at H; exact H
    clear H
    have H := H1
    clear H1
    obtain rfl := Option.some.inj H
    go_wp2
    go_ret
    exact ⟨by first | rfl | (simp [Qgi, Qgj] <;> rfl) | (simp [*, Qgi, Qgj] <;> rfl), qq_b⟩
   ·replace c9 := Bool.eq_false_iff.mpr c9
    subst c9
    have H1 : ((Qbo.f (wrap64 (a0_4 + 1))).bind fun t329 => ((Qbd.f kj2 a0_0 a0_1).bind fun t330 => (some (decide ((IntKind.u64.wrap (wrap64 ((wrap64 (a0_3 + a1)) + t329))) ≤ t330))))) = some r := by rw [if_neg (show ¬ (false = true) by decide)] at H; exact H
    clear H
    have H := H1
    clear H1
    replace H := Option.bind_eq_some_iff.mp H
    obtain ⟨t329, A100, H⟩ := H
    replace H : ((Qbd.f kj2 a0_0 a0_1).bind fun t330 => (some (decide ((IntKind.u64.wrap (wrap64 ((wrap64 (a0_3 + a1)) + t329))) ≤ t330)))) = some r := H
    have A10 := QA A100
    clear A100
    replace H := Option.bind_eq_some_iff.mp H
    obtain ⟨t330, A110, H⟩ := H
    replace H : (some (decide ((IntKind.u64.wrap (wrap64 ((wrap64 (a0_3 + a1)) + t329))) ≤ t330))) = some r := H
    have A11 := QA A110
    clear A110
    obtain rfl := Option.some.inj H
    try go_wp2
    have n0_ := QA (Qdr BK327.out)
    have n1_ := QA (Qee HB.out)
    clear BK327
    clear HB
    have BK327 := n0_
    have HB := n1_
    clear n0_ n1_
    refine Qen (n := 15) (S := fun w' => w'.cell? ⟨gb327, 0, none⟩ = some (.int .u8 a0_0) ∧ w'.cell? ⟨gb327, 1, none⟩ = some (.int .u32 a0_1) ∧ w'.cell? ⟨gb327, 2, none⟩ = some (.int .u64 a0_2) ∧ w'.cell? ⟨gb327, 3, none⟩ = some (.int .i64 a0_3) ∧ w'.cell? ⟨gb327, 4, none⟩ = some (.int .i64 a0_4)) (ds := []) #[false, false, false, false, false, false, false, false, false, false, false, false, false, false, false] qq_6 rfl rfl ⟨(Qdj BK327.out 0).trans rfl, (Qdj BK327.out 1).trans rfl, (Qdj BK327.out 2).trans rfl, (Qdj BK327.out 3).trans rfl, (Qdj BK327.out 4).trans rfl⟩ (fun hHeld => ?_); refine Qfn Qbr.tab3 Qbr.bits3 (fun HT_ HW_ => ?_)
    generalize wc.drew = w12 at BK327 HB hHeld ⊢
    refine Qeo (i := 0) (N := some 15) (v := ?_) (a' := ?_) #[true, false, false, false, false, false, false, false, false, false, false, false, false, false, false] rfl rfl (Qfh HT_.out qq_6) (fun _ _ _ h => h) (Or.inl ⟨by rfl, ?_⟩) ?_ ?_
    rotate_left
    ·intro w'
     go_simp
     with_reducible rfl
    rotate_left
    ·exact qq_2
    refine Qeo (i := 2) (N := some 17) (v := ?_) (a' := ?_) #[true, false, true, false, false, false, false, false, false, false, false, false, false, false, false] rfl rfl (Qfh HT_.out qq_6) (fun _ _ _ h => h) (Or.inl ⟨by rfl, ?_⟩) ?_ ?_
    rotate_left
    ·intro w'
     go_simp
     with_reducible rfl
    rotate_left
    ·exact qq_2
    refine Qeo (i := 4) (N := some 19) (v := ?_) (a' := ?_) #[true, false, true, false, true, false, false, false, false, false, false, false, false, false, false] rfl rfl (Qfh HT_.out qq_6) (fun _ _ _ h => h) (Or.inl ⟨by rfl, ?_⟩) ?_ ?_
    rotate_left
    ·intro w'
     go_simp
     with_reducible rfl
    rotate_left
    ·exact qq_2
    refine Qeo (i := 10) (N := some 25) (v := ?_) (a' := ?_) #[true, false, true, false, true, false, false, false, false, false, true, false, false, false, false] rfl rfl (Qfh HT_.out qq_6) (fun _ _ _ h => h) (Or.inl ⟨by rfl, ?_⟩) ?_ ?_
    rotate_left
    ·intro w'
     go_simp
     with_reducible rfl
    rotate_left
    ·exact qq_2
    refine take_ (i := 1) (N := some 16) (v := ?_) (a' := ?_) #[true, true, true, false, true, false, false, false, false, false, true, false, false, false, false] rfl rfl (Qfm HT_.out HW_.out qq_6) (fun _ _ _ h => h) (Or.inl ⟨by rfl, ?_⟩) hHeld ?_ ?_
    rotate_left
    ·rintro w' ⟨s0, s1, s2, s3, s4⟩
     go_simp
     with_reducible rfl
    rotate_left
    ·exact qq_2
    refine Qeo (i := 3) (N := some 18) (v := ?_) (a' := ?_) #[true, true, true, true, true, false, false, false, false, false, true, false, false, false, false] rfl rfl (Qfh HT_.out qq_6) (fun _ _ _ h => h) (Or.inl ⟨by rfl, ?_⟩) ?_ ?_
    rotate_left
    ·intro w'
     go_simp
     with_reducible rfl
    rotate_left
    ·exact qq_2
    refine take_ (i := 5) (N := some 20) (v := ?_) (a' := ?_) #[true, true, true, true, true, true, false, false, false, false, true, false, false, false, false] rfl rfl (Qfm HT_.out HW_.out qq_6) (fun _ _ _ h => h) (Or.inl ⟨by rfl, ?_⟩) hHeld ?_ ?_
    rotate_left
    ·rintro w' ⟨s0, s1, s2, s3, s4⟩
     go_simp
     with_reducible rfl
    rotate_left
    ·exact qq_2
    refine Qeo (i := 6) (N := some 21) (v := ?_) (a' := ?_) #[true, true, true, true, true, true, true, false, false, false, true, false, false, false, false] rfl rfl (Qfh HT_.out qq_6) (fun _ _ _ h => h) (Or.inl ⟨by rfl, ?_⟩) ?_ ?_
    rotate_left
    ·intro w'
     go_simp
     with_reducible rfl
    rotate_left
    ·exact qq_2
    refine take_ (i := 11) (N := some 26) (v := ?_) (a' := ?_) #[true, true, true, true, true, true, true, false, false, false, true, true, false, false, false] rfl rfl (Qfm HT_.out HW_.out qq_6) (fun _ _ _ h => h) (Or.inl ⟨by rfl, ?_⟩) hHeld ?_ ?_
    rotate_left
    ·rintro w' ⟨s0, s1, s2, s3, s4⟩
     go_simp
     with_reducible rfl
    rotate_left
    ·exact qq_2
    refine one_ (i := 7) (N := some 22) #[true, true, true, true, true, true, true, true, false, false, true, true, false, false, false] rfl rfl (Qfi HT_.out qq_6) (by decide) (fun K hK => ?_)
    refine Qet Tryz.func64 qq_6 rfl #[.int .i64 (wrap64 (a0_4 + 1))] (by rfl) rfl rfl qq_1 ?_
    with_reducible refine (Qbo.calls (wrap64 (a0_4 + 1)) t329 _ A10.out).mono ?_
    rintro e w' ⟨rfl, ⟨nd, rfl⟩⟩
    refine ⟨_, rfl, ?_⟩
    refine hK.out _ _ ⟨(Qdj BK327.out 0).trans rfl, (Qdj BK327.out 1).trans rfl, (Qdj BK327.out 2).trans rfl, (Qdj BK327.out 3).trans rfl, (Qdj BK327.out 4).trans rfl⟩ (fun hHeld => ?_)
    clear hK K
    refine Qes (a' := ?_) ?_ ?_
    rotate_left
    ·show Act.put _ (some 22) _ = _
     simp only [Act.put, List.setIfInBounds_toArray, List.set_cons_zero, List.set_cons_succ, Qew, Qex]
     rfl
    refine Qeo (i := 8) (N := some 23) (v := ?_) (a' := ?_) #[true, true, true, true, true, true, true, true, true, false, true, true, false, false, false] rfl rfl (Qfh HT_.out qq_6) (fun _ _ _ h => h) (Or.inl ⟨by rfl, ?_⟩) ?_ ?_
    rotate_left
    ·intro w'
     go_simp
     with_reducible rfl
    rotate_left
    ·exact qq_2
    refine Qeo (i := 9) (N := some 24) (v := ?_) (a' := ?_) #[true, true, true, true, true, true, true, true, true, true, true, true, false, false, false] rfl rfl (Qfh HT_.out qq_6) (fun _ _ _ h => h) (Or.inl ⟨by rfl, ?_⟩) ?_ ?_
    rotate_left
    ·intro w'
     go_simp
     with_reducible rfl
    rotate_left
    ·exact qq_2
    refine one_ (i := 12) (N := some 27) #[true, true, true, true, true, true, true, true, true, true, true, true, true, false, false] rfl rfl (Qfi HT_.out qq_6) (by decide) (fun K hK => ?_)
    refine Qet Tryz.func63 qq_6 rfl #[.agg #[.int .u8 a0_0, .int .u32 a0_1]] (by rfl) rfl rfl qq_1 ?_
    with_reducible refine (Qbd.calls kj2 a0_0 a0_1 t330 _ A11.out).mono ?_
    rintro e w13 ⟨rfl, hb⟩
    refine ⟨_, rfl, ?_⟩
    have n0_ := QA (Qdt (g := gb327) (o := .cells #[.int .u8 a0_0, .int .u32 a0_1, .int .u64 a0_2, .int .i64 a0_3, .int .i64 a0_4] 36 (0, 0)) qq_0 hb)
    have n1_ := QA (Qea qq_b hb)
    clear BK327
    clear HB
    have BK327 := n0_
    have HB := n1_
    clear n0_ n1_
    (try clear hb)
    (try clear hb2)
    (try clear hk)
    (try clear hi)
    refine hK.out _ _ ⟨(Qdj BK327.out 0).trans rfl, (Qdj BK327.out 1).trans rfl, (Qdj BK327.out 2).trans rfl, (Qdj BK327.out 3).trans rfl, (Qdj BK327.out 4).trans rfl⟩ (fun hHeld => ?_)
    clear hK K
    refine Qes (a' := ?_) ?_ ?_
    rotate_left
    ·show Act.put _ (some 27) _ = _
     simp only [Act.put, List.setIfInBounds_toArray, List.set_cons_zero, List.set_cons_succ, Qew, Qex]
     rfl
    refine Qeo (i := 13) (N := some 28) (v := ?_) (a' := ?_) #[true, true, true, true, true, true, true, true, true, true, true, true, true, true, false] rfl rfl (Qfh HT_.out qq_6) (fun _ _ _ h => h) (Or.inl ⟨by rfl, ?_⟩) ?_ ?_
    rotate_left
    ·intro w'
     go_simp
     with_reducible rfl
    rotate_left
    ·exact qq_2
    refine Qeo (i := 14) (N := some 4) (v := ?_) (a' := ?_) #[true, true, true, true, true, true, true, true, true, true, true, true, true, true, true] rfl rfl (Qfh HT_.out qq_6) (fun _ _ _ h => h) (Or.inl ⟨by rfl, ?_⟩) ?_ ?_
    rotate_left
    ·intro w'
     go_simp
     with_reducible rfl
    rotate_left
    ·exact qq_2
    refine Qep (Qfk HT_.out qq_6) ?_
    try go_wp2
    go_ret
    exact ⟨by first | rfl | (simp [Qgi, Qgj] <;> rfl) | (simp [*, Qgi, Qgj] <;> rfl), qq_b⟩
def Qbs.f (a0_0 : Int) (a0_1 : Int) (a0_2 : Int) (a0_3 : Int) (a0_4 : Int) (a1 : Int) : Option (Int × Int × Int × Int × Int) := some (a0_0, a0_1, a0_2, wrap64 (a0_3 + a1), wrap64 (a0_4 + 1))
theorem Qbs.calls (a0_0 : Int) (a0_1 : Int) (a0_2 : Int) (a0_3 : Int) (a0_4 : Int) (a1 : Int) (r1 : Int) (r2 : Int) (r3 : Int) (r4 : Int) (r5 : Int) (w : World) (h : Qbs.f a0_0 a0_1 a0_2 a0_3 a0_4 a1 = some (r1, r2, r3, r4, r5)) :
  Calls Tryz.prog 25 #[.agg #[.int .u8 a0_0, .int .u32 a0_1, .int .u64 a0_2, .int .i64 a0_3, .int .i64 a0_4], .int .i64 a1] w fun e w' => e = .returned (.agg #[.int .u8 r1, .int .u32 r2, .int .u64 r3, .int .i64 r4, .int .i64 r5]) ∧ Below w.heap.size w w' := by
 have hu36 := Tryz.underlying36
 have HB := QA (Below.refl w.heap.size w)
 have H : (some (a0_0, a0_1, a0_2, wrap64 (a0_3 + a1), wrap64 (a0_4 + 1))) = some (r1, r2, r3, r4, r5) := h
 clear h
 simp only [Option.some.injEq, Prod.mk.injEq] at H
 obtain ⟨rfl, rfl, rfl, rfl, rfl⟩ := H
 go_enter Tryz.func25, Tryz.ntmps25
 go_wp2_with (first | ((with_reducible refine Qef (N := 2) rfl ?_); refine qq_e 2 #[.int .u8 a0_0, .int .u32 a0_1, .int .u64 a0_2, .int .i64 a0_3, .int .i64 a0_4] 36 ?_; intro gb331 hg w3 hbox hb; have n0_ := QA (Qea qq_b hb); have n1_ := QA (hbox); have n2_ := QA ((qq_s hg : w.heap.size ≤ gb331)); have n3_ := QA ((qq_s hg : w.heap.size ≤ gb331)); clear HB; have HB := n0_; have BK331 := n1_; have GW331 := n2_; have GE331 := n3_; clear n0_ n1_ n2_ n3_; clear hb hbox hg) | ((with_reducible refine Qef (N := 4) rfl ?_); refine qq_e 4 #[.int .u8 0, .int .u32 0, .int .u64 0, .int .i64 0, .int .i64 0] 36 ?_; intro gb332 hg w4 hbox hb; have n0_ := QA (Qdt (g := gb331) (o := .cells #[.int .u8 a0_0, .int .u32 a0_1, .int .u64 a0_2, .int .i64 a0_3, .int .i64 a0_4] 36 (0, 0)) qq_0 hb); have n1_ := QA (Qea qq_b hb); have n2_ := QA (hbox); have n3_ := QA ((qq_s hg : w.heap.size ≤ gb332)); have n4_ := QA ((qq_s hg : w.heap.size ≤ gb332)); have n5_ := QA ((by rw [hg]; exact Nat.ne_of_lt (Qdi (g := gb331) (o := .cells #[.int .u8 a0_0, .int .u32 a0_1, .int .u64 a0_2, .int .i64 a0_3, .int .i64 a0_4] 36 (0, 0)) qq_0) : gb331 ≠ gb332)); have n6_ := QA ((by rw [hg]; exact Nat.ne_of_gt (Qdi (g := gb331) (o := .cells #[.int .u8 a0_0, .int .u32 a0_1, .int .u64 a0_2, .int .i64 a0_3, .int .i64 a0_4] 36 (0, 0)) qq_0) : gb332 ≠ gb331)); clear BK331; clear HB; have BK331 := n0_; have HB := n1_; have BK332 := n2_; have GW332 := n3_; have GE332 := n4_; have NB331_332 := n5_; have NB332_331 := n6_; clear n0_ n1_ n2_ n3_ n4_ n5_ n6_; clear hb hbox hg; have hnb5 := NB331_332.out; have hnc5 := NB332_331.out; have hcz6_0 := qq_c (.int .u8 a0_0) BK331.out 0 rfl; have hcz6_1 := qq_c (.int .u32 a0_1) BK331.out 1 rfl; have hcz6_2 := qq_c (.int .u64 a0_2) BK331.out 2 rfl; have hcz6_3 := qq_c (.int .i64 a0_3) BK331.out 3 rfl; have hcz6_4 := qq_c (.int .i64 a0_4) BK331.out 4 rfl; have hfz6_0 := Qdk BK331.out 0; have hfz6_1 := Qdk BK331.out 1; have hfz6_2 := Qdk BK331.out 2; have hfz6_3 := Qdk BK331.out 3; have hfz6_4 := Qdk BK331.out 4; have hcz7_0 := qq_c (.int .u8 0) BK332.out 0 rfl; have hcz7_1 := qq_c (.int .u32 0) BK332.out 1 rfl; have hcz7_2 := qq_c (.int .u64 0) BK332.out 2 rfl; have hcz7_3 := qq_c (.int .i64 0) BK332.out 3 rfl; have hcz7_4 := qq_c (.int .i64 0) BK332.out 4 rfl; have hfz7_0 := Qdk BK332.out 0; have hfz7_1 := Qdk BK332.out 1; have hfz7_2 := Qdk BK332.out 2; have hfz7_3 := Qdk BK332.out 3; have hfz7_4 := Qdk BK332.out 4))
 refine bodyPost_ret (results_cell_row rfl _ _ gb332 36 #[.int .u8 a0_0, .int .u32 a0_1, .int .u64 a0_2, .int .i64 (wrap64 (a0_3 + a1)), .int .i64 (wrap64 (a0_4 + 1))] (0, 0) _ rfl (by (with_reducible repeat (first | apply Qds | apply Qdr | apply Qdq)); refine Qed (cs := #[.int .u8 a0_0, .int .u32 a0_1, .int .u64 a0_2, .int .i64 (wrap64 (a0_3 + a1)), .int .i64 0]) ?_ 4 _ rfl; (with_reducible repeat (first | apply Qds | apply Qdr | apply Qdq)); refine Qed (cs := #[.int .u8 a0_0, .int .u32 a0_1, .int .u64 a0_2, .int .i64 0, .int .i64 0]) ?_ 3 _ rfl; (with_reducible repeat (first | apply Qds | apply Qdr | apply Qdq)); refine Qed (cs := #[.int .u8 a0_0, .int .u32 a0_1, .int .u64 0, .int .i64 0, .int .i64 0]) ?_ 2 _ rfl; (with_reducible repeat (first | apply Qds | apply Qdr | apply Qdq)); refine Qed (cs := #[.int .u8 a0_0, .int .u32 0, .int .u64 0, .int .i64 0, .int .i64 0]) ?_ 1 _ rfl; (with_reducible repeat (first | apply Qds | apply Qdr | apply Qdq)); refine Qed (cs := #[.int .u8 0, .int .u32 0, .int .u64 0, .int .i64 0, .int .i64 0]) ?_ 0 _ rfl; (with_reducible repeat (first | apply Qds | apply Qdr | apply Qdq)); refine Qdh ?_ NB332_331.out _; (with_reducible repeat (first | apply Qds | apply Qdr | apply Qdq)); refine Qdh ?_ NB332_331.out _; (with_reducible repeat (first | apply Qds | apply Qdr | apply Qdq)); exact BK332.out) Tryz.underlying36 rfl qq_6) rfl ?_
 exact ⟨by first | rfl | (simp [Qgi, Qgj] <;> rfl) | (simp [*, Qgi, Qgj] <;> rfl), qq_b⟩
theorem eqA122 (d : Nat) (w : World) (x0 y0 : Int) (x1 y1 : Int) :
  (Op.equalIn (d + 2) 122 (.agg #[.int .u64 x0, .int .u32 x1]) (.agg #[.int .u64 y0, .int .u32 y1])).run Tryz.prog w = .ok (x0 == y0 && (x1 == y1)) w := by
 refine eqA_of Tryz.underlying122 qq_6 ?_
 refine Qfv (by rfl) (by go_simp; rfl) (by go_simp; rfl) (by go_simp) ?_
 exact Qfu (by rfl) (by go_simp; rfl) (by go_simp; rfl) (by go_simp)
def Qbl.f (a0_0 : Int) (a0_1 : Int) (a1_0 : Int) (a1_1 : Int) : Option (Bool) := if a0_0 < a1_0 then (some true) else (if a0_0 = a1_0 then (some (decide (a0_1 < a1_1))) else (some false))
theorem Qbl.calls (a0_0 : Int) (a0_1 : Int) (a1_0 : Int) (a1_1 : Int) (r : Bool) (w : World) (h : Qbl.f a0_0 a0_1 a1_0 a1_1 = some r) :
  Calls Tryz.prog 158 #[.agg #[.int .u64 a0_0, .int .u32 a0_1], .agg #[.int .u64 a1_0, .int .u32 a1_1]] w fun e w' => e = .returned (.bool r) ∧ Below w.heap.size w w' := by
 have hu122 := Tryz.underlying122
 have HB := QA (Below.refl w.heap.size w)
 have H : (if a0_0 < a1_0 then (some true) else (if a0_0 = a1_0 then (some (decide (a0_1 < a1_1))) else (some false))) = some r := h
 clear h
 by_cases c3 : a0_0 < a1_0
 ·rw [if_pos c3] at H
  have c3b0 : decide (a0_0 < a1_0) = true := decide_eq_true c3
  clear c3
  obtain rfl := Option.some.inj H
  go_enter Tryz.func158, Tryz.ntmps158
  go_wp2_with (first | ((with_reducible refine Qef (N := 2) rfl ?_); refine qq_e 2 #[.int .u64 a0_0, .int .u32 a0_1] 122 ?_; intro gb422 hg w4 hbox hb; have n0_ := QA (Qea qq_b hb); have n1_ := QA (hbox); have n2_ := QA ((qq_s hg : w.heap.size ≤ gb422)); have n3_ := QA ((qq_s hg : w.heap.size ≤ gb422)); clear HB; have HB := n0_; have BK422 := n1_; have GW422 := n2_; have GE422 := n3_; clear n0_ n1_ n2_ n3_; clear hb hbox hg) | ((with_reducible refine Qef (N := 3) rfl ?_); refine qq_e 3 #[.int .u64 a1_0, .int .u32 a1_1] 122 ?_; intro gb423 hg w5 hbox hb; have n0_ := QA (Qdt (g := gb422) (o := .cells #[.int .u64 a0_0, .int .u32 a0_1] 122 (0, 0)) qq_0 hb); have n1_ := QA (Qea qq_b hb); have n2_ := QA (hbox); have n3_ := QA ((qq_s hg : w.heap.size ≤ gb423)); have n4_ := QA ((qq_s hg : w.heap.size ≤ gb423)); have n5_ := QA ((by rw [hg]; exact Nat.ne_of_lt (Qdi (g := gb422) (o := .cells #[.int .u64 a0_0, .int .u32 a0_1] 122 (0, 0)) qq_0) : gb422 ≠ gb423)); have n6_ := QA ((by rw [hg]; exact Nat.ne_of_gt (Qdi (g := gb422) (o := .cells #[.int .u64 a0_0, .int .u32 a0_1] 122 (0, 0)) qq_0) : gb423 ≠ gb422)); clear BK422; clear HB; have BK422 := n0_; have HB := n1_; have BK423 := n2_; have GW423 := n3_; have GE423 := n4_; have NB422_423 := n5_; have NB423_422 := n6_; clear n0_ n1_ n2_ n3_ n4_ n5_ n6_; clear hb hbox hg; have hnb6 := NB422_423.out; have hnc6 := NB423_422.out; have hcz7_0 := qq_c (.int .u64 a0_0) BK422.out 0 rfl; have hcz7_1 := qq_c (.int .u32 a0_1) BK422.out 1 rfl; have hfz7_0 := Qdk BK422.out 0; have hfz7_1 := Qdk BK422.out 1; have hcz8_0 := qq_c (.int .u64 a1_0) BK423.out 0 rfl; have hcz8_1 := qq_c (.int .u32 a1_1) BK423.out 1 rfl; have hfz8_0 := Qdk BK423.out 0; have hfz8_1 := Qdk BK423.out 1))
  go_ret
  exact ⟨by first | rfl | (simp [Qgi, Qgj] <;> rfl) | (simp [*, Qgi, Qgj] <;> rfl), qq_b⟩
 ·rw [if_neg c3] at H
  have c3b0 : decide (a0_0 < a1_0) = false := decide_eq_false c3
  clear c3
  by_cases c9 : a0_0 = a1_0
  ·rw [if_pos c9] at H
   have c9b0 : (a0_0 == a1_0) = true := beq_iff_eq.mpr c9
   have c9b1 : (a0_0 != a1_0) = false := bne_eq_false_iff_eq.mpr c9
   clear c9
   obtain rfl := Option.some.inj H
   go_enter Tryz.func158, Tryz.ntmps158
   go_wp2_with (first | ((with_reducible refine Qef (N := 2) rfl ?_); refine qq_e 2 #[.int .u64 a0_0, .int .u32 a0_1] 122 ?_; intro gb422 hg w10 hbox hb; have n0_ := QA (Qea qq_b hb); have n1_ := QA (hbox); have n2_ := QA ((qq_s hg : w.heap.size ≤ gb422)); have n3_ := QA ((qq_s hg : w.heap.size ≤ gb422)); clear HB; have HB := n0_; have BK422 := n1_; have GW422 := n2_; have GE422 := n3_; clear n0_ n1_ n2_ n3_; clear hb hbox hg) | ((with_reducible refine Qef (N := 3) rfl ?_); refine qq_e 3 #[.int .u64 a1_0, .int .u32 a1_1] 122 ?_; intro gb423 hg w11 hbox hb; have n0_ := QA (Qdt (g := gb422) (o := .cells #[.int .u64 a0_0, .int .u32 a0_1] 122 (0, 0)) qq_0 hb); have n1_ := QA (Qea qq_b hb); have n2_ := QA (hbox); have n3_ := QA ((qq_s hg : w.heap.size ≤ gb423)); have n4_ := QA ((qq_s hg : w.heap.size ≤ gb423)); have n5_ := QA ((by rw [hg]; exact Nat.ne_of_lt (Qdi (g := gb422) (o := .cells #[.int .u64 a0_0, .int .u32 a0_1] 122 (0, 0)) qq_0) : gb422 ≠ gb423)); have n6_ := QA ((by rw [hg]; exact Nat.ne_of_gt (Qdi (g := gb422) (o := .cells #[.int .u64 a0_0, .int .u32 a0_1] 122 (0, 0)) qq_0) : gb423 ≠ gb422)); clear BK422; clear HB; have BK422 := n0_; have HB := n1_; have BK423 := n2_; have GW423 := n3_; have GE423 := n4_; have NB422_423 := n5_; have NB423_422 := n6_; clear n0_ n1_ n2_ n3_ n4_ n5_ n6_; clear hb hbox hg; have hnb12 := NB422_423.out; have hnc12 := NB423_422.out; have hcz13_0 := qq_c (.int .u64 a0_0) BK422.out 0 rfl; have hcz13_1 := qq_c (.int .u32 a0_1) BK422.out 1 rfl; have hfz13_0 := Qdk BK422.out 0; have hfz13_1 := Qdk BK422.out 1; have hcz14_0 := qq_c (.int .u64 a1_0) BK423.out 0 rfl; have hcz14_1 := qq_c (.int .u32 a1_1) BK423.out 1 rfl; have hfz14_0 := Qdk BK423.out 0; have hfz14_1 := Qdk BK423.out 1))
   go_ret
   exact ⟨by first | rfl | (simp [Qgi, Qgj] <;> rfl) | (simp [*, Qgi, Qgj] <;> rfl), qq_b⟩
  ·rw [if_neg c9] at H
   have c9b0 : (a0_0 == a1_0) = false := beq_eq_false_iff_ne.mpr c9
   have c9b1 : (a0_0 != a1_0) = true := bne_iff_ne.mpr c9
   obtain rfl := Option.some.inj H
   go_enter Tryz.func158, Tryz.ntmps158
   go_wp2_with (first | ((with_reducible refine Qef (N := 2) rfl ?_); refine qq_e 2 #[.int .u64 a0_0, .int .u32 a0_1] 122 ?_; intro gb422 hg w15 hbox hb; have n0_ := QA (Qea qq_b hb); have n1_ := QA (hbox); have n2_ := QA ((qq_s hg : w.heap.size ≤ gb422)); have n3_ := QA ((qq_s hg : w.heap.size ≤ gb422)); clear HB; have HB := n0_; have BK422 := n1_; have GW422 := n2_; have GE422 := n3_; clear n0_ n1_ n2_ n3_; clear hb hbox hg) | ((with_reducible refine Qef (N := 3) rfl ?_); refine qq_e 3 #[.int .u64 a1_0, .int .u32 a1_1] 122 ?_; intro gb423 hg w16 hbox hb; have n0_ := QA (Qdt (g := gb422) (o := .cells #[.int .u64 a0_0, .int .u32 a0_1] 122 (0, 0)) qq_0 hb); have n1_ := QA (Qea qq_b hb); have n2_ := QA (hbox); have n3_ := QA ((qq_s hg : w.heap.size ≤ gb423)); have n4_ := QA ((qq_s hg : w.heap.size ≤ gb423)); have n5_ := QA ((by rw [hg]; exact Nat.ne_of_lt (Qdi (g := gb422) (o := .cells #[.int .u64 a0_0, .int .u32 a0_1] 122 (0, 0)) qq_0) : gb422 ≠ gb423)); have n6_ := QA ((by rw [hg]; exact Nat.ne_of_gt (Qdi (g := gb422) (o := .cells #[.int .u64 a0_0, .int .u32 a0_1] 122 (0, 0)) qq_0) : gb423 ≠ gb422)); clear BK422; clear HB; have BK422 := n0_; have HB := n1_; have BK423 := n2_; have GW423 := n3_; have GE423 := n4_; have NB422_423 := n5_; have NB423_422 := n6_; clear n0_ n1_ n2_ n3_ n4_ n5_ n6_; clear hb hbox hg; have hnb17 := NB422_423.out; have hnc17 := NB423_422.out; have hcz18_0 := qq_c (.int .u64 a0_0) BK422.out 0 rfl; have hcz18_1 := qq_c (.int .u32 a0_1) BK422.out 1 rfl; have hfz18_0 := Qdk BK422.out 0; have hfz18_1 := Qdk BK422.out 1; have hcz19_0 := qq_c (.int .u64 a1_0) BK423.out 0 rfl; have hcz19_1 := qq_c (.int .u32 a1_1) BK423.out 1 rfl; have hfz19_0 := Qdk BK423.out 0; have hfz19_1 := Qdk BK423.out 1))
   go_ret
   exact ⟨by first | rfl | (simp [Qgi, Qgj] <;> rfl) | (simp [*, Qgi, Qgj] <;> rfl), qq_b⟩
end Go.Proofs.YtnnofopfbeklbaaGreat.C
end
