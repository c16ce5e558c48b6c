/- Texts of this claim's author and of the print of its functions, merged by merge.py. -/
import Derived.Test.YtnnofopfbeklbaaGreatMD03
import Derived.Test.YtnnofopfbeklbaaGreatMD16
set_option linter.unusedVariables false
set_option linter.unusedSimpArgs false
set_option maxHeartbeats 8000000
set_option maxRecDepth 100000
section
namespace Go.Proofs.YtnnofopfbeklbaaGreat.C
open Go.RowKit Go.Proofs.YtnnofopfbeklbaaGreatW.PrintWords Go.Proofs.YtnnofopfbeklbaaGreatW.PrintLast Go.Proofs.YtnnofopfbeklbaaGreatW.PrintMore
attribute [local go_sem] Qgh Qgi Qgj Qgk Qgl Qgm Qgn Qgo
def Qbt.l0 : Nat → List Int → List Int → Int → Int → Int → Int → Int → Int → Int → Int → Int → Int → Int → Int → Int → Int → Option (List Int × Int)
 | 0, _, _, _, _, _, _, _, _, _, _, _, _, _, _, _, _ => none
 | k + 1, x8, x22, x23, x24, x334000, x334001, x341000, x341001, x341002, x341003, x341004, x347000, x347001, x347002, x347003, x347004 => if x24 < x23 then (if 0 ≤ x24 then (if x24 < (x22.length : Int) then ((Qbs.f k x347000 x347001 x347002 x347003 x347004 (rd x22 x24)).bind fun t348 => (if t348 = true then ((Qbs.f k x341000 x341001 x341002 x341003 x341004 (rd x22 x24)).bind fun t349 => (if t349 = true then ((Qbu.f x341000 x341001 x341002 x341003 x341004 (rd x22 x24)).bind fun bt350 => (if x8.length < 17592186044416 then (Qbt.l0 k (x8 ++ [bt350.2.2.1]) x22 x23 (wrap64 (x24 + 1)) x334000 x334001 bt350.1 bt350.2.1 bt350.2.2.1 bt350.2.2.2.1 bt350.2.2.2.2 x347000 x347001 x347002 x347003 x347004) else (none))) else (if (IntKind.u64.wrap (x341002 + 1)) ≥ (IntKind.u64.wrap (x334001)) then (some (([] : List Int), 7)) else ((Qbr.f k x334000 x334001 (IntKind.u64.wrap (x341002 + 1))).bind fun bt358 => ((Qbu.f bt358.1 bt358.2.1 bt358.2.2.1 bt358.2.2.2.1 bt358.2.2.2.2 (rd x22 x24)).bind fun bt363 => (if x8.length < 17592186044416 then (Qbt.l0 k (x8 ++ [bt363.2.2.1]) x22 x23 (wrap64 (x24 + 1)) x334000 x334001 bt363.1 bt363.2.1 bt363.2.2.1 bt363.2.2.2.1 bt363.2.2.2.2 x347000 x347001 x347002 x347003 x347004) else (none))))))) else (some (([] : List Int), 6)))) else (none)) else (none)) else (some (x8, 0))
def Qbt.f (k : Nat) (a0_0 : Int) (a0_1 : Int) (l1 : List Int) : Option (List Int × Int) := (Qbe.f a0_0 a0_1).bind fun t334 => (if t334 = true then ((Qbr.f k a0_0 a0_1 0).bind fun bt335 => ((Qbr.f k a0_0 a0_1 (IntKind.u64.wrap ((IntKind.u64.wrap (a0_1)) - 1))).bind fun bt341 => (Qbt.l0 k ([] : List Int) l1 (l1.length : Int) 0 a0_0 a0_1 bt335.1 bt335.2.1 bt335.2.2.1 bt335.2.2.2.1 bt335.2.2.2.2 bt341.1 bt341.2.1 bt341.2.2.1 bt341.2.2.2.1 bt341.2.2.2.2))) else (some (([] : List Int), 1)))
theorem Qbt.calls (k : Nat) (a0_0 : Int) (a0_1 : Int) (A1 : Option Addr) (c1 : Nat) (l1 : List Int) (r1 : List Int) (r2 : Int) (w : World) (hr1 : Kd.C (Kd.int .i64) w A1 l1.length l1) (hc1 : l1.length ≤ c1) (h : Qbt.f k a0_0 a0_1 l1 = some (r1, r2)) :
  Calls Tryz.prog 77 #[.agg #[.int .u8 a0_0, .int .u32 a0_1], .slice A1 l1.length c1] w fun e w' => ∃ v0_ : Value, e = .returned (.tuple #[v0_, .int .i64 r2]) ∧ Kd.R (Kd.int .u64) 34 w' w.heap.size (fun _ => True) v0_ r1 ∧ Below w.heap.size w w' := by
 have hu27 := Tryz.underlying27
 have hu36 := Tryz.underlying36
 have HR1 := QA hr1
 have HC1 := QA hc1
 clear hr1 hc1
 have HB := QA (Below.refl w.heap.size w)
 have H : ((Qbe.f a0_0 a0_1).bind fun t334 => (if t334 = true then ((Qbr.f k a0_0 a0_1 0).bind fun bt335 => ((Qbr.f k a0_0 a0_1 (IntKind.u64.wrap ((IntKind.u64.wrap (a0_1)) - 1))).bind fun bt341 => (Qbt.l0 k ([] : List Int) l1 (l1.length : Int) 0 a0_0 a0_1 bt335.1 bt335.2.1 bt335.2.2.1 bt335.2.2.2.1 bt335.2.2.2.2 bt341.1 bt341.2.1 bt341.2.2.1 bt341.2.2.2.1 bt341.2.2.2.2))) else (some (([] : List Int), 1)))) = some (r1, r2) := h
 clear h
 replace H := Option.bind_eq_some_iff.mp H
 obtain ⟨t334, A30, H⟩ := H
 replace H : (if t334 = true then ((Qbr.f k a0_0 a0_1 0).bind fun bt335 => ((Qbr.f k a0_0 a0_1 (IntKind.u64.wrap ((IntKind.u64.wrap (a0_1)) - 1))).bind fun bt341 => (Qbt.l0 k ([] : List Int) l1 (l1.length : Int) 0 a0_0 a0_1 bt335.1 bt335.2.1 bt335.2.2.1 bt335.2.2.2.1 bt335.2.2.2.2 bt341.1 bt341.2.1 bt341.2.2.1 bt341.2.2.2.1 bt341.2.2.2.2))) else (some (([] : List Int), 1))) = some (r1, r2) := H
 have A3 := QA A30
 clear A30
 by_cases c4 : t334 = true
 ·subst c4
  have H1 : ((Qbr.f k a0_0 a0_1 0).bind fun bt335 => ((Qbr.f k a0_0 a0_1 (IntKind.u64.wrap ((IntKind.u64.wrap (a0_1)) - 1))).bind fun bt341 => (Qbt.l0 k ([] : List Int) l1 (l1.length : Int) 0 a0_0 a0_1 bt335.1 bt335.2.1 bt335.2.2.1 bt335.2.2.2.1 bt335.2.2.2.2 bt341.1 bt341.2.1 bt341.2.2.1 bt341.2.2.2.1 bt341.2.2.2.2))) = some (r1, r2) := by rw [if_pos rfl] at H; exact H
  clear H
  have H := H1
  clear H1
  replace H := Option.bind_eq_some_iff.mp H
  obtain ⟨⟨t335, t336, t337, t338, t339⟩, A50, H⟩ := H
  replace H : ((Qbr.f k a0_0 a0_1 (IntKind.u64.wrap ((IntKind.u64.wrap (a0_1)) - 1))).bind fun bt341 => (Qbt.l0 k ([] : List Int) l1 (l1.length : Int) 0 a0_0 a0_1 t335 t336 t337 t338 t339 bt341.1 bt341.2.1 bt341.2.2.1 bt341.2.2.2.1 bt341.2.2.2.2)) = some (r1, r2) := H
  have A5 := QA A50
  clear A50
  replace H := Option.bind_eq_some_iff.mp H
  obtain ⟨⟨t341, t342, t343, t344, t345⟩, A60, H⟩ := H
  replace H : (Qbt.l0 k ([] : List Int) l1 (l1.length : Int) 0 a0_0 a0_1 t335 t336 t337 t338 t339 t341 t342 t343 t344 t345) = some (r1, r2) := H
  have A6 := QA A60
  clear A60
  have H' := QA H
  clear H
  go_enter Tryz.func77, Tryz.ntmps77
  go_wp2_with (first | ((with_reducible refine Qer (N := 2) rfl ?_); refine qq_e 2 #[.int .u8 a0_0, .int .u32 a0_1] 27 ?_; intro gb333 hg w7 hbox hb; have n0_ := QA (Qem qq_b hb); have n1_ := QA (hbox); have n2_ := QA ((qq_s hg : w.heap.size ≤ gb333)); have n3_ := QA ((qq_s hg : w.heap.size ≤ gb333)); clear HB; have HB := n0_; have BK333 := n1_; have GW333 := n2_; have GE333 := n3_; clear n0_ n1_ n2_ n3_; clear hb hbox hg; have hcz8_0 := qq_c (.int .u8 a0_0) BK333.out 0 rfl; have hcz8_1 := qq_c (.int .u32 a0_1) BK333.out 1 rfl; have hfz8_0 := Qdt BK333.out 0; have hfz8_1 := Qdt BK333.out 1) | ((with_reducible refine Qgp (f := 54) rfl ?_); refine Qfg (some 12) rfl rfl Tryz.func54 qq_7 rfl #[.agg #[.int .u8 a0_0, .int .u32 a0_1]] rfl qq_1 ?_; (with_reducible refine (Qbe.calls a0_0 a0_1 true _ A3.out).mono ?_); rintro e w9 ⟨rfl, hb⟩; refine ⟨_, rfl, ?_⟩; have n0_ := QA (Qeb (g := gb333) (o := .cells #[.int .u8 a0_0, .int .u32 a0_1] 27 (0, 0)) qq_0 hb); have n1_ := QA (Qem qq_b hb); clear BK333; clear HB; have BK333 := n0_; have HB := n1_; clear n0_ n1_; (try clear hb); (try clear hb2); (try clear hk); (try clear hi); have hcz10_0 := qq_c (.int .u8 a0_0) BK333.out 0 rfl; have hcz10_1 := qq_c (.int .u32 a0_1) BK333.out 1 rfl; have hfz10_0 := Qdt BK333.out 0; have hfz10_1 := Qdt BK333.out 1) | ((with_reducible refine Qgp (f := 20) rfl ?_); refine Qfg (some 15) rfl rfl Tryz.func20 qq_7 rfl #[.agg #[.int .u8 a0_0, .int .u32 a0_1], .int .u64 0] rfl qq_1 ?_; (with_reducible refine (Qbr.calls k a0_0 a0_1 0 t335 t336 t337 t338 t339 _ A5.out).mono ?_); rintro e w11 ⟨rfl, hb⟩; refine ⟨_, rfl, ?_⟩; have n0_ := QA (Qeb (g := gb333) (o := .cells #[.int .u8 a0_0, .int .u32 a0_1] 27 (0, 0)) qq_0 hb); have n1_ := QA (Qem qq_b hb); clear BK333; clear HB; have BK333 := n0_; have HB := n1_; clear n0_ n1_; (try clear hb); (try clear hb2); (try clear hk); (try clear hi)) | ((with_reducible refine Qer (N := 6) rfl ?_); refine qq_e 6 #[.int .u8 0, .int .u32 0, .int .u64 0, .int .i64 0, .int .i64 0] 36 ?_; intro gb340 hg w12 hbox hb; have n0_ := QA (Qeb (g := gb333) (o := .cells #[.int .u8 a0_0, .int .u32 a0_1] 27 (0, 0)) qq_0 hb); have n1_ := QA (Qem qq_b hb); have n2_ := QA (hbox); have n3_ := QA ((qq_s hg : w.heap.size ≤ gb340)); have n4_ := QA ((qq_s hg : w.heap.size ≤ gb340)); have n5_ := QA ((by rw [hg]; exact Nat.ne_of_lt (Qdr (g := gb333) (o := .cells #[.int .u8 a0_0, .int .u32 a0_1] 27 (0, 0)) qq_0) : gb333 ≠ gb340)); have n6_ := QA ((by rw [hg]; exact Nat.ne_of_gt (Qdr (g := gb333) (o := .cells #[.int .u8 a0_0, .int .u32 a0_1] 27 (0, 0)) qq_0) : gb340 ≠ gb333)); clear BK333; clear HB; have BK333 := n0_; have HB := n1_; have BK340 := n2_; have GW340 := n3_; have GE340 := n4_; have NB333_340 := n5_; have NB340_333 := n6_; clear n0_ n1_ n2_ n3_ n4_ n5_ n6_; clear hb hbox hg; have hnb13 := NB340_333.out; have hnc13 := NB333_340.out; have hcz14_0 := qq_c (.int .u8 0) BK340.out 0 rfl; have hcz14_1 := qq_c (.int .u32 0) BK340.out 1 rfl; have hcz14_2 := qq_c (.int .u64 0) BK340.out 2 rfl; have hcz14_3 := qq_c (.int .i64 0) BK340.out 3 rfl; have hcz14_4 := qq_c (.int .i64 0) BK340.out 4 rfl; have hfz14_0 := Qdt BK340.out 0; have hfz14_1 := Qdt BK340.out 1; have hfz14_2 := Qdt BK340.out 2; have hfz14_3 := Qdt BK340.out 3; have hfz14_4 := Qdt BK340.out 4; have hcz15_0 := qq_c (.int .u8 a0_0) BK333.out 0 rfl; have hcz15_1 := qq_c (.int .u32 a0_1) BK333.out 1 rfl; have hfz15_0 := Qdt BK333.out 0; have hfz15_1 := Qdt BK333.out 1) | ((with_reducible refine Qgp (f := 20) rfl ?_); refine Qfg (some 21) rfl rfl Tryz.func20 qq_7 rfl #[.agg #[.int .u8 a0_0, .int .u32 a0_1], .int .u64 (IntKind.u64.wrap ((IntKind.u64.wrap (a0_1)) - 1))] rfl qq_1 ?_; (with_reducible refine (Qbr.calls k a0_0 a0_1 (IntKind.u64.wrap ((IntKind.u64.wrap (a0_1)) - 1)) t341 t342 t343 t344 t345 _ A6.out).mono ?_); rintro e w16 ⟨rfl, hb⟩; refine ⟨_, rfl, ?_⟩; have n0_ := QA (Qeb (g := gb333) (o := .cells #[.int .u8 a0_0, .int .u32 a0_1] 27 (0, 0)) qq_8 hb); have n1_ := QA (Qeb (g := gb340) (o := .cells #[.int .u8 t335, .int .u32 t336, .int .u64 t337, .int .i64 t338, .int .i64 t339] 36 (0, 0)) (by (with_reducible repeat (first | apply Qea | apply Qdz | apply Qdy)); refine Qep (cs := #[.int .u8 t335, .int .u32 t336, .int .u64 t337, .int .i64 t338, .int .i64 0]) ?_ 4 _ rfl; (with_reducible repeat (first | apply Qea | apply Qdz | apply Qdy)); refine Qep (cs := #[.int .u8 t335, .int .u32 t336, .int .u64 t337, .int .i64 0, .int .i64 0]) ?_ 3 _ rfl; (with_reducible repeat (first | apply Qea | apply Qdz | apply Qdy)); refine Qep (cs := #[.int .u8 t335, .int .u32 t336, .int .u64 0, .int .i64 0, .int .i64 0]) ?_ 2 _ rfl; (with_reducible repeat (first | apply Qea | apply Qdz | apply Qdy)); refine Qep (cs := #[.int .u8 t335, .int .u32 0, .int .u64 0, .int .i64 0, .int .i64 0]) ?_ 1 _ rfl; (with_reducible repeat (first | apply Qea | apply Qdz | apply Qdy)); refine Qep (cs := #[.int .u8 0, .int .u32 0, .int .u64 0, .int .i64 0, .int .i64 0]) ?_ 0 _ rfl; (with_reducible repeat (first | apply Qea | apply Qdz | apply Qdy)); exact BK340.out) hb); have n2_ := QA (Qem qq_b hb); clear BK333; clear BK340; clear HB; have BK333 := n0_; have BK340 := n1_; have HB := n2_; clear n0_ n1_ n2_; (try clear hb); (try clear hb2); (try clear hk); (try clear hi)) | ((with_reducible refine Qer (N := 7) rfl ?_); refine qq_e 7 #[.int .u8 0, .int .u32 0, .int .u64 0, .int .i64 0, .int .i64 0] 36 ?_; intro gb346 hg w17 hbox hb; have n0_ := QA (Qeb (g := gb333) (o := .cells #[.int .u8 a0_0, .int .u32 a0_1] 27 (0, 0)) qq_0 hb); have n1_ := QA (Qeb (g := gb340) (o := .cells #[.int .u8 t335, .int .u32 t336, .int .u64 t337, .int .i64 t338, .int .i64 t339] 36 (0, 0)) qq_0 hb); have n2_ := QA (Qem qq_b hb); have n3_ := QA (hbox); have n4_ := QA ((qq_s hg : w.heap.size ≤ gb346)); have n5_ := QA ((qq_s hg : w.heap.size ≤ gb346)); have n6_ := QA ((by rw [hg]; exact Nat.ne_of_lt (Qdr (g := gb333) (o := .cells #[.int .u8 a0_0, .int .u32 a0_1] 27 (0, 0)) qq_0) : gb333 ≠ gb346)); have n7_ := QA ((by rw [hg]; exact Nat.ne_of_gt (Qdr (g := gb333) (o := .cells #[.int .u8 a0_0, .int .u32 a0_1] 27 (0, 0)) qq_0) : gb346 ≠ gb333)); have n8_ := QA ((by rw [hg]; exact Nat.ne_of_lt (Qdr (g := gb340) (o := .cells #[.int .u8 t335, .int .u32 t336, .int .u64 t337, .int .i64 t338, .int .i64 t339] 36 (0, 0)) qq_0) : gb340 ≠ gb346)); have n9_ := QA ((by rw [hg]; exact Nat.ne_of_gt (Qdr (g := gb340) (o := .cells #[.int .u8 t335, .int .u32 t336, .int .u64 t337, .int .i64 t338, .int .i64 t339] 36 (0, 0)) qq_0) : gb346 ≠ gb340)); clear BK333; clear BK340; clear HB; have BK333 := n0_; have BK340 := n1_; have HB := n2_; have BK346 := n3_; have GW346 := n4_; have GE346 := n5_; have NB333_346 := n6_; have NB346_333 := n7_; have NB340_346 := n8_; have NB346_340 := n9_; clear n0_ n1_ n2_ n3_ n4_ n5_ n6_ n7_ n8_ n9_; clear hb hbox hg; have hnb18 := NB346_333.out; have hnc18 := NB333_346.out; have hnb19 := NB346_340.out; have hnc19 := NB340_346.out; have hcz20_0 := qq_c (.int .u8 0) BK346.out 0 rfl; have hcz20_1 := qq_c (.int .u32 0) BK346.out 1 rfl; have hcz20_2 := qq_c (.int .u64 0) BK346.out 2 rfl; have hcz20_3 := qq_c (.int .i64 0) BK346.out 3 rfl; have hcz20_4 := qq_c (.int .i64 0) BK346.out 4 rfl; have hfz20_0 := Qdt BK346.out 0; have hfz20_1 := Qdt BK346.out 1; have hfz20_2 := Qdt BK346.out 2; have hfz20_3 := Qdt BK346.out 3; have hfz20_4 := Qdt BK346.out 4))
  go_loopg [8, 24] k (fun kq v8 v24 w' => ∃ (x8_1 : List Int) (x24_1 : Int) (x341000_1 : Int) (x341001_1 : Int) (x341002_1 : Int) (x341003_1 : Int) (x341004_1 : Int), v24 = .int .i64 x24_1 ∧ Aside0 (Qbt.l0 kq x8_1 l1 (l1.length : Int) x24_1 a0_0 a0_1 x341000_1 x341001_1 x341002_1 x341003_1 x341004_1 t341 t342 t343 t344 t345 = some (r1, r2)) ∧ Aside0 (kq ≤ k) ∧ Aside0 (Kd.R (Kd.int .u64) 34 w' w.heap.size (fun _ => True) v8 x8_1) ∧ Aside0 (w'.heap[gb333]? = some (.cells #[.int .u8 a0_0, .int .u32 a0_1] 27 (0, 0))) ∧ Aside0 (w'.heap[gb340]? = some (.cells #[.int .u8 x341000_1, .int .u32 x341001_1, .int .u64 x341002_1, .int .i64 x341003_1, .int .i64 x341004_1] 36 (0, 0))) ∧ Aside0 (w'.heap[gb346]? = some (.cells #[.int .u8 t341, .int .u32 t342, .int .u64 t343, .int .i64 t344, .int .i64 t345] 36 (0, 0))) ∧ Aside0 (Below w.heap.size w w'))
  case atStart => exact ⟨(([] : List Int)), (0), (t335), (t336), (t337), (t338), (t339), qq_6, H', ⟨Nat.le_refl _⟩, ⟨by first | exact Kd.R_nil _ _ _ _ _ | exact Kd.N_nil _ _ _ _ _ | exact Kd.V_nil _ _ _ _ _ | exact Kd.Q_nil _ _ _ _ _ | exact Kd.S_nil _ _ _ _ _⟩, ⟨by (with_reducible repeat (first | apply Qea | apply Qdz | apply Qdy)); refine Qdq ?_ NB333_346.out _; (with_reducible repeat (first | apply Qea | apply Qdz | apply Qdy)); refine Qdq ?_ NB333_346.out _; (with_reducible repeat (first | apply Qea | apply Qdz | apply Qdy)); refine Qdq ?_ NB333_346.out _; (with_reducible repeat (first | apply Qea | apply Qdz | apply Qdy)); refine Qdq ?_ NB333_346.out _; (with_reducible repeat (first | apply Qea | apply Qdz | apply Qdy)); refine Qdq ?_ NB333_346.out _; (with_reducible repeat (first | apply Qea | apply Qdz | apply Qdy)); exact BK333.out⟩, ⟨by (with_reducible repeat (first | apply Qea | apply Qdz | apply Qdy)); refine Qdq ?_ NB340_346.out _; (with_reducible repeat (first | apply Qea | apply Qdz | apply Qdy)); refine Qdq ?_ NB340_346.out _; (with_reducible repeat (first | apply Qea | apply Qdz | apply Qdy)); refine Qdq ?_ NB340_346.out _; (with_reducible repeat (first | apply Qea | apply Qdz | apply Qdy)); refine Qdq ?_ NB340_346.out _; (with_reducible repeat (first | apply Qea | apply Qdz | apply Qdy)); refine Qdq ?_ NB340_346.out _; (with_reducible repeat (first | apply Qea | apply Qdz | apply Qdy)); exact BK340.out⟩, ⟨by (with_reducible repeat (first | apply Qea | apply Qdz | apply Qdy)); refine Qep (cs := #[.int .u8 t341, .int .u32 t342, .int .u64 t343, .int .i64 t344, .int .i64 0]) ?_ 4 _ rfl; (with_reducible repeat (first | apply Qea | apply Qdz | apply Qdy)); refine Qep (cs := #[.int .u8 t341, .int .u32 t342, .int .u64 t343, .int .i64 0, .int .i64 0]) ?_ 3 _ rfl; (with_reducible repeat (first | apply Qea | apply Qdz | apply Qdy)); refine Qep (cs := #[.int .u8 t341, .int .u32 t342, .int .u64 0, .int .i64 0, .int .i64 0]) ?_ 2 _ rfl; (with_reducible repeat (first | apply Qea | apply Qdz | apply Qdy)); refine Qep (cs := #[.int .u8 t341, .int .u32 0, .int .u64 0, .int .i64 0, .int .i64 0]) ?_ 1 _ rfl; (with_reducible repeat (first | apply Qea | apply Qdz | apply Qdy)); refine Qep (cs := #[.int .u8 0, .int .u32 0, .int .u64 0, .int .i64 0, .int .i64 0]) ?_ 0 _ rfl; (with_reducible repeat (first | apply Qea | apply Qdz | apply Qdy)); exact BK346.out⟩, ⟨qq_b⟩⟩
  case round =>
   clear H'
   try clear c1
   try clear c4
   try clear hcz10_0
   try clear hcz10_1
   try clear hcz14_0
   try clear hcz14_1
   try clear hcz14_2
   try clear hcz14_3
   try clear hcz14_4
   try clear hcz15_0
   try clear hcz15_1
   try clear hcz20_0
   try clear hcz20_1
   try clear hcz20_2
   try clear hcz20_3
   try clear hcz20_4
   try clear hcz8_0
   try clear hcz8_1
   try clear hfz10_0
   try clear hfz10_1
   try clear hfz14_0
   try clear hfz14_1
   try clear hfz14_2
   try clear hfz14_3
   try clear hfz14_4
   try clear hfz15_0
   try clear hfz15_1
   try clear hfz20_0
   try clear hfz20_1
   try clear hfz20_2
   try clear hfz20_3
   try clear hfz20_4
   try clear hfz8_0
   try clear hfz8_1
   obtain ⟨x8_1, x24_1, x341000_1, x341001_1, x341002_1, x341003_1, x341004_1, rfl, HA, HK1, HO_8, BK333, BK340, BK346, HB⟩ := hrel
   cases gk with
   | zero => exact absurd HA.out (by simp [Qbt.l0])
   | succ k1 =>
    have H := HA.out
    clear HA
    simp only [Qbt.l0] at H
    by_cases c21 : x24_1 < (l1.length : Int)
    ·rw [if_pos c21] at H
     have c21b0 : decide (x24_1 < (l1.length : Int)) = true := decide_eq_true c21
     clear c21
     by_cases c22 : 0 ≤ x24_1
     ·rw [if_pos c22] at H
      have c22b0 : decide (0 ≤ x24_1) = true := decide_eq_true c22
      clear c22
      by_cases c23 : x24_1 < (l1.length : Int)
      ·rw [if_pos c23] at H
       have c23b0 : decide (x24_1 < (l1.length : Int)) = true := decide_eq_true c23
       clear c23
       replace H := Option.bind_eq_some_iff.mp H
       obtain ⟨t348, A240, H⟩ := H
       replace H : (if t348 = true then ((Qbs.f k1 x341000_1 x341001_1 x341002_1 x341003_1 x341004_1 (rd l1 x24_1)).bind fun t349 => (if t349 = true then ((Qbu.f x341000_1 x341001_1 x341002_1 x341003_1 x341004_1 (rd l1 x24_1)).bind fun bt350 => (if x8_1.length < 17592186044416 then (Qbt.l0 k1 (x8_1 ++ [bt350.2.2.1]) l1 (l1.length : Int) (wrap64 (x24_1 + 1)) a0_0 a0_1 bt350.1 bt350.2.1 bt350.2.2.1 bt350.2.2.2.1 bt350.2.2.2.2 t341 t342 t343 t344 t345) else (none))) else (if (IntKind.u64.wrap (x341002_1 + 1)) ≥ (IntKind.u64.wrap (a0_1)) then (some (([] : List Int), 7)) else ((Qbr.f k1 a0_0 a0_1 (IntKind.u64.wrap (x341002_1 + 1))).bind fun bt358 => ((Qbu.f bt358.1 bt358.2.1 bt358.2.2.1 bt358.2.2.2.1 bt358.2.2.2.2 (rd l1 x24_1)).bind fun bt363 => (if x8_1.length < 17592186044416 then (Qbt.l0 k1 (x8_1 ++ [bt363.2.2.1]) l1 (l1.length : Int) (wrap64 (x24_1 + 1)) a0_0 a0_1 bt363.1 bt363.2.1 bt363.2.2.1 bt363.2.2.2.1 bt363.2.2.2.2 t341 t342 t343 t344 t345) else (none))))))) else (some (([] : List Int), 6))) = some (r1, r2) := H
       have A24 := QA A240
       clear A240
       by_cases c25 : t348 = true
       ·subst c25
        have H1 : ((Qbs.f k1 x341000_1 x341001_1 x341002_1 x341003_1 x341004_1 (rd l1 x24_1)).bind fun t349 => (if t349 = true then ((Qbu.f x341000_1 x341001_1 x341002_1 x341003_1 x341004_1 (rd l1 x24_1)).bind fun bt350 => (if x8_1.length < 17592186044416 then (Qbt.l0 k1 (x8_1 ++ [bt350.2.2.1]) l1 (l1.length : Int) (wrap64 (x24_1 + 1)) a0_0 a0_1 bt350.1 bt350.2.1 bt350.2.2.1 bt350.2.2.2.1 bt350.2.2.2.2 t341 t342 t343 t344 t345) else (none))) else (if (IntKind.u64.wrap (x341002_1 + 1)) ≥ (IntKind.u64.wrap (a0_1)) then (some (([] : List Int), 7)) else ((Qbr.f k1 a0_0 a0_1 (IntKind.u64.wrap (x341002_1 + 1))).bind fun bt358 => ((Qbu.f bt358.1 bt358.2.1 bt358.2.2.1 bt358.2.2.2.1 bt358.2.2.2.2 (rd l1 x24_1)).bind fun bt363 => (if x8_1.length < 17592186044416 then (Qbt.l0 k1 (x8_1 ++ [bt363.2.2.1]) l1 (l1.length : Int) (wrap64 (x24_1 + 1)) a0_0 a0_1 bt363.1 bt363.2.1 bt363.2.2.1 bt363.2.2.2.1 bt363.2.2.2.2 t341 t342 t343 t344 t345) else (none))))))) = some (r1, r2) := by rw [if_pos rfl] at H; exact H
        clear H
        have H := H1
        clear H1
        replace H := Option.bind_eq_some_iff.mp H
        obtain ⟨t349, A260, H⟩ := H
        replace H : (if t349 = true then ((Qbu.f x341000_1 x341001_1 x341002_1 x341003_1 x341004_1 (rd l1 x24_1)).bind fun bt350 => (if x8_1.length < 17592186044416 then (Qbt.l0 k1 (x8_1 ++ [bt350.2.2.1]) l1 (l1.length : Int) (wrap64 (x24_1 + 1)) a0_0 a0_1 bt350.1 bt350.2.1 bt350.2.2.1 bt350.2.2.2.1 bt350.2.2.2.2 t341 t342 t343 t344 t345) else (none))) else (if (IntKind.u64.wrap (x341002_1 + 1)) ≥ (IntKind.u64.wrap (a0_1)) then (some (([] : List Int), 7)) else ((Qbr.f k1 a0_0 a0_1 (IntKind.u64.wrap (x341002_1 + 1))).bind fun bt358 => ((Qbu.f bt358.1 bt358.2.1 bt358.2.2.1 bt358.2.2.2.1 bt358.2.2.2.2 (rd l1 x24_1)).bind fun bt363 => (if x8_1.length < 17592186044416 then (Qbt.l0 k1 (x8_1 ++ [bt363.2.2.1]) l1 (l1.length : Int) (wrap64 (x24_1 + 1)) a0_0 a0_1 bt363.1 bt363.2.1 bt363.2.2.1 bt363.2.2.2.1 bt363.2.2.2.2 t341 t342 t343 t344 t345) else (none)))))) = some (r1, r2) := H
        have A26 := QA A260
        clear A260
        by_cases c27 : t349 = true
        ·subst c27
         have H1 : ((Qbu.f x341000_1 x341001_1 x341002_1 x341003_1 x341004_1 (rd l1 x24_1)).bind fun bt350 => (if x8_1.length < 17592186044416 then (Qbt.l0 k1 (x8_1 ++ [bt350.2.2.1]) l1 (l1.length : Int) (wrap64 (x24_1 + 1)) a0_0 a0_1 bt350.1 bt350.2.1 bt350.2.2.1 bt350.2.2.2.1 bt350.2.2.2.2 t341 t342 t343 t344 t345) else (none))) = some (r1, r2) := by rw [if_pos rfl] at H; exact H
         clear H
         have H := H1
         clear H1
         replace H := Option.bind_eq_some_iff.mp H
         obtain ⟨⟨t350, t351, t352, t353, t354⟩, A280, H⟩ := H
         replace H : (if x8_1.length < 17592186044416 then (Qbt.l0 k1 (x8_1 ++ [t352]) l1 (l1.length : Int) (wrap64 (x24_1 + 1)) a0_0 a0_1 t350 t351 t352 t353 t354 t341 t342 t343 t344 t345) else (none)) = some (r1, r2) := H
         have A28 := QA A280
         clear A280
         by_cases c29 : x8_1.length < 17592186044416
         ·rw [if_pos c29] at H
          have LMc29 := QA c29
          clear c29
          obtain ⟨y355, hy355⟩ : ∃ y_ : List Int, y_ = (x8_1 ++ [t352]) := ⟨_, rfl⟩
          replace H : (Qbt.l0 k1 y355 l1 (l1.length : Int) (wrap64 (x24_1 + 1)) a0_0 a0_1 t350 t351 t352 t353 t354 t341 t342 t343 t344 t345) = some (r1, r2) := by first | (rw [hy355]; with_reducible exact H) | (have H2_ := (Option.bind_some _ _).symm.trans H; rw [hy355]; with_reducible exact H2_) | (have H2_ := (Option.bind_some _ _).symm.trans H; with_reducible exact H2_) | with_reducible exact H | (rw [hy355]; exact H) | exact H
          have Ny355 := QA hy355
          clear hy355
          have H' := QA H
          clear H
          have p347 : 0 ≤ (x24_1 : Int) := of_decide_eq_true qq_5
          have q347 : x24_1 < (l1.length : Int) := of_decide_eq_true qq_5
          obtain ⟨ad347, e347, hx347_0⟩ := Kd.at_int HR1.out x24_1 p347 q347
          cases e347
          replace hx347_0 := qq_h HB.out hx347_0
          replace p347 := eq_true p347
          replace q347 := eq_true q347
          have hnb30 := NB346_333.out
          have hnc30 := NB333_346.out
          have hnb31 := NB346_340.out
          have hnc31 := NB340_346.out
          have hcz32_0 := qq_c (.int .u8 t341) BK346.out 0 rfl
          have hcz32_1 := qq_c (.int .u32 t342) BK346.out 1 rfl
          have hcz32_2 := qq_c (.int .u64 t343) BK346.out 2 rfl
          have hcz32_3 := qq_c (.int .i64 t344) BK346.out 3 rfl
          have hcz32_4 := qq_c (.int .i64 t345) BK346.out 4 rfl
          have hfz32_0 := Qdt BK346.out 0
          have hfz32_1 := Qdt BK346.out 1
          have hfz32_2 := Qdt BK346.out 2
          have hfz32_3 := Qdt BK346.out 3
          have hfz32_4 := Qdt BK346.out 4
          go_wp2_with (first | ((with_reducible refine Qgp (f := 24) rfl ?_); refine Qfg (some 30) rfl rfl Tryz.func24 qq_7 rfl #[.agg #[.int .u8 t341, .int .u32 t342, .int .u64 t343, .int .i64 t344, .int .i64 t345], .int .i64 (rd l1 x24_1)] rfl qq_1 ?_; (with_reducible refine (Qbs.calls k1 t341 t342 t343 t344 t345 (rd l1 x24_1) true _ A24.out).mono ?_); rintro e w33 ⟨rfl, hb⟩; refine ⟨_, rfl, ?_⟩; have n0_ := QA (Kd.R_below qq_4 hb); have n1_ := QA (Qeb (g := gb333) (o := .cells #[.int .u8 a0_0, .int .u32 a0_1] 27 (0, 0)) qq_0 hb); have n2_ := QA (Qeb (g := gb340) (o := .cells #[.int .u8 x341000_1, .int .u32 x341001_1, .int .u64 x341002_1, .int .i64 x341003_1, .int .i64 x341004_1] 36 (0, 0)) qq_0 hb); have n3_ := QA (Qeb (g := gb346) (o := .cells #[.int .u8 t341, .int .u32 t342, .int .u64 t343, .int .i64 t344, .int .i64 t345] 36 (0, 0)) qq_0 hb); have n4_ := QA (Qem qq_b hb); clear HO_8; clear BK333; clear BK340; clear BK346; clear HB; have HO_8 := n0_; have BK333 := n1_; have BK340 := n2_; have BK346 := n3_; have HB := n4_; clear n0_ n1_ n2_ n3_ n4_; (try clear hb); (try clear hb2); (try clear hk); (try clear hi); have hnb34 := NB340_333.out; have hnc34 := NB333_340.out; have hcz35_0 := qq_c (.int .u8 x341000_1) BK340.out 0 rfl; have hcz35_1 := qq_c (.int .u32 x341001_1) BK340.out 1 rfl; have hcz35_2 := qq_c (.int .u64 x341002_1) BK340.out 2 rfl; have hcz35_3 := qq_c (.int .i64 x341003_1) BK340.out 3 rfl; have hcz35_4 := qq_c (.int .i64 x341004_1) BK340.out 4 rfl; have hfz35_0 := Qdt BK340.out 0; have hfz35_1 := Qdt BK340.out 1; have hfz35_2 := Qdt BK340.out 2; have hfz35_3 := Qdt BK340.out 3; have hfz35_4 := Qdt BK340.out 4) | ((with_reducible refine Qgp (f := 24) rfl ?_); refine Qfg (some 34) rfl rfl Tryz.func24 qq_7 rfl #[.agg #[.int .u8 x341000_1, .int .u32 x341001_1, .int .u64 x341002_1, .int .i64 x341003_1, .int .i64 x341004_1], .int .i64 (rd l1 x24_1)] rfl qq_1 ?_; (with_reducible refine (Qbs.calls k1 x341000_1 x341001_1 x341002_1 x341003_1 x341004_1 (rd l1 x24_1) true _ A26.out).mono ?_); rintro e w36 ⟨rfl, hb⟩; refine ⟨_, rfl, ?_⟩; have n0_ := QA (Kd.R_below qq_4 hb); have n1_ := QA (Qeb (g := gb333) (o := .cells #[.int .u8 a0_0, .int .u32 a0_1] 27 (0, 0)) qq_0 hb); have n2_ := QA (Qeb (g := gb340) (o := .cells #[.int .u8 x341000_1, .int .u32 x341001_1, .int .u64 x341002_1, .int .i64 x341003_1, .int .i64 x341004_1] 36 (0, 0)) qq_0 hb); have n3_ := QA (Qeb (g := gb346) (o := .cells #[.int .u8 t341, .int .u32 t342, .int .u64 t343, .int .i64 t344, .int .i64 t345] 36 (0, 0)) qq_0 hb); have n4_ := QA (Qem qq_b hb); clear HO_8; clear BK333; clear BK340; clear BK346; clear HB; have HO_8 := n0_; have BK333 := n1_; have BK340 := n2_; have BK346 := n3_; have HB := n4_; clear n0_ n1_ n2_ n3_ n4_; (try clear hb); (try clear hb2); (try clear hk); (try clear hi); have hcz37_0 := qq_c (.int .u8 x341000_1) BK340.out 0 rfl; have hcz37_1 := qq_c (.int .u32 x341001_1) BK340.out 1 rfl; have hcz37_2 := qq_c (.int .u64 x341002_1) BK340.out 2 rfl; have hcz37_3 := qq_c (.int .i64 x341003_1) BK340.out 3 rfl; have hcz37_4 := qq_c (.int .i64 x341004_1) BK340.out 4 rfl; have hfz37_0 := Qdt BK340.out 0; have hfz37_1 := Qdt BK340.out 1; have hfz37_2 := Qdt BK340.out 2; have hfz37_3 := Qdt BK340.out 3; have hfz37_4 := Qdt BK340.out 4) | ((with_reducible refine Qgp (f := 25) rfl ?_); refine Qfg (some 50) rfl rfl Tryz.func25 qq_7 rfl #[.agg #[.int .u8 x341000_1, .int .u32 x341001_1, .int .u64 x341002_1, .int .i64 x341003_1, .int .i64 x341004_1], .int .i64 (rd l1 x24_1)] rfl qq_1 ?_; (with_reducible refine (Qbu.calls x341000_1 x341001_1 x341002_1 x341003_1 x341004_1 (rd l1 x24_1) t350 t351 t352 t353 t354 _ A28.out).mono ?_); rintro e w38 ⟨rfl, hb⟩; refine ⟨_, rfl, ?_⟩; have n0_ := QA (Kd.R_below qq_4 hb); have n1_ := QA (Qeb (g := gb333) (o := .cells #[.int .u8 a0_0, .int .u32 a0_1] 27 (0, 0)) qq_0 hb); have n2_ := QA (Qeb (g := gb340) (o := .cells #[.int .u8 x341000_1, .int .u32 x341001_1, .int .u64 x341002_1, .int .i64 x341003_1, .int .i64 x341004_1] 36 (0, 0)) qq_0 hb); have n3_ := QA (Qeb (g := gb346) (o := .cells #[.int .u8 t341, .int .u32 t342, .int .u64 t343, .int .i64 t344, .int .i64 t345] 36 (0, 0)) qq_0 hb); have n4_ := QA (Qem qq_b hb); clear HO_8; clear BK333; clear BK340; clear BK346; clear HB; have HO_8 := n0_; have BK333 := n1_; have BK340 := n2_; have BK346 := n3_; have HB := n4_; clear n0_ n1_ n2_ n3_ n4_; (try clear hb); (try clear hb2); (try clear hk); (try clear hi); have hcz39_0 := qq_c (.int .u8 x341000_1) BK340.out 0 rfl; have hcz39_1 := qq_c (.int .u32 x341001_1) BK340.out 1 rfl; have hcz39_2 := qq_c (.int .u64 x341002_1) BK340.out 2 rfl; have hcz39_3 := qq_c (.int .i64 x341003_1) BK340.out 3 rfl; have hcz39_4 := qq_c (.int .i64 x341004_1) BK340.out 4 rfl; have hfz39_0 := Qdt BK340.out 0; have hfz39_1 := Qdt BK340.out 1; have hfz39_2 := Qdt BK340.out 2; have hfz39_3 := Qdt BK340.out 3; have hfz39_4 := Qdt BK340.out 4) | ((with_reducible refine Qgq (b := .append) (xs := #[.tmp 51, .tmp 54]) rfl ?_); at_builtin; refine Kd.R_append (Kd.int .u64) (w0 := w) w.heap.size rfl (.tmp 51) (.tmp 54) 70 34 (.int .u64 0) 8 rfl Tryz.underlying70 info34 rfl (by decide) (by omega) u8 x8_1 t352 [.int .u64 t352] (fun _ => True) (fun _ => False) rfl qq_13 ?aP (fun _ hk => hk.elim) ?aF ?aO ?aB ?aS ?aL ?_; (case aP => exact rfl); (case aB => exact qq_b); (case aF => exact (fun _ _ => trivial)); (case aO => exact (by (with_reducible repeat (first | apply Kd.R_alloc | apply Kd.R_drewN | apply Kd.R_drew)); exact Kd.R_mono (Kd.R_far (p := ⟨gb340, 4, none⟩) (Kd.R_far (p := ⟨gb340, 3, none⟩) (Kd.R_far (p := ⟨gb340, 2, none⟩) (Kd.R_far (p := ⟨gb340, 1, none⟩) (Kd.R_far (p := ⟨gb340, 0, none⟩) (Kd.R_types HO_8.out BK340.out (by decide)) (fun _ hk => hk.2) (.int .u8 t350)) (fun _ hk => hk.2) (.int .u32 t351)) (fun _ hk => hk.2) (.int .u64 t352)) (fun _ hk => hk.2) (.int .i64 t353)) (fun _ hk => hk.2) (.int .i64 t354)) (fun _ hk => trivial))); (case aS => exact (Qel qq_b)); (case aL => have := LMc29.out; omega); intro v356 w40 ho hb hg hat; rw [← Ny355.out] at ho; have n0_ := QA (Qdu (g := gb333) (o := .cells #[.int .u8 a0_0, .int .u32 a0_1] 27 (0, 0)) qq_8 hg (Kd.R_ne HO_8.out BK333.out (by decide))); have n1_ := QA (Qdu (g := gb340) (o := .cells #[.int .u8 t350, .int .u32 t351, .int .u64 t352, .int .i64 t353, .int .i64 t354] 36 (0, 0)) (by (with_reducible repeat (first | apply Qea | apply Qdz | apply Qdy)); refine Qep (cs := #[.int .u8 t350, .int .u32 t351, .int .u64 t352, .int .i64 t353, .int .i64 x341004_1]) ?_ 4 _ rfl; (with_reducible repeat (first | apply Qea | apply Qdz | apply Qdy)); refine Qep (cs := #[.int .u8 t350, .int .u32 t351, .int .u64 t352, .int .i64 x341003_1, .int .i64 x341004_1]) ?_ 3 _ rfl; (with_reducible repeat (first | apply Qea | apply Qdz | apply Qdy)); refine Qep (cs := #[.int .u8 t350, .int .u32 t351, .int .u64 x341002_1, .int .i64 x341003_1, .int .i64 x341004_1]) ?_ 2 _ rfl; (with_reducible repeat (first | apply Qea | apply Qdz | apply Qdy)); refine Qep (cs := #[.int .u8 t350, .int .u32 x341001_1, .int .u64 x341002_1, .int .i64 x341003_1, .int .i64 x341004_1]) ?_ 1 _ rfl; (with_reducible repeat (first | apply Qea | apply Qdz | apply Qdy)); refine Qep (cs := #[.int .u8 x341000_1, .int .u32 x341001_1, .int .u64 x341002_1, .int .i64 x341003_1, .int .i64 x341004_1]) ?_ 0 _ rfl; (with_reducible repeat (first | apply Qea | apply Qdz | apply Qdy)); exact BK340.out) hg (Kd.R_ne HO_8.out BK340.out (by decide))); have n2_ := QA (Qdu (g := gb346) (o := .cells #[.int .u8 t341, .int .u32 t342, .int .u64 t343, .int .i64 t344, .int .i64 t345] 36 (0, 0)) qq_8 hg (Kd.R_ne HO_8.out BK346.out (by decide))); have n3_ := QA (hb); have n4_ := QA (ho); clear BK333; clear BK340; clear BK346; clear HB; clear HO_8; have BK333 := n0_; have BK340 := n1_; have BK346 := n2_; have HB := n3_; have HO357 := n4_; clear n0_ n1_ n2_ n3_ n4_; clear ho hb hg hat))
          go_roundg k1
          case measure => have := HK1.out; omega
          case rel => exact ⟨(y355), (wrap64 (x24_1 + 1)), (t350), (t351), (t352), (t353), (t354), qq_6, H', ⟨by have := HK1.out; omega⟩, ⟨by (with_reducible repeat (first | apply Kd.R_alloc | apply Kd.R_drewN | apply Kd.R_drew)); exact HO357.out⟩, ⟨by (with_reducible repeat (first | apply Qea | apply Qdz | apply Qdy)); exact BK333.out⟩, ⟨by (with_reducible repeat (first | apply Qea | apply Qdz | apply Qdy)); exact BK340.out⟩, ⟨by (with_reducible repeat (first | apply Qea | apply Qdz | apply Qdy)); exact BK346.out⟩, ⟨qq_b⟩⟩
         ·rw [if_neg c29] at H
          exact absurd H (by simp)
        ·replace c27 := Bool.eq_false_iff.mpr c27
         subst c27
         have H1 : (if (IntKind.u64.wrap (x341002_1 + 1)) ≥ (IntKind.u64.wrap (a0_1)) then (some (([] : List Int), 7)) else ((Qbr.f k1 a0_0 a0_1 (IntKind.u64.wrap (x341002_1 + 1))).bind fun bt358 => ((Qbu.f bt358.1 bt358.2.1 bt358.2.2.1 bt358.2.2.2.1 bt358.2.2.2.2 (rd l1 x24_1)).bind fun bt363 => (if x8_1.length < 17592186044416 then (Qbt.l0 k1 (x8_1 ++ [bt363.2.2.1]) l1 (l1.length : Int) (wrap64 (x24_1 + 1)) a0_0 a0_1 bt363.1 bt363.2.1 bt363.2.2.1 bt363.2.2.2.1 bt363.2.2.2.2 t341 t342 t343 t344 t345) else (none))))) = some (r1, r2) := by rw [if_neg (show ¬ (false = true) by decide)] at H; exact H
         clear H
         have H := H1
         clear H1
         by_cases c41 : (IntKind.u64.wrap (x341002_1 + 1)) ≥ (IntKind.u64.wrap (a0_1))
         ·rw [if_pos c41] at H
          have c41b0 : decide ((IntKind.u64.wrap (a0_1)) ≤ (IntKind.u64.wrap (x341002_1 + 1))) = true := decide_eq_true c41
          clear c41
          simp only [Option.some.injEq, Prod.mk.injEq] at H
          obtain ⟨rfl, rfl⟩ := H
          have p347 : 0 ≤ (x24_1 : Int) := of_decide_eq_true qq_5
          have q347 : x24_1 < (l1.length : Int) := of_decide_eq_true qq_5
          obtain ⟨ad347, e347, hx347_0⟩ := Kd.at_int HR1.out x24_1 p347 q347
          cases e347
          replace hx347_0 := qq_h HB.out hx347_0
          replace p347 := eq_true p347
          replace q347 := eq_true q347
          have hnb42 := NB346_333.out
          have hnc42 := NB333_346.out
          have hnb43 := NB346_340.out
          have hnc43 := NB340_346.out
          have hcz44_0 := qq_c (.int .u8 t341) BK346.out 0 rfl
          have hcz44_1 := qq_c (.int .u32 t342) BK346.out 1 rfl
          have hcz44_2 := qq_c (.int .u64 t343) BK346.out 2 rfl
          have hcz44_3 := qq_c (.int .i64 t344) BK346.out 3 rfl
          have hcz44_4 := qq_c (.int .i64 t345) BK346.out 4 rfl
          have hfz44_0 := Qdt BK346.out 0
          have hfz44_1 := Qdt BK346.out 1
          have hfz44_2 := Qdt BK346.out 2
          have hfz44_3 := Qdt BK346.out 3
          have hfz44_4 := Qdt BK346.out 4
          go_wp2_with (first | ((with_reducible refine Qgp (f := 24) rfl ?_); refine Qfg (some 30) rfl rfl Tryz.func24 qq_7 rfl #[.agg #[.int .u8 t341, .int .u32 t342, .int .u64 t343, .int .i64 t344, .int .i64 t345], .int .i64 (rd l1 x24_1)] rfl qq_1 ?_; (with_reducible refine (Qbs.calls k1 t341 t342 t343 t344 t345 (rd l1 x24_1) true _ A24.out).mono ?_); rintro e w45 ⟨rfl, hb⟩; refine ⟨_, rfl, ?_⟩; have n0_ := QA (Kd.R_below qq_4 hb); have n1_ := QA (Qeb (g := gb333) (o := .cells #[.int .u8 a0_0, .int .u32 a0_1] 27 (0, 0)) qq_0 hb); have n2_ := QA (Qeb (g := gb340) (o := .cells #[.int .u8 x341000_1, .int .u32 x341001_1, .int .u64 x341002_1, .int .i64 x341003_1, .int .i64 x341004_1] 36 (0, 0)) qq_0 hb); have n3_ := QA (Qeb (g := gb346) (o := .cells #[.int .u8 t341, .int .u32 t342, .int .u64 t343, .int .i64 t344, .int .i64 t345] 36 (0, 0)) qq_0 hb); have n4_ := QA (Qem qq_b hb); clear HO_8; clear BK333; clear BK340; clear BK346; clear HB; have HO_8 := n0_; have BK333 := n1_; have BK340 := n2_; have BK346 := n3_; have HB := n4_; clear n0_ n1_ n2_ n3_ n4_; (try clear hb); (try clear hb2); (try clear hk); (try clear hi); have hnb46 := NB340_333.out; have hnc46 := NB333_340.out; have hcz47_0 := qq_c (.int .u8 x341000_1) BK340.out 0 rfl; have hcz47_1 := qq_c (.int .u32 x341001_1) BK340.out 1 rfl; have hcz47_2 := qq_c (.int .u64 x341002_1) BK340.out 2 rfl; have hcz47_3 := qq_c (.int .i64 x341003_1) BK340.out 3 rfl; have hcz47_4 := qq_c (.int .i64 x341004_1) BK340.out 4 rfl; have hfz47_0 := Qdt BK340.out 0; have hfz47_1 := Qdt BK340.out 1; have hfz47_2 := Qdt BK340.out 2; have hfz47_3 := Qdt BK340.out 3; have hfz47_4 := Qdt BK340.out 4) | ((with_reducible refine Qgp (f := 24) rfl ?_); refine Qfg (some 34) rfl rfl Tryz.func24 qq_7 rfl #[.agg #[.int .u8 x341000_1, .int .u32 x341001_1, .int .u64 x341002_1, .int .i64 x341003_1, .int .i64 x341004_1], .int .i64 (rd l1 x24_1)] rfl qq_1 ?_; (with_reducible refine (Qbs.calls k1 x341000_1 x341001_1 x341002_1 x341003_1 x341004_1 (rd l1 x24_1) false _ A26.out).mono ?_); rintro e w48 ⟨rfl, hb⟩; refine ⟨_, rfl, ?_⟩; have n0_ := QA (Kd.R_below qq_4 hb); have n1_ := QA (Qeb (g := gb333) (o := .cells #[.int .u8 a0_0, .int .u32 a0_1] 27 (0, 0)) qq_0 hb); have n2_ := QA (Qeb (g := gb340) (o := .cells #[.int .u8 x341000_1, .int .u32 x341001_1, .int .u64 x341002_1, .int .i64 x341003_1, .int .i64 x341004_1] 36 (0, 0)) qq_0 hb); have n3_ := QA (Qeb (g := gb346) (o := .cells #[.int .u8 t341, .int .u32 t342, .int .u64 t343, .int .i64 t344, .int .i64 t345] 36 (0, 0)) qq_0 hb); have n4_ := QA (Qem qq_b hb); clear HO_8; clear BK333; clear BK340; clear BK346; clear HB; have HO_8 := n0_; have BK333 := n1_; have BK340 := n2_; have BK346 := n3_; have HB := n4_; clear n0_ n1_ n2_ n3_ n4_; (try clear hb); (try clear hb2); (try clear hk); (try clear hi); have hcz49_0 := qq_c (.int .u8 x341000_1) BK340.out 0 rfl; have hcz49_1 := qq_c (.int .u32 x341001_1) BK340.out 1 rfl; have hcz49_2 := qq_c (.int .u64 x341002_1) BK340.out 2 rfl; have hcz49_3 := qq_c (.int .i64 x341003_1) BK340.out 3 rfl; have hcz49_4 := qq_c (.int .i64 x341004_1) BK340.out 4 rfl; have hfz49_0 := Qdt BK340.out 0; have hfz49_1 := Qdt BK340.out 1; have hfz49_2 := Qdt BK340.out 2; have hfz49_3 := Qdt BK340.out 3; have hfz49_4 := Qdt BK340.out 4; have hcz50_0 := qq_c (.int .u8 a0_0) BK333.out 0 rfl; have hcz50_1 := qq_c (.int .u32 a0_1) BK333.out 1 rfl; have hfz50_0 := Qdt BK333.out 0; have hfz50_1 := Qdt BK333.out 1))
          go_ret2
          exact ⟨_, by first | rfl | (simp [Qgu, Qgv] <;> rfl) | (simp [*, Qgu, Qgv] <;> rfl), by first | exact Kd.R_nil _ _ _ _ _ | exact Kd.N_nil _ _ _ _ _ | exact Kd.V_nil _ _ _ _ _ | exact Kd.Q_nil _ _ _ _ _ | exact Kd.S_nil _ _ _ _ _, qq_b⟩
         ·rw [if_neg c41] at H
          have c41b0 : decide ((IntKind.u64.wrap (a0_1)) ≤ (IntKind.u64.wrap (x341002_1 + 1))) = false := decide_eq_false c41
          clear c41
          replace H := Option.bind_eq_some_iff.mp H
          obtain ⟨⟨t358, t359, t360, t361, t362⟩, A510, H⟩ := H
          replace H : ((Qbu.f t358 t359 t360 t361 t362 (rd l1 x24_1)).bind fun bt363 => (if x8_1.length < 17592186044416 then (Qbt.l0 k1 (x8_1 ++ [bt363.2.2.1]) l1 (l1.length : Int) (wrap64 (x24_1 + 1)) a0_0 a0_1 bt363.1 bt363.2.1 bt363.2.2.1 bt363.2.2.2.1 bt363.2.2.2.2 t341 t342 t343 t344 t345) else (none))) = some (r1, r2) := H
          have A51 := QA A510
          clear A510
          replace H := Option.bind_eq_some_iff.mp H
          obtain ⟨⟨t363, t364, t365, t366, t367⟩, A520, H⟩ := H
          replace H : (if x8_1.length < 17592186044416 then (Qbt.l0 k1 (x8_1 ++ [t365]) l1 (l1.length : Int) (wrap64 (x24_1 + 1)) a0_0 a0_1 t363 t364 t365 t366 t367 t341 t342 t343 t344 t345) else (none)) = some (r1, r2) := H
          have A52 := QA A520
          clear A520
          by_cases c53 : x8_1.length < 17592186044416
          ·rw [if_pos c53] at H
           have LMc53 := QA c53
           clear c53
           obtain ⟨y368, hy368⟩ : ∃ y_ : List Int, y_ = (x8_1 ++ [t365]) := ⟨_, rfl⟩
           replace H : (Qbt.l0 k1 y368 l1 (l1.length : Int) (wrap64 (x24_1 + 1)) a0_0 a0_1 t363 t364 t365 t366 t367 t341 t342 t343 t344 t345) = some (r1, r2) := by first | (rw [hy368]; with_reducible exact H) | (have H2_ := (Option.bind_some _ _).symm.trans H; rw [hy368]; with_reducible exact H2_) | (have H2_ := (Option.bind_some _ _).symm.trans H; with_reducible exact H2_) | with_reducible exact H | (rw [hy368]; exact H) | exact H
           have Ny368 := QA hy368
           clear hy368
           have H' := QA H
           clear H
           have p347 : 0 ≤ (x24_1 : Int) := of_decide_eq_true qq_5
           have q347 : x24_1 < (l1.length : Int) := of_decide_eq_true qq_5
           obtain ⟨ad347, e347, hx347_0⟩ := Kd.at_int HR1.out x24_1 p347 q347
           cases e347
           replace hx347_0 := qq_h HB.out hx347_0
           replace p347 := eq_true p347
           replace q347 := eq_true q347
           have hnb54 := NB346_333.out
           have hnc54 := NB333_346.out
           have hnb55 := NB346_340.out
           have hnc55 := NB340_346.out
           have hcz56_0 := qq_c (.int .u8 t341) BK346.out 0 rfl
           have hcz56_1 := qq_c (.int .u32 t342) BK346.out 1 rfl
           have hcz56_2 := qq_c (.int .u64 t343) BK346.out 2 rfl
           have hcz56_3 := qq_c (.int .i64 t344) BK346.out 3 rfl
           have hcz56_4 := qq_c (.int .i64 t345) BK346.out 4 rfl
           have hfz56_0 := Qdt BK346.out 0
           have hfz56_1 := Qdt BK346.out 1
           have hfz56_2 := Qdt BK346.out 2
           have hfz56_3 := Qdt BK346.out 3
           have hfz56_4 := Qdt BK346.out 4
           go_wp2_with (first | ((with_reducible refine Qgp (f := 24) rfl ?_); refine Qfg (some 30) rfl rfl Tryz.func24 qq_7 rfl #[.agg #[.int .u8 t341, .int .u32 t342, .int .u64 t343, .int .i64 t344, .int .i64 t345], .int .i64 (rd l1 x24_1)] rfl qq_1 ?_; (with_reducible refine (Qbs.calls k1 t341 t342 t343 t344 t345 (rd l1 x24_1) true _ A24.out).mono ?_); rintro e w57 ⟨rfl, hb⟩; refine ⟨_, rfl, ?_⟩; have n0_ := QA (Kd.R_below qq_4 hb); have n1_ := QA (Qeb (g := gb333) (o := .cells #[.int .u8 a0_0, .int .u32 a0_1] 27 (0, 0)) qq_0 hb); have n2_ := QA (Qeb (g := gb340) (o := .cells #[.int .u8 x341000_1, .int .u32 x341001_1, .int .u64 x341002_1, .int .i64 x341003_1, .int .i64 x341004_1] 36 (0, 0)) qq_0 hb); have n3_ := QA (Qeb (g := gb346) (o := .cells #[.int .u8 t341, .int .u32 t342, .int .u64 t343, .int .i64 t344, .int .i64 t345] 36 (0, 0)) qq_0 hb); have n4_ := QA (Qem qq_b hb); clear HO_8; clear BK333; clear BK340; clear BK346; clear HB; have HO_8 := n0_; have BK333 := n1_; have BK340 := n2_; have BK346 := n3_; have HB := n4_; clear n0_ n1_ n2_ n3_ n4_; (try clear hb); (try clear hb2); (try clear hk); (try clear hi); have hnb58 := NB340_333.out; have hnc58 := NB333_340.out; have hcz59_0 := qq_c (.int .u8 x341000_1) BK340.out 0 rfl; have hcz59_1 := qq_c (.int .u32 x341001_1) BK340.out 1 rfl; have hcz59_2 := qq_c (.int .u64 x341002_1) BK340.out 2 rfl; have hcz59_3 := qq_c (.int .i64 x341003_1) BK340.out 3 rfl; have hcz59_4 := qq_c (.int .i64 x341004_1) BK340.out 4 rfl; have hfz59_0 := Qdt BK340.out 0; have hfz59_1 := Qdt BK340.out 1; have hfz59_2 := Qdt BK340.out 2; have hfz59_3 := Qdt BK340.out 3; have hfz59_4 := Qdt BK340.out 4) | ((with_reducible refine Qgp (f := 24) rfl ?_); refine Qfg (some 34) rfl rfl Tryz.func24 qq_7 rfl #[.agg #[.int .u8 x341000_1, .int .u32 x341001_1, .int .u64 x341002_1, .int .i64 x341003_1, .int .i64 x341004_1], .int .i64 (rd l1 x24_1)] rfl qq_1 ?_; (with_reducible refine (Qbs.calls k1 x341000_1 x341001_1 x341002_1 x341003_1 x341004_1 (rd l1 x24_1) false _ A26.out).mono ?_); rintro e w60 ⟨rfl, hb⟩; refine ⟨_, rfl, ?_⟩; have n0_ := QA (Kd.R_below qq_4 hb); have n1_ := QA (Qeb (g := gb333) (o := .cells #[.int .u8 a0_0, .int .u32 a0_1] 27 (0, 0)) qq_0 hb); have n2_ := QA (Qeb (g := gb340) (o := .cells #[.int .u8 x341000_1, .int .u32 x341001_1, .int .u64 x341002_1, .int .i64 x341003_1, .int .i64 x341004_1] 36 (0, 0)) qq_0 hb); have n3_ := QA (Qeb (g := gb346) (o := .cells #[.int .u8 t341, .int .u32 t342, .int .u64 t343, .int .i64 t344, .int .i64 t345] 36 (0, 0)) qq_0 hb); have n4_ := QA (Qem qq_b hb); clear HO_8; clear BK333; clear BK340; clear BK346; clear HB; have HO_8 := n0_; have BK333 := n1_; have BK340 := n2_; have BK346 := n3_; have HB := n4_; clear n0_ n1_ n2_ n3_ n4_; (try clear hb); (try clear hb2); (try clear hk); (try clear hi); have hcz61_0 := qq_c (.int .u8 x341000_1) BK340.out 0 rfl; have hcz61_1 := qq_c (.int .u32 x341001_1) BK340.out 1 rfl; have hcz61_2 := qq_c (.int .u64 x341002_1) BK340.out 2 rfl; have hcz61_3 := qq_c (.int .i64 x341003_1) BK340.out 3 rfl; have hcz61_4 := qq_c (.int .i64 x341004_1) BK340.out 4 rfl; have hfz61_0 := Qdt BK340.out 0; have hfz61_1 := Qdt BK340.out 1; have hfz61_2 := Qdt BK340.out 2; have hfz61_3 := Qdt BK340.out 3; have hfz61_4 := Qdt BK340.out 4; have hcz62_0 := qq_c (.int .u8 a0_0) BK333.out 0 rfl; have hcz62_1 := qq_c (.int .u32 a0_1) BK333.out 1 rfl; have hfz62_0 := Qdt BK333.out 0; have hfz62_1 := Qdt BK333.out 1) | ((with_reducible refine Qgp (f := 20) rfl ?_); refine Qfg (some 47) rfl rfl Tryz.func20 qq_7 rfl #[.agg #[.int .u8 a0_0, .int .u32 a0_1], .int .u64 (IntKind.u64.wrap (x341002_1 + 1))] rfl qq_1 ?_; (with_reducible refine (Qbr.calls k1 a0_0 a0_1 (IntKind.u64.wrap (x341002_1 + 1)) t358 t359 t360 t361 t362 _ A51.out).mono ?_); rintro e w63 ⟨rfl, hb⟩; refine ⟨_, rfl, ?_⟩; have n0_ := QA (Kd.R_below qq_4 hb); have n1_ := QA (Qeb (g := gb333) (o := .cells #[.int .u8 a0_0, .int .u32 a0_1] 27 (0, 0)) qq_0 hb); have n2_ := QA (Qeb (g := gb340) (o := .cells #[.int .u8 x341000_1, .int .u32 x341001_1, .int .u64 x341002_1, .int .i64 x341003_1, .int .i64 x341004_1] 36 (0, 0)) qq_0 hb); have n3_ := QA (Qeb (g := gb346) (o := .cells #[.int .u8 t341, .int .u32 t342, .int .u64 t343, .int .i64 t344, .int .i64 t345] 36 (0, 0)) qq_0 hb); have n4_ := QA (Qem qq_b hb); clear HO_8; clear BK333; clear BK340; clear BK346; clear HB; have HO_8 := n0_; have BK333 := n1_; have BK340 := n2_; have BK346 := n3_; have HB := n4_; clear n0_ n1_ n2_ n3_ n4_; (try clear hb); (try clear hb2); (try clear hk); (try clear hi); have hcz64_0 := qq_c (.int .u8 x341000_1) BK340.out 0 rfl; have hcz64_1 := qq_c (.int .u32 x341001_1) BK340.out 1 rfl; have hcz64_2 := qq_c (.int .u64 x341002_1) BK340.out 2 rfl; have hcz64_3 := qq_c (.int .i64 x341003_1) BK340.out 3 rfl; have hcz64_4 := qq_c (.int .i64 x341004_1) BK340.out 4 rfl; have hfz64_0 := Qdt BK340.out 0; have hfz64_1 := Qdt BK340.out 1; have hfz64_2 := Qdt BK340.out 2; have hfz64_3 := Qdt BK340.out 3; have hfz64_4 := Qdt BK340.out 4) | ((with_reducible refine Qgp (f := 25) rfl ?_); refine Qfg (some 50) rfl rfl Tryz.func25 qq_7 rfl #[.agg #[.int .u8 t358, .int .u32 t359, .int .u64 t360, .int .i64 t361, .int .i64 t362], .int .i64 (rd l1 x24_1)] rfl qq_1 ?_; (with_reducible refine (Qbu.calls t358 t359 t360 t361 t362 (rd l1 x24_1) t363 t364 t365 t366 t367 _ A52.out).mono ?_); rintro e w65 ⟨rfl, hb⟩; refine ⟨_, rfl, ?_⟩; have n0_ := QA (Kd.R_below (by (with_reducible repeat (first | apply Kd.R_alloc | apply Kd.R_drewN | apply Kd.R_drew)); exact (Kd.R_mono (Kd.R_far (p := ⟨gb340, 4, none⟩) (Kd.R_far (p := ⟨gb340, 3, none⟩) (Kd.R_far (p := ⟨gb340, 2, none⟩) (Kd.R_far (p := ⟨gb340, 1, none⟩) (Kd.R_far (p := ⟨gb340, 0, none⟩) (Kd.R_types HO_8.out BK340.out (by decide)) (fun _ hk => hk.2) (.int .u8 t358)) (fun _ hk => hk.2) (.int .u32 t359)) (fun _ hk => hk.2) (.int .u64 t360)) (fun _ hk => hk.2) (.int .i64 t361)) (fun _ hk => hk.2) (.int .i64 t362)) (fun _ h_ => h_.1))) hb); have n1_ := QA (Qeb (g := gb333) (o := .cells #[.int .u8 a0_0, .int .u32 a0_1] 27 (0, 0)) qq_8 hb); have n2_ := QA (Qeb (g := gb340) (o := .cells #[.int .u8 t358, .int .u32 t359, .int .u64 t360, .int .i64 t361, .int .i64 t362] 36 (0, 0)) (by (with_reducible repeat (first | apply Qea | apply Qdz | apply Qdy)); refine Qep (cs := #[.int .u8 t358, .int .u32 t359, .int .u64 t360, .int .i64 t361, .int .i64 x341004_1]) ?_ 4 _ rfl; (with_reducible repeat (first | apply Qea | apply Qdz | apply Qdy)); refine Qep (cs := #[.int .u8 t358, .int .u32 t359, .int .u64 t360, .int .i64 x341003_1, .int .i64 x341004_1]) ?_ 3 _ rfl; (with_reducible repeat (first | apply Qea | apply Qdz | apply Qdy)); refine Qep (cs := #[.int .u8 t358, .int .u32 t359, .int .u64 x341002_1, .int .i64 x341003_1, .int .i64 x341004_1]) ?_ 2 _ rfl; (with_reducible repeat (first | apply Qea | apply Qdz | apply Qdy)); refine Qep (cs := #[.int .u8 t358, .int .u32 x341001_1, .int .u64 x341002_1, .int .i64 x341003_1, .int .i64 x341004_1]) ?_ 1 _ rfl; (with_reducible repeat (first | apply Qea | apply Qdz | apply Qdy)); refine Qep (cs := #[.int .u8 x341000_1, .int .u32 x341001_1, .int .u64 x341002_1, .int .i64 x341003_1, .int .i64 x341004_1]) ?_ 0 _ rfl; (with_reducible repeat (first | apply Qea | apply Qdz | apply Qdy)); exact BK340.out) hb); have n3_ := QA (Qeb (g := gb346) (o := .cells #[.int .u8 t341, .int .u32 t342, .int .u64 t343, .int .i64 t344, .int .i64 t345] 36 (0, 0)) qq_8 hb); have n4_ := QA (Qem qq_b hb); clear HO_8; clear BK333; clear BK340; clear BK346; clear HB; have HO_8 := n0_; have BK333 := n1_; have BK340 := n2_; have BK346 := n3_; have HB := n4_; clear n0_ n1_ n2_ n3_ n4_; (try clear hb); (try clear hb2); (try clear hk); (try clear hi); have hcz66_0 := qq_c (.int .u8 t358) BK340.out 0 rfl; have hcz66_1 := qq_c (.int .u32 t359) BK340.out 1 rfl; have hcz66_2 := qq_c (.int .u64 t360) BK340.out 2 rfl; have hcz66_3 := qq_c (.int .i64 t361) BK340.out 3 rfl; have hcz66_4 := qq_c (.int .i64 t362) BK340.out 4 rfl; have hfz66_0 := Qdt BK340.out 0; have hfz66_1 := Qdt BK340.out 1; have hfz66_2 := Qdt BK340.out 2; have hfz66_3 := Qdt BK340.out 3; have hfz66_4 := Qdt BK340.out 4) | ((with_reducible refine Qgq (b := .append) (xs := #[.tmp 51, .tmp 54]) rfl ?_); at_builtin; refine Kd.R_append (Kd.int .u64) (w0 := w) w.heap.size rfl (.tmp 51) (.tmp 54) 70 34 (.int .u64 0) 8 rfl Tryz.underlying70 info34 rfl (by decide) (by omega) u8 x8_1 t365 [.int .u64 t365] (fun _ => True) (fun _ => False) rfl qq_13 ?aP (fun _ hk => hk.elim) ?aF ?aO ?aB ?aS ?aL ?_; (case aP => exact rfl); (case aB => exact qq_b); (case aF => exact (fun _ _ => trivial)); (case aO => exact (by (with_reducible repeat (first | apply Kd.R_alloc | apply Kd.R_drewN | apply Kd.R_drew)); exact Kd.R_mono (Kd.R_far (p := ⟨gb340, 4, none⟩) (Kd.R_far (p := ⟨gb340, 3, none⟩) (Kd.R_far (p := ⟨gb340, 2, none⟩) (Kd.R_far (p := ⟨gb340, 1, none⟩) (Kd.R_far (p := ⟨gb340, 0, none⟩) (Kd.R_types HO_8.out BK340.out (by decide)) (fun _ hk => hk.2) (.int .u8 t363)) (fun _ hk => hk.2) (.int .u32 t364)) (fun _ hk => hk.2) (.int .u64 t365)) (fun _ hk => hk.2) (.int .i64 t366)) (fun _ hk => hk.2) (.int .i64 t367)) (fun _ hk => trivial))); (case aS => exact (Qel qq_b)); (case aL => have := LMc53.out; omega); intro v369 w67 ho hb hg hat; rw [← Ny368.out] at ho; have n0_ := QA (Qdu (g := gb333) (o := .cells #[.int .u8 a0_0, .int .u32 a0_1] 27 (0, 0)) qq_8 hg (Kd.R_ne HO_8.out BK333.out (by decide))); have n1_ := QA (Qdu (g := gb340) (o := .cells #[.int .u8 t363, .int .u32 t364, .int .u64 t365, .int .i64 t366, .int .i64 t367] 36 (0, 0)) (by (with_reducible repeat (first | apply Qea | apply Qdz | apply Qdy)); refine Qep (cs := #[.int .u8 t363, .int .u32 t364, .int .u64 t365, .int .i64 t366, .int .i64 t362]) ?_ 4 _ rfl; (with_reducible repeat (first | apply Qea | apply Qdz | apply Qdy)); refine Qep (cs := #[.int .u8 t363, .int .u32 t364, .int .u64 t365, .int .i64 t361, .int .i64 t362]) ?_ 3 _ rfl; (with_reducible repeat (first | apply Qea | apply Qdz | apply Qdy)); refine Qep (cs := #[.int .u8 t363, .int .u32 t364, .int .u64 t360, .int .i64 t361, .int .i64 t362]) ?_ 2 _ rfl; (with_reducible repeat (first | apply Qea | apply Qdz | apply Qdy)); refine Qep (cs := #[.int .u8 t363, .int .u32 t359, .int .u64 t360, .int .i64 t361, .int .i64 t362]) ?_ 1 _ rfl; (with_reducible repeat (first | apply Qea | apply Qdz | apply Qdy)); refine Qep (cs := #[.int .u8 t358, .int .u32 t359, .int .u64 t360, .int .i64 t361, .int .i64 t362]) ?_ 0 _ rfl; (with_reducible repeat (first | apply Qea | apply Qdz | apply Qdy)); exact BK340.out) hg (Kd.R_ne HO_8.out BK340.out (by decide))); have n2_ := QA (Qdu (g := gb346) (o := .cells #[.int .u8 t341, .int .u32 t342, .int .u64 t343, .int .i64 t344, .int .i64 t345] 36 (0, 0)) qq_8 hg (Kd.R_ne HO_8.out BK346.out (by decide))); have n3_ := QA (hb); have n4_ := QA (ho); clear BK333; clear BK340; clear BK346; clear HB; clear HO_8; have BK333 := n0_; have BK340 := n1_; have BK346 := n2_; have HB := n3_; have HO370 := n4_; clear n0_ n1_ n2_ n3_ n4_; clear ho hb hg hat))
           go_roundg k1
           case measure => have := HK1.out; omega
           case rel => exact ⟨(y368), (wrap64 (x24_1 + 1)), (t363), (t364), (t365), (t366), (t367), qq_6, H', ⟨by have := HK1.out; omega⟩, ⟨by (with_reducible repeat (first | apply Kd.R_alloc | apply Kd.R_drewN | apply Kd.R_drew)); exact HO370.out⟩, ⟨by (with_reducible repeat (first | apply Qea | apply Qdz | apply Qdy)); exact BK333.out⟩, ⟨by (with_reducible repeat (first | apply Qea | apply Qdz | apply Qdy)); exact BK340.out⟩, ⟨by (with_reducible repeat (first | apply Qea | apply Qdz | apply Qdy)); exact BK346.out⟩, ⟨qq_b⟩⟩
          ·rw [if_neg c53] at H
           exact absurd H (by simp)
       ·replace c25 := Bool.eq_false_iff.mpr c25
        subst c25
        have H1 : (some (([] : List Int), 6)) = some (r1, r2) := by rw [if_neg (show ¬ (false = true) by decide)] at H; exact H
        clear H
        have H := H1
        clear H1
        simp only [Option.some.injEq, Prod.mk.injEq] at H
        obtain ⟨rfl, rfl⟩ := H
        have p347 : 0 ≤ (x24_1 : Int) := of_decide_eq_true qq_5
        have q347 : x24_1 < (l1.length : Int) := of_decide_eq_true qq_5
        obtain ⟨ad347, e347, hx347_0⟩ := Kd.at_int HR1.out x24_1 p347 q347
        cases e347
        replace hx347_0 := qq_h HB.out hx347_0
        replace p347 := eq_true p347
        replace q347 := eq_true q347
        have hnb68 := NB346_333.out
        have hnc68 := NB333_346.out
        have hnb69 := NB346_340.out
        have hnc69 := NB340_346.out
        have hcz70_0 := qq_c (.int .u8 t341) BK346.out 0 rfl
        have hcz70_1 := qq_c (.int .u32 t342) BK346.out 1 rfl
        have hcz70_2 := qq_c (.int .u64 t343) BK346.out 2 rfl
        have hcz70_3 := qq_c (.int .i64 t344) BK346.out 3 rfl
        have hcz70_4 := qq_c (.int .i64 t345) BK346.out 4 rfl
        have hfz70_0 := Qdt BK346.out 0
        have hfz70_1 := Qdt BK346.out 1
        have hfz70_2 := Qdt BK346.out 2
        have hfz70_3 := Qdt BK346.out 3
        have hfz70_4 := Qdt BK346.out 4
        go_wp2_with (first | ((with_reducible refine Qgp (f := 24) rfl ?_); refine Qfg (some 30) rfl rfl Tryz.func24 qq_7 rfl #[.agg #[.int .u8 t341, .int .u32 t342, .int .u64 t343, .int .i64 t344, .int .i64 t345], .int .i64 (rd l1 x24_1)] rfl qq_1 ?_; (with_reducible refine (Qbs.calls k1 t341 t342 t343 t344 t345 (rd l1 x24_1) false _ A24.out).mono ?_); rintro e w71 ⟨rfl, hb⟩; refine ⟨_, rfl, ?_⟩; have n0_ := QA (Kd.R_below qq_4 hb); have n1_ := QA (Qeb (g := gb333) (o := .cells #[.int .u8 a0_0, .int .u32 a0_1] 27 (0, 0)) qq_0 hb); have n2_ := QA (Qeb (g := gb340) (o := .cells #[.int .u8 x341000_1, .int .u32 x341001_1, .int .u64 x341002_1, .int .i64 x341003_1, .int .i64 x341004_1] 36 (0, 0)) qq_0 hb); have n3_ := QA (Qeb (g := gb346) (o := .cells #[.int .u8 t341, .int .u32 t342, .int .u64 t343, .int .i64 t344, .int .i64 t345] 36 (0, 0)) qq_0 hb); have n4_ := QA (Qem qq_b hb); clear HO_8; clear BK333; clear BK340; clear BK346; clear HB; have HO_8 := n0_; have BK333 := n1_; have BK340 := n2_; have BK346 := n3_; have HB := n4_; clear n0_ n1_ n2_ n3_ n4_; (try clear hb); (try clear hb2); (try clear hk); (try clear hi)))
        go_ret2
        exact ⟨_, by first | rfl | (simp [Qgu, Qgv] <;> rfl) | (simp [*, Qgu, Qgv] <;> rfl), by first | exact Kd.R_nil _ _ _ _ _ | exact Kd.N_nil _ _ _ _ _ | exact Kd.V_nil _ _ _ _ _ | exact Kd.Q_nil _ _ _ _ _ | exact Kd.S_nil _ _ _ _ _, qq_b⟩
      ·rw [if_neg c23] at H
       exact absurd H (by simp)
     ·rw [if_neg c22] at H
      exact absurd H (by simp)
    ·rw [if_neg c21] at H
     have c21b0 : decide (x24_1 < (l1.length : Int)) = false := decide_eq_false c21
     clear c21
     simp only [Option.some.injEq, Prod.mk.injEq] at H
     obtain ⟨rfl, rfl⟩ := H
     go_wp2
     go_ret2
     exact ⟨_, by first | rfl | (simp [Qgu, Qgv] <;> rfl) | (simp [*, Qgu, Qgv] <;> rfl), by (with_reducible repeat (first | apply Kd.R_alloc | apply Kd.R_drewN | apply Kd.R_drew)); exact HO_8.out, qq_b⟩
 ·replace c4 := Bool.eq_false_iff.mpr c4
  subst c4
  have H1 : (some (([] : List Int), 1)) = some (r1, r2) := by rw [if_neg (show ¬ (false = true) by decide)] at H; exact H
  clear H
  have H := H1
  clear H1
  simp only [Option.some.injEq, Prod.mk.injEq] at H
  obtain ⟨rfl, rfl⟩ := H
  go_enter Tryz.func77, Tryz.ntmps77
  go_wp2_with (first | ((with_reducible refine Qer (N := 2) rfl ?_); refine qq_e 2 #[.int .u8 a0_0, .int .u32 a0_1] 27 ?_; intro gb333 hg w72 hbox hb; have n0_ := QA (Qem qq_b hb); have n1_ := QA (hbox); have n2_ := QA ((qq_s hg : w.heap.size ≤ gb333)); have n3_ := QA ((qq_s hg : w.heap.size ≤ gb333)); clear HB; have HB := n0_; have BK333 := n1_; have GW333 := n2_; have GE333 := n3_; clear n0_ n1_ n2_ n3_; clear hb hbox hg; have hcz73_0 := qq_c (.int .u8 a0_0) BK333.out 0 rfl; have hcz73_1 := qq_c (.int .u32 a0_1) BK333.out 1 rfl; have hfz73_0 := Qdt BK333.out 0; have hfz73_1 := Qdt BK333.out 1) | ((with_reducible refine Qgp (f := 54) rfl ?_); refine Qfg (some 12) rfl rfl Tryz.func54 qq_7 rfl #[.agg #[.int .u8 a0_0, .int .u32 a0_1]] rfl qq_1 ?_; (with_reducible refine (Qbe.calls a0_0 a0_1 false _ A3.out).mono ?_); rintro e w74 ⟨rfl, hb⟩; refine ⟨_, rfl, ?_⟩; have n0_ := QA (Qeb (g := gb333) (o := .cells #[.int .u8 a0_0, .int .u32 a0_1] 27 (0, 0)) qq_0 hb); have n1_ := QA (Qem qq_b hb); clear BK333; clear HB; have BK333 := n0_; have HB := n1_; clear n0_ n1_; (try clear hb); (try clear hb2); (try clear hk); (try clear hi)))
  go_ret2
  exact ⟨_, by first | rfl | (simp [Qgu, Qgv] <;> rfl) | (simp [*, Qgu, Qgv] <;> rfl), by first | exact Kd.R_nil _ _ _ _ _ | exact Kd.N_nil _ _ _ _ _ | exact Kd.V_nil _ _ _ _ _ | exact Kd.Q_nil _ _ _ _ _ | exact Kd.S_nil _ _ _ _ _, qq_b⟩
end Go.Proofs.YtnnofopfbeklbaaGreat.C
end
