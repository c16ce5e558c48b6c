/- Texts of this claim's author and of the print of its functions, merged by merge.py. -/
import Derived.Test.YtnnofopfbeklbaaGreatMB02
import Derived.Test.YtnnofopfbeklbaaGreatMB04
import Derived.Test.YtnnofopfbeklbaaGreatMB05
import Derived.Test.YtnnofopfbeklbaaGreatMB09
import Derived.Test.YtnnofopfbeklbaaGreatMB12
set_option linter.unusedVariables false
set_option linter.unusedSimpArgs false
section
namespace Go.Proofs.YtnnofopfbeklbaaGreat.C
open Go.RowKit Go.Proofs.YtnnofopfbeklbaaGreatW.PrintWords Go.Proofs.YtnnofopfbeklbaaGreatW.PrintLast Go.Proofs.YtnnofopfbeklbaaGreatW.PrintMore
attribute [local go_sem] Qfs Qft Qfu Qfv Qfw Qfx Qfy Qfz
def Qbo.l0 : Nat → List Int → List (S39) → Int → Int → Int → Int → Option (List Int × Int)
 | 0, _, _, _, _, _, _ => none
 | k + 1, x7, x18, x19, x20, x372000, x372001 => if x20 < x19 then (if 0 ≤ x20 then (if x20 < (x18.length : Int) then ((Qbh.f k ((Qgg x18 x20).f0) ((Qgg x18 x20).f1) ((Qgg x18 x20).f2) ((Qgg x18 x20).f3)).bind fun t376 => (if x7.length < 17592186044416 then (Qbo.l0 k (x7 ++ [(t376.size : Int)]) x18 x19 (wrap64 (x20 + 1)) x372000 x372001) else (none))) else (none)) else (none)) else ((Qbm.f k x372000 x372001 x7).bind fun bt380 => (some (bt380.1, bt380.2)))
def Qbo.f (k : Nat) (a0_0 : Int) (a0_1 : Int) (l1 : List (S39)) : Option (List Int × Int) := (Qbe.f a0_0 a0_1).bind fun t372 => (if t372 = true then ((Qbd.f k l1).bind fun t373 => (if t373 = 0 then (Qbo.l0 k ([] : List Int) l1 (l1.length : Int) 0 a0_0 a0_1) else (some (([] : List Int), t373)))) else (some (([] : List Int), 1)))
set_option maxHeartbeats 8000000 in
set_option maxRecDepth 100000 in
theorem Qbo.calls (k : Nat) (a0_0 : Int) (a0_1 : Int) (A1 : Option Addr) (c1 : Nat) (l1 : List (S39)) (r1 : List Int) (r2 : Int) (w : World) (hr1 : Kd.C k39 w A1 l1.length l1) (hc1 : l1.length ≤ c1) (h : Qbo.f k a0_0 a0_1 l1 = some (r1, r2)) :
  Calls Tryz.prog 39 #[.agg #[.int .u8 a0_0, .int .u32 a0_1], .slice A1 l1.length c1] w fun e w' => ∃ v0_ : Value, e = .returned (.tuple #[v0_, .int .i64 r2]) ∧ Kd.R (Kd.int .u64) 34 w' w.heap.size (fun _ => True) v0_ r1 ∧ Below w.heap.size w w' := by
 have hu27 := Tryz.underlying27
 have hu39 := Tryz.underlying39
 have HR1 := QA hr1
 have HC1 := QA hc1
 clear hr1 hc1
 have HB := QA (Below.refl w.heap.size w)
 have H : ((Qbe.f a0_0 a0_1).bind fun t372 => (if t372 = true then ((Qbd.f k l1).bind fun t373 => (if t373 = 0 then (Qbo.l0 k ([] : List Int) l1 (l1.length : Int) 0 a0_0 a0_1) else (some (([] : List Int), t373)))) else (some (([] : List Int), 1)))) = some (r1, r2) := h
 clear h
 replace H := Option.bind_eq_some_iff.mp H
 obtain ⟨t372, A30, H⟩ := H
 replace H : (if t372 = true then ((Qbd.f k l1).bind fun t373 => (if t373 = 0 then (Qbo.l0 k ([] : List Int) l1 (l1.length : Int) 0 a0_0 a0_1) else (some (([] : List Int), t373)))) else (some (([] : List Int), 1))) = some (r1, r2) := H
 have A3 := QA A30
 clear A30
 by_cases c4 : t372 = true
 ·subst c4
  have H1 : ((Qbd.f k l1).bind fun t373 => (if t373 = 0 then (Qbo.l0 k ([] : List Int) l1 (l1.length : Int) 0 a0_0 a0_1) else (some (([] : List Int), t373)))) = some (r1, r2) := by rw [if_pos rfl] at H; exact H
  clear H
  have H := H1
  clear H1
  replace H := Option.bind_eq_some_iff.mp H
  obtain ⟨t373, A50, H⟩ := H
  replace H : (if t373 = 0 then (Qbo.l0 k ([] : List Int) l1 (l1.length : Int) 0 a0_0 a0_1) else (some (([] : List Int), t373))) = some (r1, r2) := H
  have A5 := QA A50
  clear A50
  by_cases c6 : t373 = 0
  ·rw [if_pos c6] at H
   have c6b0 : (t373 == 0) = true := beq_iff_eq.mpr c6
   have c6b1 : (t373 != 0) = false := bne_eq_false_iff_eq.mpr c6
   clear c6
   have H' := QA H
   clear H
   go_enter Tryz.func39, Tryz.ntmps39
   go_wp2_with (first | ((with_reducible refine Qef (N := 2) rfl ?_); refine Qee ?hg (N := 2) ?hd (cs := #[.int .u8 a0_0, .int .u32 a0_1]) (t := 27) ?hr ?_; (case hd => rfl); (case hg => rfl); (case hr => first | (go_simp; done) | (go_simp; rfl)); intro gb371 hg w7 hbox hb; have n0_ := QA (Qdy (by repeat (first | (with_reducible first | exact HB.out | apply Qcn | apply Qcp | apply Qed) | exact HB.out)) hb); have n1_ := QA (hbox); have n2_ := QA ((by rw [hg]; exact (Qdx (by repeat (first | (with_reducible first | exact HB.out | apply Qcn | apply Qcp | apply Qed) | exact HB.out))) : w.heap.size ≤ gb371)); have n3_ := QA ((by rw [hg]; exact (Qdx (by repeat (first | (with_reducible first | exact HB.out | apply Qcn | apply Qcp | apply Qed) | exact HB.out))) : w.heap.size ≤ gb371)); clear HB; have HB := n0_; have BK371 := n1_; have GW371 := n2_; have GE371 := n3_; clear n0_ n1_ n2_ n3_; clear hb hbox hg; have hcz8_0 : w7.cell? ⟨gb371, 0, none⟩ = some (.int .u8 a0_0) := (Qdi BK371.out 0).trans rfl; have hcz8_1 : w7.cell? ⟨gb371, 1, none⟩ = some (.int .u32 a0_1) := (Qdi BK371.out 1).trans rfl; have hfz8_0 := Qdj BK371.out 0; have hfz8_1 := Qdj BK371.out 1) | ((with_reducible refine Qga (f := 54) rfl ?_); refine Qet (some 11) rfl rfl Tryz.func54 (by kernel_rfl) rfl #[.agg #[.int .u8 a0_0, .int .u32 a0_1]] rfl (by (try simp only [List.map_toArray, List.map_cons, List.map_nil]); first | done | rfl | (simp only [List.length_drop, List.length_take]; rfl)) ?_; (with_reducible refine (Qbe.calls a0_0 a0_1 true _ A3.out).mono ?_); rintro e w9 ⟨rfl, hb⟩; refine ⟨_, rfl, ?_⟩; have n0_ := QA (Qdr (g := gb371) (o := .cells #[.int .u8 a0_0, .int .u32 a0_1] 27 (0, 0)) (by (with_reducible repeat (first | apply Qdq | apply Qdp | apply Qdo)); exact BK371.out) hb); have n1_ := QA (Qdy (by repeat (first | (with_reducible first | exact HB.out | apply Qcn | apply Qcp | apply Qed | refine Qdz ?_ GE371.out) | exact HB.out)) hb); clear BK371; clear HB; have BK371 := n0_; have HB := n1_; clear n0_ n1_; (try clear hb); (try clear hb2); (try clear hk); (try clear hi)) | ((with_reducible refine Qga (f := 76) rfl ?_); refine Qet (some 14) rfl rfl Tryz.func76 (by kernel_rfl) rfl #[.slice A1 l1.length c1] rfl (by (try simp only [List.map_toArray, List.map_cons, List.map_nil]); first | done | rfl | (simp only [List.length_drop, List.length_take]; rfl)) ?_; (with_reducible refine (Qbd.calls k _ _ l1 t373 _ ?side1 ?side2 A5.out).mono ?_); (case side1 => repeat (first | exact (Kd.C_below HR1.out HB.out) | (with_reducible refine Kd.C_alloc ?_ _) | (with_reducible refine Kd.C_drewN ?_ _) | (with_reducible refine Kd.C_drew ?_))); (case side2 => exact HC1.out); rintro e w10 ⟨rfl, hb⟩; refine ⟨_, rfl, ?_⟩; have n0_ := QA (Qdr (g := gb371) (o := .cells #[.int .u8 a0_0, .int .u32 a0_1] 27 (0, 0)) (by (with_reducible repeat (first | apply Qdq | apply Qdp | apply Qdo)); exact BK371.out) hb); have n1_ := QA (Qdy (by repeat (first | (with_reducible first | exact HB.out | apply Qcn | apply Qcp | apply Qed | refine Qdz ?_ GE371.out) | exact HB.out)) hb); clear BK371; clear HB; have BK371 := n0_; have HB := n1_; clear n0_ n1_; (try clear hb); (try clear hb2); (try clear hk); (try clear hi)))
   go_loopg [7, 20] k (fun kq v7 v20 w' => ∃ (x7_1 : List Int) (x20_1 : Int), v20 = .int .i64 x20_1 ∧ Aside0 (Qbo.l0 kq x7_1 l1 (l1.length : Int) x20_1 a0_0 a0_1 = some (r1, r2)) ∧ Aside0 (kq ≤ k) ∧ Aside0 (Kd.R (Kd.int .i64) 3 w' w.heap.size (fun _ => True) v7 x7_1) ∧ Aside0 (w'.heap[gb371]? = some (.cells #[.int .u8 a0_0, .int .u32 a0_1] 27 (0, 0))) ∧ Aside0 (Below w.heap.size w w'))
   case atStart => exact ⟨(([] : List Int)), (0), (by first | rfl | (simp; done) | (simp [*]; done)), H', ⟨Nat.le_refl _⟩, ⟨by first | exact Kd.R_nil _ _ _ _ _ | exact Kd.N_nil _ _ _ _ _ | exact Kd.V_nil _ _ _ _ _ | exact Kd.Q_nil _ _ _ _ _ | exact Kd.S_nil _ _ _ _ _⟩, ⟨by (with_reducible repeat (first | apply Qdq | apply Qdp | apply Qdo)); exact BK371.out⟩, ⟨by repeat (first | (with_reducible first | exact HB.out | apply Qcn | apply Qcp | apply Qed | refine Qdz ?_ GE371.out) | exact HB.out)⟩⟩
   case round =>
    clear H'
    try clear c1
    try clear c4
    try clear c6
    try clear c6b0
    try clear c6b1
    try clear hcz8_0
    try clear hcz8_1
    try clear hfz8_0
    try clear hfz8_1
    obtain ⟨x7_1, x20_1, rfl, HA, HK1, HO_7, BK371, HB⟩ := hrel
    cases gk with
    | zero => exact absurd HA.out (by simp [Qbo.l0])
    | succ k1 =>
     have H := HA.out
     clear HA
     simp only [Qbo.l0] at H
     by_cases c11 : x20_1 < (l1.length : Int)
     ·rw [if_pos c11] at H
      have c11b0 : decide (x20_1 < (l1.length : Int)) = true := decide_eq_true c11
      clear c11
      by_cases c12 : 0 ≤ x20_1
      ·rw [if_pos c12] at H
       have c12b0 : decide (0 ≤ x20_1) = true := decide_eq_true c12
       clear c12
       by_cases c13 : x20_1 < (l1.length : Int)
       ·rw [if_pos c13] at H
        have c13b0 : decide (x20_1 < (l1.length : Int)) = true := decide_eq_true c13
        clear c13
        replace H := Option.bind_eq_some_iff.mp H
        obtain ⟨t376, A140, H⟩ := H
        replace H : (if x7_1.length < 17592186044416 then (Qbo.l0 k1 (x7_1 ++ [(t376.size : Int)]) l1 (l1.length : Int) (wrap64 (x20_1 + 1)) a0_0 a0_1) else (none)) = some (r1, r2) := H
        have A14 := QA A140
        clear A140
        by_cases c15 : x7_1.length < 17592186044416
        ·rw [if_pos c15] at H
         have LMc15 := QA c15
         clear c15
         obtain ⟨y377, hy377⟩ : ∃ y_ : List Int, y_ = (x7_1 ++ [(t376.size : Int)]) := ⟨_, rfl⟩
         replace H : (Qbo.l0 k1 y377 l1 (l1.length : Int) (wrap64 (x20_1 + 1)) a0_0 a0_1) = some (r1, r2) := by first | (rw [hy377]; with_reducible exact H) | (have H2_ := (Option.bind_some _ _).symm.trans H; rw [hy377]; with_reducible exact H2_) | (have H2_ := (Option.bind_some _ _).symm.trans H; with_reducible exact H2_) | with_reducible exact H | (rw [hy377]; exact H) | exact H
         have Ny377 := QA hy377
         clear hy377
         have H' := QA H
         clear H
         have p374 : 0 ≤ (x20_1 : Int) := of_decide_eq_true (by first | (with_reducible assumption) | assumption)
         have q374 : x20_1 < (l1.length : Int) := of_decide_eq_true (by first | (with_reducible assumption) | assumption)
         obtain ⟨ad374, e374, hx374_0, hx374_1, hx374_2, hx374_3⟩ := Qgh HR1.out x20_1 p374 q374
         cases e374
         replace hx374_0 := (HB.out.cell (World.block_lt_of_cell? w _ hx374_0)).trans hx374_0
         replace hx374_1 := (HB.out.cell (World.block_lt_of_cell? w _ hx374_1)).trans hx374_1
         replace hx374_2 := (HB.out.cell (World.block_lt_of_cell? w _ hx374_2)).trans hx374_2
         replace hx374_3 := (HB.out.cell (World.block_lt_of_cell? w _ hx374_3)).trans hx374_3
         replace p374 := eq_true p374
         replace q374 := eq_true q374
         go_wp2_with (first | ((with_reducible refine Qef (N := 9) rfl ?_); refine Qee ?hg (N := 9) ?hd (cs := #[.bool false, .int .u64 0, .string (⟨#[]⟩ : ByteArray), .string (⟨#[]⟩ : ByteArray)]) (t := 39) ?hr ?_; (case hd => rfl); (case hg => rfl); (case hr => first | (go_simp; done) | (go_simp; rfl)); intro gb375 hg w16 hbox hb; have n0_ := QA (Kd.R_below (by (with_reducible repeat (first | apply Kd.R_alloc | apply Kd.R_drewN | apply Kd.R_drew)); exact HO_7.out) hb); have n1_ := QA (Qdr (g := gb371) (o := .cells #[.int .u8 a0_0, .int .u32 a0_1] 27 (0, 0)) (by (with_reducible repeat (first | apply Qdq | apply Qdp | apply Qdo)); exact BK371.out) hb); have n2_ := QA (Qdy (by repeat (first | (with_reducible first | exact HB.out | apply Qcn | apply Qcp | apply Qed | refine Qdz ?_ GE371.out) | exact HB.out)) hb); have n3_ := QA (hbox); have n4_ := QA ((by rw [hg]; exact (Qdx (by repeat (first | (with_reducible first | exact HB.out | apply Qcn | apply Qcp | apply Qed | refine Qdz ?_ GE371.out) | exact HB.out))) : w.heap.size ≤ gb375)); have n5_ := QA ((by rw [hg]; exact (Qdx (by repeat (first | (with_reducible first | exact HB.out | apply Qcn | apply Qcp | apply Qed | refine Qdz ?_ GE371.out) | exact HB.out))) : w.heap.size ≤ gb375)); have n6_ := QA ((by rw [hg]; exact Nat.ne_of_lt (Qdh (g := gb371) (o := .cells #[.int .u8 a0_0, .int .u32 a0_1] 27 (0, 0)) (by (with_reducible repeat (first | apply Qdq | apply Qdp | apply Qdo)); exact BK371.out)) : gb371 ≠ gb375)); have n7_ := QA ((by rw [hg]; exact Nat.ne_of_gt (Qdh (g := gb371) (o := .cells #[.int .u8 a0_0, .int .u32 a0_1] 27 (0, 0)) (by (with_reducible repeat (first | apply Qdq | apply Qdp | apply Qdo)); exact BK371.out)) : gb375 ≠ gb371)); clear HO_7; clear BK371; clear HB; have HO_7 := n0_; have BK371 := n1_; have HB := n2_; have BK375 := n3_; have GW375 := n4_; have GE375 := n5_; have NB371_375 := n6_; have NB375_371 := n7_; clear n0_ n1_ n2_ n3_ n4_ n5_ n6_ n7_; clear hb hbox hg; have hnb17 := NB375_371.out; have hnc17 := NB371_375.out; have hcz18_0 : w16.cell? ⟨gb375, 0, none⟩ = some (.bool false) := (Qdi BK375.out 0).trans rfl; have hcz18_1 : w16.cell? ⟨gb375, 1, none⟩ = some (.int .u64 0) := (Qdi BK375.out 1).trans rfl; have hcz18_2 : w16.cell? ⟨gb375, 2, none⟩ = some (.string (⟨#[]⟩ : ByteArray)) := (Qdi BK375.out 2).trans rfl; have hcz18_3 : w16.cell? ⟨gb375, 3, none⟩ = some (.string (⟨#[]⟩ : ByteArray)) := (Qdi BK375.out 3).trans rfl; have hfz18_0 := Qdj BK375.out 0; have hfz18_1 := Qdj BK375.out 1; have hfz18_2 := Qdj BK375.out 2; have hfz18_3 := Qdj BK375.out 3) | ((with_reducible refine Qga (f := 22) rfl ?_); refine Qet (some 26) rfl rfl Tryz.func22 (by kernel_rfl) rfl #[.agg #[.bool ((Qgg l1 x20_1).f0), .int .u64 ((Qgg l1 x20_1).f1), .string ((Qgg l1 x20_1).f2), .string ((Qgg l1 x20_1).f3)]] rfl (by (try simp only [List.map_toArray, List.map_cons, List.map_nil]); first | done | rfl | (simp only [List.length_drop, List.length_take]; rfl)) ?_; (with_reducible refine (Qbh.calls k1 ((Qgg l1 x20_1).f0) ((Qgg l1 x20_1).f1) ((Qgg l1 x20_1).f2) ((Qgg l1 x20_1).f3) t376 _ A14.out).mono ?_); rintro e w19 ⟨rfl, hb⟩; refine ⟨_, rfl, ?_⟩; have n0_ := QA (Kd.R_below (by (with_reducible repeat (first | apply Kd.R_alloc | apply Kd.R_drewN | apply Kd.R_drew)); exact (Kd.R_mono (Kd.R_far (p := ⟨gb375, 3, none⟩) (Kd.R_far (p := ⟨gb375, 2, none⟩) (Kd.R_far (p := ⟨gb375, 1, none⟩) (Kd.R_far (p := ⟨gb375, 0, none⟩) (Kd.R_types HO_7.out BK375.out (by decide)) (fun _ hk => hk.2) (.bool ((Qgg l1 x20_1).f0))) (fun _ hk => hk.2) (.int .u64 ((Qgg l1 x20_1).f1))) (fun _ hk => hk.2) (.string ((Qgg l1 x20_1).f2))) (fun _ hk => hk.2) (.string ((Qgg l1 x20_1).f3))) (fun _ h_ => h_.1))) hb); have n1_ := QA (Qdr (g := gb371) (o := .cells #[.int .u8 a0_0, .int .u32 a0_1] 27 (0, 0)) (by (with_reducible repeat (first | apply Qdq | apply Qdp | apply Qdo)); refine Qdg ?_ NB371_375.out _; (with_reducible repeat (first | apply Qdq | apply Qdp | apply Qdo)); refine Qdg ?_ NB371_375.out _; (with_reducible repeat (first | apply Qdq | apply Qdp | apply Qdo)); refine Qdg ?_ NB371_375.out _; (with_reducible repeat (first | apply Qdq | apply Qdp | apply Qdo)); refine Qdg ?_ NB371_375.out _; (with_reducible repeat (first | apply Qdq | apply Qdp | apply Qdo)); exact BK371.out) hb); have n2_ := QA (Qdr (g := gb375) (o := .cells #[.bool ((Qgg l1 x20_1).f0), .int .u64 ((Qgg l1 x20_1).f1), .string ((Qgg l1 x20_1).f2), .string ((Qgg l1 x20_1).f3)] 39 (0, 0)) (by (with_reducible repeat (first | apply Qdq | apply Qdp | apply Qdo)); refine Qec (cs := #[.bool ((Qgg l1 x20_1).f0), .int .u64 ((Qgg l1 x20_1).f1), .string ((Qgg l1 x20_1).f2), .string (⟨#[]⟩ : ByteArray)]) ?_ 3 _ rfl; (with_reducible repeat (first | apply Qdq | apply Qdp | apply Qdo)); refine Qec (cs := #[.bool ((Qgg l1 x20_1).f0), .int .u64 ((Qgg l1 x20_1).f1), .string (⟨#[]⟩ : ByteArray), .string (⟨#[]⟩ : ByteArray)]) ?_ 2 _ rfl; (with_reducible repeat (first | apply Qdq | apply Qdp | apply Qdo)); refine Qec (cs := #[.bool ((Qgg l1 x20_1).f0), .int .u64 0, .string (⟨#[]⟩ : ByteArray), .string (⟨#[]⟩ : ByteArray)]) ?_ 1 _ rfl; (with_reducible repeat (first | apply Qdq | apply Qdp | apply Qdo)); refine Qec (cs := #[.bool false, .int .u64 0, .string (⟨#[]⟩ : ByteArray), .string (⟨#[]⟩ : ByteArray)]) ?_ 0 _ rfl; (with_reducible repeat (first | apply Qdq | apply Qdp | apply Qdo)); exact BK375.out) hb); have n3_ := QA (Qdy (by repeat (first | (with_reducible first | exact HB.out | apply Qcn | apply Qcp | apply Qed | refine Qdz ?_ GE371.out | refine Qdz ?_ GE375.out) | exact HB.out)) hb); clear HO_7; clear BK371; clear BK375; clear HB; have HO_7 := n0_; have BK371 := n1_; have BK375 := n2_; have HB := n3_; clear n0_ n1_ n2_ n3_; (try clear hb); (try clear hb2); (try clear hk); (try clear hi)) | ((with_reducible refine Qgb (b := .append) (xs := #[.tmp 24, .tmp 28]) rfl ?_); at_builtin; refine Kd.R_append (Kd.int .i64) (w0 := w) w.heap.size rfl (.tmp 24) (.tmp 28) 133 3 (.int .i64 0) 8 rfl Tryz.underlying133 info3 rfl (by decide) (by omega) u7 x7_1 (t376.size : Int) [.int .i64 (t376.size : Int)] (fun _ => True) (fun _ => False) rfl rfl ?aP (fun _ hk => hk.elim) ?aF ?aO ?aB ?aS ?aL ?_; (case aP => exact rfl); (case aB => exact (by repeat (first | (with_reducible first | exact HB.out | apply Qcn | apply Qcp | apply Qed | refine Qdz ?_ GE371.out | refine Qdz ?_ GE375.out) | exact HB.out))); (case aF => exact (fun _ _ => trivial)); (case aO => exact (by (with_reducible repeat (first | apply Kd.R_alloc | apply Kd.R_drewN | apply Kd.R_drew)); exact HO_7.out)); (case aS => exact (Qdx (by repeat (first | (with_reducible first | exact HB.out | apply Qcn | apply Qcp | apply Qed | refine Qdz ?_ GE371.out | refine Qdz ?_ GE375.out) | exact HB.out)))); (case aL => have := LMc15.out; omega); intro v378 w20 ho hb hg hat; rw [← Ny377.out] at ho; have n0_ := QA (Qdk (g := gb371) (o := .cells #[.int .u8 a0_0, .int .u32 a0_1] 27 (0, 0)) (by (with_reducible repeat (first | apply Qdq | apply Qdp | apply Qdo)); exact BK371.out) hg (Kd.R_ne HO_7.out BK371.out (by decide))); have n1_ := QA (Qdk (g := gb375) (o := .cells #[.bool ((Qgg l1 x20_1).f0), .int .u64 ((Qgg l1 x20_1).f1), .string ((Qgg l1 x20_1).f2), .string ((Qgg l1 x20_1).f3)] 39 (0, 0)) (by (with_reducible repeat (first | apply Qdq | apply Qdp | apply Qdo)); exact BK375.out) hg (Kd.R_ne HO_7.out BK375.out (by decide))); have n2_ := QA (hb); have n3_ := QA (ho); clear BK371; clear BK375; clear HB; clear HO_7; have BK371 := n0_; have BK375 := n1_; have HB := n2_; have HO379 := n3_; clear n0_ n1_ n2_ n3_; clear ho hb hg hat))
         go_roundg k1
         case measure => have := HK1.out; omega
         case rel => exact ⟨(y377), (wrap64 (x20_1 + 1)), (by first | rfl | (simp; done) | (simp [*]; done)), H', ⟨by have := HK1.out; omega⟩, ⟨by (with_reducible repeat (first | apply Kd.R_alloc | apply Kd.R_drewN | apply Kd.R_drew)); exact HO379.out⟩, ⟨by (with_reducible repeat (first | apply Qdq | apply Qdp | apply Qdo)); exact BK371.out⟩, ⟨by repeat (first | (with_reducible first | exact HB.out | apply Qcn | apply Qcp | apply Qed | refine Qdz ?_ GE371.out | refine Qdz ?_ GE375.out) | exact HB.out)⟩⟩
        ·rw [if_neg c15] at H
         exact absurd H (by simp)
       ·rw [if_neg c13] at H
        exact absurd H (by simp)
      ·rw [if_neg c12] at H
       exact absurd H (by simp)
     ·rw [if_neg c11] at H
      have c11b0 : decide (x20_1 < (l1.length : Int)) = false := decide_eq_false c11
      clear c11
      replace H := Option.bind_eq_some_iff.mp H
      obtain ⟨⟨t380, t383⟩, A210, H⟩ := H
      replace H : (some (t380, t383)) = some (r1, r2) := H
      have A21 := QA A210
      clear A210
      simp only [Option.some.injEq, Prod.mk.injEq] at H
      obtain ⟨rfl, rfl⟩ := H
      have hcz22_0 : wr.cell? ⟨gb371, 0, none⟩ = some (.int .u8 a0_0) := (Qdi BK371.out 0).trans rfl
      have hcz22_1 : wr.cell? ⟨gb371, 1, none⟩ = some (.int .u32 a0_1) := (Qdi BK371.out 1).trans rfl
      have hfz22_0 := Qdj BK371.out 0
      have hfz22_1 := Qdj BK371.out 1
      obtain ⟨Ao23, co23, eo23⟩ := Kd.R_slice HO_7.out
      subst eo23
      go_wp2_with (first | ((with_reducible refine Qga (f := 77) rfl ?_); refine Qet (some 33) rfl rfl Tryz.func77 (by kernel_rfl) rfl #[.agg #[.int .u8 a0_0, .int .u32 a0_1], .slice Ao23 x7_1.length co23] rfl (by (try simp only [List.map_toArray, List.map_cons, List.map_nil]); first | done | rfl | (simp only [List.length_drop, List.length_take]; rfl)) ?_; (with_reducible refine (Qbm.calls k1 a0_0 a0_1 _ _ x7_1 t380 t383 _ ?side1 ?side2 A21.out).mono ?_); (case side1 => repeat (first | exact (Kd.R_reads' HO_7.out).2.2 | (with_reducible refine Kd.C_alloc ?_ _) | (with_reducible refine Kd.C_drewN ?_ _) | (with_reducible refine Kd.C_drew ?_))); (case side2 => exact (Kd.R_reads' HO_7.out).2.1); rintro e w24 ⟨v381, rfl, ho0, hb⟩; refine ⟨_, rfl, ?_⟩; have n0_ := QA (Kd.R_below (by (with_reducible repeat (first | apply Kd.R_alloc | apply Kd.R_drewN | apply Kd.R_drew)); exact HO_7.out) hb); have n1_ := QA (Kd.R_lower ho0 (Qdx (by repeat (first | (with_reducible first | exact HB.out | apply Qcn | apply Qcp | apply Qed | refine Qdz ?_ GE371.out) | exact HB.out)))); have n2_ := QA (Qdr (g := gb371) (o := .cells #[.int .u8 a0_0, .int .u32 a0_1] 27 (0, 0)) (by (with_reducible repeat (first | apply Qdq | apply Qdp | apply Qdo)); exact BK371.out) hb); have n3_ := QA (Qdy (by repeat (first | (with_reducible first | exact HB.out | apply Qcn | apply Qcp | apply Qed | refine Qdz ?_ GE371.out) | exact HB.out)) hb); clear HO_7; clear BK371; clear HB; have HO_7 := n0_; have HO382 := n1_; have BK371 := n2_; have HB := n3_; clear n0_ n1_ n2_ n3_; (try clear hb); (try clear hb2); (try clear hk); (try clear hi); (try clear ho0)))
      go_ret2
      exact ⟨_, by first | rfl | (simp [Qgd, Qge] <;> rfl) | (simp [*, Qgd, Qge] <;> rfl), by (with_reducible repeat (first | apply Kd.R_alloc | apply Kd.R_drewN | apply Kd.R_drew)); exact HO382.out, by repeat (first | (with_reducible first | exact HB.out | apply Qcn | apply Qcp | apply Qed | refine Qdz ?_ GE371.out) | exact HB.out)⟩
  ·rw [if_neg c6] at H
   have c6b0 : (t373 == 0) = false := beq_eq_false_iff_ne.mpr c6
   have c6b1 : (t373 != 0) = true := bne_iff_ne.mpr c6
   simp only [Option.some.injEq, Prod.mk.injEq] at H
   obtain ⟨rfl, rfl⟩ := H
   go_enter Tryz.func39, Tryz.ntmps39
   go_wp2_with (first | ((with_reducible refine Qef (N := 2) rfl ?_); refine Qee ?hg (N := 2) ?hd (cs := #[.int .u8 a0_0, .int .u32 a0_1]) (t := 27) ?hr ?_; (case hd => rfl); (case hg => rfl); (case hr => first | (go_simp; done) | (go_simp; rfl)); intro gb371 hg w25 hbox hb; have n0_ := QA (Qdy (by repeat (first | (with_reducible first | exact HB.out | apply Qcn | apply Qcp | apply Qed) | exact HB.out)) hb); have n1_ := QA (hbox); have n2_ := QA ((by rw [hg]; exact (Qdx (by repeat (first | (with_reducible first | exact HB.out | apply Qcn | apply Qcp | apply Qed) | exact HB.out))) : w.heap.size ≤ gb371)); have n3_ := QA ((by rw [hg]; exact (Qdx (by repeat (first | (with_reducible first | exact HB.out | apply Qcn | apply Qcp | apply Qed) | exact HB.out))) : w.heap.size ≤ gb371)); clear HB; have HB := n0_; have BK371 := n1_; have GW371 := n2_; have GE371 := n3_; clear n0_ n1_ n2_ n3_; clear hb hbox hg; have hcz26_0 : w25.cell? ⟨gb371, 0, none⟩ = some (.int .u8 a0_0) := (Qdi BK371.out 0).trans rfl; have hcz26_1 : w25.cell? ⟨gb371, 1, none⟩ = some (.int .u32 a0_1) := (Qdi BK371.out 1).trans rfl; have hfz26_0 := Qdj BK371.out 0; have hfz26_1 := Qdj BK371.out 1) | ((with_reducible refine Qga (f := 54) rfl ?_); refine Qet (some 11) rfl rfl Tryz.func54 (by kernel_rfl) rfl #[.agg #[.int .u8 a0_0, .int .u32 a0_1]] rfl (by (try simp only [List.map_toArray, List.map_cons, List.map_nil]); first | done | rfl | (simp only [List.length_drop, List.length_take]; rfl)) ?_; (with_reducible refine (Qbe.calls a0_0 a0_1 true _ A3.out).mono ?_); rintro e w27 ⟨rfl, hb⟩; refine ⟨_, rfl, ?_⟩; have n0_ := QA (Qdr (g := gb371) (o := .cells #[.int .u8 a0_0, .int .u32 a0_1] 27 (0, 0)) (by (with_reducible repeat (first | apply Qdq | apply Qdp | apply Qdo)); exact BK371.out) hb); have n1_ := QA (Qdy (by repeat (first | (with_reducible first | exact HB.out | apply Qcn | apply Qcp | apply Qed | refine Qdz ?_ GE371.out) | exact HB.out)) hb); clear BK371; clear HB; have BK371 := n0_; have HB := n1_; clear n0_ n1_; (try clear hb); (try clear hb2); (try clear hk); (try clear hi)) | ((with_reducible refine Qga (f := 76) rfl ?_); refine Qet (some 14) rfl rfl Tryz.func76 (by kernel_rfl) rfl #[.slice A1 l1.length c1] rfl (by (try simp only [List.map_toArray, List.map_cons, List.map_nil]); first | done | rfl | (simp only [List.length_drop, List.length_take]; rfl)) ?_; (with_reducible refine (Qbd.calls k _ _ l1 t373 _ ?side1 ?side2 A5.out).mono ?_); (case side1 => repeat (first | exact (Kd.C_below HR1.out HB.out) | (with_reducible refine Kd.C_alloc ?_ _) | (with_reducible refine Kd.C_drewN ?_ _) | (with_reducible refine Kd.C_drew ?_))); (case side2 => exact HC1.out); rintro e w28 ⟨rfl, hb⟩; refine ⟨_, rfl, ?_⟩; have n0_ := QA (Qdr (g := gb371) (o := .cells #[.int .u8 a0_0, .int .u32 a0_1] 27 (0, 0)) (by (with_reducible repeat (first | apply Qdq | apply Qdp | apply Qdo)); exact BK371.out) hb); have n1_ := QA (Qdy (by repeat (first | (with_reducible first | exact HB.out | apply Qcn | apply Qcp | apply Qed | refine Qdz ?_ GE371.out) | exact HB.out)) hb); clear BK371; clear HB; have BK371 := n0_; have HB := n1_; clear n0_ n1_; (try clear hb); (try clear hb2); (try clear hk); (try clear hi)))
   go_ret2
   exact ⟨_, by first | rfl | (simp [Qgd, Qge] <;> rfl) | (simp [*, Qgd, Qge] <;> rfl), by first | exact Kd.R_nil _ _ _ _ _ | exact Kd.N_nil _ _ _ _ _ | exact Kd.V_nil _ _ _ _ _ | exact Kd.Q_nil _ _ _ _ _ | exact Kd.S_nil _ _ _ _ _, by repeat (first | (with_reducible first | exact HB.out | apply Qcn | apply Qcp | apply Qed | refine Qdz ?_ GE371.out) | exact HB.out)⟩
 ·replace c4 := Bool.eq_false_iff.mpr c4
  subst c4
  have H1 : (some (([] : List Int), 1)) = some (r1, r2) := by rw [if_neg (show ¬ (false = true) by decide)] at H; exact H
  clear H
  have H := H1
  clear H1
  simp only [Option.some.injEq, Prod.mk.injEq] at H
  obtain ⟨rfl, rfl⟩ := H
  go_enter Tryz.func39, Tryz.ntmps39
  go_wp2_with (first | ((with_reducible refine Qef (N := 2) rfl ?_); refine Qee ?hg (N := 2) ?hd (cs := #[.int .u8 a0_0, .int .u32 a0_1]) (t := 27) ?hr ?_; (case hd => rfl); (case hg => rfl); (case hr => first | (go_simp; done) | (go_simp; rfl)); intro gb371 hg w29 hbox hb; have n0_ := QA (Qdy (by repeat (first | (with_reducible first | exact HB.out | apply Qcn | apply Qcp | apply Qed) | exact HB.out)) hb); have n1_ := QA (hbox); have n2_ := QA ((by rw [hg]; exact (Qdx (by repeat (first | (with_reducible first | exact HB.out | apply Qcn | apply Qcp | apply Qed) | exact HB.out))) : w.heap.size ≤ gb371)); have n3_ := QA ((by rw [hg]; exact (Qdx (by repeat (first | (with_reducible first | exact HB.out | apply Qcn | apply Qcp | apply Qed) | exact HB.out))) : w.heap.size ≤ gb371)); clear HB; have HB := n0_; have BK371 := n1_; have GW371 := n2_; have GE371 := n3_; clear n0_ n1_ n2_ n3_; clear hb hbox hg; have hcz30_0 : w29.cell? ⟨gb371, 0, none⟩ = some (.int .u8 a0_0) := (Qdi BK371.out 0).trans rfl; have hcz30_1 : w29.cell? ⟨gb371, 1, none⟩ = some (.int .u32 a0_1) := (Qdi BK371.out 1).trans rfl; have hfz30_0 := Qdj BK371.out 0; have hfz30_1 := Qdj BK371.out 1) | ((with_reducible refine Qga (f := 54) rfl ?_); refine Qet (some 11) rfl rfl Tryz.func54 (by kernel_rfl) rfl #[.agg #[.int .u8 a0_0, .int .u32 a0_1]] rfl (by (try simp only [List.map_toArray, List.map_cons, List.map_nil]); first | done | rfl | (simp only [List.length_drop, List.length_take]; rfl)) ?_; (with_reducible refine (Qbe.calls a0_0 a0_1 false _ A3.out).mono ?_); rintro e w31 ⟨rfl, hb⟩; refine ⟨_, rfl, ?_⟩; have n0_ := QA (Qdr (g := gb371) (o := .cells #[.int .u8 a0_0, .int .u32 a0_1] 27 (0, 0)) (by (with_reducible repeat (first | apply Qdq | apply Qdp | apply Qdo)); exact BK371.out) hb); have n1_ := QA (Qdy (by repeat (first | (with_reducible first | exact HB.out | apply Qcn | apply Qcp | apply Qed | refine Qdz ?_ GE371.out) | exact HB.out)) hb); clear BK371; clear HB; have BK371 := n0_; have HB := n1_; clear n0_ n1_; (try clear hb); (try clear hb2); (try clear hk); (try clear hi)))
  go_ret2
  exact ⟨_, by first | rfl | (simp [Qgd, Qge] <;> rfl) | (simp [*, Qgd, Qge] <;> rfl), by first | exact Kd.R_nil _ _ _ _ _ | exact Kd.N_nil _ _ _ _ _ | exact Kd.V_nil _ _ _ _ _ | exact Kd.Q_nil _ _ _ _ _ | exact Kd.S_nil _ _ _ _ _, by repeat (first | (with_reducible first | exact HB.out | apply Qcn | apply Qcp | apply Qed | refine Qdz ?_ GE371.out) | exact HB.out)⟩
def Qak.f (a0_0 : Int) (a0_1 : Int) : Option (Int) := if a0_0 < 12 then (some 1) else (if a0_0 > 24 then (some 1) else (if a0_1 < 1 then (some 1) else (if a0_1 > 65536 then (some 1) else (some 0))))
set_option maxHeartbeats 8000000 in
set_option maxRecDepth 100000 in
theorem Qak.calls (a0_0 : Int) (a0_1 : Int) (r : Int) (w : World) (h : Qak.f a0_0 a0_1 = some r) :
  Calls Tryz.prog 85 #[.agg #[.int .u8 a0_0, .int .u32 a0_1]] w fun e w' => e = .returned (.int .i64 r) ∧ Below w.heap.size w w' := by
 have hu27 := Tryz.underlying27
 have HB := QA (Below.refl w.heap.size w)
 have H : (if a0_0 < 12 then (some 1) else (if a0_0 > 24 then (some 1) else (if a0_1 < 1 then (some 1) else (if a0_1 > 65536 then (some 1) else (some 0))))) = some r := h
 clear h
 by_cases c2 : a0_0 < 12
 ·rw [if_pos c2] at H
  have c2b0 : decide (a0_0 < 12) = true := decide_eq_true c2
  clear c2
  obtain rfl := Option.some.inj H
  go_enter Tryz.func85, Tryz.ntmps85
  go_wp2_with (first | ((with_reducible refine Qef (N := 1) rfl ?_); refine Qee ?hg (N := 1) ?hd (cs := #[.int .u8 a0_0, .int .u32 a0_1]) (t := 27) ?hr ?_; (case hd => rfl); (case hg => rfl); (case hr => first | (go_simp; done) | (go_simp; rfl)); intro gb103 hg w3 hbox hb; have n0_ := QA (Qdy (by repeat (first | (with_reducible first | exact HB.out | apply Qcn | apply Qcp | apply Qed) | exact HB.out)) hb); have n1_ := QA (hbox); have n2_ := QA ((by rw [hg]; exact (Qdx (by repeat (first | (with_reducible first | exact HB.out | apply Qcn | apply Qcp | apply Qed) | exact HB.out))) : w.heap.size ≤ gb103)); have n3_ := QA ((by rw [hg]; exact (Qdx (by repeat (first | (with_reducible first | exact HB.out | apply Qcn | apply Qcp | apply Qed) | exact HB.out))) : w.heap.size ≤ gb103)); clear HB; have HB := n0_; have BK103 := n1_; have GW103 := n2_; have GE103 := n3_; clear n0_ n1_ n2_ n3_; clear hb hbox hg; have hcz4_0 : w3.cell? ⟨gb103, 0, none⟩ = some (.int .u8 a0_0) := (Qdi BK103.out 0).trans rfl; have hcz4_1 : w3.cell? ⟨gb103, 1, none⟩ = some (.int .u32 a0_1) := (Qdi BK103.out 1).trans rfl; have hfz4_0 := Qdj BK103.out 0; have hfz4_1 := Qdj BK103.out 1))
  go_ret
  exact ⟨by first | rfl | (simp [Qgd, Qge] <;> rfl) | (simp [*, Qgd, Qge] <;> rfl), by repeat (first | (with_reducible first | exact HB.out | apply Qcn | apply Qcp | apply Qed | refine Qdz ?_ GE103.out) | exact HB.out)⟩
 ·rw [if_neg c2] at H
  have c2b0 : decide (a0_0 < 12) = false := decide_eq_false c2
  clear c2
  by_cases c5 : a0_0 > 24
  ·rw [if_pos c5] at H
   have c5b0 : decide (24 < a0_0) = true := decide_eq_true c5
   clear c5
   obtain rfl := Option.some.inj H
   go_enter Tryz.func85, Tryz.ntmps85
   go_wp2_with (first | ((with_reducible refine Qef (N := 1) rfl ?_); refine Qee ?hg (N := 1) ?hd (cs := #[.int .u8 a0_0, .int .u32 a0_1]) (t := 27) ?hr ?_; (case hd => rfl); (case hg => rfl); (case hr => first | (go_simp; done) | (go_simp; rfl)); intro gb103 hg w6 hbox hb; have n0_ := QA (Qdy (by repeat (first | (with_reducible first | exact HB.out | apply Qcn | apply Qcp | apply Qed) | exact HB.out)) hb); have n1_ := QA (hbox); have n2_ := QA ((by rw [hg]; exact (Qdx (by repeat (first | (with_reducible first | exact HB.out | apply Qcn | apply Qcp | apply Qed) | exact HB.out))) : w.heap.size ≤ gb103)); have n3_ := QA ((by rw [hg]; exact (Qdx (by repeat (first | (with_reducible first | exact HB.out | apply Qcn | apply Qcp | apply Qed) | exact HB.out))) : w.heap.size ≤ gb103)); clear HB; have HB := n0_; have BK103 := n1_; have GW103 := n2_; have GE103 := n3_; clear n0_ n1_ n2_ n3_; clear hb hbox hg; have hcz7_0 : w6.cell? ⟨gb103, 0, none⟩ = some (.int .u8 a0_0) := (Qdi BK103.out 0).trans rfl; have hcz7_1 : w6.cell? ⟨gb103, 1, none⟩ = some (.int .u32 a0_1) := (Qdi BK103.out 1).trans rfl; have hfz7_0 := Qdj BK103.out 0; have hfz7_1 := Qdj BK103.out 1))
   go_ret
   exact ⟨by first | rfl | (simp [Qgd, Qge] <;> rfl) | (simp [*, Qgd, Qge] <;> rfl), by repeat (first | (with_reducible first | exact HB.out | apply Qcn | apply Qcp | apply Qed | refine Qdz ?_ GE103.out) | exact HB.out)⟩
  ·rw [if_neg c5] at H
   have c5b0 : decide (24 < a0_0) = false := decide_eq_false c5
   clear c5
   by_cases c8 : a0_1 < 1
   ·rw [if_pos c8] at H
    have c8b0 : decide (a0_1 < 1) = true := decide_eq_true c8
    clear c8
    obtain rfl := Option.some.inj H
    go_enter Tryz.func85, Tryz.ntmps85
    go_wp2_with (first | ((with_reducible refine Qef (N := 1) rfl ?_); refine Qee ?hg (N := 1) ?hd (cs := #[.int .u8 a0_0, .int .u32 a0_1]) (t := 27) ?hr ?_; (case hd => rfl); (case hg => rfl); (case hr => first | (go_simp; done) | (go_simp; rfl)); intro gb103 hg w9 hbox hb; have n0_ := QA (Qdy (by repeat (first | (with_reducible first | exact HB.out | apply Qcn | apply Qcp | apply Qed) | exact HB.out)) hb); have n1_ := QA (hbox); have n2_ := QA ((by rw [hg]; exact (Qdx (by repeat (first | (with_reducible first | exact HB.out | apply Qcn | apply Qcp | apply Qed) | exact HB.out))) : w.heap.size ≤ gb103)); have n3_ := QA ((by rw [hg]; exact (Qdx (by repeat (first | (with_reducible first | exact HB.out | apply Qcn | apply Qcp | apply Qed) | exact HB.out))) : w.heap.size ≤ gb103)); clear HB; have HB := n0_; have BK103 := n1_; have GW103 := n2_; have GE103 := n3_; clear n0_ n1_ n2_ n3_; clear hb hbox hg; have hcz10_0 : w9.cell? ⟨gb103, 0, none⟩ = some (.int .u8 a0_0) := (Qdi BK103.out 0).trans rfl; have hcz10_1 : w9.cell? ⟨gb103, 1, none⟩ = some (.int .u32 a0_1) := (Qdi BK103.out 1).trans rfl; have hfz10_0 := Qdj BK103.out 0; have hfz10_1 := Qdj BK103.out 1))
    go_ret
    exact ⟨by first | rfl | (simp [Qgd, Qge] <;> rfl) | (simp [*, Qgd, Qge] <;> rfl), by repeat (first | (with_reducible first | exact HB.out | apply Qcn | apply Qcp | apply Qed | refine Qdz ?_ GE103.out) | exact HB.out)⟩
   ·rw [if_neg c8] at H
    have c8b0 : decide (a0_1 < 1) = false := decide_eq_false c8
    clear c8
    by_cases c11 : a0_1 > 65536
    ·rw [if_pos c11] at H
     have c11b0 : decide (65536 < a0_1) = true := decide_eq_true c11
     clear c11
     obtain rfl := Option.some.inj H
     go_enter Tryz.func85, Tryz.ntmps85
     go_wp2_with (first | ((with_reducible refine Qef (N := 1) rfl ?_); refine Qee ?hg (N := 1) ?hd (cs := #[.int .u8 a0_0, .int .u32 a0_1]) (t := 27) ?hr ?_; (case hd => rfl); (case hg => rfl); (case hr => first | (go_simp; done) | (go_simp; rfl)); intro gb103 hg w12 hbox hb; have n0_ := QA (Qdy (by repeat (first | (with_reducible first | exact HB.out | apply Qcn | apply Qcp | apply Qed) | exact HB.out)) hb); have n1_ := QA (hbox); have n2_ := QA ((by rw [hg]; exact (Qdx (by repeat (first | (with_reducible first | exact HB.out | apply Qcn | apply Qcp | apply Qed) | exact HB.out))) : w.heap.size ≤ gb103)); have n3_ := QA ((by rw [hg]; exact (Qdx (by repeat (first | (with_reducible first | exact HB.out | apply Qcn | apply Qcp | apply Qed) | exact HB.out))) : w.heap.size ≤ gb103)); clear HB; have HB := n0_; have BK103 := n1_; have GW103 := n2_; have GE103 := n3_; clear n0_ n1_ n2_ n3_; clear hb hbox hg; have hcz13_0 : w12.cell? ⟨gb103, 0, none⟩ = some (.int .u8 a0_0) := (Qdi BK103.out 0).trans rfl; have hcz13_1 : w12.cell? ⟨gb103, 1, none⟩ = some (.int .u32 a0_1) := (Qdi BK103.out 1).trans rfl; have hfz13_0 := Qdj BK103.out 0; have hfz13_1 := Qdj BK103.out 1))
     go_ret
     exact ⟨by first | rfl | (simp [Qgd, Qge] <;> rfl) | (simp [*, Qgd, Qge] <;> rfl), by repeat (first | (with_reducible first | exact HB.out | apply Qcn | apply Qcp | apply Qed | refine Qdz ?_ GE103.out) | exact HB.out)⟩
    ·rw [if_neg c11] at H
     have c11b0 : decide (65536 < a0_1) = false := decide_eq_false c11
     clear c11
     obtain rfl := Option.some.inj H
     go_enter Tryz.func85, Tryz.ntmps85
     go_wp2_with (first | ((with_reducible refine Qef (N := 1) rfl ?_); refine Qee ?hg (N := 1) ?hd (cs := #[.int .u8 a0_0, .int .u32 a0_1]) (t := 27) ?hr ?_; (case hd => rfl); (case hg => rfl); (case hr => first | (go_simp; done) | (go_simp; rfl)); intro gb103 hg w14 hbox hb; have n0_ := QA (Qdy (by repeat (first | (with_reducible first | exact HB.out | apply Qcn | apply Qcp | apply Qed) | exact HB.out)) hb); have n1_ := QA (hbox); have n2_ := QA ((by rw [hg]; exact (Qdx (by repeat (first | (with_reducible first | exact HB.out | apply Qcn | apply Qcp | apply Qed) | exact HB.out))) : w.heap.size ≤ gb103)); have n3_ := QA ((by rw [hg]; exact (Qdx (by repeat (first | (with_reducible first | exact HB.out | apply Qcn | apply Qcp | apply Qed) | exact HB.out))) : w.heap.size ≤ gb103)); clear HB; have HB := n0_; have BK103 := n1_; have GW103 := n2_; have GE103 := n3_; clear n0_ n1_ n2_ n3_; clear hb hbox hg; have hcz15_0 : w14.cell? ⟨gb103, 0, none⟩ = some (.int .u8 a0_0) := (Qdi BK103.out 0).trans rfl; have hcz15_1 : w14.cell? ⟨gb103, 1, none⟩ = some (.int .u32 a0_1) := (Qdi BK103.out 1).trans rfl; have hfz15_0 := Qdj BK103.out 0; have hfz15_1 := Qdj BK103.out 1))
     go_ret
     exact ⟨by first | rfl | (simp [Qgd, Qge] <;> rfl) | (simp [*, Qgd, Qge] <;> rfl), by repeat (first | (with_reducible first | exact HB.out | apply Qcn | apply Qcp | apply Qed | refine Qdz ?_ GE103.out) | exact HB.out)⟩
end Go.Proofs.YtnnofopfbeklbaaGreat.C
end
