/- Texts of this claim's author and of the print of its functions, merged by merge.py. -/
import Derived.Test.YtnnofopfbeklbaaGreatMC02
import Derived.Test.YtnnofopfbeklbaaGreatMC07
import Derived.Test.YtnnofopfbeklbaaGreatMC11
import Derived.Test.YtnnofopfbeklbaaGreatMC13
import Derived.Test.YtnnofopfbeklbaaGreatMC14
set_option linter.unusedVariables false
set_option linter.unusedSimpArgs false
section
namespace Go.Proofs.YtnnofopfbeklbaaGreat.C
open Go.RowKit Go.Proofs.YtnnofopfbeklbaaGreatW.PrintWords Go.Proofs.YtnnofopfbeklbaaGreatW.PrintLast Go.Proofs.YtnnofopfbeklbaaGreatW.PrintMore
attribute [local go_sem] Qfg Qfh Qfi Qfj Qfk Qfl Qfm Qfn
def Qbo.l0 : Nat → List Int → List (S39) → Int → Int → Int → Int → Option (List Int × List Int × Int)
 | 0, _, _, _, _, _, _ => none
 | k + 1, x5, x23, x24, x25, x193000, x193001 => if x25 < x24 then (if 0 ≤ x25 then (if x25 < (x23.length : Int) then ((Qbh.f ((Qfu x23 x25).f0) ((Qfu x23 x25).f1) ((Qfu x23 x25).f2) ((Qfu x23 x25).f3)).bind fun bt197 => (if x5.length < 17592186044416 then (Qbo.l0 k (x5 ++ [(bt197.1.length : Int)]) x23 x24 (wrap64 (x25 + 1)) x193000 x193001) else (none))) else (none)) else (none)) else ((Qbq.f k x193000 x193001 x5).bind fun bt204 => (some (bt204.1, x5, bt204.2)))
def Qbo.f (k : Nat) (a0_0 : Int) (a0_1 : Int) (l1 : List (S39)) : Option (List Int × List Int × Int) := (Qak.f a0_0 a0_1).bind fun t193 => (if t193 = 0 then ((Qbx.f k l1).bind fun t194 => (if t194 = 0 then (Qbo.l0 k ([] : List Int) l1 (l1.length : Int) 0 a0_0 a0_1) else (some (([] : List Int), ([] : List Int), t194)))) else (some (([] : List Int), ([] : List Int), t193)))
set_option maxHeartbeats 8000000 in
set_option maxRecDepth 100000 in
theorem Qbo.calls (k : Nat) (a0_0 : Int) (a0_1 : Int) (A1 : Option Addr) (c1 : Nat) (l1 : List (S39)) (r1 : List Int) (r2 : List Int) (r3 : Int) (w : World) (hr1 : Kd.C k39 w A1 l1.length l1) (hc1 : l1.length ≤ c1) (h : Qbo.f k a0_0 a0_1 l1 = some (r1, r2, r3)) :
  Calls Tryz.prog 73 #[.agg #[.int .u8 a0_0, .int .u32 a0_1], .slice A1 l1.length c1] w fun e w' => ∃ v0_ v1_ : Value, e = .returned (.tuple #[v0_, v1_, .int .i64 r3]) ∧ Kd.R (Kd.int .u32) 22 w' w.heap.size (fun _ => True) v0_ r1 ∧ Kd.R (Kd.int .i64) 3 w' w.heap.size (fun _ => True) v1_ r2 ∧ Below w.heap.size w w' := by
 have hu27 := Tryz.underlying27
 have hu39 := Tryz.underlying39
 have HR1 := QA hr1
 have HC1 := QA hc1
 clear hr1 hc1
 have HB := QA (Below.refl w.heap.size w)
 have H : ((Qak.f a0_0 a0_1).bind fun t193 => (if t193 = 0 then ((Qbx.f k l1).bind fun t194 => (if t194 = 0 then (Qbo.l0 k ([] : List Int) l1 (l1.length : Int) 0 a0_0 a0_1) else (some (([] : List Int), ([] : List Int), t194)))) else (some (([] : List Int), ([] : List Int), t193)))) = some (r1, r2, r3) := h
 clear h
 replace H := Option.bind_eq_some_iff.mp H
 obtain ⟨t193, A30, H⟩ := H
 replace H : (if t193 = 0 then ((Qbx.f k l1).bind fun t194 => (if t194 = 0 then (Qbo.l0 k ([] : List Int) l1 (l1.length : Int) 0 a0_0 a0_1) else (some (([] : List Int), ([] : List Int), t194)))) else (some (([] : List Int), ([] : List Int), t193))) = some (r1, r2, r3) := H
 have A3 := QA A30
 clear A30
 by_cases c4 : t193 = 0
 ·rw [if_pos c4] at H
  have c4b0 : (t193 == 0) = true := beq_iff_eq.mpr c4
  have c4b1 : (t193 != 0) = false := bne_eq_false_iff_eq.mpr c4
  clear c4
  replace H := Option.bind_eq_some_iff.mp H
  obtain ⟨t194, A50, H⟩ := H
  replace H : (if t194 = 0 then (Qbo.l0 k ([] : List Int) l1 (l1.length : Int) 0 a0_0 a0_1) else (some (([] : List Int), ([] : List Int), t194))) = some (r1, r2, r3) := H
  have A5 := QA A50
  clear A50
  by_cases c6 : t194 = 0
  ·rw [if_pos c6] at H
   have c6b0 : (t194 == 0) = true := beq_iff_eq.mpr c6
   have c6b1 : (t194 != 0) = false := bne_eq_false_iff_eq.mpr c6
   clear c6
   have H' := QA H
   clear H
   go_enter Tryz.func73, Tryz.ntmps73
   go_wp2_with (first | ((with_reducible refine Qdw (N := 2) rfl ?_); refine Qdv ?hg (N := 2) ?hd (cs := #[.int .u8 a0_0, .int .u32 a0_1]) (t := 27) ?hr ?_; (case hd => rfl); (case hg => rfl); (case hr => first | (go_simp; done) | (go_simp; rfl)); intro gb192 hg w7 hbox hb; have n0_ := QA (Qdo (by repeat (first | (with_reducible first | exact HB.out | apply Qcc | apply Qce | apply Qdt) | exact HB.out)) hb); have n1_ := QA (hbox); have n2_ := QA ((by rw [hg]; exact (Qdn (by repeat (first | (with_reducible first | exact HB.out | apply Qcc | apply Qce | apply Qdt) | exact HB.out))) : w.heap.size ≤ gb192)); have n3_ := QA ((by rw [hg]; exact (Qdn (by repeat (first | (with_reducible first | exact HB.out | apply Qcc | apply Qce | apply Qdt) | exact HB.out))) : w.heap.size ≤ gb192)); clear HB; have HB := n0_; have BK192 := n1_; have GW192 := n2_; have GE192 := n3_; clear n0_ n1_ n2_ n3_; clear hb hbox hg; have hcz8_0 : w7.cell? ⟨gb192, 0, none⟩ = some (.int .u8 a0_0) := (Qcx BK192.out 0).trans rfl; have hcz8_1 : w7.cell? ⟨gb192, 1, none⟩ = some (.int .u32 a0_1) := (Qcx BK192.out 1).trans rfl; have hfz8_0 := Qcy BK192.out 0; have hfz8_1 := Qcy BK192.out 1) | ((with_reducible refine Qfo (f := 85) rfl ?_); refine Qej (some 14) rfl rfl Tryz.func85 (by kernel_rfl) rfl #[.agg #[.int .u8 a0_0, .int .u32 a0_1]] rfl (by (try simp only [List.map_toArray, List.map_cons, List.map_nil]); first | done | rfl | (simp only [List.length_drop, List.length_take]; rfl)) ?_; (with_reducible refine (Qak.calls a0_0 a0_1 t193 _ A3.out).mono ?_); rintro e w9 ⟨rfl, hb⟩; refine ⟨_, rfl, ?_⟩; have n0_ := QA (Qdg (g := gb192) (o := .cells #[.int .u8 a0_0, .int .u32 a0_1] 27 (0, 0)) (by (with_reducible repeat (first | apply Qdf | apply Qde | apply Qdd)); exact BK192.out) hb); have n1_ := QA (Qdo (by repeat (first | (with_reducible first | exact HB.out | apply Qcc | apply Qce | apply Qdt | refine Qdp ?_ GE192.out) | exact HB.out)) hb); clear BK192; clear HB; have BK192 := n0_; have HB := n1_; clear n0_ n1_; (try clear hb); (try clear hb2); (try clear hk); (try clear hi)) | ((with_reducible refine Qfo (f := 124) rfl ?_); refine Qej (some 19) rfl rfl Tryz.func124 (by kernel_rfl) rfl #[.slice A1 l1.length c1] rfl (by (try simp only [List.map_toArray, List.map_cons, List.map_nil]); first | done | rfl | (simp only [List.length_drop, List.length_take]; rfl)) ?_; (with_reducible refine (Qbx.calls k _ _ l1 t194 _ ?side1 ?side2 A5.out).mono ?_); (case side1 => repeat (first | exact (Kd.C_below HR1.out HB.out) | (with_reducible refine Kd.C_alloc ?_ _) | (with_reducible refine Kd.C_drewN ?_ _) | (with_reducible refine Kd.C_drew ?_))); (case side2 => exact HC1.out); rintro e w10 ⟨rfl, hb⟩; refine ⟨_, rfl, ?_⟩; have n0_ := QA (Qdg (g := gb192) (o := .cells #[.int .u8 a0_0, .int .u32 a0_1] 27 (0, 0)) (by (with_reducible repeat (first | apply Qdf | apply Qde | apply Qdd)); exact BK192.out) hb); have n1_ := QA (Qdo (by repeat (first | (with_reducible first | exact HB.out | apply Qcc | apply Qce | apply Qdt | refine Qdp ?_ GE192.out) | exact HB.out)) hb); clear BK192; clear HB; have BK192 := n0_; have HB := n1_; clear n0_ n1_; (try clear hb); (try clear hb2); (try clear hk); (try clear hi)))
   go_loopg [5, 25] k (fun kq v5 v25 w' => ∃ (x5_1 : List Int) (x25_1 : Int), v25 = .int .i64 x25_1 ∧ Aside0 (Qbo.l0 kq x5_1 l1 (l1.length : Int) x25_1 a0_0 a0_1 = some (r1, r2, r3)) ∧ Aside0 (kq ≤ k) ∧ Aside0 (Kd.R (Kd.int .i64) 3 w' w.heap.size (fun _ => True) v5 x5_1) ∧ Aside0 (w'.heap[gb192]? = some (.cells #[.int .u8 a0_0, .int .u32 a0_1] 27 (0, 0))) ∧ Aside0 (Below w.heap.size w w'))
   case atStart => exact ⟨(([] : List Int)), (0), (by first | rfl | (simp; done) | (simp [*]; done)), H', ⟨Nat.le_refl _⟩, ⟨by first | exact Kd.R_nil _ _ _ _ _ | exact Kd.N_nil _ _ _ _ _ | exact Kd.V_nil _ _ _ _ _ | exact Kd.Q_nil _ _ _ _ _ | exact Kd.S_nil _ _ _ _ _⟩, ⟨by (with_reducible repeat (first | apply Qdf | apply Qde | apply Qdd)); exact BK192.out⟩, ⟨by repeat (first | (with_reducible first | exact HB.out | apply Qcc | apply Qce | apply Qdt | refine Qdp ?_ GE192.out) | exact HB.out)⟩⟩
   case round =>
    clear H'
    try clear c1
    try clear c4
    try clear c4b0
    try clear c4b1
    try clear c6
    try clear c6b0
    try clear c6b1
    try clear hcz8_0
    try clear hcz8_1
    try clear hfz8_0
    try clear hfz8_1
    obtain ⟨x5_1, x25_1, rfl, HA, HK1, HO_5, BK192, HB⟩ := hrel
    cases gk with
    | zero => exact absurd HA.out (by simp [Qbo.l0])
    | succ k1 =>
     have H := HA.out
     clear HA
     simp only [Qbo.l0] at H
     by_cases c11 : x25_1 < (l1.length : Int)
     ·rw [if_pos c11] at H
      have c11b0 : decide (x25_1 < (l1.length : Int)) = true := decide_eq_true c11
      clear c11
      by_cases c12 : 0 ≤ x25_1
      ·rw [if_pos c12] at H
       have c12b0 : decide (0 ≤ x25_1) = true := decide_eq_true c12
       clear c12
       by_cases c13 : x25_1 < (l1.length : Int)
       ·rw [if_pos c13] at H
        have c13b0 : decide (x25_1 < (l1.length : Int)) = true := decide_eq_true c13
        clear c13
        replace H := Option.bind_eq_some_iff.mp H
        obtain ⟨⟨t197, t200⟩, A140, H⟩ := H
        replace H : (if x5_1.length < 17592186044416 then (Qbo.l0 k1 (x5_1 ++ [(t197.length : Int)]) l1 (l1.length : Int) (wrap64 (x25_1 + 1)) a0_0 a0_1) else (none)) = some (r1, r2, r3) := H
        have A14 := QA A140
        clear A140
        by_cases c15 : x5_1.length < 17592186044416
        ·rw [if_pos c15] at H
         have LMc15 := QA c15
         clear c15
         obtain ⟨y201, hy201⟩ : ∃ y_ : List Int, y_ = (x5_1 ++ [(t197.length : Int)]) := ⟨_, rfl⟩
         replace H : (Qbo.l0 k1 y201 l1 (l1.length : Int) (wrap64 (x25_1 + 1)) a0_0 a0_1) = some (r1, r2, r3) := by first | (rw [hy201]; with_reducible exact H) | (have H2_ := (Option.bind_some _ _).symm.trans H; rw [hy201]; with_reducible exact H2_) | (have H2_ := (Option.bind_some _ _).symm.trans H; with_reducible exact H2_) | with_reducible exact H | (rw [hy201]; exact H) | exact H
         have Ny201 := QA hy201
         clear hy201
         have H' := QA H
         clear H
         have p195 : 0 ≤ (x25_1 : Int) := of_decide_eq_true (by first | (with_reducible assumption) | assumption)
         have q195 : x25_1 < (l1.length : Int) := of_decide_eq_true (by first | (with_reducible assumption) | assumption)
         obtain ⟨ad195, e195, hx195_0, hx195_1, hx195_2, hx195_3⟩ := Qfv HR1.out x25_1 p195 q195
         cases e195
         replace hx195_0 := (HB.out.cell (World.block_lt_of_cell? w _ hx195_0)).trans hx195_0
         replace hx195_1 := (HB.out.cell (World.block_lt_of_cell? w _ hx195_1)).trans hx195_1
         replace hx195_2 := (HB.out.cell (World.block_lt_of_cell? w _ hx195_2)).trans hx195_2
         replace hx195_3 := (HB.out.cell (World.block_lt_of_cell? w _ hx195_3)).trans hx195_3
         replace p195 := eq_true p195
         replace q195 := eq_true q195
         go_wp2_with (first | ((with_reducible refine Qdw (N := 10) rfl ?_); refine Qdv ?hg (N := 10) ?hd (cs := #[.bool false, .int .u64 0, .string (⟨#[]⟩ : ByteArray), .string (⟨#[]⟩ : ByteArray)]) (t := 39) ?hr ?_; (case hd => rfl); (case hg => rfl); (case hr => first | (go_simp; done) | (go_simp; rfl)); intro gb196 hg w16 hbox hb; have n0_ := QA (Kd.R_below (by (with_reducible repeat (first | apply Kd.R_alloc | apply Kd.R_drewN | apply Kd.R_drew)); exact HO_5.out) hb); have n1_ := QA (Qdg (g := gb192) (o := .cells #[.int .u8 a0_0, .int .u32 a0_1] 27 (0, 0)) (by (with_reducible repeat (first | apply Qdf | apply Qde | apply Qdd)); exact BK192.out) hb); have n2_ := QA (Qdo (by repeat (first | (with_reducible first | exact HB.out | apply Qcc | apply Qce | apply Qdt | refine Qdp ?_ GE192.out) | exact HB.out)) hb); have n3_ := QA (hbox); have n4_ := QA ((by rw [hg]; exact (Qdn (by repeat (first | (with_reducible first | exact HB.out | apply Qcc | apply Qce | apply Qdt | refine Qdp ?_ GE192.out) | exact HB.out))) : w.heap.size ≤ gb196)); have n5_ := QA ((by rw [hg]; exact (Qdn (by repeat (first | (with_reducible first | exact HB.out | apply Qcc | apply Qce | apply Qdt | refine Qdp ?_ GE192.out) | exact HB.out))) : w.heap.size ≤ gb196)); have n6_ := QA ((by rw [hg]; exact Nat.ne_of_lt (Qcw (g := gb192) (o := .cells #[.int .u8 a0_0, .int .u32 a0_1] 27 (0, 0)) (by (with_reducible repeat (first | apply Qdf | apply Qde | apply Qdd)); exact BK192.out)) : gb192 ≠ gb196)); have n7_ := QA ((by rw [hg]; exact Nat.ne_of_gt (Qcw (g := gb192) (o := .cells #[.int .u8 a0_0, .int .u32 a0_1] 27 (0, 0)) (by (with_reducible repeat (first | apply Qdf | apply Qde | apply Qdd)); exact BK192.out)) : gb196 ≠ gb192)); clear HO_5; clear BK192; clear HB; have HO_5 := n0_; have BK192 := n1_; have HB := n2_; have BK196 := n3_; have GW196 := n4_; have GE196 := n5_; have NB192_196 := n6_; have NB196_192 := n7_; clear n0_ n1_ n2_ n3_ n4_ n5_ n6_ n7_; clear hb hbox hg; have hnb17 := NB196_192.out; have hnc17 := NB192_196.out; have hcz18_0 : w16.cell? ⟨gb196, 0, none⟩ = some (.bool false) := (Qcx BK196.out 0).trans rfl; have hcz18_1 : w16.cell? ⟨gb196, 1, none⟩ = some (.int .u64 0) := (Qcx BK196.out 1).trans rfl; have hcz18_2 : w16.cell? ⟨gb196, 2, none⟩ = some (.string (⟨#[]⟩ : ByteArray)) := (Qcx BK196.out 2).trans rfl; have hcz18_3 : w16.cell? ⟨gb196, 3, none⟩ = some (.string (⟨#[]⟩ : ByteArray)) := (Qcx BK196.out 3).trans rfl; have hfz18_0 := Qcy BK196.out 0; have hfz18_1 := Qcy BK196.out 1; have hfz18_2 := Qcy BK196.out 2; have hfz18_3 := Qcy BK196.out 3) | ((with_reducible refine Qfo (f := 57) rfl ?_); refine Qej (some 31) rfl rfl Tryz.func57 (by kernel_rfl) rfl #[.agg #[.bool ((Qfu l1 x25_1).f0), .int .u64 ((Qfu l1 x25_1).f1), .string ((Qfu l1 x25_1).f2), .string ((Qfu l1 x25_1).f3)]] rfl (by (try simp only [List.map_toArray, List.map_cons, List.map_nil]); first | done | rfl | (simp only [List.length_drop, List.length_take]; rfl)) ?_; (with_reducible refine (Qbh.calls ((Qfu l1 x25_1).f0) ((Qfu l1 x25_1).f1) ((Qfu l1 x25_1).f2) ((Qfu l1 x25_1).f3) t197 t200 _ A14.out).mono ?_); rintro e w19 ⟨v198, rfl, ho0, hb⟩; refine ⟨_, rfl, ?_⟩; have n0_ := QA (Kd.R_below (by (with_reducible repeat (first | apply Kd.R_alloc | apply Kd.R_drewN | apply Kd.R_drew)); exact (Kd.R_mono (Kd.R_far (p := ⟨gb196, 3, none⟩) (Kd.R_far (p := ⟨gb196, 2, none⟩) (Kd.R_far (p := ⟨gb196, 1, none⟩) (Kd.R_far (p := ⟨gb196, 0, none⟩) (Kd.R_types HO_5.out BK196.out (by decide)) (fun _ hk => hk.2) (.bool ((Qfu l1 x25_1).f0))) (fun _ hk => hk.2) (.int .u64 ((Qfu l1 x25_1).f1))) (fun _ hk => hk.2) (.string ((Qfu l1 x25_1).f2))) (fun _ hk => hk.2) (.string ((Qfu l1 x25_1).f3))) (fun _ h_ => h_.1))) hb); have n1_ := QA (Kd.R_lower ho0 (Qdn (by repeat (first | (with_reducible first | exact HB.out | apply Qcc | apply Qce | apply Qdt | refine Qdp ?_ GE192.out | refine Qdp ?_ GE196.out) | exact HB.out)))); have n2_ := QA (Qdg (g := gb192) (o := .cells #[.int .u8 a0_0, .int .u32 a0_1] 27 (0, 0)) (by (with_reducible repeat (first | apply Qdf | apply Qde | apply Qdd)); refine Qcv ?_ NB192_196.out _; (with_reducible repeat (first | apply Qdf | apply Qde | apply Qdd)); refine Qcv ?_ NB192_196.out _; (with_reducible repeat (first | apply Qdf | apply Qde | apply Qdd)); refine Qcv ?_ NB192_196.out _; (with_reducible repeat (first | apply Qdf | apply Qde | apply Qdd)); refine Qcv ?_ NB192_196.out _; (with_reducible repeat (first | apply Qdf | apply Qde | apply Qdd)); exact BK192.out) hb); have n3_ := QA (Qdg (g := gb196) (o := .cells #[.bool ((Qfu l1 x25_1).f0), .int .u64 ((Qfu l1 x25_1).f1), .string ((Qfu l1 x25_1).f2), .string ((Qfu l1 x25_1).f3)] 39 (0, 0)) (by (with_reducible repeat (first | apply Qdf | apply Qde | apply Qdd)); refine Qds (cs := #[.bool ((Qfu l1 x25_1).f0), .int .u64 ((Qfu l1 x25_1).f1), .string ((Qfu l1 x25_1).f2), .string (⟨#[]⟩ : ByteArray)]) ?_ 3 _ rfl; (with_reducible repeat (first | apply Qdf | apply Qde | apply Qdd)); refine Qds (cs := #[.bool ((Qfu l1 x25_1).f0), .int .u64 ((Qfu l1 x25_1).f1), .string (⟨#[]⟩ : ByteArray), .string (⟨#[]⟩ : ByteArray)]) ?_ 2 _ rfl; (with_reducible repeat (first | apply Qdf | apply Qde | apply Qdd)); refine Qds (cs := #[.bool ((Qfu l1 x25_1).f0), .int .u64 0, .string (⟨#[]⟩ : ByteArray), .string (⟨#[]⟩ : ByteArray)]) ?_ 1 _ rfl; (with_reducible repeat (first | apply Qdf | apply Qde | apply Qdd)); refine Qds (cs := #[.bool false, .int .u64 0, .string (⟨#[]⟩ : ByteArray), .string (⟨#[]⟩ : ByteArray)]) ?_ 0 _ rfl; (with_reducible repeat (first | apply Qdf | apply Qde | apply Qdd)); exact BK196.out) hb); have n4_ := QA (Qdo (by repeat (first | (with_reducible first | exact HB.out | apply Qcc | apply Qce | apply Qdt | refine Qdp ?_ GE192.out | refine Qdp ?_ GE196.out) | exact HB.out)) hb); clear HO_5; clear BK192; clear BK196; clear HB; have HO_5 := n0_; have HO199 := n1_; have BK192 := n2_; have BK196 := n3_; have HB := n4_; clear n0_ n1_ n2_ n3_ n4_; (try clear hb); (try clear hb2); (try clear hk); (try clear hi); (try clear ho0); obtain ⟨Ao20, co20, eo20⟩ := Kd.R_slice HO199.out; subst eo20) | ((with_reducible refine Qfp (b := .append) (xs := #[.tmp 34, .tmp 37]) rfl ?_); at_builtin; refine Kd.R_append (Kd.int .i64) (w0 := w) w.heap.size rfl (.tmp 34) (.tmp 37) 133 3 (.int .i64 0) 8 rfl Tryz.underlying133 info3 rfl (by decide) (by omega) u5 x5_1 (t197.length : Int) [.int .i64 (t197.length : Int)] (fun _ => True) (fun _ => False) rfl rfl ?aP (fun _ hk => hk.elim) ?aF ?aO ?aB ?aS ?aL ?_; (case aP => exact rfl); (case aB => exact (by repeat (first | (with_reducible first | exact HB.out | apply Qcc | apply Qce | apply Qdt | refine Qdp ?_ GE192.out | refine Qdp ?_ GE196.out) | exact HB.out))); (case aF => exact (fun _ _ => trivial)); (case aO => exact (by (with_reducible repeat (first | apply Kd.R_alloc | apply Kd.R_drewN | apply Kd.R_drew)); exact HO_5.out)); (case aS => exact (Qdn (by repeat (first | (with_reducible first | exact HB.out | apply Qcc | apply Qce | apply Qdt | refine Qdp ?_ GE192.out | refine Qdp ?_ GE196.out) | exact HB.out)))); (case aL => have := LMc15.out; omega); intro v202 w21 ho hb hg hat; rw [← Ny201.out] at ho; have n0_ := QA (Qcz (g := gb192) (o := .cells #[.int .u8 a0_0, .int .u32 a0_1] 27 (0, 0)) (by (with_reducible repeat (first | apply Qdf | apply Qde | apply Qdd)); exact BK192.out) hg (Kd.R_ne HO_5.out BK192.out (by decide))); have n1_ := QA (Qcz (g := gb196) (o := .cells #[.bool ((Qfu l1 x25_1).f0), .int .u64 ((Qfu l1 x25_1).f1), .string ((Qfu l1 x25_1).f2), .string ((Qfu l1 x25_1).f3)] 39 (0, 0)) (by (with_reducible repeat (first | apply Qdf | apply Qde | apply Qdd)); exact BK196.out) hg (Kd.R_ne HO_5.out BK196.out (by decide))); have n2_ := QA (Kd.R_over' (by (with_reducible repeat (first | apply Kd.R_alloc | apply Kd.R_drewN | apply Kd.R_drew)); exact HO199.out) (Kd.R_typed (by (with_reducible repeat (first | apply Kd.R_alloc | apply Kd.R_drewN | apply Kd.R_drew)); exact HO_5.out)) (by decide) hg); have n3_ := QA (hb); have n4_ := QA (ho); clear BK192; clear BK196; clear HO199; clear HB; clear HO_5; have BK192 := n0_; have BK196 := n1_; have HO199 := n2_; have HB := n3_; have HO203 := n4_; clear n0_ n1_ n2_ n3_ n4_; clear ho hb hg hat))
         go_roundg k1
         case measure => have := HK1.out; omega
         case rel => exact ⟨(y201), (wrap64 (x25_1 + 1)), (by first | rfl | (simp; done) | (simp [*]; done)), H', ⟨by have := HK1.out; omega⟩, ⟨by (with_reducible repeat (first | apply Kd.R_alloc | apply Kd.R_drewN | apply Kd.R_drew)); exact HO203.out⟩, ⟨by (with_reducible repeat (first | apply Qdf | apply Qde | apply Qdd)); exact BK192.out⟩, ⟨by repeat (first | (with_reducible first | exact HB.out | apply Qcc | apply Qce | apply Qdt | refine Qdp ?_ GE192.out | refine Qdp ?_ GE196.out) | exact HB.out)⟩⟩
        ·rw [if_neg c15] at H
         exact absurd H (by simp)
       ·rw [if_neg c13] at H
        exact absurd H (by simp)
      ·rw [if_neg c12] at H
       exact absurd H (by simp)
     ·rw [if_neg c11] at H
      have c11b0 : decide (x25_1 < (l1.length : Int)) = false := decide_eq_false c11
      clear c11
      replace H := Option.bind_eq_some_iff.mp H
      obtain ⟨⟨t204, t207⟩, A220, H⟩ := H
      replace H : (some (t204, x5_1, t207)) = some (r1, r2, r3) := H
      have A22 := QA A220
      clear A220
      simp only [Option.some.injEq, Prod.mk.injEq] at H
      obtain ⟨rfl, rfl, rfl⟩ := H
      have hcz23_0 : wr.cell? ⟨gb192, 0, none⟩ = some (.int .u8 a0_0) := (Qcx BK192.out 0).trans rfl
      have hcz23_1 : wr.cell? ⟨gb192, 1, none⟩ = some (.int .u32 a0_1) := (Qcx BK192.out 1).trans rfl
      have hfz23_0 := Qcy BK192.out 0
      have hfz23_1 := Qcy BK192.out 1
      obtain ⟨Ao24, co24, eo24⟩ := Kd.R_slice HO_5.out
      subst eo24
      go_wp2_with (first | ((with_reducible refine Qfo (f := 125) rfl ?_); refine Qej (some 43) rfl rfl Tryz.func125 (by kernel_rfl) rfl #[.agg #[.int .u8 a0_0, .int .u32 a0_1], .slice Ao24 x5_1.length co24] rfl (by (try simp only [List.map_toArray, List.map_cons, List.map_nil]); first | done | rfl | (simp only [List.length_drop, List.length_take]; rfl)) ?_; (with_reducible refine (Qbq.calls k1 a0_0 a0_1 _ _ x5_1 t204 t207 _ ?side1 ?side2 A22.out).mono ?_); (case side1 => repeat (first | exact (Kd.R_reads' HO_5.out).2.2 | (with_reducible refine Kd.C_alloc ?_ _) | (with_reducible refine Kd.C_drewN ?_ _) | (with_reducible refine Kd.C_drew ?_))); (case side2 => exact (Kd.R_reads' HO_5.out).2.1); rintro e w25 ⟨v205, rfl, ho0, hb⟩; refine ⟨_, rfl, ?_⟩; have n0_ := QA (Kd.R_below (by (with_reducible repeat (first | apply Kd.R_alloc | apply Kd.R_drewN | apply Kd.R_drew)); exact HO_5.out) hb); have n1_ := QA (Kd.R_lower ho0 (Qdn (by repeat (first | (with_reducible first | exact HB.out | apply Qcc | apply Qce | apply Qdt | refine Qdp ?_ GE192.out) | exact HB.out)))); have n2_ := QA (Qdg (g := gb192) (o := .cells #[.int .u8 a0_0, .int .u32 a0_1] 27 (0, 0)) (by (with_reducible repeat (first | apply Qdf | apply Qde | apply Qdd)); exact BK192.out) hb); have n3_ := QA (Qdo (by repeat (first | (with_reducible first | exact HB.out | apply Qcc | apply Qce | apply Qdt | refine Qdp ?_ GE192.out) | exact HB.out)) hb); clear HO_5; clear BK192; clear HB; have HO_5 := n0_; have HO206 := n1_; have BK192 := n2_; have HB := n3_; clear n0_ n1_ n2_ n3_; (try clear hb); (try clear hb2); (try clear hk); (try clear hi); (try clear ho0)))
      go_ret3
      exact ⟨_, _, by first | rfl | (simp [Qfr, Qfs] <;> rfl) | (simp [*, Qfr, Qfs] <;> rfl), by (with_reducible repeat (first | apply Kd.R_alloc | apply Kd.R_drewN | apply Kd.R_drew)); exact HO206.out, by (with_reducible repeat (first | apply Kd.R_alloc | apply Kd.R_drewN | apply Kd.R_drew)); exact HO_5.out, by repeat (first | (with_reducible first | exact HB.out | apply Qcc | apply Qce | apply Qdt | refine Qdp ?_ GE192.out) | exact HB.out)⟩
  ·rw [if_neg c6] at H
   have c6b0 : (t194 == 0) = false := beq_eq_false_iff_ne.mpr c6
   have c6b1 : (t194 != 0) = true := bne_iff_ne.mpr c6
   simp only [Option.some.injEq, Prod.mk.injEq] at H
   obtain ⟨rfl, rfl, rfl⟩ := H
   go_enter Tryz.func73, Tryz.ntmps73
   go_wp2_with (first | ((with_reducible refine Qdw (N := 2) rfl ?_); refine Qdv ?hg (N := 2) ?hd (cs := #[.int .u8 a0_0, .int .u32 a0_1]) (t := 27) ?hr ?_; (case hd => rfl); (case hg => rfl); (case hr => first | (go_simp; done) | (go_simp; rfl)); intro gb192 hg w26 hbox hb; have n0_ := QA (Qdo (by repeat (first | (with_reducible first | exact HB.out | apply Qcc | apply Qce | apply Qdt) | exact HB.out)) hb); have n1_ := QA (hbox); have n2_ := QA ((by rw [hg]; exact (Qdn (by repeat (first | (with_reducible first | exact HB.out | apply Qcc | apply Qce | apply Qdt) | exact HB.out))) : w.heap.size ≤ gb192)); have n3_ := QA ((by rw [hg]; exact (Qdn (by repeat (first | (with_reducible first | exact HB.out | apply Qcc | apply Qce | apply Qdt) | exact HB.out))) : w.heap.size ≤ gb192)); clear HB; have HB := n0_; have BK192 := n1_; have GW192 := n2_; have GE192 := n3_; clear n0_ n1_ n2_ n3_; clear hb hbox hg; have hcz27_0 : w26.cell? ⟨gb192, 0, none⟩ = some (.int .u8 a0_0) := (Qcx BK192.out 0).trans rfl; have hcz27_1 : w26.cell? ⟨gb192, 1, none⟩ = some (.int .u32 a0_1) := (Qcx BK192.out 1).trans rfl; have hfz27_0 := Qcy BK192.out 0; have hfz27_1 := Qcy BK192.out 1) | ((with_reducible refine Qfo (f := 85) rfl ?_); refine Qej (some 14) rfl rfl Tryz.func85 (by kernel_rfl) rfl #[.agg #[.int .u8 a0_0, .int .u32 a0_1]] rfl (by (try simp only [List.map_toArray, List.map_cons, List.map_nil]); first | done | rfl | (simp only [List.length_drop, List.length_take]; rfl)) ?_; (with_reducible refine (Qak.calls a0_0 a0_1 t193 _ A3.out).mono ?_); rintro e w28 ⟨rfl, hb⟩; refine ⟨_, rfl, ?_⟩; have n0_ := QA (Qdg (g := gb192) (o := .cells #[.int .u8 a0_0, .int .u32 a0_1] 27 (0, 0)) (by (with_reducible repeat (first | apply Qdf | apply Qde | apply Qdd)); exact BK192.out) hb); have n1_ := QA (Qdo (by repeat (first | (with_reducible first | exact HB.out | apply Qcc | apply Qce | apply Qdt | refine Qdp ?_ GE192.out) | exact HB.out)) hb); clear BK192; clear HB; have BK192 := n0_; have HB := n1_; clear n0_ n1_; (try clear hb); (try clear hb2); (try clear hk); (try clear hi)) | ((with_reducible refine Qfo (f := 124) rfl ?_); refine Qej (some 19) rfl rfl Tryz.func124 (by kernel_rfl) rfl #[.slice A1 l1.length c1] rfl (by (try simp only [List.map_toArray, List.map_cons, List.map_nil]); first | done | rfl | (simp only [List.length_drop, List.length_take]; rfl)) ?_; (with_reducible refine (Qbx.calls k _ _ l1 t194 _ ?side1 ?side2 A5.out).mono ?_); (case side1 => repeat (first | exact (Kd.C_below HR1.out HB.out) | (with_reducible refine Kd.C_alloc ?_ _) | (with_reducible refine Kd.C_drewN ?_ _) | (with_reducible refine Kd.C_drew ?_))); (case side2 => exact HC1.out); rintro e w29 ⟨rfl, hb⟩; refine ⟨_, rfl, ?_⟩; have n0_ := QA (Qdg (g := gb192) (o := .cells #[.int .u8 a0_0, .int .u32 a0_1] 27 (0, 0)) (by (with_reducible repeat (first | apply Qdf | apply Qde | apply Qdd)); exact BK192.out) hb); have n1_ := QA (Qdo (by repeat (first | (with_reducible first | exact HB.out | apply Qcc | apply Qce | apply Qdt | refine Qdp ?_ GE192.out) | exact HB.out)) hb); clear BK192; clear HB; have BK192 := n0_; have HB := n1_; clear n0_ n1_; (try clear hb); (try clear hb2); (try clear hk); (try clear hi)))
   go_ret3
   exact ⟨_, _, by first | rfl | (simp [Qfr, Qfs] <;> rfl) | (simp [*, Qfr, Qfs] <;> rfl), by first | exact Kd.R_nil _ _ _ _ _ | exact Kd.N_nil _ _ _ _ _ | exact Kd.V_nil _ _ _ _ _ | exact Kd.Q_nil _ _ _ _ _ | exact Kd.S_nil _ _ _ _ _, by first | exact Kd.R_nil _ _ _ _ _ | exact Kd.N_nil _ _ _ _ _ | exact Kd.V_nil _ _ _ _ _ | exact Kd.Q_nil _ _ _ _ _ | exact Kd.S_nil _ _ _ _ _, by repeat (first | (with_reducible first | exact HB.out | apply Qcc | apply Qce | apply Qdt | refine Qdp ?_ GE192.out) | exact HB.out)⟩
 ·rw [if_neg c4] at H
  have c4b0 : (t193 == 0) = false := beq_eq_false_iff_ne.mpr c4
  have c4b1 : (t193 != 0) = true := bne_iff_ne.mpr c4
  simp only [Option.some.injEq, Prod.mk.injEq] at H
  obtain ⟨rfl, rfl, rfl⟩ := H
  go_enter Tryz.func73, Tryz.ntmps73
  go_wp2_with (first | ((with_reducible refine Qdw (N := 2) rfl ?_); refine Qdv ?hg (N := 2) ?hd (cs := #[.int .u8 a0_0, .int .u32 a0_1]) (t := 27) ?hr ?_; (case hd => rfl); (case hg => rfl); (case hr => first | (go_simp; done) | (go_simp; rfl)); intro gb192 hg w30 hbox hb; have n0_ := QA (Qdo (by repeat (first | (with_reducible first | exact HB.out | apply Qcc | apply Qce | apply Qdt) | exact HB.out)) hb); have n1_ := QA (hbox); have n2_ := QA ((by rw [hg]; exact (Qdn (by repeat (first | (with_reducible first | exact HB.out | apply Qcc | apply Qce | apply Qdt) | exact HB.out))) : w.heap.size ≤ gb192)); have n3_ := QA ((by rw [hg]; exact (Qdn (by repeat (first | (with_reducible first | exact HB.out | apply Qcc | apply Qce | apply Qdt) | exact HB.out))) : w.heap.size ≤ gb192)); clear HB; have HB := n0_; have BK192 := n1_; have GW192 := n2_; have GE192 := n3_; clear n0_ n1_ n2_ n3_; clear hb hbox hg; have hcz31_0 : w30.cell? ⟨gb192, 0, none⟩ = some (.int .u8 a0_0) := (Qcx BK192.out 0).trans rfl; have hcz31_1 : w30.cell? ⟨gb192, 1, none⟩ = some (.int .u32 a0_1) := (Qcx BK192.out 1).trans rfl; have hfz31_0 := Qcy BK192.out 0; have hfz31_1 := Qcy BK192.out 1) | ((with_reducible refine Qfo (f := 85) rfl ?_); refine Qej (some 14) rfl rfl Tryz.func85 (by kernel_rfl) rfl #[.agg #[.int .u8 a0_0, .int .u32 a0_1]] rfl (by (try simp only [List.map_toArray, List.map_cons, List.map_nil]); first | done | rfl | (simp only [List.length_drop, List.length_take]; rfl)) ?_; (with_reducible refine (Qak.calls a0_0 a0_1 t193 _ A3.out).mono ?_); rintro e w32 ⟨rfl, hb⟩; refine ⟨_, rfl, ?_⟩; have n0_ := QA (Qdg (g := gb192) (o := .cells #[.int .u8 a0_0, .int .u32 a0_1] 27 (0, 0)) (by (with_reducible repeat (first | apply Qdf | apply Qde | apply Qdd)); exact BK192.out) hb); have n1_ := QA (Qdo (by repeat (first | (with_reducible first | exact HB.out | apply Qcc | apply Qce | apply Qdt | refine Qdp ?_ GE192.out) | exact HB.out)) hb); clear BK192; clear HB; have BK192 := n0_; have HB := n1_; clear n0_ n1_; (try clear hb); (try clear hb2); (try clear hk); (try clear hi)))
  go_ret3
  exact ⟨_, _, by first | rfl | (simp [Qfr, Qfs] <;> rfl) | (simp [*, Qfr, Qfs] <;> rfl), by first | exact Kd.R_nil _ _ _ _ _ | exact Kd.N_nil _ _ _ _ _ | exact Kd.V_nil _ _ _ _ _ | exact Kd.Q_nil _ _ _ _ _ | exact Kd.S_nil _ _ _ _ _, by first | exact Kd.R_nil _ _ _ _ _ | exact Kd.N_nil _ _ _ _ _ | exact Kd.V_nil _ _ _ _ _ | exact Kd.Q_nil _ _ _ _ _ | exact Kd.S_nil _ _ _ _ _, by repeat (first | (with_reducible first | exact HB.out | apply Qcc | apply Qce | apply Qdt | refine Qdp ?_ GE192.out) | exact HB.out)⟩
end Go.Proofs.YtnnofopfbeklbaaGreat.C
end
