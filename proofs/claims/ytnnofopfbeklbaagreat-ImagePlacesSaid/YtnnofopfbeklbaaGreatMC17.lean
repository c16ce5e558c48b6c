/- Texts of this claim's author and of the print of its functions, merged by merge.py. -/
import Derived.Test.YtnnofopfbeklbaaGreatMC02
import Derived.Test.YtnnofopfbeklbaaGreatMC15
import Derived.Test.YtnnofopfbeklbaaGreatMC11
import Derived.Test.YtnnofopfbeklbaaGreatMC12
import Derived.Lib.MakeNoZero
import Derived.Laws.CopyOwn
import Derived.Laws.MathBits
import Derived.Deep.RegionLaw
set_option linter.unusedVariables false
set_option linter.unusedSimpArgs false
section
namespace Go.Proofs.YtnnofopfbeklbaaGreat.C
open Go.RowKit Go.Proofs.YtnnofopfbeklbaaGreatW.PrintWords Go.Proofs.YtnnofopfbeklbaaGreatW.PrintLast Go.Proofs.YtnnofopfbeklbaaGreatW.PrintMore
attribute [local go_sem] Qfg Qfh Qfi Qfj Qfk Qfl Qfm Qfn
def Qbn.f (k : Nat) (a0_0 : Int) (a0_1 : Int) (l1 : List (S39)) : Option (Int × Int) := (Qbo.f k a0_0 a0_1 l1).bind fun bt263 => (if bt263.2.2 = 0 then (if (bt263.1.length : Int) = 0 then (some (0, bt263.2.2)) else (if 0 ≤ (wrap64 ((bt263.1.length : Int) - 1)) then (if (wrap64 ((bt263.1.length : Int) - 1)) < (bt263.1.length : Int) then (some (((rd bt263.1 (wrap64 ((bt263.1.length : Int) - 1))) + 1) % 4294967296, 0)) else (none)) else (none))) else (some (0, bt263.2.2)))
set_option maxHeartbeats 8000000 in
set_option maxRecDepth 100000 in
theorem Qbn.calls (k : Nat) (a0_0 : Int) (a0_1 : Int) (A1 : Option Addr) (c1 : Nat) (l1 : List (S39)) (r1 : Int) (r2 : Int) (w : World) (hr1 : Kd.C k39 w A1 l1.length l1) (hc1 : l1.length ≤ c1) (h : Qbn.f k a0_0 a0_1 l1 = some (r1, r2)) :
  Calls Tryz.prog 38 #[.agg #[.int .u8 a0_0, .int .u32 a0_1], .slice A1 l1.length c1] w fun e w' => e = .returned (.tuple #[.int .u32 r1, .int .i64 r2]) ∧ Below w.heap.size w w' := by
 have hu27 := Tryz.underlying27
 have HR1 := QA hr1
 have HC1 := QA hc1
 clear hr1 hc1
 have HB := QA (Below.refl w.heap.size w)
 have H : ((Qbo.f k a0_0 a0_1 l1).bind fun bt263 => (if bt263.2.2 = 0 then (if (bt263.1.length : Int) = 0 then (some (0, bt263.2.2)) else (if 0 ≤ (wrap64 ((bt263.1.length : Int) - 1)) then (if (wrap64 ((bt263.1.length : Int) - 1)) < (bt263.1.length : Int) then (some (((rd bt263.1 (wrap64 ((bt263.1.length : Int) - 1))) + 1) % 4294967296, 0)) else (none)) else (none))) else (some (0, bt263.2.2)))) = some (r1, r2) := h
 clear h
 replace H := Option.bind_eq_some_iff.mp H
 obtain ⟨⟨t263, t266, t269⟩, A30, H⟩ := H
 replace H : (if t269 = 0 then (if (t263.length : Int) = 0 then (some (0, t269)) else (if 0 ≤ (wrap64 ((t263.length : Int) - 1)) then (if (wrap64 ((t263.length : Int) - 1)) < (t263.length : Int) then (some (((rd t263 (wrap64 ((t263.length : Int) - 1))) + 1) % 4294967296, 0)) else (none)) else (none))) else (some (0, t269))) = some (r1, r2) := H
 have A3 := QA A30
 clear A30
 by_cases c4 : t269 = 0
 ·rw [if_pos c4] at H
  have c4b0 : (t269 == 0) = true := beq_iff_eq.mpr c4
  have c4b1 : (t269 != 0) = false := bne_eq_false_iff_eq.mpr c4
  clear c4
  by_cases c5 : (t263.length : Int) = 0
  ·rw [if_pos c5] at H
   have c5b0 : ((t263.length : Int) == 0) = true := beq_iff_eq.mpr c5
   have c5b1 : ((t263.length : Int) != 0) = false := bne_eq_false_iff_eq.mpr c5
   clear c5
   simp only [Option.some.injEq, Prod.mk.injEq] at H
   obtain ⟨rfl, rfl⟩ := H
   go_enter Tryz.func38, Tryz.ntmps38
   go_wp2_with (first | ((with_reducible refine Qdw (N := 2) rfl ?_); (try (refine Qff (by rfl) ?_; dsimp only)); refine Qdv ?hg (N := 2) ?hd (cs := #[.int .u8 a0_0, .int .u32 a0_1]) (t := 27) ?hr ?_; (case hd => rfl); (case hg => rfl); (case hr => first | (go_simp; done) | (go_simp; rfl)); intro gb262 hg w6 hbox hb; have n0_ := QA (Qdo (by repeat (first | (with_reducible first | exact HB.out | apply Qcc | apply Qce | apply Qdt) | exact HB.out)) hb); have n1_ := QA (hbox); have n2_ := QA ((by rw [hg]; exact (Qdn (by repeat (first | (with_reducible first | exact HB.out | apply Qcc | apply Qce | apply Qdt) | exact HB.out))) : w.heap.size ≤ gb262)); have n3_ := QA ((by rw [hg]; exact (Qdn (by repeat (first | (with_reducible first | exact HB.out | apply Qcc | apply Qce | apply Qdt) | exact HB.out))) : w.heap.size ≤ gb262)); clear HB; have HB := n0_; have BK262 := n1_; have GW262 := n2_; have GE262 := n3_; clear n0_ n1_ n2_ n3_; clear hb hbox hg; have hcz7_0 : w6.cell? ⟨gb262, 0, none⟩ = some (.int .u8 a0_0) := (Qcx BK262.out 0).trans rfl; have hcz7_1 : w6.cell? ⟨gb262, 1, none⟩ = some (.int .u32 a0_1) := (Qcx BK262.out 1).trans rfl; have hfz7_0 := Qcy BK262.out 0; have hfz7_1 := Qcy BK262.out 1) | ((with_reducible refine Qfo (f := 73) rfl ?_); refine Qej (some 12) rfl rfl Tryz.func73 (by kernel_rfl) rfl #[.agg #[.int .u8 a0_0, .int .u32 a0_1], .slice A1 l1.length c1] rfl (by (try simp only [List.map_toArray, List.map_cons, List.map_nil]); first | done | rfl | (simp only [List.length_drop, List.length_take]; rfl)) ?_; (with_reducible refine (Qbo.calls k a0_0 a0_1 _ _ l1 t263 t266 t269 _ ?side1 ?side2 A3.out).mono ?_); (case side1 => repeat (first | exact (Kd.C_below HR1.out HB.out) | (with_reducible refine Kd.C_alloc ?_ _) | (with_reducible refine Kd.C_drewN ?_ _) | (with_reducible refine Kd.C_drew ?_))); (case side2 => exact HC1.out); rintro e w8 ⟨v264, v267, rfl, ho0, ho1, hb⟩; refine ⟨_, rfl, ?_⟩; have n0_ := QA (Kd.R_lower ho0 (Qdn (by repeat (first | (with_reducible first | exact HB.out | apply Qcc | apply Qce | apply Qdt | refine Qdp ?_ GE262.out) | exact HB.out)))); have n1_ := QA (Kd.R_lower ho1 (Qdn (by repeat (first | (with_reducible first | exact HB.out | apply Qcc | apply Qce | apply Qdt | refine Qdp ?_ GE262.out) | exact HB.out)))); have n2_ := QA (Qdg (g := gb262) (o := .cells #[.int .u8 a0_0, .int .u32 a0_1] 27 (0, 0)) (by (with_reducible repeat (first | apply Qdf | apply Qde | apply Qdd)); exact BK262.out) hb); have n3_ := QA (Qdo (by repeat (first | (with_reducible first | exact HB.out | apply Qcc | apply Qce | apply Qdt | refine Qdp ?_ GE262.out) | exact HB.out)) hb); clear BK262; clear HB; have HO265 := n0_; have HO268 := n1_; have BK262 := n2_; have HB := n3_; clear n0_ n1_ n2_ n3_; (try clear hb); (try clear hb2); (try clear hk); (try clear hi); (try clear ho0); (try clear ho1); obtain ⟨Ao9, co9, eo9⟩ := Kd.R_slice HO265.out; subst eo9))
   go_ret2
   exact ⟨by first | rfl | (simp [Qfr, Qfs] <;> rfl) | (simp [*, Qfr, Qfs] <;> rfl), by repeat (first | (with_reducible first | exact HB.out | apply Qcc | apply Qce | apply Qdt | refine Qdp ?_ GE262.out) | exact HB.out)⟩
  ·rw [if_neg c5] at H
   have c5b0 : ((t263.length : Int) == 0) = false := beq_eq_false_iff_ne.mpr c5
   have c5b1 : ((t263.length : Int) != 0) = true := bne_iff_ne.mpr c5
   have c5b2 : ¬ (t263 = []) := fun h_ => c5 (by rw [h_]; rfl)
   obtain ⟨ji10, hji10⟩ : ∃ j_ : Int, (wrap64 ((t263.length : Int) - 1)) = j_ := ⟨_, rfl⟩
   replace H : (if 0 ≤ (ji10) then (if (ji10) < (t263.length : Int) then (some (((rd t263 (ji10)) + 1) % 4294967296, 0)) else (none)) else (none)) = some (r1, r2) := by first | (rw [hji10] at H; exact H) | (simp only [hji10] at H ⊢; exact H)
   (try rw [hji10] at A3)
   have hji10w : (IntKind.i64.wrap ((t263.length : Int) - 1)) = ji10 := (Qek _).trans hji10
   by_cases c11 : 0 ≤ (ji10)
   ·rw [if_pos c11] at H
    have c11b0 : decide (0 ≤ (ji10)) = true := decide_eq_true c11
    clear c11
    by_cases c12 : (ji10) < (t263.length : Int)
    ·rw [if_pos c12] at H
     have c12b0 : decide ((ji10) < (t263.length : Int)) = true := decide_eq_true c12
     clear c12
     simp only [Option.some.injEq, Prod.mk.injEq] at H
     obtain ⟨rfl, rfl⟩ := H
     go_enter Tryz.func38, Tryz.ntmps38
     go_wp2_with (first | ((with_reducible refine Qdw (N := 2) rfl ?_); (try (refine Qff (by rfl) ?_; dsimp only)); refine Qdv ?hg (N := 2) ?hd (cs := #[.int .u8 a0_0, .int .u32 a0_1]) (t := 27) ?hr ?_; (case hd => rfl); (case hg => rfl); (case hr => first | (go_simp; done) | (go_simp; rfl)); intro gb262 hg w13 hbox hb; have n0_ := QA (Qdo (by repeat (first | (with_reducible first | exact HB.out | apply Qcc | apply Qce | apply Qdt) | exact HB.out)) hb); have n1_ := QA (hbox); have n2_ := QA ((by rw [hg]; exact (Qdn (by repeat (first | (with_reducible first | exact HB.out | apply Qcc | apply Qce | apply Qdt) | exact HB.out))) : w.heap.size ≤ gb262)); have n3_ := QA ((by rw [hg]; exact (Qdn (by repeat (first | (with_reducible first | exact HB.out | apply Qcc | apply Qce | apply Qdt) | exact HB.out))) : w.heap.size ≤ gb262)); clear HB; have HB := n0_; have BK262 := n1_; have GW262 := n2_; have GE262 := n3_; clear n0_ n1_ n2_ n3_; clear hb hbox hg; have hcz14_0 : w13.cell? ⟨gb262, 0, none⟩ = some (.int .u8 a0_0) := (Qcx BK262.out 0).trans rfl; have hcz14_1 : w13.cell? ⟨gb262, 1, none⟩ = some (.int .u32 a0_1) := (Qcx BK262.out 1).trans rfl; have hfz14_0 := Qcy BK262.out 0; have hfz14_1 := Qcy BK262.out 1) | ((with_reducible refine Qfo (f := 73) rfl ?_); refine Qej (some 12) rfl rfl Tryz.func73 (by kernel_rfl) rfl #[.agg #[.int .u8 a0_0, .int .u32 a0_1], .slice A1 l1.length c1] rfl (by (try simp only [List.map_toArray, List.map_cons, List.map_nil]); first | done | rfl | (simp only [List.length_drop, List.length_take]; rfl)) ?_; (with_reducible refine (Qbo.calls k a0_0 a0_1 _ _ l1 t263 t266 t269 _ ?side1 ?side2 A3.out).mono ?_); (case side1 => repeat (first | exact (Kd.C_below HR1.out HB.out) | (with_reducible refine Kd.C_alloc ?_ _) | (with_reducible refine Kd.C_drewN ?_ _) | (with_reducible refine Kd.C_drew ?_))); (case side2 => exact HC1.out); rintro e w15 ⟨v264, v267, rfl, ho0, ho1, hb⟩; refine ⟨_, rfl, ?_⟩; have n0_ := QA (Kd.R_lower ho0 (Qdn (by repeat (first | (with_reducible first | exact HB.out | apply Qcc | apply Qce | apply Qdt | refine Qdp ?_ GE262.out) | exact HB.out)))); have n1_ := QA (Kd.R_lower ho1 (Qdn (by repeat (first | (with_reducible first | exact HB.out | apply Qcc | apply Qce | apply Qdt | refine Qdp ?_ GE262.out) | exact HB.out)))); have n2_ := QA (Qdg (g := gb262) (o := .cells #[.int .u8 a0_0, .int .u32 a0_1] 27 (0, 0)) (by (with_reducible repeat (first | apply Qdf | apply Qde | apply Qdd)); exact BK262.out) hb); have n3_ := QA (Qdo (by repeat (first | (with_reducible first | exact HB.out | apply Qcc | apply Qce | apply Qdt | refine Qdp ?_ GE262.out) | exact HB.out)) hb); clear BK262; clear HB; have HO265 := n0_; have HO268 := n1_; have BK262 := n2_; have HB := n3_; clear n0_ n1_ n2_ n3_; (try clear hb); (try clear hb2); (try clear hk); (try clear hi); (try clear ho0); (try clear ho1); obtain ⟨Ao16, co16, eo16⟩ := Kd.R_slice HO265.out; subst eo16; have p270 : 0 ≤ ((ji10) : Int) := of_decide_eq_true (by first | (with_reducible assumption) | assumption); have q270 : (ji10) < (t263.length : Int) := of_decide_eq_true (by first | (with_reducible assumption) | assumption); obtain ⟨ad270, e270, hx270_0⟩ := Kd.at_int (Kd.R_reads' HO265.out).2.2 (ji10) p270 q270; cases e270; replace p270 := eq_true p270; replace q270 := eq_true q270))
     go_ret2
     exact ⟨by first | rfl | (simp [Qfr, Qfs] <;> rfl) | (simp only [← hji10]; first | rfl | (simp [Qfr, Qfs] <;> rfl)) | (simp [*, Qfr, Qfs] <;> rfl), by repeat (first | (with_reducible first | exact HB.out | apply Qcc | apply Qce | apply Qdt | refine Qdp ?_ GE262.out) | exact HB.out)⟩
    ·rw [if_neg c12] at H
     exact absurd H (by simp)
   ·rw [if_neg c11] at H
    exact absurd H (by simp)
 ·rw [if_neg c4] at H
  have c4b0 : (t269 == 0) = false := beq_eq_false_iff_ne.mpr c4
  have c4b1 : (t269 != 0) = true := bne_iff_ne.mpr c4
  simp only [Option.some.injEq, Prod.mk.injEq] at H
  obtain ⟨rfl, rfl⟩ := H
  go_enter Tryz.func38, Tryz.ntmps38
  go_wp2_with (first | ((with_reducible refine Qdw (N := 2) rfl ?_); (try (refine Qff (by rfl) ?_; dsimp only)); refine Qdv ?hg (N := 2) ?hd (cs := #[.int .u8 a0_0, .int .u32 a0_1]) (t := 27) ?hr ?_; (case hd => rfl); (case hg => rfl); (case hr => first | (go_simp; done) | (go_simp; rfl)); intro gb262 hg w17 hbox hb; have n0_ := QA (Qdo (by repeat (first | (with_reducible first | exact HB.out | apply Qcc | apply Qce | apply Qdt) | exact HB.out)) hb); have n1_ := QA (hbox); have n2_ := QA ((by rw [hg]; exact (Qdn (by repeat (first | (with_reducible first | exact HB.out | apply Qcc | apply Qce | apply Qdt) | exact HB.out))) : w.heap.size ≤ gb262)); have n3_ := QA ((by rw [hg]; exact (Qdn (by repeat (first | (with_reducible first | exact HB.out | apply Qcc | apply Qce | apply Qdt) | exact HB.out))) : w.heap.size ≤ gb262)); clear HB; have HB := n0_; have BK262 := n1_; have GW262 := n2_; have GE262 := n3_; clear n0_ n1_ n2_ n3_; clear hb hbox hg; have hcz18_0 : w17.cell? ⟨gb262, 0, none⟩ = some (.int .u8 a0_0) := (Qcx BK262.out 0).trans rfl; have hcz18_1 : w17.cell? ⟨gb262, 1, none⟩ = some (.int .u32 a0_1) := (Qcx BK262.out 1).trans rfl; have hfz18_0 := Qcy BK262.out 0; have hfz18_1 := Qcy BK262.out 1) | ((with_reducible refine Qfo (f := 73) rfl ?_); refine Qej (some 12) rfl rfl Tryz.func73 (by kernel_rfl) rfl #[.agg #[.int .u8 a0_0, .int .u32 a0_1], .slice A1 l1.length c1] rfl (by (try simp only [List.map_toArray, List.map_cons, List.map_nil]); first | done | rfl | (simp only [List.length_drop, List.length_take]; rfl)) ?_; (with_reducible refine (Qbo.calls k a0_0 a0_1 _ _ l1 t263 t266 t269 _ ?side1 ?side2 A3.out).mono ?_); (case side1 => repeat (first | exact (Kd.C_below HR1.out HB.out) | (with_reducible refine Kd.C_alloc ?_ _) | (with_reducible refine Kd.C_drewN ?_ _) | (with_reducible refine Kd.C_drew ?_))); (case side2 => exact HC1.out); rintro e w19 ⟨v264, v267, rfl, ho0, ho1, hb⟩; refine ⟨_, rfl, ?_⟩; have n0_ := QA (Kd.R_lower ho0 (Qdn (by repeat (first | (with_reducible first | exact HB.out | apply Qcc | apply Qce | apply Qdt | refine Qdp ?_ GE262.out) | exact HB.out)))); have n1_ := QA (Kd.R_lower ho1 (Qdn (by repeat (first | (with_reducible first | exact HB.out | apply Qcc | apply Qce | apply Qdt | refine Qdp ?_ GE262.out) | exact HB.out)))); have n2_ := QA (Qdg (g := gb262) (o := .cells #[.int .u8 a0_0, .int .u32 a0_1] 27 (0, 0)) (by (with_reducible repeat (first | apply Qdf | apply Qde | apply Qdd)); exact BK262.out) hb); have n3_ := QA (Qdo (by repeat (first | (with_reducible first | exact HB.out | apply Qcc | apply Qce | apply Qdt | refine Qdp ?_ GE262.out) | exact HB.out)) hb); clear BK262; clear HB; have HO265 := n0_; have HO268 := n1_; have BK262 := n2_; have HB := n3_; clear n0_ n1_ n2_ n3_; (try clear hb); (try clear hb2); (try clear hk); (try clear hi); (try clear ho0); (try clear ho1)))
  go_ret2
  exact ⟨by first | rfl | (simp [Qfr, Qfs] <;> rfl) | (simp [*, Qfr, Qfs] <;> rfl), by repeat (first | (with_reducible first | exact HB.out | apply Qcc | apply Qce | apply Qdt | refine Qdp ?_ GE262.out) | exact HB.out)⟩
def Qbu.f (a0_0 : Int) (a0_1 : Int) (a1 : Int) : Option (Bool) := (Qbp.f a0_0 a0_1 ((a0_1 - 1) % 4294967296)).bind fun bt134 => (if bt134.2.2.2.2.2 = 0 then ((Qbr.f bt134.1 bt134.2.1 bt134.2.2.1 bt134.2.2.2.1 bt134.2.2.2.2.1 a1).bind fun t141 => (some (!t141))) else (some true))
set_option maxHeartbeats 8000000 in
set_option maxRecDepth 100000 in
theorem Qbu.calls (a0_0 : Int) (a0_1 : Int) (a1 : Int) (r : Bool) (w : World) (h : Qbu.f a0_0 a0_1 a1 = some r) :
  Calls Tryz.prog 58 #[.agg #[.int .u8 a0_0, .int .u32 a0_1], .int .i64 a1] w fun e w' => e = .returned (.bool r) ∧ Below w.heap.size w w' := by
 have hu27 := Tryz.underlying27
 have hu47 := Tryz.underlying47
 have HB := QA (Below.refl w.heap.size w)
 have H : ((Qbp.f a0_0 a0_1 ((a0_1 - 1) % 4294967296)).bind fun bt134 => (if bt134.2.2.2.2.2 = 0 then ((Qbr.f bt134.1 bt134.2.1 bt134.2.2.1 bt134.2.2.2.1 bt134.2.2.2.2.1 a1).bind fun t141 => (some (!t141))) else (some true))) = some r := h
 clear h
 replace H := Option.bind_eq_some_iff.mp H
 obtain ⟨⟨t134, t135, t136, t137, t138, t139⟩, A30, H⟩ := H
 replace H : (if t139 = 0 then ((Qbr.f t134 t135 t136 t137 t138 a1).bind fun t141 => (some (!t141))) else (some true)) = some r := H
 have A3 := QA A30
 clear A30
 by_cases c4 : t139 = 0
 ·rw [if_pos c4] at H
  have c4b0 : (t139 == 0) = true := beq_iff_eq.mpr c4
  have c4b1 : (t139 != 0) = false := bne_eq_false_iff_eq.mpr c4
  clear c4
  replace H := Option.bind_eq_some_iff.mp H
  obtain ⟨t141, A50, H⟩ := H
  replace H : (some (!t141)) = some r := H
  have A5 := QA A50
  clear A50
  obtain rfl := Option.some.inj H
  go_enter Tryz.func58, Tryz.ntmps58
  go_wp2_with (first | ((with_reducible refine Qdw (N := 2) rfl ?_); refine Qdv ?hg (N := 2) ?hd (cs := #[.int .u8 a0_0, .int .u32 a0_1]) (t := 27) ?hr ?_; (case hd => rfl); (case hg => rfl); (case hr => first | (go_simp; done) | (go_simp; rfl)); intro gb133 hg w6 hbox hb; have n0_ := QA (Qdo (by repeat (first | (with_reducible first | exact HB.out | apply Qcc | apply Qce | apply Qdt) | exact HB.out)) hb); have n1_ := QA (hbox); have n2_ := QA ((by rw [hg]; exact (Qdn (by repeat (first | (with_reducible first | exact HB.out | apply Qcc | apply Qce | apply Qdt) | exact HB.out))) : w.heap.size ≤ gb133)); have n3_ := QA ((by rw [hg]; exact (Qdn (by repeat (first | (with_reducible first | exact HB.out | apply Qcc | apply Qce | apply Qdt) | exact HB.out))) : w.heap.size ≤ gb133)); clear HB; have HB := n0_; have BK133 := n1_; have GW133 := n2_; have GE133 := n3_; clear n0_ n1_ n2_ n3_; clear hb hbox hg; have hcz7_0 : w6.cell? ⟨gb133, 0, none⟩ = some (.int .u8 a0_0) := (Qcx BK133.out 0).trans rfl; have hcz7_1 : w6.cell? ⟨gb133, 1, none⟩ = some (.int .u32 a0_1) := (Qcx BK133.out 1).trans rfl; have hfz7_0 := Qcy BK133.out 0; have hfz7_1 := Qcy BK133.out 1) | ((with_reducible refine Qfo (f := 52) rfl ?_); refine Qej (some 12) rfl rfl Tryz.func52 (by kernel_rfl) rfl #[.agg #[.int .u8 a0_0, .int .u32 a0_1], .int .u32 ((a0_1 - 1) % 4294967296)] rfl (by (try simp only [List.map_toArray, List.map_cons, List.map_nil]); first | done | rfl | (simp only [List.length_drop, List.length_take]; rfl)) ?_; (with_reducible refine (Qbp.calls a0_0 a0_1 ((a0_1 - 1) % 4294967296) t134 t135 t136 t137 t138 t139 _ A3.out).mono ?_); rintro e w8 ⟨rfl, hb⟩; refine ⟨_, rfl, ?_⟩; have n0_ := QA (Qdg (g := gb133) (o := .cells #[.int .u8 a0_0, .int .u32 a0_1] 27 (0, 0)) (by (with_reducible repeat (first | apply Qdf | apply Qde | apply Qdd)); exact BK133.out) hb); have n1_ := QA (Qdo (by repeat (first | (with_reducible first | exact HB.out | apply Qcc | apply Qce | apply Qdt | refine Qdp ?_ GE133.out) | exact HB.out)) hb); clear BK133; clear HB; have BK133 := n0_; have HB := n1_; clear n0_ n1_; (try clear hb); (try clear hb2); (try clear hk); (try clear hi)) | ((with_reducible refine Qdw (N := 5) rfl ?_); refine Qdv ?hg (N := 5) ?hd (cs := #[.int .u8 0, .int .u32 0, .int .u32 0, .int .i64 0, .int .i64 0]) (t := 47) ?hr ?_; (case hd => rfl); (case hg => rfl); (case hr => first | (go_simp; done) | (go_simp; rfl)); intro gb140 hg w9 hbox hb; have n0_ := QA (Qdg (g := gb133) (o := .cells #[.int .u8 a0_0, .int .u32 a0_1] 27 (0, 0)) (by (with_reducible repeat (first | apply Qdf | apply Qde | apply Qdd)); exact BK133.out) hb); have n1_ := QA (Qdo (by repeat (first | (with_reducible first | exact HB.out | apply Qcc | apply Qce | apply Qdt | refine Qdp ?_ GE133.out) | exact HB.out)) hb); have n2_ := QA (hbox); have n3_ := QA ((by rw [hg]; exact (Qdn (by repeat (first | (with_reducible first | exact HB.out | apply Qcc | apply Qce | apply Qdt | refine Qdp ?_ GE133.out) | exact HB.out))) : w.heap.size ≤ gb140)); have n4_ := QA ((by rw [hg]; exact (Qdn (by repeat (first | (with_reducible first | exact HB.out | apply Qcc | apply Qce | apply Qdt | refine Qdp ?_ GE133.out) | exact HB.out))) : w.heap.size ≤ gb140)); have n5_ := QA ((by rw [hg]; exact Nat.ne_of_lt (Qcw (g := gb133) (o := .cells #[.int .u8 a0_0, .int .u32 a0_1] 27 (0, 0)) (by (with_reducible repeat (first | apply Qdf | apply Qde | apply Qdd)); exact BK133.out)) : gb133 ≠ gb140)); have n6_ := QA ((by rw [hg]; exact Nat.ne_of_gt (Qcw (g := gb133) (o := .cells #[.int .u8 a0_0, .int .u32 a0_1] 27 (0, 0)) (by (with_reducible repeat (first | apply Qdf | apply Qde | apply Qdd)); exact BK133.out)) : gb140 ≠ gb133)); clear BK133; clear HB; have BK133 := n0_; have HB := n1_; have BK140 := n2_; have GW140 := n3_; have GE140 := n4_; have NB133_140 := n5_; have NB140_133 := n6_; clear n0_ n1_ n2_ n3_ n4_ n5_ n6_; clear hb hbox hg; have hnb10 := NB140_133.out; have hnc10 := NB133_140.out; have hcz11_0 : w9.cell? ⟨gb140, 0, none⟩ = some (.int .u8 0) := (Qcx BK140.out 0).trans rfl; have hcz11_1 : w9.cell? ⟨gb140, 1, none⟩ = some (.int .u32 0) := (Qcx BK140.out 1).trans rfl; have hcz11_2 : w9.cell? ⟨gb140, 2, none⟩ = some (.int .u32 0) := (Qcx BK140.out 2).trans rfl; have hcz11_3 : w9.cell? ⟨gb140, 3, none⟩ = some (.int .i64 0) := (Qcx BK140.out 3).trans rfl; have hcz11_4 : w9.cell? ⟨gb140, 4, none⟩ = some (.int .i64 0) := (Qcx BK140.out 4).trans rfl; have hfz11_0 := Qcy BK140.out 0; have hfz11_1 := Qcy BK140.out 1; have hfz11_2 := Qcy BK140.out 2; have hfz11_3 := Qcy BK140.out 3; have hfz11_4 := Qcy BK140.out 4) | (go_at_call 100; (with_reducible refine (Qbr.calls t134 t135 t136 t137 t138 a1 t141 _ A5.out).mono ?_); rintro e w12 ⟨rfl, hb⟩; have n0_ := QA (Qdg (g := gb133) (o := .cells #[.int .u8 a0_0, .int .u32 a0_1] 27 (0, 0)) (by (with_reducible repeat (first | apply Qdf | apply Qde | apply Qdd)); refine Qcv ?_ NB133_140.out _; (with_reducible repeat (first | apply Qdf | apply Qde | apply Qdd)); refine Qcv ?_ NB133_140.out _; (with_reducible repeat (first | apply Qdf | apply Qde | apply Qdd)); refine Qcv ?_ NB133_140.out _; (with_reducible repeat (first | apply Qdf | apply Qde | apply Qdd)); refine Qcv ?_ NB133_140.out _; (with_reducible repeat (first | apply Qdf | apply Qde | apply Qdd)); refine Qcv ?_ NB133_140.out _; (with_reducible repeat (first | apply Qdf | apply Qde | apply Qdd)); exact BK133.out) hb); have n1_ := QA (Qdg (g := gb140) (o := .cells #[.int .u8 t134, .int .u32 t135, .int .u32 t136, .int .i64 t137, .int .i64 t138] 47 (0, 0)) (by (with_reducible repeat (first | apply Qdf | apply Qde | apply Qdd)); refine Qds (cs := #[.int .u8 t134, .int .u32 t135, .int .u32 t136, .int .i64 t137, .int .i64 0]) ?_ 4 _ rfl; (with_reducible repeat (first | apply Qdf | apply Qde | apply Qdd)); refine Qds (cs := #[.int .u8 t134, .int .u32 t135, .int .u32 t136, .int .i64 0, .int .i64 0]) ?_ 3 _ rfl; (with_reducible repeat (first | apply Qdf | apply Qde | apply Qdd)); refine Qds (cs := #[.int .u8 t134, .int .u32 t135, .int .u32 0, .int .i64 0, .int .i64 0]) ?_ 2 _ rfl; (with_reducible repeat (first | apply Qdf | apply Qde | apply Qdd)); refine Qds (cs := #[.int .u8 t134, .int .u32 0, .int .u32 0, .int .i64 0, .int .i64 0]) ?_ 1 _ rfl; (with_reducible repeat (first | apply Qdf | apply Qde | apply Qdd)); refine Qds (cs := #[.int .u8 0, .int .u32 0, .int .u32 0, .int .i64 0, .int .i64 0]) ?_ 0 _ rfl; (with_reducible repeat (first | apply Qdf | apply Qde | apply Qdd)); exact BK140.out) hb); have n2_ := QA (Qdo (by repeat (first | (with_reducible first | exact HB.out | apply Qcc | apply Qce | apply Qdt | refine Qdp ?_ GE133.out | refine Qdp ?_ GE140.out) | exact HB.out)) hb); clear BK133; clear BK140; clear HB; have BK133 := n0_; have BK140 := n1_; have HB := n2_; clear n0_ n1_ n2_; (try clear hb); (try clear hb2); (try clear hk); (try clear hi)))
  go_ret
  exact ⟨by first | rfl | (simp [Qfr, Qfs] <;> rfl) | (simp [*, Qfr, Qfs] <;> rfl), by repeat (first | (with_reducible first | exact HB.out | apply Qcc | apply Qce | apply Qdt | refine Qdp ?_ GE133.out | refine Qdp ?_ GE140.out) | exact HB.out)⟩
 ·rw [if_neg c4] at H
  have c4b0 : (t139 == 0) = false := beq_eq_false_iff_ne.mpr c4
  have c4b1 : (t139 != 0) = true := bne_iff_ne.mpr c4
  obtain rfl := Option.some.inj H
  go_enter Tryz.func58, Tryz.ntmps58
  go_wp2_with (first | ((with_reducible refine Qdw (N := 2) rfl ?_); refine Qdv ?hg (N := 2) ?hd (cs := #[.int .u8 a0_0, .int .u32 a0_1]) (t := 27) ?hr ?_; (case hd => rfl); (case hg => rfl); (case hr => first | (go_simp; done) | (go_simp; rfl)); intro gb133 hg w13 hbox hb; have n0_ := QA (Qdo (by repeat (first | (with_reducible first | exact HB.out | apply Qcc | apply Qce | apply Qdt) | exact HB.out)) hb); have n1_ := QA (hbox); have n2_ := QA ((by rw [hg]; exact (Qdn (by repeat (first | (with_reducible first | exact HB.out | apply Qcc | apply Qce | apply Qdt) | exact HB.out))) : w.heap.size ≤ gb133)); have n3_ := QA ((by rw [hg]; exact (Qdn (by repeat (first | (with_reducible first | exact HB.out | apply Qcc | apply Qce | apply Qdt) | exact HB.out))) : w.heap.size ≤ gb133)); clear HB; have HB := n0_; have BK133 := n1_; have GW133 := n2_; have GE133 := n3_; clear n0_ n1_ n2_ n3_; clear hb hbox hg; have hcz14_0 : w13.cell? ⟨gb133, 0, none⟩ = some (.int .u8 a0_0) := (Qcx BK133.out 0).trans rfl; have hcz14_1 : w13.cell? ⟨gb133, 1, none⟩ = some (.int .u32 a0_1) := (Qcx BK133.out 1).trans rfl; have hfz14_0 := Qcy BK133.out 0; have hfz14_1 := Qcy BK133.out 1) | ((with_reducible refine Qfo (f := 52) rfl ?_); refine Qej (some 12) rfl rfl Tryz.func52 (by kernel_rfl) rfl #[.agg #[.int .u8 a0_0, .int .u32 a0_1], .int .u32 ((a0_1 - 1) % 4294967296)] rfl (by (try simp only [List.map_toArray, List.map_cons, List.map_nil]); first | done | rfl | (simp only [List.length_drop, List.length_take]; rfl)) ?_; (with_reducible refine (Qbp.calls a0_0 a0_1 ((a0_1 - 1) % 4294967296) t134 t135 t136 t137 t138 t139 _ A3.out).mono ?_); rintro e w15 ⟨rfl, hb⟩; refine ⟨_, rfl, ?_⟩; have n0_ := QA (Qdg (g := gb133) (o := .cells #[.int .u8 a0_0, .int .u32 a0_1] 27 (0, 0)) (by (with_reducible repeat (first | apply Qdf | apply Qde | apply Qdd)); exact BK133.out) hb); have n1_ := QA (Qdo (by repeat (first | (with_reducible first | exact HB.out | apply Qcc | apply Qce | apply Qdt | refine Qdp ?_ GE133.out) | exact HB.out)) hb); clear BK133; clear HB; have BK133 := n0_; have HB := n1_; clear n0_ n1_; (try clear hb); (try clear hb2); (try clear hk); (try clear hi)) | ((with_reducible refine Qdw (N := 5) rfl ?_); refine Qdv ?hg (N := 5) ?hd (cs := #[.int .u8 0, .int .u32 0, .int .u32 0, .int .i64 0, .int .i64 0]) (t := 47) ?hr ?_; (case hd => rfl); (case hg => rfl); (case hr => first | (go_simp; done) | (go_simp; rfl)); intro gb140 hg w16 hbox hb; have n0_ := QA (Qdg (g := gb133) (o := .cells #[.int .u8 a0_0, .int .u32 a0_1] 27 (0, 0)) (by (with_reducible repeat (first | apply Qdf | apply Qde | apply Qdd)); exact BK133.out) hb); have n1_ := QA (Qdo (by repeat (first | (with_reducible first | exact HB.out | apply Qcc | apply Qce | apply Qdt | refine Qdp ?_ GE133.out) | exact HB.out)) hb); have n2_ := QA (hbox); have n3_ := QA ((by rw [hg]; exact (Qdn (by repeat (first | (with_reducible first | exact HB.out | apply Qcc | apply Qce | apply Qdt | refine Qdp ?_ GE133.out) | exact HB.out))) : w.heap.size ≤ gb140)); have n4_ := QA ((by rw [hg]; exact (Qdn (by repeat (first | (with_reducible first | exact HB.out | apply Qcc | apply Qce | apply Qdt | refine Qdp ?_ GE133.out) | exact HB.out))) : w.heap.size ≤ gb140)); have n5_ := QA ((by rw [hg]; exact Nat.ne_of_lt (Qcw (g := gb133) (o := .cells #[.int .u8 a0_0, .int .u32 a0_1] 27 (0, 0)) (by (with_reducible repeat (first | apply Qdf | apply Qde | apply Qdd)); exact BK133.out)) : gb133 ≠ gb140)); have n6_ := QA ((by rw [hg]; exact Nat.ne_of_gt (Qcw (g := gb133) (o := .cells #[.int .u8 a0_0, .int .u32 a0_1] 27 (0, 0)) (by (with_reducible repeat (first | apply Qdf | apply Qde | apply Qdd)); exact BK133.out)) : gb140 ≠ gb133)); clear BK133; clear HB; have BK133 := n0_; have HB := n1_; have BK140 := n2_; have GW140 := n3_; have GE140 := n4_; have NB133_140 := n5_; have NB140_133 := n6_; clear n0_ n1_ n2_ n3_ n4_ n5_ n6_; clear hb hbox hg; have hnb17 := NB140_133.out; have hnc17 := NB133_140.out; have hcz18_0 : w16.cell? ⟨gb140, 0, none⟩ = some (.int .u8 0) := (Qcx BK140.out 0).trans rfl; have hcz18_1 : w16.cell? ⟨gb140, 1, none⟩ = some (.int .u32 0) := (Qcx BK140.out 1).trans rfl; have hcz18_2 : w16.cell? ⟨gb140, 2, none⟩ = some (.int .u32 0) := (Qcx BK140.out 2).trans rfl; have hcz18_3 : w16.cell? ⟨gb140, 3, none⟩ = some (.int .i64 0) := (Qcx BK140.out 3).trans rfl; have hcz18_4 : w16.cell? ⟨gb140, 4, none⟩ = some (.int .i64 0) := (Qcx BK140.out 4).trans rfl; have hfz18_0 := Qcy BK140.out 0; have hfz18_1 := Qcy BK140.out 1; have hfz18_2 := Qcy BK140.out 2; have hfz18_3 := Qcy BK140.out 3; have hfz18_4 := Qcy BK140.out 4))
  go_ret
  exact ⟨by first | rfl | (simp [Qfr, Qfs] <;> rfl) | (simp [*, Qfr, Qfs] <;> rfl), by repeat (first | (with_reducible first | exact HB.out | apply Qcc | apply Qce | apply Qdt | refine Qdp ?_ GE133.out | refine Qdp ?_ GE140.out) | exact HB.out)⟩
def Qab.f (a0 : Int) (a1 : Int) : Option (Int × Int) := some (IntKind.u64.wrap ((IntKind.u64.wrap ((IntKind.u64.wrap ((a0 / 4294967296) * (a1 / 4294967296))) + ((IntKind.u64.wrap ((IntKind.u64.wrap ((a0 / 4294967296) * (Go.bits .and .u64 a1 4294967295))) + ((IntKind.u64.wrap ((Go.bits .and .u64 a0 4294967295) * (Go.bits .and .u64 a1 4294967295))) / 4294967296))) / 4294967296))) + ((IntKind.u64.wrap ((Go.bits .and .u64 (IntKind.u64.wrap ((IntKind.u64.wrap ((a0 / 4294967296) * (Go.bits .and .u64 a1 4294967295))) + ((IntKind.u64.wrap ((Go.bits .and .u64 a0 4294967295) * (Go.bits .and .u64 a1 4294967295))) / 4294967296))) 4294967295) + (IntKind.u64.wrap ((Go.bits .and .u64 a0 4294967295) * (a1 / 4294967296))))) / 4294967296)), IntKind.u64.wrap (a0 * a1))
set_option maxHeartbeats 8000000 in
set_option maxRecDepth 100000 in
theorem Qab.calls (a0 : Int) (a1 : Int) (r1 : Int) (r2 : Int) (w : World) (h : Qab.f a0 a1 = some (r1, r2)) :
  Calls Tryz.prog 218 #[.int .u64 a0, .int .u64 a1] w fun e w' => e = .returned (.tuple #[.int .u64 r1, .int .u64 r2]) ∧ Drawn0 w w' := by
 have H : (some (IntKind.u64.wrap ((IntKind.u64.wrap ((IntKind.u64.wrap ((a0 / 4294967296) * (a1 / 4294967296))) + ((IntKind.u64.wrap ((IntKind.u64.wrap ((a0 / 4294967296) * (Go.bits .and .u64 a1 4294967295))) + ((IntKind.u64.wrap ((Go.bits .and .u64 a0 4294967295) * (Go.bits .and .u64 a1 4294967295))) / 4294967296))) / 4294967296))) + ((IntKind.u64.wrap ((Go.bits .and .u64 (IntKind.u64.wrap ((IntKind.u64.wrap ((a0 / 4294967296) * (Go.bits .and .u64 a1 4294967295))) + ((IntKind.u64.wrap ((Go.bits .and .u64 a0 4294967295) * (Go.bits .and .u64 a1 4294967295))) / 4294967296))) 4294967295) + (IntKind.u64.wrap ((Go.bits .and .u64 a0 4294967295) * (a1 / 4294967296))))) / 4294967296)), IntKind.u64.wrap (a0 * a1))) = some (r1, r2) := h
 clear h
 simp only [Option.some.injEq, Prod.mk.injEq] at H
 obtain ⟨rfl, rfl⟩ := H
 go_enter Tryz.func218, Tryz.ntmps218
 go_wp2
 go_ret2
 exact ⟨by first | rfl | (simp; done) | (simp [*]; done), by repeat (first | exact Drawn0.refl _ | apply Drawn0.step)⟩
def Qaa.f (a0 : Int) (a1 : Int) : Option (Int × Int) := (Qab.f a0 a1).bind fun bt114 => (some (bt114.1, bt114.2))
set_option maxHeartbeats 8000000 in
set_option maxRecDepth 100000 in
theorem Qaa.calls (a0 : Int) (a1 : Int) (r1 : Int) (r2 : Int) (w : World) (h : Qaa.f a0 a1 = some (r1, r2)) :
  Calls Tryz.prog 168 #[.int .u64 a0, .int .u64 a1] w fun e w' => e = .returned (.tuple #[.int .u64 r1, .int .u64 r2]) ∧ Drawn0 w w' := by
 have H : ((Qab.f a0 a1).bind fun bt114 => (some (bt114.1, bt114.2))) = some (r1, r2) := h
 clear h
 replace H := Option.bind_eq_some_iff.mp H
 obtain ⟨⟨t114, t115⟩, A30, H⟩ := H
 replace H : (some (t114, t115)) = some (r1, r2) := H
 have A3 := QA A30
 clear A30
 simp only [Option.some.injEq, Prod.mk.injEq] at H
 obtain ⟨rfl, rfl⟩ := H
 go_enter Tryz.func168, Tryz.ntmps168
 go_wp2_with (first | ((with_reducible refine Qfo (f := 218) rfl ?_); refine Qej (some 25) rfl rfl Tryz.func218 (by kernel_rfl) rfl #[.int .u64 a0, .int .u64 a1] rfl (by (try simp only [List.map_toArray, List.map_cons, List.map_nil]); first | done | rfl | (simp only [List.length_drop, List.length_take]; rfl)) ?_; (with_reducible refine (Qab.calls a0 a1 t114 t115 _ A3.out).mono ?_); rintro e w' ⟨rfl, ⟨nd, rfl⟩⟩; refine ⟨_, rfl, ?_⟩))
 go_ret2
 exact ⟨by first | rfl | (simp; done) | (simp [*]; done), by repeat (first | exact Drawn0.refl _ | apply Drawn0.step)⟩
end Go.Proofs.YtnnofopfbeklbaaGreat.C
end
section
namespace Go.Proofs.YtnnofopfbeklbaaGreat.C
open Go.RowKit Go.Proofs.YtnnofopfbeklbaaGreatW.PrintWords Go.Proofs.YtnnofopfbeklbaaGreatW.PrintLast Go.Proofs.YtnnofopfbeklbaaGreatW.PrintMore
theorem mul_one_n (n : Int) (h0 : 0 ≤ n) (h1 : n ≤ 140737488355328) : Qaa.f 1 n = some (0, n) := by
 have e1 : Go.bits .and .u64 1 4294967295 = 1 := by rw [and_low32 _ (by omega) (by omega)]; rfl
 have e2 : Go.bits .and .u64 n 4294967295 = n % 4294967296 := and_low32 _ (by omega) (by omega)
 have e3 : ∀ x : Int, 0 ≤ x → x ≤ 18446744073709551615 → IntKind.u64.wrap x = x := fun x a b => IntWalk.u64_in x ⟨a, b⟩
 unfold Qaa.f Qab.f
 rw [e1, e2]
 have d1 : (1 : Int) / 4294967296 = 0 := by decide
 have m0 : 0 ≤ n % 4294967296 := by omega
 have m1 : n % 4294967296 < 4294967296 := by omega
 have q0 : 0 ≤ n / 4294967296 := by omega
 have q1 : n / 4294967296 < 4294967296 := by omega
 have d2 : (n % 4294967296) / 4294967296 = 0 := by omega
 have d3 : (n / 4294967296) / 4294967296 = 0 := by omega
 have z3 : IntKind.u64.wrap 0 = 0 := e3 0 (by omega) (by omega)
 have zb : Go.bits .and .u64 0 4294967295 = 0 := by rw [and_low32 _ (by omega) (by omega)]; rfl
 simp only [d1, Int.zero_mul, Int.one_mul, z3, e3 _ m0 (by omega), d2, Int.add_zero, Int.zero_add, Int.zero_ediv, zb, e3 _ q0 (by omega), d3, e3 _ h0 (by omega), Option.bind_some]
attribute [local go_sem] Qfg Qfh Qfi Qfj
def Fill (w wr : World) (g n bp : Nat) (x : Int) : Prop :=
 ∃ cur : List Value, wr.heap[g]? = some (.cells cur.toArray 5 (0, 0)) ∧ n ≤ cur.length ∧ (∀ j, j < bp → cur[j]? = some (.int .u8 x)) ∧ Below w.heap.size w wr ∧ w.heap.size ≤ g
theorem Fill.splice {w w1 : World} {g n bp k : Nat} {x : Int} {cur : List Value} (hc : ∀ j, j < bp → cur[j]? = some (.int .u8 x)) (hl : n ≤ cur.length) (hbk : bp + k ≤ n) (hg : w1.heap[g]? = some (.cells (splice cur bp (List.replicate k (.int .u8 x))).toArray 5 (0, 0))) (hB : Below w.heap.size w w1) (hle : w.heap.size ≤ g) : Fill w w1 g n (bp + k) x := by
 refine ⟨_, hg, ?_, ?_, hB, hle⟩
 ·rw [length_splice _ _ _ (by simp; omega)]; exact hl
 ·intro j hj
  unfold Go.splice
  by_cases h1 : j < bp
  ·rw [List.getElem?_append_left (by simp; omega), List.getElem?_take_of_lt h1]
   exact hc j h1
  ·rw [List.getElem?_append_right (by simp; omega), List.length_take, Nat.min_eq_left (by omega), List.getElem?_append_left (by simp; omega)]
   simp [List.getElem?_replicate]
   omega
set_option maxRecDepth 100000 in
set_option maxHeartbeats 4000000 in
theorem repeat_pos (A0 : Option Addr) (c0 : Nat) (x : Int) (n : Nat) (w : World) (hn0 : 0 < n) (hn : n ≤ 140737488355328) (hr0 : Kd.C (Kd.int .u8) w A0 1 [x]) :
    Calls Tryz.prog 120 #[.slice A0 1 c0, .int .i64 n] w fun e w' => ∃ g, e = .returned (.slice (some ⟨g, 0, none⟩) n n) ∧ Fill w w' g n n x := by
  have hmul := mul_one_n n (by omega) (by omega)
  obtain ⟨ad, c, rfl, _, hK, hcell0⟩ := Kd.C_get hr0 0 0 (by omega) (by omega)
  have hK' : c = [.int .u8 x] := hK
  subst hK'
  have hcell := hcell0 0 _ rfl
  clear hcell0 hK
  have n0 : (0 : Int) < (n : Int) := by omega
  have n1 : (n : Int) ≤ 140737488355328 := by omega
  go_enter Tryz.func120, Tryz.ntmps120
  have hsz1 : (Tryz.prog.info? 5).map (·.size) = some 1 := by kernel_rfl
  obtain ⟨g, hg⟩ : ∃ g, g = w.heap.size := ⟨_, rfl⟩
  go_wp2_with (go_at_call 168; refine (Qaa.calls 1 n 0 n w hmul).mono ?_; rintro e w' ⟨rfl, hd⟩; obtain ⟨q, rfl⟩ := hd.out; clear hd; fail)
  go_at_call 168
  refine (Qaa.calls 1 n 0 n w hmul).mono ?_
  rintro e w' ⟨rfl, hd⟩
  obtain ⟨q, rfl⟩ := hd.out
  clear hd
  obtain ⟨cs, hrunM, hle, hmx⟩ := Lib.run_makeNoZero (P := Tryz.prog) (w.drewN q) #[3] 52 5 Tryz.underlying52 n (by omega)
  have hcall : (callFunc 169 #[.int .i64 (n : Int)]).run Tryz.prog (w.drewN q) = .ok (.value (.slice (some ⟨w.heap.size, 0, none⟩) n cs.size)) ((w.alloc (.cells cs 5)).drewN (q + 2)) := by
    rw [run_callFunc_extern Tryz.func169 (by kernel_rfl) (by kernel_rfl) (by kernel_rfl) (e := Extern.BytealgMakeNoZero.makeNoZero #[3] #[52]) (by kernel_rfl), hrunM]
    rfl
  clear hrunM hmx
  have i1 : (n : Int) ≤ (cs.size : Int) := by omega
  have hcell' : ((w.alloc (.cells cs 5)).drewN (q + 2)).cell? (ad.add 0) = some (.int .u8 x) := by
    rw [World.cell?_drewN]
    exact (((Below.refl _ w).alloc (Nat.le_refl _) _).cell (World.block_lt_of_cell? w _ hcell)).trans hcell
  obtain ⟨W0, hW0⟩ : ∃ W0, ((w.alloc (.cells cs 5)).drewN (q + 2)) = W0 := ⟨_, rfl⟩
  have hh0 : W0.heap[g]? = some (.cells cs.toList.toArray 5 (0, 0)) := by rw [← hW0, hg]; simpa using heap_alloc_new w (.cells cs 5)
  have hb0 : Below w.heap.size w W0 := by rw [← hW0]; exact Qce ((Below.refl _ w).alloc (Nat.le_refl _) _) _
  rw [hW0] at hcall hcell'
  clear hW0
  have HG := QA hg
  rw [← hg] at hcall
  clear hg
  by_cases hbig : 8192 < (n : Int)
  all_goals
    go_wp2_with (refine wpList_copy_splice rfl (.tmp 58) (.tmp 59) 52 52 ?ho 5 Tryz.underlying52 hsz1 (some ⟨g, 0, none⟩) (some ad) n n 1 c0 ?hd ?hs g 0 cs.toList 5 hh0 [.int .u8 x] ?hn ?hpos ?hfit ?h1 w.heap.size w hb0 ?hBg ?_; (case ho => rfl); (case hd => rfl); (case hs => rfl); (case hn => simp [Nat.min_def]; omega); (case hpos => intro _; refine ⟨rfl, ad, rfl, fun j v hj => ?_⟩; cases j with | zero => (simp at hj; subst hj; exact hcell') | succ j => (simp at hj)); (case hfit => simp; omega); (case h1 => intro v hv; simp at hv; subst hv; rfl); (case hBg => rw [HG.out]; exact Nat.le_refl _); intro w1 HG1 hb1)
    have HF1 : Fill w w1 g n (0 + 1) x := Fill.splice (cur := cs.toList) (bp := 0) (k := 1) (by intro j hj; omega) (by simpa using hle) (by omega) HG1.out hb1 (by rw [HG.out]; exact Nat.le_refl _)
    clear HG1 hb1
    go_loopw [10] (fun v10 wr => ∃ (bp : Nat), 1 ≤ bp ∧ bp ≤ n ∧ v10 = .int .i64 (bp : Int) ∧ Aside0 (Fill w wr g n bp x)) (fun v10 _ => n - (intOf v10).toNat)
    case atStart => exact ⟨1, Nat.le_refl _, by omega, rfl, ⟨HF1⟩⟩
    case round =>
      clear HF1
      obtain ⟨bp, hb1, hb2, rfl, HF⟩ := hrel
      by_cases hlt : bp < n
      · by_cases c8 : 8192 < (bp : Int)
        all_goals first | (exfalso; omega) | skip
        all_goals
         obtain ⟨ch, hch1, hch2, hcb⟩ : ∃ ch : Nat, 1 ≤ ch ∧ ch ≤ bp ∧ ((8192 < (n : Int) → 8192 < (bp : Int) → ch = 8192) ∧ (¬ 8192 < (bp : Int) → ch = bp) ∧ (¬ 8192 < (n : Int) → ch = bp)) := by
          by_cases c : 8192 < (n : Int) ∧ 8192 < (bp : Int)
          · exact ⟨8192, by omega, by omega, fun _ _ => rfl, by omega, by omega⟩
          · exact ⟨bp, by omega, by omega, by omega, by omega, by omega⟩
         have e3 : (if 8192 < (bp : Int) then (8192 : Int) else (bp : Int)) ≤ (n : Int) := by split <;> omega
         first | rw [if_pos c8] at e3 | rw [if_neg c8] at e3
         have HCB := QA hcb
         clear hcb
         obtain ⟨cur, hcur, hcl, hcx, hB, hle2⟩ := HF.out
         obtain ⟨kk, hkk⟩ : ∃ kk, kk = Nat.min ch (n - bp) := ⟨_, rfl⟩
         have hk1 : 1 ≤ kk ∧ kk ≤ ch ∧ kk ≤ n - bp := by
           have h1 : kk ≤ ch := by rw [hkk]; exact Nat.min_le_left _ _
           have h2 : kk ≤ n - bp := by rw [hkk]; exact Nat.min_le_right _ _
           have h3 : 1 ≤ kk := by rw [hkk]; exact Nat.le_min.2 ⟨hch1, by omega⟩
           exact ⟨h3, h1, h2⟩
         have HKK := QA hkk
         clear hkk
         have hcells : ∀ j, j < ch → wr.cell? ⟨g, j, none⟩ = some (.int .u8 x) := by
           intro j hj
           have := hcx j (by omega)
           simp [World.cell?, hcur, this]
         have HCELLS := QA hcells
         have HCUR := QA hcur
         have HCX := QA hcx
         have HCL := QA hcl
         have HB := QA hB
         have HLE := QA hle2
         clear hcells hcur hcx hcl hB hle2 HF
         have e1 : (bp : Int) < (n : Int) := by omega
         have e2 : (ch : Int) ≤ (n : Int) := by omega
         have hn1 := QA (show (List.replicate kk (Value.int .u8 x)).length = Nat.min ch (n - bp) by rw [List.length_replicate]; exact HKK.out)
         have hn2 := QA (show ∀ j v, (List.replicate kk (Value.int .u8 x))[j]? = some v → wr.cell? ((⟨g, 0, none⟩ : Addr).add j) = some v by
           intro j v hj
           rw [List.getElem?_replicate] at hj
           split at hj
           · injection hj with hj
             subst hj
             rw [Qci]
             exact HCELLS.out j (by omega)
           · cases hj)
         have hn3 := QA (show bp + (List.replicate kk (Value.int .u8 x)).length ≤ cur.length by rw [List.length_replicate]; have := HCL.out; omega)
         have hn4 := QA (show ∀ v ∈ List.replicate kk (Value.int .u8 x), v.oneCell' = true by intro v hv; rw [(List.mem_replicate.1 hv).2]; rfl)
         go_wp2_with fail
         go_region_law (refine step_copy_splice rfl (.tmp 70) (.tmp 73) 52 52 rfl 5 Tryz.underlying52 hsz1 (some ⟨g, bp, none⟩) (some ⟨g, 0, none⟩) (n - bp) (n - bp) ch n (by (try simp [Act.eval, Act.put]) <;> omega) (by (try simp [Act.eval, Act.put]) <;> (have := HCB.out; omega)) g bp cur 5 HCUR.out (List.replicate kk (.int .u8 x)) hn1.out (fun _ => ⟨rfl, _, rfl, hn2.out⟩) hn3.out hn4.out w.heap.size w (by first | exact HB.out | exact Qcd HB.out) HLE.out ?_; intro w4 HG4 hb4)
         have HF4 : Fill w w4 g n (bp + kk) x := Fill.splice HCX.out HCL.out (by omega) HG4.out hb4 HLE.out
         clear HG4 hb4
         go_wp2
         go_roundw
         case rel => exact ⟨bp + kk, by omega, by omega, by rw [IntWalk.i64_in _ (by omega)]; go_num, ⟨HF4⟩⟩
         case measure => simp [intOf, IntWalk.i64_in ((bp : Int) + (kk : Int)) (by omega)]; omega
      · obtain rfl : bp = n := by omega
        go_wp2
        go_ret
        exact ⟨g, rfl, HF.out⟩
theorem fill_reads {w w' : World} {g n : Nat} {x : Int} (h : Fill w w' g n n x) (hn : n ≤ 9223372036854775807) : Kd.C (Kd.int .u8) w' (some ⟨g, 0, none⟩) n (List.replicate n x) := by
 obtain ⟨cur, h1, h2, h3, h4, h5⟩ := h
 refine Kd.C_of_reads (d := (0 : Int)) ⟨List.length_replicate, hn, fun _ => ⟨_, rfl, fun j hj => ?_⟩⟩
 rw [Qci, Qcx h1]
 simp [h3 j hj, List.getD_eq_getElem?_getD, List.getElem?_replicate, hj]
set_option maxRecDepth 100000 in
set_option maxHeartbeats 1000000 in
theorem repeat_of (A0 : Option Addr) (c0 : Nat) (x : Int) (n : Nat) (w : World) (hn : n ≤ 140737488355328) (hr0 : Kd.C (Kd.int .u8) w A0 1 [x]) :
  Calls Tryz.prog 120 #[.slice A0 1 c0, .int .i64 n] w fun e w' => ∃ A c, e = .returned (.slice A n c) ∧ n ≤ c ∧ Kd.C (Kd.int .u8) w' A n (List.replicate n x) ∧ Below w.heap.size w w' := by
 rcases Nat.eq_zero_or_pos n with rfl | hp
 ·go_enter Tryz.func120, Tryz.ntmps120
  go_wp2
  go_ret
  exact ⟨_, _, rfl, Nat.le_refl _, ⟨rfl, by omega, fun h => absurd h (by omega)⟩, Qcc (Below.refl _ _) _⟩
 ·refine (repeat_pos A0 c0 x n w hp hn hr0).mono ?_
  rintro e w' ⟨g, rfl, hF⟩
  refine ⟨_, _, rfl, Nat.le_refl _, fill_reads hF (by omega), ?_⟩
  obtain ⟨cur, h1, h2, h3, h4, h5⟩ := hF
  exact h4
end Go.Proofs.YtnnofopfbeklbaaGreat.C
end
