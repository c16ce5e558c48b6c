/- Texts of this claim's author and of the print of its functions, merged by merge.py. -/
import Derived.Test.YtnnofopfbeklbaaGreatMC02
import Derived.Test.YtnnofopfbeklbaaGreatMC09
import Derived.Test.YtnnofopfbeklbaaGreatMC10
import Derived.Test.YtnnofopfbeklbaaGreatMC07
import Derived.Test.YtnnofopfbeklbaaGreatMC08
set_option linter.unusedVariables false
set_option linter.unusedSimpArgs false
section
namespace Go.Proofs.YtnnofopfbeklbaaGreat.C
open Go.RowKit Go.Proofs.YtnnofopfbeklbaaGreatW.PrintWords Go.Proofs.YtnnofopfbeklbaaGreatW.PrintLast Go.Proofs.YtnnofopfbeklbaaGreatW.PrintMore
attribute [local go_sem] Qfg Qfh Qfi Qfj Qfk Qfl Qfm Qfn
def Qbh.f (a0_0 : Bool) (a0_1 : Int) (a0_2 : ByteArray) (a0_3 : ByteArray) : Option (List Int × Int) := (Qbv.f a0_0 a0_1 a0_2 a0_3).bind fun bt118 => (if bt118.2 = 0 then ((Qbi.f bt118.1).bind fun t122 => (some (t122, 0))) else (some (([] : List Int), bt118.2)))
set_option maxHeartbeats 8000000 in
set_option maxRecDepth 100000 in
theorem Qbh.calls (a0_0 : Bool) (a0_1 : Int) (a0_2 : ByteArray) (a0_3 : ByteArray) (r1 : List Int) (r2 : Int) (w : World) (h : Qbh.f a0_0 a0_1 a0_2 a0_3 = some (r1, r2)) :
  Calls Tryz.prog 57 #[.agg #[.bool a0_0, .int .u64 a0_1, .string a0_2, .string a0_3]] w fun e w' => ∃ v0_ : Value, e = .returned (.tuple #[v0_, .int .i64 r2]) ∧ Kd.R (Kd.int .u8) 5 w' w.heap.size (fun _ => True) v0_ r1 ∧ Below w.heap.size w w' := by
 have hu39 := Tryz.underlying39
 have HB := QA (Below.refl w.heap.size w)
 have H : ((Qbv.f a0_0 a0_1 a0_2 a0_3).bind fun bt118 => (if bt118.2 = 0 then ((Qbi.f bt118.1).bind fun t122 => (some (t122, 0))) else (some (([] : List Int), bt118.2)))) = some (r1, r2) := h
 clear h
 replace H := Option.bind_eq_some_iff.mp H
 obtain ⟨⟨t118, t121⟩, A20, H⟩ := H
 replace H : (if t121 = 0 then ((Qbi.f t118).bind fun t122 => (some (t122, 0))) else (some (([] : List Int), t121))) = some (r1, r2) := H
 have A2 := QA A20
 clear A20
 by_cases c3 : t121 = 0
 ·rw [if_pos c3] at H
  have c3b0 : (t121 == 0) = true := beq_iff_eq.mpr c3
  have c3b1 : (t121 != 0) = false := bne_eq_false_iff_eq.mpr c3
  clear c3
  replace H := Option.bind_eq_some_iff.mp H
  obtain ⟨t122, A40, H⟩ := H
  replace H : (some (t122, 0)) = some (r1, r2) := H
  have A4 := QA A40
  clear A40
  simp only [Option.some.injEq, Prod.mk.injEq] at H
  obtain ⟨rfl, rfl⟩ := H
  go_enter Tryz.func57, Tryz.ntmps57
  go_wp2_with (first | ((with_reducible refine Qdw (N := 1) rfl ?_); refine Qdv ?hg (N := 1) ?hd (cs := #[.bool a0_0, .int .u64 a0_1, .string a0_2, .string a0_3]) (t := 39) ?hr ?_; (case hd => rfl); (case hg => rfl); (case hr => first | (go_simp; done) | (go_simp; rfl)); intro gb117 hg w5 hbox hb; have n0_ := QA (Qdo (by repeat (first | (with_reducible first | exact HB.out | apply Qcc | apply Qce | apply Qdt) | exact HB.out)) hb); have n1_ := QA (hbox); have n2_ := QA ((by rw [hg]; exact (Qdn (by repeat (first | (with_reducible first | exact HB.out | apply Qcc | apply Qce | apply Qdt) | exact HB.out))) : w.heap.size ≤ gb117)); have n3_ := QA ((by rw [hg]; exact (Qdn (by repeat (first | (with_reducible first | exact HB.out | apply Qcc | apply Qce | apply Qdt) | exact HB.out))) : w.heap.size ≤ gb117)); clear HB; have HB := n0_; have BK117 := n1_; have GW117 := n2_; have GE117 := n3_; clear n0_ n1_ n2_ n3_; clear hb hbox hg; have hcz6_0 : w5.cell? ⟨gb117, 0, none⟩ = some (.bool a0_0) := (Qcx BK117.out 0).trans rfl; have hcz6_1 : w5.cell? ⟨gb117, 1, none⟩ = some (.int .u64 a0_1) := (Qcx BK117.out 1).trans rfl; have hcz6_2 : w5.cell? ⟨gb117, 2, none⟩ = some (.string a0_2) := (Qcx BK117.out 2).trans rfl; have hcz6_3 : w5.cell? ⟨gb117, 3, none⟩ = some (.string a0_3) := (Qcx BK117.out 3).trans rfl; have hfz6_0 := Qcy BK117.out 0; have hfz6_1 := Qcy BK117.out 1; have hfz6_2 := Qcy BK117.out 2; have hfz6_3 := Qcy BK117.out 3) | ((with_reducible refine Qfo (f := 99) rfl ?_); refine Qej (some 8) rfl rfl Tryz.func99 (by kernel_rfl) rfl #[.agg #[.bool a0_0, .int .u64 a0_1, .string a0_2, .string a0_3]] rfl (by (try simp only [List.map_toArray, List.map_cons, List.map_nil]); first | done | rfl | (simp only [List.length_drop, List.length_take]; rfl)) ?_; (with_reducible refine (Qbv.calls a0_0 a0_1 a0_2 a0_3 t118 t121 _ A2.out).mono ?_); rintro e w7 ⟨v119, rfl, ho0, hb⟩; refine ⟨_, rfl, ?_⟩; have n0_ := QA (Kd.R_lower ho0 (Qdn (by repeat (first | (with_reducible first | exact HB.out | apply Qcc | apply Qce | apply Qdt | refine Qdp ?_ GE117.out) | exact HB.out)))); have n1_ := QA (Qdg (g := gb117) (o := .cells #[.bool a0_0, .int .u64 a0_1, .string a0_2, .string a0_3] 39 (0, 0)) (by (with_reducible repeat (first | apply Qdf | apply Qde | apply Qdd)); exact BK117.out) hb); have n2_ := QA (Qdo (by repeat (first | (with_reducible first | exact HB.out | apply Qcc | apply Qce | apply Qdt | refine Qdp ?_ GE117.out) | exact HB.out)) hb); clear BK117; clear HB; have HO120 := n0_; have BK117 := n1_; have HB := n2_; clear n0_ n1_ n2_; (try clear hb); (try clear hb2); (try clear hk); (try clear hi); (try clear ho0); obtain ⟨Ao8, co8, eo8⟩ := Kd.R_slice HO120.out; subst eo8) | ((with_reducible refine Qfo (f := 96) rfl ?_); refine Qej (some 15) rfl rfl Tryz.func96 (by kernel_rfl) rfl #[.slice Ao8 t118.length co8] rfl (by (try simp only [List.map_toArray, List.map_cons, List.map_nil]); first | done | rfl | (simp only [List.length_drop, List.length_take]; rfl)) ?_; (with_reducible refine (Qbi.calls _ _ t118 t122 _ ?side1 ?side2 A4.out).mono ?_); (case side1 => repeat (first | exact (Kd.R_reads' HO120.out).2.2 | (with_reducible refine Kd.C_alloc ?_ _) | (with_reducible refine Kd.C_drewN ?_ _) | (with_reducible refine Kd.C_drew ?_))); (case side2 => exact (Kd.R_reads' HO120.out).2.1); rintro e w9 ⟨v123, rfl, ho0, hb⟩; refine ⟨_, rfl, ?_⟩; have n0_ := QA (Kd.R_elder' (by (with_reducible repeat (first | apply Kd.R_alloc | apply Kd.R_drewN | apply Kd.R_drew)); exact HO120.out) (Kd.R_base ho0) hb); have n1_ := QA (Kd.R_lower (Kd.R_new' ho0 (Kd.R_lt (by (with_reducible repeat (first | apply Kd.R_alloc | apply Kd.R_drewN | apply Kd.R_drew)); exact HO120.out))) (Qdn (by repeat (first | (with_reducible first | exact HB.out | apply Qcc | apply Qce | apply Qdt | refine Qdp ?_ GE117.out) | exact HB.out)))); have n2_ := QA (Qdg (g := gb117) (o := .cells #[.bool a0_0, .int .u64 a0_1, .string a0_2, .string a0_3] 39 (0, 0)) (by (with_reducible repeat (first | apply Qdf | apply Qde | apply Qdd)); exact BK117.out) hb); have n3_ := QA (Qdo (by repeat (first | (with_reducible first | exact HB.out | apply Qcc | apply Qce | apply Qdt | refine Qdp ?_ GE117.out) | exact HB.out)) hb); clear HO120; clear BK117; clear HB; have HO120 := n0_; have HO124 := n1_; have BK117 := n2_; have HB := n3_; clear n0_ n1_ n2_ n3_; (try clear hb); (try clear hb2); (try clear hk); (try clear hi); (try clear ho0)))
  go_ret2
  exact ⟨_, by first | rfl | (simp [Qfr, Qfs] <;> rfl) | (simp [*, Qfr, Qfs] <;> rfl), by (with_reducible repeat (first | apply Kd.R_alloc | apply Kd.R_drewN | apply Kd.R_drew)); exact Kd.R_mono HO124.out (fun _ hk => trivial), by repeat (first | (with_reducible first | exact HB.out | apply Qcc | apply Qce | apply Qdt | refine Qdp ?_ GE117.out) | exact HB.out)⟩
 ·rw [if_neg c3] at H
  have c3b0 : (t121 == 0) = false := beq_eq_false_iff_ne.mpr c3
  have c3b1 : (t121 != 0) = true := bne_iff_ne.mpr c3
  simp only [Option.some.injEq, Prod.mk.injEq] at H
  obtain ⟨rfl, rfl⟩ := H
  go_enter Tryz.func57, Tryz.ntmps57
  go_wp2_with (first | ((with_reducible refine Qdw (N := 1) rfl ?_); refine Qdv ?hg (N := 1) ?hd (cs := #[.bool a0_0, .int .u64 a0_1, .string a0_2, .string a0_3]) (t := 39) ?hr ?_; (case hd => rfl); (case hg => rfl); (case hr => first | (go_simp; done) | (go_simp; rfl)); intro gb117 hg w10 hbox hb; have n0_ := QA (Qdo (by repeat (first | (with_reducible first | exact HB.out | apply Qcc | apply Qce | apply Qdt) | exact HB.out)) hb); have n1_ := QA (hbox); have n2_ := QA ((by rw [hg]; exact (Qdn (by repeat (first | (with_reducible first | exact HB.out | apply Qcc | apply Qce | apply Qdt) | exact HB.out))) : w.heap.size ≤ gb117)); have n3_ := QA ((by rw [hg]; exact (Qdn (by repeat (first | (with_reducible first | exact HB.out | apply Qcc | apply Qce | apply Qdt) | exact HB.out))) : w.heap.size ≤ gb117)); clear HB; have HB := n0_; have BK117 := n1_; have GW117 := n2_; have GE117 := n3_; clear n0_ n1_ n2_ n3_; clear hb hbox hg; have hcz11_0 : w10.cell? ⟨gb117, 0, none⟩ = some (.bool a0_0) := (Qcx BK117.out 0).trans rfl; have hcz11_1 : w10.cell? ⟨gb117, 1, none⟩ = some (.int .u64 a0_1) := (Qcx BK117.out 1).trans rfl; have hcz11_2 : w10.cell? ⟨gb117, 2, none⟩ = some (.string a0_2) := (Qcx BK117.out 2).trans rfl; have hcz11_3 : w10.cell? ⟨gb117, 3, none⟩ = some (.string a0_3) := (Qcx BK117.out 3).trans rfl; have hfz11_0 := Qcy BK117.out 0; have hfz11_1 := Qcy BK117.out 1; have hfz11_2 := Qcy BK117.out 2; have hfz11_3 := Qcy BK117.out 3) | ((with_reducible refine Qfo (f := 99) rfl ?_); refine Qej (some 8) rfl rfl Tryz.func99 (by kernel_rfl) rfl #[.agg #[.bool a0_0, .int .u64 a0_1, .string a0_2, .string a0_3]] rfl (by (try simp only [List.map_toArray, List.map_cons, List.map_nil]); first | done | rfl | (simp only [List.length_drop, List.length_take]; rfl)) ?_; (with_reducible refine (Qbv.calls a0_0 a0_1 a0_2 a0_3 t118 t121 _ A2.out).mono ?_); rintro e w12 ⟨v119, rfl, ho0, hb⟩; refine ⟨_, rfl, ?_⟩; have n0_ := QA (Kd.R_lower ho0 (Qdn (by repeat (first | (with_reducible first | exact HB.out | apply Qcc | apply Qce | apply Qdt | refine Qdp ?_ GE117.out) | exact HB.out)))); have n1_ := QA (Qdg (g := gb117) (o := .cells #[.bool a0_0, .int .u64 a0_1, .string a0_2, .string a0_3] 39 (0, 0)) (by (with_reducible repeat (first | apply Qdf | apply Qde | apply Qdd)); exact BK117.out) hb); have n2_ := QA (Qdo (by repeat (first | (with_reducible first | exact HB.out | apply Qcc | apply Qce | apply Qdt | refine Qdp ?_ GE117.out) | exact HB.out)) hb); clear BK117; clear HB; have HO120 := n0_; have BK117 := n1_; have HB := n2_; clear n0_ n1_ n2_; (try clear hb); (try clear hb2); (try clear hk); (try clear hi); (try clear ho0)))
  go_ret2
  exact ⟨_, by first | rfl | (simp [Qfr, Qfs] <;> rfl) | (simp [*, Qfr, Qfs] <;> rfl), by first | exact Kd.R_nil _ _ _ _ _ | exact Kd.N_nil _ _ _ _ _ | exact Kd.V_nil _ _ _ _ _ | exact Kd.Q_nil _ _ _ _ _ | exact Kd.S_nil _ _ _ _ _, by repeat (first | (with_reducible first | exact HB.out | apply Qcc | apply Qce | apply Qdt | refine Qdp ?_ GE117.out) | exact HB.out)⟩
def Qbp.f (a0_0 : Int) (a0_1 : Int) (a1 : Int) : Option (Int × Int × Int × Int × Int × Int) := (Qbg.f a0_0 a0_1 a1).bind fun bt108 => (if bt108.2 = 0 then (some (a0_0, a0_1, a1, (bt108.1.length : Int), 0, 0)) else (some (0, 0, 0, 0, 0, bt108.2)))
set_option maxHeartbeats 8000000 in
set_option maxRecDepth 100000 in
theorem Qbp.calls (a0_0 : Int) (a0_1 : Int) (a1 : Int) (r1 : Int) (r2 : Int) (r3 : Int) (r4 : Int) (r5 : Int) (r6 : Int) (w : World) (h : Qbp.f a0_0 a0_1 a1 = some (r1, r2, r3, r4, r5, r6)) :
  Calls Tryz.prog 52 #[.agg #[.int .u8 a0_0, .int .u32 a0_1], .int .u32 a1] w fun e w' => e = .returned (.tuple #[.agg #[.int .u8 r1, .int .u32 r2, .int .u32 r3, .int .i64 r4, .int .i64 r5], .int .i64 r6]) ∧ Below w.heap.size w w' := by
 have hu27 := Tryz.underlying27
 have hu47 := Tryz.underlying47
 have HB := QA (Below.refl w.heap.size w)
 have H : ((Qbg.f a0_0 a0_1 a1).bind fun bt108 => (if bt108.2 = 0 then (some (a0_0, a0_1, a1, (bt108.1.length : Int), 0, 0)) else (some (0, 0, 0, 0, 0, bt108.2)))) = some (r1, r2, r3, r4, r5, r6) := h
 clear h
 replace H := Option.bind_eq_some_iff.mp H
 obtain ⟨⟨t108, t111⟩, A30, H⟩ := H
 replace H : (if t111 = 0 then (some (a0_0, a0_1, a1, (t108.length : Int), 0, 0)) else (some (0, 0, 0, 0, 0, t111))) = some (r1, r2, r3, r4, r5, r6) := H
 have A3 := QA A30
 clear A30
 by_cases c4 : t111 = 0
 ·rw [if_pos c4] at H
  have c4b0 : (t111 == 0) = true := beq_iff_eq.mpr c4
  have c4b1 : (t111 != 0) = false := bne_eq_false_iff_eq.mpr c4
  clear c4
  simp only [Option.some.injEq, Prod.mk.injEq] at H
  obtain ⟨rfl, rfl, rfl, rfl, rfl, rfl⟩ := H
  go_enter Tryz.func52, Tryz.ntmps52
  go_wp2_with (first | ((with_reducible refine Qdw (N := 2) rfl ?_); refine Qdv ?hg (N := 2) ?hd (cs := #[.int .u8 a0_0, .int .u32 a0_1]) (t := 27) ?hr ?_; (case hd => rfl); (case hg => rfl); (case hr => first | (go_simp; done) | (go_simp; rfl)); intro gb106 hg w5 hbox hb; have n0_ := QA (Qdo (by repeat (first | (with_reducible first | exact HB.out | apply Qcc | apply Qce | apply Qdt) | exact HB.out)) hb); have n1_ := QA (hbox); have n2_ := QA ((by rw [hg]; exact (Qdn (by repeat (first | (with_reducible first | exact HB.out | apply Qcc | apply Qce | apply Qdt) | exact HB.out))) : w.heap.size ≤ gb106)); have n3_ := QA ((by rw [hg]; exact (Qdn (by repeat (first | (with_reducible first | exact HB.out | apply Qcc | apply Qce | apply Qdt) | exact HB.out))) : w.heap.size ≤ gb106)); clear HB; have HB := n0_; have BK106 := n1_; have GW106 := n2_; have GE106 := n3_; clear n0_ n1_ n2_ n3_; clear hb hbox hg) | ((with_reducible refine Qdw (N := 4) rfl ?_); refine Qdv ?hg (N := 4) ?hd (cs := #[.int .u8 0, .int .u32 0, .int .u32 0, .int .i64 0, .int .i64 0]) (t := 47) ?hr ?_; (case hd => rfl); (case hg => rfl); (case hr => first | (go_simp; done) | (go_simp; rfl)); intro gb107 hg w6 hbox hb; have n0_ := QA (Qdg (g := gb106) (o := .cells #[.int .u8 a0_0, .int .u32 a0_1] 27 (0, 0)) (by (with_reducible repeat (first | apply Qdf | apply Qde | apply Qdd)); exact BK106.out) hb); have n1_ := QA (Qdo (by repeat (first | (with_reducible first | exact HB.out | apply Qcc | apply Qce | apply Qdt | refine Qdp ?_ GE106.out) | exact HB.out)) hb); have n2_ := QA (hbox); have n3_ := QA ((by rw [hg]; exact (Qdn (by repeat (first | (with_reducible first | exact HB.out | apply Qcc | apply Qce | apply Qdt | refine Qdp ?_ GE106.out) | exact HB.out))) : w.heap.size ≤ gb107)); have n4_ := QA ((by rw [hg]; exact (Qdn (by repeat (first | (with_reducible first | exact HB.out | apply Qcc | apply Qce | apply Qdt | refine Qdp ?_ GE106.out) | exact HB.out))) : w.heap.size ≤ gb107)); have n5_ := QA ((by rw [hg]; exact Nat.ne_of_lt (Qcw (g := gb106) (o := .cells #[.int .u8 a0_0, .int .u32 a0_1] 27 (0, 0)) (by (with_reducible repeat (first | apply Qdf | apply Qde | apply Qdd)); exact BK106.out)) : gb106 ≠ gb107)); have n6_ := QA ((by rw [hg]; exact Nat.ne_of_gt (Qcw (g := gb106) (o := .cells #[.int .u8 a0_0, .int .u32 a0_1] 27 (0, 0)) (by (with_reducible repeat (first | apply Qdf | apply Qde | apply Qdd)); exact BK106.out)) : gb107 ≠ gb106)); clear BK106; clear HB; have BK106 := n0_; have HB := n1_; have BK107 := n2_; have GW107 := n3_; have GE107 := n4_; have NB106_107 := n5_; have NB107_106 := n6_; clear n0_ n1_ n2_ n3_ n4_ n5_ n6_; clear hb hbox hg; have hnb7 := NB106_107.out; have hnc7 := NB107_106.out; have hcz8_0 : w6.cell? ⟨gb106, 0, none⟩ = some (.int .u8 a0_0) := (Qcx BK106.out 0).trans rfl; have hcz8_1 : w6.cell? ⟨gb106, 1, none⟩ = some (.int .u32 a0_1) := (Qcx BK106.out 1).trans rfl; have hfz8_0 := Qcy BK106.out 0; have hfz8_1 := Qcy BK106.out 1) | ((with_reducible refine Qfo (f := 53) rfl ?_); refine Qej (some 11) rfl rfl Tryz.func53 (by kernel_rfl) rfl #[.agg #[.int .u8 a0_0, .int .u32 a0_1], .int .u32 a1] rfl (by (try simp only [List.map_toArray, List.map_cons, List.map_nil]); first | done | rfl | (simp only [List.length_drop, List.length_take]; rfl)) ?_; (with_reducible refine (Qbg.calls a0_0 a0_1 a1 t108 t111 _ A3.out).mono ?_); rintro e w9 ⟨v109, rfl, ho0, hb⟩; refine ⟨_, rfl, ?_⟩; have n0_ := QA (Kd.R_lower ho0 (Qdn (by repeat (first | (with_reducible first | exact HB.out | apply Qcc | apply Qce | apply Qdt | refine Qdp ?_ GE106.out | refine Qdp ?_ GE107.out) | exact HB.out)))); have n1_ := QA (Qdg (g := gb106) (o := .cells #[.int .u8 a0_0, .int .u32 a0_1] 27 (0, 0)) (by (with_reducible repeat (first | apply Qdf | apply Qde | apply Qdd)); exact BK106.out) hb); have n2_ := QA (Qdg (g := gb107) (o := .cells #[.int .u8 0, .int .u32 0, .int .u32 0, .int .i64 0, .int .i64 0] 47 (0, 0)) (by (with_reducible repeat (first | apply Qdf | apply Qde | apply Qdd)); exact BK107.out) hb); have n3_ := QA (Qdo (by repeat (first | (with_reducible first | exact HB.out | apply Qcc | apply Qce | apply Qdt | refine Qdp ?_ GE106.out | refine Qdp ?_ GE107.out) | exact HB.out)) hb); clear BK106; clear BK107; clear HB; have HO110 := n0_; have BK106 := n1_; have BK107 := n2_; have HB := n3_; clear n0_ n1_ n2_ n3_; (try clear hb); (try clear hb2); (try clear hk); (try clear hi); (try clear ho0); have hcz10_0 : w9.cell? ⟨gb106, 0, none⟩ = some (.int .u8 a0_0) := (Qcx BK106.out 0).trans rfl; have hcz10_1 : w9.cell? ⟨gb106, 1, none⟩ = some (.int .u32 a0_1) := (Qcx BK106.out 1).trans rfl; have hfz10_0 := Qcy BK106.out 0; have hfz10_1 := Qcy BK106.out 1; obtain ⟨Ao11, co11, eo11⟩ := Kd.R_slice HO110.out; subst eo11; have hcz12_0 : w9.cell? ⟨gb107, 0, none⟩ = some (.int .u8 0) := (Qcx BK107.out 0).trans rfl; have hcz12_1 : w9.cell? ⟨gb107, 1, none⟩ = some (.int .u32 0) := (Qcx BK107.out 1).trans rfl; have hcz12_2 : w9.cell? ⟨gb107, 2, none⟩ = some (.int .u32 0) := (Qcx BK107.out 2).trans rfl; have hcz12_3 : w9.cell? ⟨gb107, 3, none⟩ = some (.int .i64 0) := (Qcx BK107.out 3).trans rfl; have hcz12_4 : w9.cell? ⟨gb107, 4, none⟩ = some (.int .i64 0) := (Qcx BK107.out 4).trans rfl; have hfz12_0 := Qcy BK107.out 0; have hfz12_1 := Qcy BK107.out 1; have hfz12_2 := Qcy BK107.out 2; have hfz12_3 := Qcy BK107.out 3; have hfz12_4 := Qcy BK107.out 4))
  refine bodyPost_ret (Qdi rfl _ _ gb107 47 #[.int .u8 a0_0, .int .u32 a0_1, .int .u32 a1, .int .i64 (t108.length : Int), .int .i64 0] (0, 0) _ rfl (by (with_reducible repeat (first | apply Qdf | apply Qde | apply Qdd)); refine Qds (cs := #[.int .u8 a0_0, .int .u32 a0_1, .int .u32 a1, .int .i64 (t108.length : Int), .int .i64 0]) ?_ 4 _ rfl; (with_reducible repeat (first | apply Qdf | apply Qde | apply Qdd)); refine Qds (cs := #[.int .u8 a0_0, .int .u32 a0_1, .int .u32 a1, .int .i64 0, .int .i64 0]) ?_ 3 _ rfl; (with_reducible repeat (first | apply Qdf | apply Qde | apply Qdd)); refine Qds (cs := #[.int .u8 a0_0, .int .u32 a0_1, .int .u32 0, .int .i64 0, .int .i64 0]) ?_ 2 _ rfl; (with_reducible repeat (first | apply Qdf | apply Qde | apply Qdd)); refine Qds (cs := #[.int .u8 a0_0, .int .u32 0, .int .u32 0, .int .i64 0, .int .i64 0]) ?_ 1 _ rfl; (with_reducible repeat (first | apply Qdf | apply Qde | apply Qdd)); refine Qds (cs := #[.int .u8 0, .int .u32 0, .int .u32 0, .int .i64 0, .int .i64 0]) ?_ 0 _ rfl; (with_reducible repeat (first | apply Qdf | apply Qde | apply Qdd)); exact BK107.out) Tryz.underlying47 rfl (by kernel_rfl)) rfl ?_
  exact ⟨by first | rfl | (simp [Qfr, Qfs] <;> rfl) | (simp [*, Qfr, Qfs] <;> rfl), by repeat (first | (with_reducible first | exact HB.out | apply Qcc | apply Qce | apply Qdt | refine Qdp ?_ GE106.out | refine Qdp ?_ GE107.out) | exact HB.out)⟩
 ·rw [if_neg c4] at H
  have c4b0 : (t111 == 0) = false := beq_eq_false_iff_ne.mpr c4
  have c4b1 : (t111 != 0) = true := bne_iff_ne.mpr c4
  simp only [Option.some.injEq, Prod.mk.injEq] at H
  obtain ⟨rfl, rfl, rfl, rfl, rfl, rfl⟩ := H
  go_enter Tryz.func52, Tryz.ntmps52
  go_wp2_with (first | ((with_reducible refine Qdw (N := 2) rfl ?_); refine Qdv ?hg (N := 2) ?hd (cs := #[.int .u8 a0_0, .int .u32 a0_1]) (t := 27) ?hr ?_; (case hd => rfl); (case hg => rfl); (case hr => first | (go_simp; done) | (go_simp; rfl)); intro gb106 hg w13 hbox hb; have n0_ := QA (Qdo (by repeat (first | (with_reducible first | exact HB.out | apply Qcc | apply Qce | apply Qdt) | exact HB.out)) hb); have n1_ := QA (hbox); have n2_ := QA ((by rw [hg]; exact (Qdn (by repeat (first | (with_reducible first | exact HB.out | apply Qcc | apply Qce | apply Qdt) | exact HB.out))) : w.heap.size ≤ gb106)); have n3_ := QA ((by rw [hg]; exact (Qdn (by repeat (first | (with_reducible first | exact HB.out | apply Qcc | apply Qce | apply Qdt) | exact HB.out))) : w.heap.size ≤ gb106)); clear HB; have HB := n0_; have BK106 := n1_; have GW106 := n2_; have GE106 := n3_; clear n0_ n1_ n2_ n3_; clear hb hbox hg) | ((with_reducible refine Qdw (N := 4) rfl ?_); refine Qdv ?hg (N := 4) ?hd (cs := #[.int .u8 0, .int .u32 0, .int .u32 0, .int .i64 0, .int .i64 0]) (t := 47) ?hr ?_; (case hd => rfl); (case hg => rfl); (case hr => first | (go_simp; done) | (go_simp; rfl)); intro gb107 hg w14 hbox hb; have n0_ := QA (Qdg (g := gb106) (o := .cells #[.int .u8 a0_0, .int .u32 a0_1] 27 (0, 0)) (by (with_reducible repeat (first | apply Qdf | apply Qde | apply Qdd)); exact BK106.out) hb); have n1_ := QA (Qdo (by repeat (first | (with_reducible first | exact HB.out | apply Qcc | apply Qce | apply Qdt | refine Qdp ?_ GE106.out) | exact HB.out)) hb); have n2_ := QA (hbox); have n3_ := QA ((by rw [hg]; exact (Qdn (by repeat (first | (with_reducible first | exact HB.out | apply Qcc | apply Qce | apply Qdt | refine Qdp ?_ GE106.out) | exact HB.out))) : w.heap.size ≤ gb107)); have n4_ := QA ((by rw [hg]; exact (Qdn (by repeat (first | (with_reducible first | exact HB.out | apply Qcc | apply Qce | apply Qdt | refine Qdp ?_ GE106.out) | exact HB.out))) : w.heap.size ≤ gb107)); have n5_ := QA ((by rw [hg]; exact Nat.ne_of_lt (Qcw (g := gb106) (o := .cells #[.int .u8 a0_0, .int .u32 a0_1] 27 (0, 0)) (by (with_reducible repeat (first | apply Qdf | apply Qde | apply Qdd)); exact BK106.out)) : gb106 ≠ gb107)); have n6_ := QA ((by rw [hg]; exact Nat.ne_of_gt (Qcw (g := gb106) (o := .cells #[.int .u8 a0_0, .int .u32 a0_1] 27 (0, 0)) (by (with_reducible repeat (first | apply Qdf | apply Qde | apply Qdd)); exact BK106.out)) : gb107 ≠ gb106)); clear BK106; clear HB; have BK106 := n0_; have HB := n1_; have BK107 := n2_; have GW107 := n3_; have GE107 := n4_; have NB106_107 := n5_; have NB107_106 := n6_; clear n0_ n1_ n2_ n3_ n4_ n5_ n6_; clear hb hbox hg; have hnb15 := NB106_107.out; have hnc15 := NB107_106.out; have hcz16_0 : w14.cell? ⟨gb106, 0, none⟩ = some (.int .u8 a0_0) := (Qcx BK106.out 0).trans rfl; have hcz16_1 : w14.cell? ⟨gb106, 1, none⟩ = some (.int .u32 a0_1) := (Qcx BK106.out 1).trans rfl; have hfz16_0 := Qcy BK106.out 0; have hfz16_1 := Qcy BK106.out 1) | ((with_reducible refine Qfo (f := 53) rfl ?_); refine Qej (some 11) rfl rfl Tryz.func53 (by kernel_rfl) rfl #[.agg #[.int .u8 a0_0, .int .u32 a0_1], .int .u32 a1] rfl (by (try simp only [List.map_toArray, List.map_cons, List.map_nil]); first | done | rfl | (simp only [List.length_drop, List.length_take]; rfl)) ?_; (with_reducible refine (Qbg.calls a0_0 a0_1 a1 t108 t111 _ A3.out).mono ?_); rintro e w17 ⟨v109, rfl, ho0, hb⟩; refine ⟨_, rfl, ?_⟩; have n0_ := QA (Kd.R_lower ho0 (Qdn (by repeat (first | (with_reducible first | exact HB.out | apply Qcc | apply Qce | apply Qdt | refine Qdp ?_ GE106.out | refine Qdp ?_ GE107.out) | exact HB.out)))); have n1_ := QA (Qdg (g := gb106) (o := .cells #[.int .u8 a0_0, .int .u32 a0_1] 27 (0, 0)) (by (with_reducible repeat (first | apply Qdf | apply Qde | apply Qdd)); exact BK106.out) hb); have n2_ := QA (Qdg (g := gb107) (o := .cells #[.int .u8 0, .int .u32 0, .int .u32 0, .int .i64 0, .int .i64 0] 47 (0, 0)) (by (with_reducible repeat (first | apply Qdf | apply Qde | apply Qdd)); exact BK107.out) hb); have n3_ := QA (Qdo (by repeat (first | (with_reducible first | exact HB.out | apply Qcc | apply Qce | apply Qdt | refine Qdp ?_ GE106.out | refine Qdp ?_ GE107.out) | exact HB.out)) hb); clear BK106; clear BK107; clear HB; have HO110 := n0_; have BK106 := n1_; have BK107 := n2_; have HB := n3_; clear n0_ n1_ n2_ n3_; (try clear hb); (try clear hb2); (try clear hk); (try clear hi); (try clear ho0); have hcz18_0 : w17.cell? ⟨gb107, 0, none⟩ = some (.int .u8 0) := (Qcx BK107.out 0).trans rfl; have hcz18_1 : w17.cell? ⟨gb107, 1, none⟩ = some (.int .u32 0) := (Qcx BK107.out 1).trans rfl; have hcz18_2 : w17.cell? ⟨gb107, 2, none⟩ = some (.int .u32 0) := (Qcx BK107.out 2).trans rfl; have hcz18_3 : w17.cell? ⟨gb107, 3, none⟩ = some (.int .i64 0) := (Qcx BK107.out 3).trans rfl; have hcz18_4 : w17.cell? ⟨gb107, 4, none⟩ = some (.int .i64 0) := (Qcx BK107.out 4).trans rfl; have hfz18_0 := Qcy BK107.out 0; have hfz18_1 := Qcy BK107.out 1; have hfz18_2 := Qcy BK107.out 2; have hfz18_3 := Qcy BK107.out 3; have hfz18_4 := Qcy BK107.out 4))
  refine bodyPost_ret (Qdi rfl _ _ gb107 47 #[.int .u8 0, .int .u32 0, .int .u32 0, .int .i64 0, .int .i64 0] (0, 0) _ rfl (by (with_reducible repeat (first | apply Qdf | apply Qde | apply Qdd)); refine Qds (cs := #[.int .u8 0, .int .u32 0, .int .u32 0, .int .i64 0, .int .i64 0]) ?_ 4 _ rfl; (with_reducible repeat (first | apply Qdf | apply Qde | apply Qdd)); refine Qds (cs := #[.int .u8 0, .int .u32 0, .int .u32 0, .int .i64 0, .int .i64 0]) ?_ 3 _ rfl; (with_reducible repeat (first | apply Qdf | apply Qde | apply Qdd)); refine Qds (cs := #[.int .u8 0, .int .u32 0, .int .u32 0, .int .i64 0, .int .i64 0]) ?_ 2 _ rfl; (with_reducible repeat (first | apply Qdf | apply Qde | apply Qdd)); refine Qds (cs := #[.int .u8 0, .int .u32 0, .int .u32 0, .int .i64 0, .int .i64 0]) ?_ 1 _ rfl; (with_reducible repeat (first | apply Qdf | apply Qde | apply Qdd)); refine Qds (cs := #[.int .u8 0, .int .u32 0, .int .u32 0, .int .i64 0, .int .i64 0]) ?_ 0 _ rfl; (with_reducible repeat (first | apply Qdf | apply Qde | apply Qdd)); exact BK107.out) Tryz.underlying47 rfl (by kernel_rfl)) rfl ?_
  exact ⟨by first | rfl | (simp [Qfr, Qfs] <;> rfl) | (simp [*, Qfr, Qfs] <;> rfl), by repeat (first | (with_reducible first | exact HB.out | apply Qcc | apply Qce | apply Qdt | refine Qdp ?_ GE106.out | refine Qdp ?_ GE107.out) | exact HB.out)⟩
def Qal.f (a0_0 : Int) (a0_1 : Int) : Option (Int) := (Qak.f a0_0 a0_1).bind fun t113 => (if t113 = 0 then (if 0 ≤ a0_0 then (some (shl .i64 1 a0_0)) else (none)) else (some 0))
set_option maxHeartbeats 8000000 in
set_option maxRecDepth 100000 in
theorem Qal.calls (a0_0 : Int) (a0_1 : Int) (r : Int) (w : World) (h : Qal.f a0_0 a0_1 = some r) :
  Calls Tryz.prog 78 #[.agg #[.int .u8 a0_0, .int .u32 a0_1]] w fun e w' => e = .returned (.int .i64 r) ∧ Below w.heap.size w w' := by
 have hu27 := Tryz.underlying27
 have HB := QA (Below.refl w.heap.size w)
 have H : ((Qak.f a0_0 a0_1).bind fun t113 => (if t113 = 0 then (if 0 ≤ a0_0 then (some (shl .i64 1 a0_0)) else (none)) else (some 0))) = some r := h
 clear h
 replace H := Option.bind_eq_some_iff.mp H
 obtain ⟨t113, A20, H⟩ := H
 replace H : (if t113 = 0 then (if 0 ≤ a0_0 then (some (shl .i64 1 a0_0)) else (none)) else (some 0)) = some r := H
 have A2 := QA A20
 clear A20
 by_cases c3 : t113 = 0
 ·rw [if_pos c3] at H
  have c3b0 : (t113 == 0) = true := beq_iff_eq.mpr c3
  have c3b1 : (t113 != 0) = false := bne_eq_false_iff_eq.mpr c3
  clear c3
  by_cases c4 : 0 ≤ a0_0
  ·rw [if_pos c4] at H
   have c4b0 := eq_true c4
   have c4b1 : decide (0 ≤ a0_0) = true := decide_eq_true c4
   clear c4
   obtain ⟨ji5, hji5⟩ : ∃ j_ : Int, (shl .i64 1 a0_0) = j_ := ⟨_, rfl⟩
   replace H : (some ji5) = some r := by first | (rw [hji5] at H; exact H) | (simp only [hji5] at H ⊢; exact H)
   (try rw [hji5] at A2)
   have hji5_ : (IntKind.i64.wrap (1 * 2 ^ min a0_0.toNat 64)) = ji5 := hji5
   have hji5z : a0_0 ≤ 64 → (IntKind.i64.wrap (1 * 2 ^ a0_0.toNat)) = ji5 := Qfq hji5
   have hji5u : (IntKind.i64.wrap (2 ^ min a0_0.toNat 64)) = ji5 := by have h_ := hji5_; rw [Int.one_mul] at h_; exact h_
   have hji5v : a0_0 ≤ 64 → (IntKind.i64.wrap (2 ^ a0_0.toNat)) = ji5 := fun hle_ => by have h_ := hji5z hle_; rw [Int.one_mul] at h_; exact h_
   have hji5y : (wrap64 (1 * 2 ^ min a0_0.toNat 64)) = ji5 := (Qek _).symm.trans hji5_
   have hji5x : a0_0 ≤ 64 → (wrap64 (1 * 2 ^ a0_0.toNat)) = ji5 := fun h_ => (Qek _).symm.trans (hji5z h_)
   obtain rfl := Option.some.inj H
   go_enter Tryz.func78, Tryz.ntmps78
   go_wp2_with (first | ((with_reducible refine Qdw (N := 1) rfl ?_); refine Qdv ?hg (N := 1) ?hd (cs := #[.int .u8 a0_0, .int .u32 a0_1]) (t := 27) ?hr ?_; (case hd => rfl); (case hg => rfl); (case hr => first | (go_simp; done) | (go_simp; rfl)); intro gb112 hg w6 hbox hb; have n0_ := QA (Qdo (by repeat (first | (with_reducible first | exact HB.out | apply Qcc | apply Qce | apply Qdt) | exact HB.out)) hb); have n1_ := QA (hbox); have n2_ := QA ((by rw [hg]; exact (Qdn (by repeat (first | (with_reducible first | exact HB.out | apply Qcc | apply Qce | apply Qdt) | exact HB.out))) : w.heap.size ≤ gb112)); have n3_ := QA ((by rw [hg]; exact (Qdn (by repeat (first | (with_reducible first | exact HB.out | apply Qcc | apply Qce | apply Qdt) | exact HB.out))) : w.heap.size ≤ gb112)); clear HB; have HB := n0_; have BK112 := n1_; have GW112 := n2_; have GE112 := n3_; clear n0_ n1_ n2_ n3_; clear hb hbox hg; have hcz7_0 : w6.cell? ⟨gb112, 0, none⟩ = some (.int .u8 a0_0) := (Qcx BK112.out 0).trans rfl; have hcz7_1 : w6.cell? ⟨gb112, 1, none⟩ = some (.int .u32 a0_1) := (Qcx BK112.out 1).trans rfl; have hfz7_0 := Qcy BK112.out 0; have hfz7_1 := Qcy BK112.out 1) | ((with_reducible refine Qfo (f := 85) rfl ?_); refine Qej (some 4) rfl rfl Tryz.func85 (by kernel_rfl) rfl #[.agg #[.int .u8 a0_0, .int .u32 a0_1]] rfl (by (try simp only [List.map_toArray, List.map_cons, List.map_nil]); first | done | rfl | (simp only [List.length_drop, List.length_take]; rfl)) ?_; (with_reducible refine (Qak.calls a0_0 a0_1 t113 _ A2.out).mono ?_); rintro e w8 ⟨rfl, hb⟩; refine ⟨_, rfl, ?_⟩; have n0_ := QA (Qdg (g := gb112) (o := .cells #[.int .u8 a0_0, .int .u32 a0_1] 27 (0, 0)) (by (with_reducible repeat (first | apply Qdf | apply Qde | apply Qdd)); exact BK112.out) hb); have n1_ := QA (Qdo (by repeat (first | (with_reducible first | exact HB.out | apply Qcc | apply Qce | apply Qdt | refine Qdp ?_ GE112.out) | exact HB.out)) hb); clear BK112; clear HB; have BK112 := n0_; have HB := n1_; clear n0_ n1_; (try clear hb); (try clear hb2); (try clear hk); (try clear hi); have hcz9_0 : w8.cell? ⟨gb112, 0, none⟩ = some (.int .u8 a0_0) := (Qcx BK112.out 0).trans rfl; have hcz9_1 : w8.cell? ⟨gb112, 1, none⟩ = some (.int .u32 a0_1) := (Qcx BK112.out 1).trans rfl; have hfz9_0 := Qcy BK112.out 0; have hfz9_1 := Qcy BK112.out 1))
   go_ret
   exact ⟨by first | rfl | (simp [Qfr, Qfs] <;> rfl) | (simp only [← hji5]; first | rfl | (simp [Qfr, Qfs] <;> rfl)) | (simp [*, Qfr, Qfs] <;> rfl), by repeat (first | (with_reducible first | exact HB.out | apply Qcc | apply Qce | apply Qdt | refine Qdp ?_ GE112.out) | exact HB.out)⟩
  ·rw [if_neg c4] at H
   exact absurd H (by simp)
 ·rw [if_neg c3] at H
  have c3b0 : (t113 == 0) = false := beq_eq_false_iff_ne.mpr c3
  have c3b1 : (t113 != 0) = true := bne_iff_ne.mpr c3
  obtain rfl := Option.some.inj H
  go_enter Tryz.func78, Tryz.ntmps78
  go_wp2_with (first | ((with_reducible refine Qdw (N := 1) rfl ?_); refine Qdv ?hg (N := 1) ?hd (cs := #[.int .u8 a0_0, .int .u32 a0_1]) (t := 27) ?hr ?_; (case hd => rfl); (case hg => rfl); (case hr => first | (go_simp; done) | (go_simp; rfl)); intro gb112 hg w10 hbox hb; have n0_ := QA (Qdo (by repeat (first | (with_reducible first | exact HB.out | apply Qcc | apply Qce | apply Qdt) | exact HB.out)) hb); have n1_ := QA (hbox); have n2_ := QA ((by rw [hg]; exact (Qdn (by repeat (first | (with_reducible first | exact HB.out | apply Qcc | apply Qce | apply Qdt) | exact HB.out))) : w.heap.size ≤ gb112)); have n3_ := QA ((by rw [hg]; exact (Qdn (by repeat (first | (with_reducible first | exact HB.out | apply Qcc | apply Qce | apply Qdt) | exact HB.out))) : w.heap.size ≤ gb112)); clear HB; have HB := n0_; have BK112 := n1_; have GW112 := n2_; have GE112 := n3_; clear n0_ n1_ n2_ n3_; clear hb hbox hg; have hcz11_0 : w10.cell? ⟨gb112, 0, none⟩ = some (.int .u8 a0_0) := (Qcx BK112.out 0).trans rfl; have hcz11_1 : w10.cell? ⟨gb112, 1, none⟩ = some (.int .u32 a0_1) := (Qcx BK112.out 1).trans rfl; have hfz11_0 := Qcy BK112.out 0; have hfz11_1 := Qcy BK112.out 1) | ((with_reducible refine Qfo (f := 85) rfl ?_); refine Qej (some 4) rfl rfl Tryz.func85 (by kernel_rfl) rfl #[.agg #[.int .u8 a0_0, .int .u32 a0_1]] rfl (by (try simp only [List.map_toArray, List.map_cons, List.map_nil]); first | done | rfl | (simp only [List.length_drop, List.length_take]; rfl)) ?_; (with_reducible refine (Qak.calls a0_0 a0_1 t113 _ A2.out).mono ?_); rintro e w12 ⟨rfl, hb⟩; refine ⟨_, rfl, ?_⟩; have n0_ := QA (Qdg (g := gb112) (o := .cells #[.int .u8 a0_0, .int .u32 a0_1] 27 (0, 0)) (by (with_reducible repeat (first | apply Qdf | apply Qde | apply Qdd)); exact BK112.out) hb); have n1_ := QA (Qdo (by repeat (first | (with_reducible first | exact HB.out | apply Qcc | apply Qce | apply Qdt | refine Qdp ?_ GE112.out) | exact HB.out)) hb); clear BK112; clear HB; have BK112 := n0_; have HB := n1_; clear n0_ n1_; (try clear hb); (try clear hb2); (try clear hk); (try clear hi)))
  go_ret
  exact ⟨by first | rfl | (simp [Qfr, Qfs] <;> rfl) | (simp [*, Qfr, Qfs] <;> rfl), by repeat (first | (with_reducible first | exact HB.out | apply Qcc | apply Qce | apply Qdt | refine Qdp ?_ GE112.out) | exact HB.out)⟩
def Qbe.f (a0 : Int) : Option (Int) := some (wrap64 (Int.tdiv (wrap64 ((wrap64 ((mx 0 a0) + 16)) - 1)) 16))
set_option maxHeartbeats 8000000 in
set_option maxRecDepth 100000 in
theorem Qbe.calls (a0 : Int) (r : Int) (w : World) (h : Qbe.f a0 = some r) :
  Calls Tryz.prog 183 #[.int .i64 a0] w fun e w' => e = .returned (.int .i64 r) ∧ Below w.heap.size w w' := by
 have HB := QA (Below.refl w.heap.size w)
 have H : (some (wrap64 (Int.tdiv (wrap64 ((wrap64 ((mx 0 a0) + 16)) - 1)) 16))) = some r := h
 clear h
 obtain ⟨ji2, hji2⟩ : ∃ j_ : Int, (mx 0 a0) = j_ := ⟨_, rfl⟩
 replace H : (some (wrap64 (Int.tdiv (wrap64 ((wrap64 ((ji2) + 16)) - 1)) 16))) = some r := by first | (rw [hji2] at H; exact H) | (simp only [hji2] at H ⊢; exact H)
 (try (have hji2l : 0 ≤ ji2 := by (rw [← hji2]; unfold mx; (repeat' split) <;> omega)))
 (try (have hji2m : 0 ≤ ji2 := by omega))
 have hji2_ : (if 0 < a0 then a0 else 0) = ji2 := hji2
 obtain rfl := Option.some.inj H
 go_enter Tryz.func183, Tryz.ntmps183
 go_wp2
 go_ret
 exact ⟨by first | rfl | (simp [Qfr, Qfs] <;> rfl) | (simp only [← hji2]; first | rfl | (simp [Qfr, Qfs] <;> rfl)) | (simp [*, Qfr, Qfs] <;> rfl), by repeat (first | (with_reducible first | exact HB.out | apply Qcc | apply Qce | apply Qdt) | exact HB.out)⟩
def Qbj.f (a0 : Int) : Option (Int) := (Qaj.f (wrap64 ((mx 0 a0) + 8))).bind fun t125 => (some (wrap64 (t125 + 1)))
set_option maxHeartbeats 8000000 in
set_option maxRecDepth 100000 in
theorem Qbj.calls (a0 : Int) (r : Int) (w : World) (h : Qbj.f a0 = some r) :
  Calls Tryz.prog 226 #[.int .i64 a0] w fun e w' => e = .returned (.int .i64 r) ∧ Below w.heap.size w w' := by
 have HB := QA (Below.refl w.heap.size w)
 have H : ((Qaj.f (wrap64 ((mx 0 a0) + 8))).bind fun t125 => (some (wrap64 (t125 + 1)))) = some r := h
 clear h
 obtain ⟨ji2, hji2⟩ : ∃ j_ : Int, (mx 0 a0) = j_ := ⟨_, rfl⟩
 replace H : ((Qaj.f (wrap64 ((ji2) + 8))).bind fun t125 => (some (wrap64 (t125 + 1)))) = some r := by first | (rw [hji2] at H; exact H) | (simp only [hji2] at H ⊢; exact H)
 (try (have hji2l : 0 ≤ ji2 := by (rw [← hji2]; unfold mx; (repeat' split) <;> omega)))
 (try (have hji2m : 0 ≤ ji2 := by omega))
 have hji2_ : (if 0 < a0 then a0 else 0) = ji2 := hji2
 replace H := Option.bind_eq_some_iff.mp H
 obtain ⟨t125, A30, H⟩ := H
 replace H : (some (wrap64 (t125 + 1))) = some r := H
 have A3 := QA A30
 clear A30
 obtain rfl := Option.some.inj H
 go_enter Tryz.func226, Tryz.ntmps226
 go_wp2_with (first | ((with_reducible refine Qfo (f := 197) rfl ?_); refine Qej (some 6) rfl rfl Tryz.func197 (by kernel_rfl) rfl #[.int .i64 (wrap64 ((ji2) + 8))] rfl (by (try simp only [List.map_toArray, List.map_cons, List.map_nil]); first | done | (simp only [hji2]; rfl) | rfl | (simp only [List.length_drop, List.length_take]; rfl)) ?_; (with_reducible refine (Qaj.calls (wrap64 ((ji2) + 8)) t125 _ A3.out).mono ?_); rintro e w' ⟨rfl, ⟨nd, rfl⟩⟩; refine ⟨_, rfl, ?_⟩))
 go_ret
 exact ⟨by first | rfl | (simp [Qfr, Qfs] <;> rfl) | (simp only [← hji2]; first | rfl | (simp [Qfr, Qfs] <;> rfl)) | (simp [*, Qfr, Qfs] <;> rfl), by repeat (first | (with_reducible first | exact HB.out | apply Qcc | apply Qce | apply Qdt) | exact HB.out)⟩
def Qbf.f (a0 : Int) : Option (Int) := (Qbe.f (mx 0 a0)).bind fun t126 => ((Qbj.f (wrap64 ((wrap64 (9 + (wrap64 (12 * (mx 0 a0))))) + (wrap64 (8 * t126))))).bind fun t127 => (some t127))
set_option maxHeartbeats 8000000 in
set_option maxRecDepth 100000 in
theorem Qbf.calls (a0 : Int) (r : Int) (w : World) (h : Qbf.f a0 = some r) :
  Calls Tryz.prog 198 #[.int .i64 a0] w fun e w' => e = .returned (.int .i64 r) ∧ Below w.heap.size w w' := by
 have HB := QA (Below.refl w.heap.size w)
 have H : ((Qbe.f (mx 0 a0)).bind fun t126 => ((Qbj.f (wrap64 ((wrap64 (9 + (wrap64 (12 * (mx 0 a0))))) + (wrap64 (8 * t126))))).bind fun t127 => (some t127))) = some r := h
 clear h
 obtain ⟨ji2, hji2⟩ : ∃ j_ : Int, (mx 0 a0) = j_ := ⟨_, rfl⟩
 replace H : ((Qbe.f (ji2)).bind fun t126 => ((Qbj.f (wrap64 ((wrap64 (9 + (wrap64 (12 * (ji2))))) + (wrap64 (8 * t126))))).bind fun t127 => (some t127))) = some r := by first | (rw [hji2] at H; exact H) | (simp only [hji2] at H ⊢; exact H)
 (try (have hji2l : 0 ≤ ji2 := by (rw [← hji2]; unfold mx; (repeat' split) <;> omega)))
 (try (have hji2m : 0 ≤ ji2 := by omega))
 have hji2_ : (if 0 < a0 then a0 else 0) = ji2 := hji2
 replace H := Option.bind_eq_some_iff.mp H
 obtain ⟨t126, A30, H⟩ := H
 replace H : ((Qbj.f (wrap64 ((wrap64 (9 + (wrap64 (12 * (ji2))))) + (wrap64 (8 * t126))))).bind fun t127 => (some t127)) = some r := H
 have A3 := QA A30
 clear A30
 replace H := Option.bind_eq_some_iff.mp H
 obtain ⟨t127, A40, H⟩ := H
 replace H : (some t127) = some r := H
 have A4 := QA A40
 clear A40
 obtain rfl := Option.some.inj H
 go_enter Tryz.func198, Tryz.ntmps198
 go_wp2_with (first | ((with_reducible refine Qfo (f := 183) rfl ?_); refine Qej (some 9) rfl rfl Tryz.func183 (by kernel_rfl) rfl #[.int .i64 ji2] rfl (by (try simp only [List.map_toArray, List.map_cons, List.map_nil]); first | done | (simp only [hji2]; rfl) | rfl | (simp only [List.length_drop, List.length_take]; rfl)) ?_; (with_reducible refine (Qbe.calls ji2 t126 _ A3.out).mono ?_); rintro e w5 ⟨rfl, hb⟩; refine ⟨_, rfl, ?_⟩; have n0_ := QA (Qdo (by repeat (first | (with_reducible first | exact HB.out | apply Qcc | apply Qce | apply Qdt) | exact HB.out)) hb); clear HB; have HB := n0_; clear n0_; (try clear hb); (try clear hb2); (try clear hk); (try clear hi)) | ((with_reducible refine Qfo (f := 226) rfl ?_); refine Qej (some 12) rfl rfl Tryz.func226 (by kernel_rfl) rfl #[.int .i64 (wrap64 ((wrap64 (9 + (wrap64 (12 * (ji2))))) + (wrap64 (8 * t126))))] rfl (by (try simp only [List.map_toArray, List.map_cons, List.map_nil]); first | done | (simp only [hji2]; rfl) | rfl | (simp only [List.length_drop, List.length_take]; rfl)) ?_; (with_reducible refine (Qbj.calls (wrap64 ((wrap64 (9 + (wrap64 (12 * (ji2))))) + (wrap64 (8 * t126)))) t127 _ A4.out).mono ?_); rintro e w6 ⟨rfl, hb⟩; refine ⟨_, rfl, ?_⟩; have n0_ := QA (Qdo (by repeat (first | (with_reducible first | exact HB.out | apply Qcc | apply Qce | apply Qdt) | exact HB.out)) hb); clear HB; have HB := n0_; clear n0_; (try clear hb); (try clear hb2); (try clear hk); (try clear hi)))
 go_ret
 exact ⟨by first | rfl | (simp [Qfr, Qfs] <;> rfl) | (simp only [← hji2]; first | rfl | (simp [Qfr, Qfs] <;> rfl)) | (simp [*, Qfr, Qfs] <;> rfl), by repeat (first | (with_reducible first | exact HB.out | apply Qcc | apply Qce | apply Qdt) | exact HB.out)⟩
end Go.Proofs.YtnnofopfbeklbaaGreat.C
end
