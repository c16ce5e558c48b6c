/- Texts of this claim's author and of the print of its functions, merged by merge.py. -/
import Derived.Test.YtnnofopfbeklbaaGreatMD03
import Derived.Test.YtnnofopfbeklbaaGreatMD15
import Derived.Test.YtnnofopfbeklbaaGreatMD16
import Derived.Test.YtnnofopfbeklbaaGreatMD10
import Derived.Test.YtnnofopfbeklbaaGreatMD17
import Derived.Test.YtnnofopfbeklbaaGreatMD12
import Derived.Test.YtnnofopfbeklbaaGreatMD13
set_option linter.unusedVariables false
set_option linter.unusedSimpArgs false
set_option maxHeartbeats 8000000
set_option maxRecDepth 100000
section
namespace Go.Proofs.YtnnofopfbeklbaaGreat.C
open Go.RowKit Go.Proofs.YtnnofopfbeklbaaGreatW.PrintWords Go.Proofs.YtnnofopfbeklbaaGreatW.PrintLast Go.Proofs.YtnnofopfbeklbaaGreatW.PrintMore
attribute [local go_sem] Qgh Qgi Qgj Qgk Qgl Qgm Qgn Qgo
def Qca.l0 : Nat → List Int → List (S39) → Int → Int → Int → Int → Option (List Int × Int)
 | 0, _, _, _, _, _, _ => none
 | k + 1, x7, x18, x19, x20, x372000, x372001 => if x20 < x19 then (if 0 ≤ x20 then (if x20 < (x18.length : Int) then ((Qbh.f k ((Qgy x18 x20).f0) ((Qgy x18 x20).f1) ((Qgy x18 x20).f2) ((Qgy x18 x20).f3)).bind fun t376 => (if x7.length < 17592186044416 then (Qca.l0 k (x7 ++ [(t376.size : Int)]) x18 x19 (wrap64 (x20 + 1)) x372000 x372001) else (none))) else (none)) else (none)) else ((Qbt.f k x372000 x372001 x7).bind fun bt380 => (some (bt380.1, bt380.2)))
def Qca.f (k : Nat) (a0_0 : Int) (a0_1 : Int) (l1 : List (S39)) : Option (List Int × Int) := (Qbe.f a0_0 a0_1).bind fun t372 => (if t372 = true then ((Qbd.f k l1).bind fun t373 => (if t373 = 0 then (Qca.l0 k ([] : List Int) l1 (l1.length : Int) 0 a0_0 a0_1) else (some (([] : List Int), t373)))) else (some (([] : List Int), 1)))
theorem Qca.calls (k : Nat) (a0_0 : Int) (a0_1 : Int) (A1 : Option Addr) (c1 : Nat) (l1 : List (S39)) (r1 : List Int) (r2 : Int) (w : World) (hr1 : Kd.C k39 w A1 l1.length l1) (hc1 : l1.length ≤ c1) (h : Qca.f k a0_0 a0_1 l1 = some (r1, r2)) :
  Calls Tryz.prog 39 #[.agg #[.int .u8 a0_0, .int .u32 a0_1], .slice A1 l1.length c1] w fun e w' => ∃ v0_ : Value, e = .returned (.tuple #[v0_, .int .i64 r2]) ∧ Kd.R (Kd.int .u64) 34 w' w.heap.size (fun _ => True) v0_ r1 ∧ Below w.heap.size w w' := by
 have hu27 := Tryz.underlying27
 have hu39 := Tryz.underlying39
 have HR1 := QA hr1
 have HC1 := QA hc1
 clear hr1 hc1
 have HB := QA (Below.refl w.heap.size w)
 have H : ((Qbe.f a0_0 a0_1).bind fun t372 => (if t372 = true then ((Qbd.f k l1).bind fun t373 => (if t373 = 0 then (Qca.l0 k ([] : List Int) l1 (l1.length : Int) 0 a0_0 a0_1) else (some (([] : List Int), t373)))) else (some (([] : List Int), 1)))) = some (r1, r2) := h
 clear h
 replace H := Option.bind_eq_some_iff.mp H
 obtain ⟨t372, A30, H⟩ := H
 replace H : (if t372 = true then ((Qbd.f k l1).bind fun t373 => (if t373 = 0 then (Qca.l0 k ([] : List Int) l1 (l1.length : Int) 0 a0_0 a0_1) else (some (([] : List Int), t373)))) else (some (([] : List Int), 1))) = some (r1, r2) := H
 have A3 := QA A30
 clear A30
 by_cases c4 : t372 = true
 ·subst c4
  have H1 : ((Qbd.f k l1).bind fun t373 => (if t373 = 0 then (Qca.l0 k ([] : List Int) l1 (l1.length : Int) 0 a0_0 a0_1) else (some (([] : List Int), t373)))) = some (r1, r2) := by rw [if_pos rfl] at H; exact H
  clear H
  have H := H1
  clear H1
  replace H := Option.bind_eq_some_iff.mp H
  obtain ⟨t373, A50, H⟩ := H
  replace H : (if t373 = 0 then (Qca.l0 k ([] : List Int) l1 (l1.length : Int) 0 a0_0 a0_1) else (some (([] : List Int), t373))) = some (r1, r2) := H
  have A5 := QA A50
  clear A50
  by_cases c6 : t373 = 0
  ·rw [if_pos c6] at H
   have c6b0 : (t373 == 0) = true := beq_iff_eq.mpr c6
   have c6b1 : (t373 != 0) = false := bne_eq_false_iff_eq.mpr c6
   clear c6
   have H' := QA H
   clear H
   go_enter Tryz.func39, Tryz.ntmps39
   go_wp2_with (first | ((with_reducible refine Qer (N := 2) rfl ?_); refine qq_e 2 #[.int .u8 a0_0, .int .u32 a0_1] 27 ?_; intro gb371 hg w7 hbox hb; have n0_ := QA (Qem qq_b hb); have n1_ := QA (hbox); have n2_ := QA ((qq_s hg : w.heap.size ≤ gb371)); have n3_ := QA ((qq_s hg : w.heap.size ≤ gb371)); clear HB; have HB := n0_; have BK371 := n1_; have GW371 := n2_; have GE371 := n3_; clear n0_ n1_ n2_ n3_; clear hb hbox hg; have hcz8_0 := qq_c (.int .u8 a0_0) BK371.out 0 rfl; have hcz8_1 := qq_c (.int .u32 a0_1) BK371.out 1 rfl; have hfz8_0 := Qdt BK371.out 0; have hfz8_1 := Qdt BK371.out 1) | ((with_reducible refine Qgp (f := 54) rfl ?_); refine Qfg (some 11) rfl rfl Tryz.func54 qq_7 rfl #[.agg #[.int .u8 a0_0, .int .u32 a0_1]] rfl qq_1 ?_; (with_reducible refine (Qbe.calls a0_0 a0_1 true _ A3.out).mono ?_); rintro e w9 ⟨rfl, hb⟩; refine ⟨_, rfl, ?_⟩; have n0_ := QA (Qeb (g := gb371) (o := .cells #[.int .u8 a0_0, .int .u32 a0_1] 27 (0, 0)) qq_0 hb); have n1_ := QA (Qem qq_b hb); clear BK371; clear HB; have BK371 := n0_; have HB := n1_; clear n0_ n1_; (try clear hb); (try clear hb2); (try clear hk); (try clear hi)) | ((with_reducible refine Qgp (f := 76) rfl ?_); refine Qfg (some 14) rfl rfl Tryz.func76 qq_7 rfl #[.slice A1 l1.length c1] rfl qq_1 ?_; (with_reducible refine (Qbd.calls k _ _ l1 t373 _ ?side1 ?side2 A5.out).mono ?_); (case side1 => repeat (first | exact (Kd.C_below HR1.out HB.out) | (with_reducible refine Kd.C_alloc ?_ _) | (with_reducible refine Kd.C_drewN ?_ _) | (with_reducible refine Kd.C_drew ?_))); (case side2 => exact HC1.out); rintro e w10 ⟨rfl, hb⟩; refine ⟨_, rfl, ?_⟩; have n0_ := QA (Qeb (g := gb371) (o := .cells #[.int .u8 a0_0, .int .u32 a0_1] 27 (0, 0)) qq_0 hb); have n1_ := QA (Qem qq_b hb); clear BK371; clear HB; have BK371 := n0_; have HB := n1_; clear n0_ n1_; (try clear hb); (try clear hb2); (try clear hk); (try clear hi)))
   go_loopg [7, 20] k (fun kq v7 v20 w' => ∃ (x7_1 : List Int) (x20_1 : Int), v20 = .int .i64 x20_1 ∧ Aside0 (Qca.l0 kq x7_1 l1 (l1.length : Int) x20_1 a0_0 a0_1 = some (r1, r2)) ∧ Aside0 (kq ≤ k) ∧ Aside0 (Kd.R (Kd.int .i64) 3 w' w.heap.size (fun _ => True) v7 x7_1) ∧ Aside0 (w'.heap[gb371]? = some (.cells #[.int .u8 a0_0, .int .u32 a0_1] 27 (0, 0))) ∧ Aside0 (Below w.heap.size w w'))
   case atStart => exact ⟨(([] : List Int)), (0), qq_6, H', ⟨Nat.le_refl _⟩, ⟨by first | exact Kd.R_nil _ _ _ _ _ | exact Kd.N_nil _ _ _ _ _ | exact Kd.V_nil _ _ _ _ _ | exact Kd.Q_nil _ _ _ _ _ | exact Kd.S_nil _ _ _ _ _⟩, ⟨by (with_reducible repeat (first | apply Qea | apply Qdz | apply Qdy)); exact BK371.out⟩, ⟨qq_b⟩⟩
   case round =>
    clear H'
    try clear c1
    try clear c4
    try clear c6
    try clear c6b0
    try clear c6b1
    try clear hcz8_0
    try clear hcz8_1
    try clear hfz8_0
    try clear hfz8_1
    obtain ⟨x7_1, x20_1, rfl, HA, HK1, HO_7, BK371, HB⟩ := hrel
    cases gk with
    | zero => exact absurd HA.out (by simp [Qca.l0])
    | succ k1 =>
     have H := HA.out
     clear HA
     simp only [Qca.l0] at H
     by_cases c11 : x20_1 < (l1.length : Int)
     ·rw [if_pos c11] at H
      have c11b0 : decide (x20_1 < (l1.length : Int)) = true := decide_eq_true c11
      clear c11
      by_cases c12 : 0 ≤ x20_1
      ·rw [if_pos c12] at H
       have c12b0 : decide (0 ≤ x20_1) = true := decide_eq_true c12
       clear c12
       by_cases c13 : x20_1 < (l1.length : Int)
       ·rw [if_pos c13] at H
        have c13b0 : decide (x20_1 < (l1.length : Int)) = true := decide_eq_true c13
        clear c13
        replace H := Option.bind_eq_some_iff.mp H
        obtain ⟨t376, A140, H⟩ := H
        replace H : (if x7_1.length < 17592186044416 then (Qca.l0 k1 (x7_1 ++ [(t376.size : Int)]) l1 (l1.length : Int) (wrap64 (x20_1 + 1)) a0_0 a0_1) else (none)) = some (r1, r2) := H
        have A14 := QA A140
        clear A140
        by_cases c15 : x7_1.length < 17592186044416
        ·rw [if_pos c15] at H
         have LMc15 := QA c15
         clear c15
         obtain ⟨y377, hy377⟩ : ∃ y_ : List Int, y_ = (x7_1 ++ [(t376.size : Int)]) := ⟨_, rfl⟩
         replace H : (Qca.l0 k1 y377 l1 (l1.length : Int) (wrap64 (x20_1 + 1)) a0_0 a0_1) = some (r1, r2) := by first | (rw [hy377]; with_reducible exact H) | (have H2_ := (Option.bind_some _ _).symm.trans H; rw [hy377]; with_reducible exact H2_) | (have H2_ := (Option.bind_some _ _).symm.trans H; with_reducible exact H2_) | with_reducible exact H | (rw [hy377]; exact H) | exact H
         have Ny377 := QA hy377
         clear hy377
         have H' := QA H
         clear H
         have p374 : 0 ≤ (x20_1 : Int) := of_decide_eq_true qq_5
         have q374 : x20_1 < (l1.length : Int) := of_decide_eq_true qq_5
         obtain ⟨ad374, e374, hx374_0, hx374_1, hx374_2, hx374_3⟩ := Qgz HR1.out x20_1 p374 q374
         cases e374
         replace hx374_0 := qq_h HB.out hx374_0
         replace hx374_1 := qq_h HB.out hx374_1
         replace hx374_2 := qq_h HB.out hx374_2
         replace hx374_3 := qq_h HB.out hx374_3
         replace p374 := eq_true p374
         replace q374 := eq_true q374
         go_wp2_with (first | ((with_reducible refine Qer (N := 9) rfl ?_); refine qq_e 9 #[.bool false, .int .u64 0, .string (⟨#[]⟩ : ByteArray), .string (⟨#[]⟩ : ByteArray)] 39 ?_; intro gb375 hg w16 hbox hb; have n0_ := QA (Kd.R_below qq_4 hb); have n1_ := QA (Qeb (g := gb371) (o := .cells #[.int .u8 a0_0, .int .u32 a0_1] 27 (0, 0)) qq_0 hb); have n2_ := QA (Qem qq_b hb); have n3_ := QA (hbox); have n4_ := QA ((qq_s hg : w.heap.size ≤ gb375)); have n5_ := QA ((qq_s hg : w.heap.size ≤ gb375)); have n6_ := QA ((by rw [hg]; exact Nat.ne_of_lt (Qdr (g := gb371) (o := .cells #[.int .u8 a0_0, .int .u32 a0_1] 27 (0, 0)) qq_0) : gb371 ≠ gb375)); have n7_ := QA ((by rw [hg]; exact Nat.ne_of_gt (Qdr (g := gb371) (o := .cells #[.int .u8 a0_0, .int .u32 a0_1] 27 (0, 0)) qq_0) : gb375 ≠ gb371)); clear HO_7; clear BK371; clear HB; have HO_7 := n0_; have BK371 := n1_; have HB := n2_; have BK375 := n3_; have GW375 := n4_; have GE375 := n5_; have NB371_375 := n6_; have NB375_371 := n7_; clear n0_ n1_ n2_ n3_ n4_ n5_ n6_ n7_; clear hb hbox hg; have hnb17 := NB375_371.out; have hnc17 := NB371_375.out; have hcz18_0 := qq_c (.bool false) BK375.out 0 rfl; have hcz18_1 := qq_c (.int .u64 0) BK375.out 1 rfl; have hcz18_2 := qq_c (.string (⟨#[]⟩ : ByteArray)) BK375.out 2 rfl; have hcz18_3 := qq_c (.string (⟨#[]⟩ : ByteArray)) BK375.out 3 rfl; have hfz18_0 := Qdt BK375.out 0; have hfz18_1 := Qdt BK375.out 1; have hfz18_2 := Qdt BK375.out 2; have hfz18_3 := Qdt BK375.out 3) | ((with_reducible refine Qgp (f := 22) rfl ?_); refine Qfg (some 26) rfl rfl Tryz.func22 qq_7 rfl #[.agg #[.bool ((Qgy l1 x20_1).f0), .int .u64 ((Qgy l1 x20_1).f1), .string ((Qgy l1 x20_1).f2), .string ((Qgy l1 x20_1).f3)]] rfl qq_1 ?_; (with_reducible refine (Qbh.calls k1 ((Qgy l1 x20_1).f0) ((Qgy l1 x20_1).f1) ((Qgy l1 x20_1).f2) ((Qgy l1 x20_1).f3) t376 _ A14.out).mono ?_); rintro e w19 ⟨rfl, hb⟩; refine ⟨_, rfl, ?_⟩; have n0_ := QA (Kd.R_below (by (with_reducible repeat (first | apply Kd.R_alloc | apply Kd.R_drewN | apply Kd.R_drew)); exact (Kd.R_mono (Kd.R_far (p := ⟨gb375, 3, none⟩) (Kd.R_far (p := ⟨gb375, 2, none⟩) (Kd.R_far (p := ⟨gb375, 1, none⟩) (Kd.R_far (p := ⟨gb375, 0, none⟩) (Kd.R_types HO_7.out BK375.out (by decide)) (fun _ hk => hk.2) (.bool ((Qgy l1 x20_1).f0))) (fun _ hk => hk.2) (.int .u64 ((Qgy l1 x20_1).f1))) (fun _ hk => hk.2) (.string ((Qgy l1 x20_1).f2))) (fun _ hk => hk.2) (.string ((Qgy l1 x20_1).f3))) (fun _ h_ => h_.1))) hb); have n1_ := QA (Qeb (g := gb371) (o := .cells #[.int .u8 a0_0, .int .u32 a0_1] 27 (0, 0)) qq_8 hb); have n2_ := QA (Qeb (g := gb375) (o := .cells #[.bool ((Qgy l1 x20_1).f0), .int .u64 ((Qgy l1 x20_1).f1), .string ((Qgy l1 x20_1).f2), .string ((Qgy l1 x20_1).f3)] 39 (0, 0)) (by (with_reducible repeat (first | apply Qea | apply Qdz | apply Qdy)); refine Qep (cs := #[.bool ((Qgy l1 x20_1).f0), .int .u64 ((Qgy l1 x20_1).f1), .string ((Qgy l1 x20_1).f2), .string (⟨#[]⟩ : ByteArray)]) ?_ 3 _ rfl; (with_reducible repeat (first | apply Qea | apply Qdz | apply Qdy)); refine Qep (cs := #[.bool ((Qgy l1 x20_1).f0), .int .u64 ((Qgy l1 x20_1).f1), .string (⟨#[]⟩ : ByteArray), .string (⟨#[]⟩ : ByteArray)]) ?_ 2 _ rfl; (with_reducible repeat (first | apply Qea | apply Qdz | apply Qdy)); refine Qep (cs := #[.bool ((Qgy l1 x20_1).f0), .int .u64 0, .string (⟨#[]⟩ : ByteArray), .string (⟨#[]⟩ : ByteArray)]) ?_ 1 _ rfl; (with_reducible repeat (first | apply Qea | apply Qdz | apply Qdy)); refine Qep (cs := #[.bool false, .int .u64 0, .string (⟨#[]⟩ : ByteArray), .string (⟨#[]⟩ : ByteArray)]) ?_ 0 _ rfl; (with_reducible repeat (first | apply Qea | apply Qdz | apply Qdy)); exact BK375.out) hb); have n3_ := QA (Qem qq_b hb); clear HO_7; clear BK371; clear BK375; clear HB; have HO_7 := n0_; have BK371 := n1_; have BK375 := n2_; have HB := n3_; clear n0_ n1_ n2_ n3_; (try clear hb); (try clear hb2); (try clear hk); (try clear hi)) | ((with_reducible refine Qgq (b := .append) (xs := #[.tmp 24, .tmp 28]) rfl ?_); at_builtin; refine Kd.R_append (Kd.int .i64) (w0 := w) w.heap.size rfl (.tmp 24) (.tmp 28) 133 3 (.int .i64 0) 8 rfl Tryz.underlying133 info3 rfl (by decide) (by omega) u7 x7_1 (t376.size : Int) [.int .i64 (t376.size : Int)] (fun _ => True) (fun _ => False) rfl rfl ?aP (fun _ hk => hk.elim) ?aF ?aO ?aB ?aS ?aL ?_; (case aP => exact rfl); (case aB => exact qq_b); (case aF => exact (fun _ _ => trivial)); (case aO => exact qq_4); (case aS => exact (Qel qq_b)); (case aL => have := LMc15.out; omega); intro v378 w20 ho hb hg hat; rw [← Ny377.out] at ho; have n0_ := QA (Qdu (g := gb371) (o := .cells #[.int .u8 a0_0, .int .u32 a0_1] 27 (0, 0)) qq_0 hg (Kd.R_ne HO_7.out BK371.out (by decide))); have n1_ := QA (Qdu (g := gb375) (o := .cells #[.bool ((Qgy l1 x20_1).f0), .int .u64 ((Qgy l1 x20_1).f1), .string ((Qgy l1 x20_1).f2), .string ((Qgy l1 x20_1).f3)] 39 (0, 0)) qq_0 hg (Kd.R_ne HO_7.out BK375.out (by decide))); have n2_ := QA (hb); have n3_ := QA (ho); clear BK371; clear BK375; clear HB; clear HO_7; have BK371 := n0_; have BK375 := n1_; have HB := n2_; have HO379 := n3_; clear n0_ n1_ n2_ n3_; clear ho hb hg hat))
         go_roundg k1
         case measure => have := HK1.out; omega
         case rel => exact ⟨(y377), (wrap64 (x20_1 + 1)), qq_6, H', ⟨by have := HK1.out; omega⟩, ⟨by (with_reducible repeat (first | apply Kd.R_alloc | apply Kd.R_drewN | apply Kd.R_drew)); exact HO379.out⟩, ⟨by (with_reducible repeat (first | apply Qea | apply Qdz | apply Qdy)); exact BK371.out⟩, ⟨qq_b⟩⟩
        ·rw [if_neg c15] at H
         exact absurd H (by simp)
       ·rw [if_neg c13] at H
        exact absurd H (by simp)
      ·rw [if_neg c12] at H
       exact absurd H (by simp)
     ·rw [if_neg c11] at H
      have c11b0 : decide (x20_1 < (l1.length : Int)) = false := decide_eq_false c11
      clear c11
      replace H := Option.bind_eq_some_iff.mp H
      obtain ⟨⟨t380, t383⟩, A210, H⟩ := H
      replace H : (some (t380, t383)) = some (r1, r2) := H
      have A21 := QA A210
      clear A210
      simp only [Option.some.injEq, Prod.mk.injEq] at H
      obtain ⟨rfl, rfl⟩ := H
      have hcz22_0 := qq_c (.int .u8 a0_0) BK371.out 0 rfl
      have hcz22_1 := qq_c (.int .u32 a0_1) BK371.out 1 rfl
      have hfz22_0 := Qdt BK371.out 0
      have hfz22_1 := Qdt BK371.out 1
      obtain ⟨Ao23, co23, eo23⟩ := Kd.R_slice HO_7.out
      subst eo23
      go_wp2_with (first | ((with_reducible refine Qgp (f := 77) rfl ?_); refine Qfg (some 33) rfl rfl Tryz.func77 qq_7 rfl #[.agg #[.int .u8 a0_0, .int .u32 a0_1], .slice Ao23 x7_1.length co23] rfl qq_1 ?_; (with_reducible refine (Qbt.calls k1 a0_0 a0_1 _ _ x7_1 t380 t383 _ ?side1 ?side2 A21.out).mono ?_); (case side1 => repeat (first | exact (Kd.R_reads' HO_7.out).2.2 | (with_reducible refine Kd.C_alloc ?_ _) | (with_reducible refine Kd.C_drewN ?_ _) | (with_reducible refine Kd.C_drew ?_))); (case side2 => exact (Kd.R_reads' HO_7.out).2.1); rintro e w24 ⟨v381, rfl, ho0, hb⟩; refine ⟨_, rfl, ?_⟩; have n0_ := QA (Kd.R_below qq_4 hb); have n1_ := QA (Kd.R_lower ho0 (Qel qq_b)); have n2_ := QA (Qeb (g := gb371) (o := .cells #[.int .u8 a0_0, .int .u32 a0_1] 27 (0, 0)) qq_0 hb); have n3_ := QA (Qem qq_b hb); clear HO_7; clear BK371; clear HB; have HO_7 := n0_; have HO382 := n1_; have BK371 := n2_; have HB := n3_; clear n0_ n1_ n2_ n3_; (try clear hb); (try clear hb2); (try clear hk); (try clear hi); (try clear ho0)))
      go_ret2
      exact ⟨_, by first | rfl | (simp [Qgu, Qgv] <;> rfl) | (simp [*, Qgu, Qgv] <;> rfl), by (with_reducible repeat (first | apply Kd.R_alloc | apply Kd.R_drewN | apply Kd.R_drew)); exact HO382.out, qq_b⟩
  ·rw [if_neg c6] at H
   have c6b0 : (t373 == 0) = false := beq_eq_false_iff_ne.mpr c6
   have c6b1 : (t373 != 0) = true := bne_iff_ne.mpr c6
   simp only [Option.some.injEq, Prod.mk.injEq] at H
   obtain ⟨rfl, rfl⟩ := H
   go_enter Tryz.func39, Tryz.ntmps39
   go_wp2_with (first | ((with_reducible refine Qer (N := 2) rfl ?_); refine qq_e 2 #[.int .u8 a0_0, .int .u32 a0_1] 27 ?_; intro gb371 hg w25 hbox hb; have n0_ := QA (Qem qq_b hb); have n1_ := QA (hbox); have n2_ := QA ((qq_s hg : w.heap.size ≤ gb371)); have n3_ := QA ((qq_s hg : w.heap.size ≤ gb371)); clear HB; have HB := n0_; have BK371 := n1_; have GW371 := n2_; have GE371 := n3_; clear n0_ n1_ n2_ n3_; clear hb hbox hg; have hcz26_0 := qq_c (.int .u8 a0_0) BK371.out 0 rfl; have hcz26_1 := qq_c (.int .u32 a0_1) BK371.out 1 rfl; have hfz26_0 := Qdt BK371.out 0; have hfz26_1 := Qdt BK371.out 1) | ((with_reducible refine Qgp (f := 54) rfl ?_); refine Qfg (some 11) rfl rfl Tryz.func54 qq_7 rfl #[.agg #[.int .u8 a0_0, .int .u32 a0_1]] rfl qq_1 ?_; (with_reducible refine (Qbe.calls a0_0 a0_1 true _ A3.out).mono ?_); rintro e w27 ⟨rfl, hb⟩; refine ⟨_, rfl, ?_⟩; have n0_ := QA (Qeb (g := gb371) (o := .cells #[.int .u8 a0_0, .int .u32 a0_1] 27 (0, 0)) qq_0 hb); have n1_ := QA (Qem qq_b hb); clear BK371; clear HB; have BK371 := n0_; have HB := n1_; clear n0_ n1_; (try clear hb); (try clear hb2); (try clear hk); (try clear hi)) | ((with_reducible refine Qgp (f := 76) rfl ?_); refine Qfg (some 14) rfl rfl Tryz.func76 qq_7 rfl #[.slice A1 l1.length c1] rfl qq_1 ?_; (with_reducible refine (Qbd.calls k _ _ l1 t373 _ ?side1 ?side2 A5.out).mono ?_); (case side1 => repeat (first | exact (Kd.C_below HR1.out HB.out) | (with_reducible refine Kd.C_alloc ?_ _) | (with_reducible refine Kd.C_drewN ?_ _) | (with_reducible refine Kd.C_drew ?_))); (case side2 => exact HC1.out); rintro e w28 ⟨rfl, hb⟩; refine ⟨_, rfl, ?_⟩; have n0_ := QA (Qeb (g := gb371) (o := .cells #[.int .u8 a0_0, .int .u32 a0_1] 27 (0, 0)) qq_0 hb); have n1_ := QA (Qem qq_b hb); clear BK371; clear HB; have BK371 := n0_; have HB := n1_; clear n0_ n1_; (try clear hb); (try clear hb2); (try clear hk); (try clear hi)))
   go_ret2
   exact ⟨_, by first | rfl | (simp [Qgu, Qgv] <;> rfl) | (simp [*, Qgu, Qgv] <;> rfl), by first | exact Kd.R_nil _ _ _ _ _ | exact Kd.N_nil _ _ _ _ _ | exact Kd.V_nil _ _ _ _ _ | exact Kd.Q_nil _ _ _ _ _ | exact Kd.S_nil _ _ _ _ _, qq_b⟩
 ·replace c4 := Bool.eq_false_iff.mpr c4
  subst c4
  have H1 : (some (([] : List Int), 1)) = some (r1, r2) := by rw [if_neg (show ¬ (false = true) by decide)] at H; exact H
  clear H
  have H := H1
  clear H1
  simp only [Option.some.injEq, Prod.mk.injEq] at H
  obtain ⟨rfl, rfl⟩ := H
  go_enter Tryz.func39, Tryz.ntmps39
  go_wp2_with (first | ((with_reducible refine Qer (N := 2) rfl ?_); refine qq_e 2 #[.int .u8 a0_0, .int .u32 a0_1] 27 ?_; intro gb371 hg w29 hbox hb; have n0_ := QA (Qem qq_b hb); have n1_ := QA (hbox); have n2_ := QA ((qq_s hg : w.heap.size ≤ gb371)); have n3_ := QA ((qq_s hg : w.heap.size ≤ gb371)); clear HB; have HB := n0_; have BK371 := n1_; have GW371 := n2_; have GE371 := n3_; clear n0_ n1_ n2_ n3_; clear hb hbox hg; have hcz30_0 := qq_c (.int .u8 a0_0) BK371.out 0 rfl; have hcz30_1 := qq_c (.int .u32 a0_1) BK371.out 1 rfl; have hfz30_0 := Qdt BK371.out 0; have hfz30_1 := Qdt BK371.out 1) | ((with_reducible refine Qgp (f := 54) rfl ?_); refine Qfg (some 11) rfl rfl Tryz.func54 qq_7 rfl #[.agg #[.int .u8 a0_0, .int .u32 a0_1]] rfl qq_1 ?_; (with_reducible refine (Qbe.calls a0_0 a0_1 false _ A3.out).mono ?_); rintro e w31 ⟨rfl, hb⟩; refine ⟨_, rfl, ?_⟩; have n0_ := QA (Qeb (g := gb371) (o := .cells #[.int .u8 a0_0, .int .u32 a0_1] 27 (0, 0)) qq_0 hb); have n1_ := QA (Qem qq_b hb); clear BK371; clear HB; have BK371 := n0_; have HB := n1_; clear n0_ n1_; (try clear hb); (try clear hb2); (try clear hk); (try clear hi)))
  go_ret2
  exact ⟨_, by first | rfl | (simp [Qgu, Qgv] <;> rfl) | (simp [*, Qgu, Qgv] <;> rfl), by first | exact Kd.R_nil _ _ _ _ _ | exact Kd.N_nil _ _ _ _ _ | exact Kd.V_nil _ _ _ _ _ | exact Kd.Q_nil _ _ _ _ _ | exact Kd.S_nil _ _ _ _ _, qq_b⟩
def Qby.l0 : Nat → ByteArray → List (List (S39)) → List (List (S39)) → Int → Int → Int → Int → Option (ByteArray × Int)
 | 0, _, _, _, _, _, _, _ => none
 | k + 1, x8, x9, x24, x25, x26, x518000, x518001 => if x26 < x25 then (if 0 ≤ x26 then (if x26 < (x24.length : Int) then ((Qbx.f k x518000 x518001 (IntKind.u64.wrap (x26)) (Qhc x24 x26) (decide (x26 < (wrap64 ((x9.length : Int) - 1))))).bind fun t526 => (if x8.size + t526.size ≤ 9223372036854775807 then (Qby.l0 k (x8 ++ t526) x9 x24 x25 (wrap64 (x26 + 1)) x518000 x518001) else (none))) else (none)) else (none)) else (some (x8, 0))
def Qby.f (k : Nat) (a0_0 : Int) (a0_1 : Int) (l1 : List (S39)) : Option (ByteArray × Int) := (Qca.f k a0_0 a0_1 l1).bind fun bt518 => (if bt518.2 = 0 then ((Qbz.f k l1 bt518.1).bind fun t522 => (Qby.l0 k (⟨#[]⟩ : ByteArray) t522 t522 (t522.length : Int) 0 a0_0 a0_1)) else (some ((⟨#[]⟩ : ByteArray), bt518.2)))
theorem Qby.calls (k : Nat) (a0_0 : Int) (a0_1 : Int) (A1 : Option Addr) (c1 : Nat) (l1 : List (S39)) (r1 : ByteArray) (r2 : Int) (w : World) (hr1 : Kd.C k39 w A1 l1.length l1) (hc1 : l1.length ≤ c1) (h : Qby.f k a0_0 a0_1 l1 = some (r1, r2)) :
  Calls Tryz.prog 34 #[.agg #[.int .u8 a0_0, .int .u32 a0_1], .slice A1 l1.length c1] w fun e w' => e = .returned (.tuple #[.string r1, .int .i64 r2]) ∧ Below w.heap.size w w' := by
 have hu27 := Tryz.underlying27
 have HR1 := QA hr1
 have HC1 := QA hc1
 clear hr1 hc1
 have HB := QA (Below.refl w.heap.size w)
 have H : ((Qca.f k a0_0 a0_1 l1).bind fun bt518 => (if bt518.2 = 0 then ((Qbz.f k l1 bt518.1).bind fun t522 => (Qby.l0 k (⟨#[]⟩ : ByteArray) t522 t522 (t522.length : Int) 0 a0_0 a0_1)) else (some ((⟨#[]⟩ : ByteArray), bt518.2)))) = some (r1, r2) := h
 clear h
 replace H := Option.bind_eq_some_iff.mp H
 obtain ⟨⟨t518, t521⟩, A30, H⟩ := H
 replace H : (if t521 = 0 then ((Qbz.f k l1 t518).bind fun t522 => (Qby.l0 k (⟨#[]⟩ : ByteArray) t522 t522 (t522.length : Int) 0 a0_0 a0_1)) else (some ((⟨#[]⟩ : ByteArray), t521))) = some (r1, r2) := H
 have A3 := QA A30
 clear A30
 by_cases c4 : t521 = 0
 ·rw [if_pos c4] at H
  have c4b0 : (t521 == 0) = true := beq_iff_eq.mpr c4
  have c4b1 : (t521 != 0) = false := bne_eq_false_iff_eq.mpr c4
  clear c4
  replace H := Option.bind_eq_some_iff.mp H
  obtain ⟨t522, A50, H⟩ := H
  replace H : (Qby.l0 k (⟨#[]⟩ : ByteArray) t522 t522 (t522.length : Int) 0 a0_0 a0_1) = some (r1, r2) := H
  have A5 := QA A50
  clear A50
  have H' := QA H
  clear H
  go_enter Tryz.func34, Tryz.ntmps34
  go_wp2_with (first | ((with_reducible refine Qer (N := 2) rfl ?_); refine qq_e 2 #[.int .u8 a0_0, .int .u32 a0_1] 27 ?_; intro gb517 hg w6 hbox hb; have n0_ := QA (Qem qq_b hb); have n1_ := QA (hbox); have n2_ := QA ((qq_s hg : w.heap.size ≤ gb517)); have n3_ := QA ((qq_s hg : w.heap.size ≤ gb517)); clear HB; have HB := n0_; have BK517 := n1_; have GW517 := n2_; have GE517 := n3_; clear n0_ n1_ n2_ n3_; clear hb hbox hg; have hcz7_0 := qq_c (.int .u8 a0_0) BK517.out 0 rfl; have hcz7_1 := qq_c (.int .u32 a0_1) BK517.out 1 rfl; have hfz7_0 := Qdt BK517.out 0; have hfz7_1 := Qdt BK517.out 1) | ((with_reducible refine Qgp (f := 39) rfl ?_); refine Qfg (some 15) rfl rfl Tryz.func39 qq_7 rfl #[.agg #[.int .u8 a0_0, .int .u32 a0_1], .slice A1 l1.length c1] rfl qq_1 ?_; (with_reducible refine (Qca.calls k a0_0 a0_1 _ _ l1 t518 t521 _ ?side1 ?side2 A3.out).mono ?_); (case side1 => repeat (first | exact (Kd.C_below HR1.out HB.out) | (with_reducible refine Kd.C_alloc ?_ _) | (with_reducible refine Kd.C_drewN ?_ _) | (with_reducible refine Kd.C_drew ?_))); (case side2 => exact HC1.out); rintro e w8 ⟨v519, rfl, ho0, hb⟩; refine ⟨_, rfl, ?_⟩; have n0_ := QA (Kd.R_lower ho0 (Qel qq_b)); have n1_ := QA (Qeb (g := gb517) (o := .cells #[.int .u8 a0_0, .int .u32 a0_1] 27 (0, 0)) qq_0 hb); have n2_ := QA (Qem qq_b hb); clear BK517; clear HB; have HO520 := n0_; have BK517 := n1_; have HB := n2_; clear n0_ n1_ n2_; (try clear hb); (try clear hb2); (try clear hk); (try clear hi); (try clear ho0); obtain ⟨Ao9, co9, eo9⟩ := Kd.R_slice HO520.out; subst eo9) | ((with_reducible refine Qgp (f := 74) rfl ?_); refine Qfg (some 23) rfl rfl Tryz.func74 qq_7 rfl #[.slice A1 l1.length c1, .slice Ao9 t518.length co9] rfl qq_1 ?_; (with_reducible refine (Qbz.calls k _ _ l1 _ _ t518 t522 _ ?side1 ?side2 ?side3 ?side4 A5.out).mono ?_); (case side1 => repeat (first | exact (Kd.C_below HR1.out HB.out) | (with_reducible refine Kd.C_alloc ?_ _) | (with_reducible refine Kd.C_drewN ?_ _) | (with_reducible refine Kd.C_drew ?_))); (case side2 => exact HC1.out); (case side3 => repeat (first | exact (Kd.R_reads' HO520.out).2.2 | (with_reducible refine Kd.C_alloc ?_ _) | (with_reducible refine Kd.C_drewN ?_ _) | (with_reducible refine Kd.C_drew ?_))); (case side4 => exact (Kd.R_reads' HO520.out).2.1); rintro e w10 ⟨v523, rfl, ho0, hb⟩; refine ⟨_, rfl, ?_⟩; have n0_ := QA (Kd.R_below qq_4 hb); have n1_ := QA (Kd.S_lower ho0 (Qel qq_b)); have n2_ := QA (Qeb (g := gb517) (o := .cells #[.int .u8 a0_0, .int .u32 a0_1] 27 (0, 0)) qq_0 hb); have n3_ := QA (Qem qq_b hb); clear HO520; clear BK517; clear HB; have HO520 := n0_; have HO524 := n1_; have BK517 := n2_; have HB := n3_; clear n0_ n1_ n2_ n3_; (try clear hb); (try clear hb2); (try clear hk); (try clear hi); (try clear ho0); obtain ⟨Ao11, co11, eo11⟩ := Kd.S_slice HO524.out; subst eo11))
  go_loopg [8, 26] k (fun kq v8 v26 w' => ∃ (x8_1 : ByteArray) (x26_1 : Int), v8 = .string x8_1 ∧ v26 = .int .i64 x26_1 ∧ Aside0 (Qby.l0 kq x8_1 t522 t522 (t522.length : Int) x26_1 a0_0 a0_1 = some (r1, r2)) ∧ Aside0 (kq ≤ k) ∧ Aside0 (Kd.S (Kd.slice 39 k39) 23 w' w.heap.size (fun _ => True) (.slice Ao11 t522.length co11) t522) ∧ Aside0 (Kd.S (Kd.slice 39 k39) 23 w' w.heap.size (fun _ => True) (.slice Ao11 t522.length co11) t522) ∧ Aside0 (w'.heap[gb517]? = some (.cells #[.int .u8 a0_0, .int .u32 a0_1] 27 (0, 0))) ∧ Aside0 (Below w.heap.size w w'))
  case atStart => exact ⟨((⟨#[]⟩ : ByteArray)), (0), qq_6, qq_6, H', ⟨Nat.le_refl _⟩, ⟨by (with_reducible repeat (first | apply Kd.S_alloc | apply Kd.S_drewN | apply Kd.S_drew)); exact HO524.out⟩, ⟨by (with_reducible repeat (first | apply Kd.S_alloc | apply Kd.S_drewN | apply Kd.S_drew)); exact HO524.out⟩, ⟨by (with_reducible repeat (first | apply Qea | apply Qdz | apply Qdy)); exact BK517.out⟩, ⟨qq_b⟩⟩
  case round =>
   clear H'
   try clear c1
   try clear c4
   try clear c4b0
   try clear c4b1
   try clear hcz7_0
   try clear hcz7_1
   try clear hfz7_0
   try clear hfz7_1
   obtain ⟨x8_1, x26_1, rfl, rfl, HA, HK1, HO_9, HO_24, BK517, HB⟩ := hrel
   cases gk with
   | zero => exact absurd HA.out (by simp [Qby.l0])
   | succ k1 =>
    have H := HA.out
    clear HA
    simp only [Qby.l0] at H
    by_cases c12 : x26_1 < (t522.length : Int)
    ·rw [if_pos c12] at H
     have c12b0 : decide (x26_1 < (t522.length : Int)) = true := decide_eq_true c12
     clear c12
     by_cases c13 : 0 ≤ x26_1
     ·rw [if_pos c13] at H
      have c13b0 : decide (0 ≤ x26_1) = true := decide_eq_true c13
      clear c13
      by_cases c14 : x26_1 < (t522.length : Int)
      ·rw [if_pos c14] at H
       have c14b0 : decide (x26_1 < (t522.length : Int)) = true := decide_eq_true c14
       clear c14
       replace H := Option.bind_eq_some_iff.mp H
       obtain ⟨t526, A150, H⟩ := H
       replace H : (if x8_1.size + t526.size ≤ 9223372036854775807 then (Qby.l0 k1 (x8_1 ++ t526) t522 t522 (t522.length : Int) (wrap64 (x26_1 + 1)) a0_0 a0_1) else (none)) = some (r1, r2) := H
       have A15 := QA A150
       clear A150
       by_cases c16 : x8_1.size + t526.size ≤ 9223372036854775807
       ·rw [if_pos c16] at H
        have c16b0 := eq_true c16
        have c16b1 : decide (x8_1.size + t526.size ≤ 9223372036854775807) = true := decide_eq_true c16
        try have c16b2 : (9223372036854775807 < x8_1.size + t526.size) = False := eq_false (Nat.not_lt.2 c16)
        have H' := QA H
        clear H
        have p525 : 0 ≤ (x26_1 : Int) := of_decide_eq_true qq_5
        have q525 : x26_1 < (t522.length : Int) := of_decide_eq_true qq_5
        obtain ⟨ad525, A525_0, c525_0, e525, hx525_0, hl525_0, hi525_0⟩ := at_L10 (Kd.S_reads' HO_24.out).2.2 x26_1 p525 q525
        cases e525
        obtain ⟨ce525, hce525, hMe525, hcc525⟩ := Kd.S_get HO_24.out [] x26_1 p525 (by first | exact q525 | exact of_decide_eq_true qq_5 | (have e_ := (Kd.S_reads' HO_24.out).1; omega))
        obtain ⟨ve525_0, rfl, ge525_0⟩ := hMe525
        have hv525_0 := hcc525 0 _ rfl
        rw [Nat.add_zero, show ((Kd.slice 39 k39)).sz = 1 from rfl, Nat.mul_one] at hv525_0
        replace hv525_0 := Option.some.inj (hv525_0.symm.trans hx525_0)
        rw [hv525_0] at ge525_0
        have HL525_0 := QA (show Kd.R k39 39 _ _ _ _ (Qhc t522 x26_1) from ge525_0)
        clear hv525_0 ge525_0
        clear hcc525 hce525
        have HR525_0 := QA hi525_0
        have HC525_0 := QA hl525_0
        clear hi525_0 hl525_0
        replace p525 := eq_true p525
        replace q525 := eq_true q525
        have hcz17_0 := qq_c (.int .u8 a0_0) BK517.out 0 rfl
        have hcz17_1 := qq_c (.int .u32 a0_1) BK517.out 1 rfl
        have hfz17_0 := Qdt BK517.out 0
        have hfz17_1 := Qdt BK517.out 1
        go_wp2_with (first | ((with_reducible refine Qgp (f := 31) rfl ?_); refine Qfg (some 41) rfl rfl Tryz.func31 qq_7 rfl #[.agg #[.int .u8 a0_0, .int .u32 a0_1], .int .u64 (IntKind.u64.wrap (x26_1)), .slice A525_0 (Qhc t522 x26_1).length c525_0, .bool (decide (x26_1 < (wrap64 ((t522.length : Int) - 1))))] rfl qq_1 ?_; (with_reducible refine (Qbx.calls k1 a0_0 a0_1 (IntKind.u64.wrap (x26_1)) _ _ (Qhc t522 x26_1) (decide (x26_1 < (wrap64 ((t522.length : Int) - 1)))) t526 _ ?side1 ?side2 A15.out).mono ?_); (case side1 => repeat (first | exact (by repeat (first | (with_reducible exact HR525_0.out) | (with_reducible refine Kd.C_alloc ?_ _) | (with_reducible refine Kd.C_drewN ?_ _) | (with_reducible refine Kd.C_drew ?_) | exact HR525_0.out)) | (with_reducible refine Kd.C_alloc ?_ _) | (with_reducible refine Kd.C_drewN ?_ _) | (with_reducible refine Kd.C_drew ?_))); (case side2 => exact HC525_0.out); rintro e w18 ⟨rfl, hb⟩; refine ⟨_, rfl, ?_⟩; have n0_ := QA (Kd.S_below (by (with_reducible repeat (first | apply Kd.S_alloc | apply Kd.S_drewN | apply Kd.S_drew)); exact HO_9.out) hb); have n1_ := QA (Kd.S_below (by (with_reducible repeat (first | apply Kd.S_alloc | apply Kd.S_drewN | apply Kd.S_drew)); exact HO_24.out) hb); have n2_ := QA (Kd.R_below qq_4 hb); have n3_ := QA (Qeb (g := gb517) (o := .cells #[.int .u8 a0_0, .int .u32 a0_1] 27 (0, 0)) qq_0 hb); have n4_ := QA (Kd.C_below (by repeat (first | (with_reducible exact HR525_0.out) | (with_reducible refine Kd.C_alloc ?_ _) | (with_reducible refine Kd.C_drewN ?_ _) | (with_reducible refine Kd.C_drew ?_) | exact HR525_0.out)) hb); have n5_ := QA (Qem qq_b hb); clear HO_9; clear HO_24; clear HL525_0; clear BK517; clear HR525_0; clear HB; have HO_9 := n0_; have HO_24 := n1_; have HL525_0 := n2_; have BK517 := n3_; have HR525_0 := n4_; have HB := n5_; clear n0_ n1_ n2_ n3_ n4_ n5_; (try clear hb); (try clear hb2); (try clear hk); (try clear hi)))
        go_roundg k1
        case measure => have := HK1.out; omega
        case rel => exact ⟨(x8_1 ++ t526), (wrap64 (x26_1 + 1)), qq_6, qq_6, H', ⟨by have := HK1.out; omega⟩, ⟨by (with_reducible repeat (first | apply Kd.S_alloc | apply Kd.S_drewN | apply Kd.S_drew)); exact HO_9.out⟩, ⟨by (with_reducible repeat (first | apply Kd.S_alloc | apply Kd.S_drewN | apply Kd.S_drew)); exact HO_24.out⟩, ⟨by (with_reducible repeat (first | apply Qea | apply Qdz | apply Qdy)); exact BK517.out⟩, ⟨qq_b⟩⟩
       ·rw [if_neg c16] at H
        exact absurd H (by simp)
      ·rw [if_neg c14] at H
       exact absurd H (by simp)
     ·rw [if_neg c13] at H
      exact absurd H (by simp)
    ·rw [if_neg c12] at H
     have c12b0 : decide (x26_1 < (t522.length : Int)) = false := decide_eq_false c12
     clear c12
     simp only [Option.some.injEq, Prod.mk.injEq] at H
     obtain ⟨rfl, rfl⟩ := H
     go_wp2
     go_ret2
     exact ⟨by first | rfl | (simp [Qgu, Qgv] <;> rfl) | (simp [*, Qgu, Qgv] <;> rfl), qq_b⟩
 ·rw [if_neg c4] at H
  have c4b0 : (t521 == 0) = false := beq_eq_false_iff_ne.mpr c4
  have c4b1 : (t521 != 0) = true := bne_iff_ne.mpr c4
  simp only [Option.some.injEq, Prod.mk.injEq] at H
  obtain ⟨rfl, rfl⟩ := H
  go_enter Tryz.func34, Tryz.ntmps34
  go_wp2_with (first | ((with_reducible refine Qer (N := 2) rfl ?_); refine qq_e 2 #[.int .u8 a0_0, .int .u32 a0_1] 27 ?_; intro gb517 hg w19 hbox hb; have n0_ := QA (Qem qq_b hb); have n1_ := QA (hbox); have n2_ := QA ((qq_s hg : w.heap.size ≤ gb517)); have n3_ := QA ((qq_s hg : w.heap.size ≤ gb517)); clear HB; have HB := n0_; have BK517 := n1_; have GW517 := n2_; have GE517 := n3_; clear n0_ n1_ n2_ n3_; clear hb hbox hg; have hcz20_0 := qq_c (.int .u8 a0_0) BK517.out 0 rfl; have hcz20_1 := qq_c (.int .u32 a0_1) BK517.out 1 rfl; have hfz20_0 := Qdt BK517.out 0; have hfz20_1 := Qdt BK517.out 1) | ((with_reducible refine Qgp (f := 39) rfl ?_); refine Qfg (some 15) rfl rfl Tryz.func39 qq_7 rfl #[.agg #[.int .u8 a0_0, .int .u32 a0_1], .slice A1 l1.length c1] rfl qq_1 ?_; (with_reducible refine (Qca.calls k a0_0 a0_1 _ _ l1 t518 t521 _ ?side1 ?side2 A3.out).mono ?_); (case side1 => repeat (first | exact (Kd.C_below HR1.out HB.out) | (with_reducible refine Kd.C_alloc ?_ _) | (with_reducible refine Kd.C_drewN ?_ _) | (with_reducible refine Kd.C_drew ?_))); (case side2 => exact HC1.out); rintro e w21 ⟨v519, rfl, ho0, hb⟩; refine ⟨_, rfl, ?_⟩; have n0_ := QA (Kd.R_lower ho0 (Qel qq_b)); have n1_ := QA (Qeb (g := gb517) (o := .cells #[.int .u8 a0_0, .int .u32 a0_1] 27 (0, 0)) qq_0 hb); have n2_ := QA (Qem qq_b hb); clear BK517; clear HB; have HO520 := n0_; have BK517 := n1_; have HB := n2_; clear n0_ n1_ n2_; (try clear hb); (try clear hb2); (try clear hk); (try clear hi); (try clear ho0)))
  go_ret2
  exact ⟨by first | rfl | (simp [Qgu, Qgv] <;> rfl) | (simp [*, Qgu, Qgv] <;> rfl), qq_b⟩
def Qak.f (a0_0 : Int) (a0_1 : Int) : Option (Int) := if a0_0 < 12 then (some 1) else (if a0_0 > 24 then (some 1) else (if a0_1 < 1 then (some 1) else (if a0_1 > 65536 then (some 1) else (some 0))))
theorem Qak.calls (a0_0 : Int) (a0_1 : Int) (r : Int) (w : World) (h : Qak.f a0_0 a0_1 = some r) :
  Calls Tryz.prog 85 #[.agg #[.int .u8 a0_0, .int .u32 a0_1]] w fun e w' => e = .returned (.int .i64 r) ∧ Below w.heap.size w w' := by
 have hu27 := Tryz.underlying27
 have HB := QA (Below.refl w.heap.size w)
 have H : (if a0_0 < 12 then (some 1) else (if a0_0 > 24 then (some 1) else (if a0_1 < 1 then (some 1) else (if a0_1 > 65536 then (some 1) else (some 0))))) = some r := h
 clear h
 by_cases c2 : a0_0 < 12
 ·rw [if_pos c2] at H
  have c2b0 : decide (a0_0 < 12) = true := decide_eq_true c2
  clear c2
  obtain rfl := Option.some.inj H
  go_enter Tryz.func85, Tryz.ntmps85
  go_wp2_with (first | ((with_reducible refine Qer (N := 1) rfl ?_); refine qq_e 1 #[.int .u8 a0_0, .int .u32 a0_1] 27 ?_; intro gb103 hg w3 hbox hb; have n0_ := QA (Qem qq_b hb); have n1_ := QA (hbox); have n2_ := QA ((qq_s hg : w.heap.size ≤ gb103)); have n3_ := QA ((qq_s hg : w.heap.size ≤ gb103)); clear HB; have HB := n0_; have BK103 := n1_; have GW103 := n2_; have GE103 := n3_; clear n0_ n1_ n2_ n3_; clear hb hbox hg; have hcz4_0 := qq_c (.int .u8 a0_0) BK103.out 0 rfl; have hcz4_1 := qq_c (.int .u32 a0_1) BK103.out 1 rfl; have hfz4_0 := Qdt BK103.out 0; have hfz4_1 := Qdt BK103.out 1))
  go_ret
  exact ⟨by first | rfl | (simp [Qgu, Qgv] <;> rfl) | (simp [*, Qgu, Qgv] <;> rfl), qq_b⟩
 ·rw [if_neg c2] at H
  have c2b0 : decide (a0_0 < 12) = false := decide_eq_false c2
  clear c2
  by_cases c5 : a0_0 > 24
  ·rw [if_pos c5] at H
   have c5b0 : decide (24 < a0_0) = true := decide_eq_true c5
   clear c5
   obtain rfl := Option.some.inj H
   go_enter Tryz.func85, Tryz.ntmps85
   go_wp2_with (first | ((with_reducible refine Qer (N := 1) rfl ?_); refine qq_e 1 #[.int .u8 a0_0, .int .u32 a0_1] 27 ?_; intro gb103 hg w6 hbox hb; have n0_ := QA (Qem qq_b hb); have n1_ := QA (hbox); have n2_ := QA ((qq_s hg : w.heap.size ≤ gb103)); have n3_ := QA ((qq_s hg : w.heap.size ≤ gb103)); clear HB; have HB := n0_; have BK103 := n1_; have GW103 := n2_; have GE103 := n3_; clear n0_ n1_ n2_ n3_; clear hb hbox hg; have hcz7_0 := qq_c (.int .u8 a0_0) BK103.out 0 rfl; have hcz7_1 := qq_c (.int .u32 a0_1) BK103.out 1 rfl; have hfz7_0 := Qdt BK103.out 0; have hfz7_1 := Qdt BK103.out 1))
   go_ret
   exact ⟨by first | rfl | (simp [Qgu, Qgv] <;> rfl) | (simp [*, Qgu, Qgv] <;> rfl), qq_b⟩
  ·rw [if_neg c5] at H
   have c5b0 : decide (24 < a0_0) = false := decide_eq_false c5
   clear c5
   by_cases c8 : a0_1 < 1
   ·rw [if_pos c8] at H
    have c8b0 : decide (a0_1 < 1) = true := decide_eq_true c8
    clear c8
    obtain rfl := Option.some.inj H
    go_enter Tryz.func85, Tryz.ntmps85
    go_wp2_with (first | ((with_reducible refine Qer (N := 1) rfl ?_); refine qq_e 1 #[.int .u8 a0_0, .int .u32 a0_1] 27 ?_; intro gb103 hg w9 hbox hb; have n0_ := QA (Qem qq_b hb); have n1_ := QA (hbox); have n2_ := QA ((qq_s hg : w.heap.size ≤ gb103)); have n3_ := QA ((qq_s hg : w.heap.size ≤ gb103)); clear HB; have HB := n0_; have BK103 := n1_; have GW103 := n2_; have GE103 := n3_; clear n0_ n1_ n2_ n3_; clear hb hbox hg; have hcz10_0 := qq_c (.int .u8 a0_0) BK103.out 0 rfl; have hcz10_1 := qq_c (.int .u32 a0_1) BK103.out 1 rfl; have hfz10_0 := Qdt BK103.out 0; have hfz10_1 := Qdt BK103.out 1))
    go_ret
    exact ⟨by first | rfl | (simp [Qgu, Qgv] <;> rfl) | (simp [*, Qgu, Qgv] <;> rfl), qq_b⟩
   ·rw [if_neg c8] at H
    have c8b0 : decide (a0_1 < 1) = false := decide_eq_false c8
    clear c8
    by_cases c11 : a0_1 > 65536
    ·rw [if_pos c11] at H
     have c11b0 : decide (65536 < a0_1) = true := decide_eq_true c11
     clear c11
     obtain rfl := Option.some.inj H
     go_enter Tryz.func85, Tryz.ntmps85
     go_wp2_with (first | ((with_reducible refine Qer (N := 1) rfl ?_); refine qq_e 1 #[.int .u8 a0_0, .int .u32 a0_1] 27 ?_; intro gb103 hg w12 hbox hb; have n0_ := QA (Qem qq_b hb); have n1_ := QA (hbox); have n2_ := QA ((qq_s hg : w.heap.size ≤ gb103)); have n3_ := QA ((qq_s hg : w.heap.size ≤ gb103)); clear HB; have HB := n0_; have BK103 := n1_; have GW103 := n2_; have GE103 := n3_; clear n0_ n1_ n2_ n3_; clear hb hbox hg; have hcz13_0 := qq_c (.int .u8 a0_0) BK103.out 0 rfl; have hcz13_1 := qq_c (.int .u32 a0_1) BK103.out 1 rfl; have hfz13_0 := Qdt BK103.out 0; have hfz13_1 := Qdt BK103.out 1))
     go_ret
     exact ⟨by first | rfl | (simp [Qgu, Qgv] <;> rfl) | (simp [*, Qgu, Qgv] <;> rfl), qq_b⟩
    ·rw [if_neg c11] at H
     have c11b0 : decide (65536 < a0_1) = false := decide_eq_false c11
     clear c11
     obtain rfl := Option.some.inj H
     go_enter Tryz.func85, Tryz.ntmps85
     go_wp2_with (first | ((with_reducible refine Qer (N := 1) rfl ?_); refine qq_e 1 #[.int .u8 a0_0, .int .u32 a0_1] 27 ?_; intro gb103 hg w14 hbox hb; have n0_ := QA (Qem qq_b hb); have n1_ := QA (hbox); have n2_ := QA ((qq_s hg : w.heap.size ≤ gb103)); have n3_ := QA ((qq_s hg : w.heap.size ≤ gb103)); clear HB; have HB := n0_; have BK103 := n1_; have GW103 := n2_; have GE103 := n3_; clear n0_ n1_ n2_ n3_; clear hb hbox hg; have hcz15_0 := qq_c (.int .u8 a0_0) BK103.out 0 rfl; have hcz15_1 := qq_c (.int .u32 a0_1) BK103.out 1 rfl; have hfz15_0 := Qdt BK103.out 0; have hfz15_1 := Qdt BK103.out 1))
     go_ret
     exact ⟨by first | rfl | (simp [Qgu, Qgv] <;> rfl) | (simp [*, Qgu, Qgv] <;> rfl), qq_b⟩
end Go.Proofs.YtnnofopfbeklbaaGreat.C
end
