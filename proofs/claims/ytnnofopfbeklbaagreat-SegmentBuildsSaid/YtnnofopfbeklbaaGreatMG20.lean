/- Texts of this claim's author and of the print of its functions, merged by merge.py. -/
import Derived.Test.YtnnofopfbeklbaaGreatMG02
import Derived.Test.YtnnofopfbeklbaaGreatMG15
import Derived.Test.YtnnofopfbeklbaaGreatMG17
import Derived.Test.YtnnofopfbeklbaaGreatMG16
import Derived.Test.YtnnofopfbeklbaaGreatMG19
import Derived.Test.YtnnofopfbeklbaaGreatMG14
set_option linter.unusedVariables false
set_option linter.unusedSimpArgs false
set_option maxHeartbeats 8000000
set_option maxRecDepth 100000
section
namespace Go.Proofs.YtnnofopfbeklbaaGreat.C
open Go.RowKit Go.Proofs.YtnnofopfbeklbaaGreatW.PrintWords Go.Proofs.YtnnofopfbeklbaaGreatW.PrintLast Go.Proofs.YtnnofopfbeklbaaGreatW.PrintMore
attribute [local go_sem] Qfx Qfy Qfz Qga Qgb Qgc Qgd Qge
def Qbu.l0 : Nat → ByteArray → List (S122) → List (S39) → Int → Int → Option (ByteArray × (List (S122)))
 | 0, _, _, _, _, _ => none
 | k + 1, x8, x9, x15, x16, x17 => if x17 < x16 then (if 0 ≤ x17 then (if x17 < (x15.length : Int) then ((Qau.f k 0 ((Qgm x15 x17).f2)).bind fun t455 => (if x9.length < 8796093022208 then ((Qbg.f k ((Qgm x15 x17).f0) ((Qgm x15 x17).f1) ((Qgm x15 x17).f2) ((Qgm x15 x17).f3)).bind fun t459 => (if x8.size + t459.size ≤ 9223372036854775807 then (Qbu.l0 k (x8 ++ t459) (x9 ++ [(⟨t455, ((x8.size : Int)) % 4294967296⟩ : S122)]) x15 x16 (wrap64 (x17 + 1))) else (none))) else (none))) else (none)) else (none)) else ((Qbj.f k x9).bind fun t460 => (some (x8, t460)))
def Qbu.f (k : Nat) (a0_0 : Int) (a0_1 : Int) (a1 : Int) (l2 : List (S39)) : Option (ByteArray × (List (S122))) := (Qbe.f k a0_0 a0_1 a1).bind fun t452 => (Qbu.l0 k t452 ([] : List (S122)) l2 (l2.length : Int) 0)
theorem Qbu.calls (k : Nat) (a0_0 : Int) (a0_1 : Int) (a1 : Int) (A2 : Option Addr) (c2 : Nat) (l2 : List (S39)) (r1 : ByteArray) (r2 : List (S122)) (w : World) (hr2 : Kd.C k39 w A2 l2.length l2) (hc2 : l2.length ≤ c2) (h : Qbu.f k a0_0 a0_1 a1 l2 = some (r1, r2)) :
  Calls Tryz.prog 27 #[.agg #[.int .u8 a0_0, .int .u32 a0_1], .int .u64 a1, .slice A2 l2.length c2] w fun e w' => ∃ v1_ : Value, e = .returned (.tuple #[.string r1, v1_]) ∧ Kd.R k122 122 w' w.heap.size (fun _ => True) v1_ r2 ∧ Below w.heap.size w w' := by
 have hu27 := Tryz.underlying27
 have hu39 := Tryz.underlying39
 have hu122 := Tryz.underlying122
 have HR2 := QA hr2
 have HC2 := QA hc2
 clear hr2 hc2
 have HB := QA (Below.refl w.heap.size w)
 have H : ((Qbe.f k a0_0 a0_1 a1).bind fun t452 => (Qbu.l0 k t452 ([] : List (S122)) l2 (l2.length : Int) 0)) = some (r1, r2) := h
 clear h
 replace H := Option.bind_eq_some_iff.mp H
 obtain ⟨t452, A40, H⟩ := H
 replace H : (Qbu.l0 k t452 ([] : List (S122)) l2 (l2.length : Int) 0) = some (r1, r2) := H
 have A4 := QA A40
 clear A40
 have H' := QA H
 clear H
 go_enter Tryz.func27, Tryz.ntmps27
 go_wp2_with (first | ((with_reducible refine Qef (N := 3) rfl ?_); refine qq_e 3 #[.int .u8 a0_0, .int .u32 a0_1] 27 ?_; intro gb451 hg w5 hbox hb; have n0_ := QA (Qea qq_b hb); have n1_ := QA (hbox); have n2_ := QA ((qq_s hg : w.heap.size ≤ gb451)); have n3_ := QA ((qq_s hg : w.heap.size ≤ gb451)); clear HB; have HB := n0_; have BK451 := n1_; have GW451 := n2_; have GE451 := n3_; clear n0_ n1_ n2_ n3_; clear hb hbox hg; have hcz6_0 := qq_c (.int .u8 a0_0) BK451.out 0 rfl; have hcz6_1 := qq_c (.int .u32 a0_1) BK451.out 1 rfl; have hfz6_0 := Qdk BK451.out 0; have hfz6_1 := Qdk BK451.out 1) | ((with_reducible refine Qgf (f := 55) rfl ?_); refine Qeu (some 14) rfl rfl Tryz.func55 qq_6 rfl #[.agg #[.int .u8 a0_0, .int .u32 a0_1], .int .u64 a1] rfl qq_1 ?_; (with_reducible refine (Qbe.calls k a0_0 a0_1 a1 t452 _ A4.out).mono ?_); rintro e w7 ⟨rfl, hb⟩; refine ⟨_, rfl, ?_⟩; have n0_ := QA (Qdt (g := gb451) (o := .cells #[.int .u8 a0_0, .int .u32 a0_1] 27 (0, 0)) qq_0 hb); have n1_ := QA (Qea qq_b hb); clear BK451; clear HB; have BK451 := n0_; have HB := n1_; clear n0_ n1_; (try clear hb); (try clear hb2); (try clear hk); (try clear hi)))
 go_loopg [8, 9, 17] k (fun kq v8 v9 v17 w' => ∃ (x8_1 : ByteArray) (x9_1 : List (S122)) (x17_1 : Int), v8 = .string x8_1 ∧ v17 = .int .i64 x17_1 ∧ Aside0 (Qbu.l0 kq x8_1 x9_1 l2 (l2.length : Int) x17_1 = some (r1, r2)) ∧ Aside0 (kq ≤ k) ∧ Aside0 (Kd.R k122 122 w' w.heap.size (fun _ => True) v9 x9_1) ∧ Aside0 (w'.heap[gb451]? = some (.cells #[.int .u8 a0_0, .int .u32 a0_1] 27 (0, 0))) ∧ Aside0 (Below w.heap.size w w'))
 case atStart => exact ⟨(t452), (([] : List (S122))), (0), qq_5, qq_5, H', ⟨Nat.le_refl _⟩, ⟨by first | exact Kd.R_nil _ _ _ _ _ | exact Kd.N_nil _ _ _ _ _ | exact Kd.V_nil _ _ _ _ _ | exact Kd.Q_nil _ _ _ _ _ | exact Kd.S_nil _ _ _ _ _⟩, ⟨by (with_reducible repeat (first | apply Qds | apply Qdr | apply Qdq)); exact BK451.out⟩, ⟨qq_b⟩⟩
 case round =>
  clear H'
  try clear c2
  try clear hcz6_0
  try clear hcz6_1
  try clear hfz6_0
  try clear hfz6_1
  obtain ⟨x8_1, x9_1, x17_1, rfl, rfl, HA, HK1, HO_9, BK451, HB⟩ := hrel
  cases gk with
  | zero => exact absurd HA.out (by simp [Qbu.l0])
  | succ k1 =>
   have H := HA.out
   clear HA
   simp only [Qbu.l0] at H
   by_cases c8 : x17_1 < (l2.length : Int)
   ·rw [if_pos c8] at H
    have c8b0 : decide (x17_1 < (l2.length : Int)) = true := decide_eq_true c8
    clear c8
    by_cases c9 : 0 ≤ x17_1
    ·rw [if_pos c9] at H
     have c9b0 : decide (0 ≤ x17_1) = true := decide_eq_true c9
     clear c9
     by_cases c10 : x17_1 < (l2.length : Int)
     ·rw [if_pos c10] at H
      have c10b0 : decide (x17_1 < (l2.length : Int)) = true := decide_eq_true c10
      clear c10
      replace H := Option.bind_eq_some_iff.mp H
      obtain ⟨t455, A110, H⟩ := H
      replace H : (if x9_1.length < 8796093022208 then ((Qbg.f k1 ((Qgm l2 x17_1).f0) ((Qgm l2 x17_1).f1) ((Qgm l2 x17_1).f2) ((Qgm l2 x17_1).f3)).bind fun t459 => (if x8_1.size + t459.size ≤ 9223372036854775807 then (Qbu.l0 k1 (x8_1 ++ t459) (x9_1 ++ [(⟨t455, ((x8_1.size : Int)) % 4294967296⟩ : S122)]) l2 (l2.length : Int) (wrap64 (x17_1 + 1))) else (none))) else (none)) = some (r1, r2) := H
      have A11 := QA A110
      clear A110
      by_cases c12 : x9_1.length < 8796093022208
      ·rw [if_pos c12] at H
       have LMc12 := QA c12
       clear c12
       obtain ⟨y456, hy456⟩ : ∃ y_ : List (S122), y_ = (x9_1 ++ [(⟨t455, ((x8_1.size : Int)) % 4294967296⟩ : S122)]) := ⟨_, rfl⟩
       replace H : ((Qbg.f k1 ((Qgm l2 x17_1).f0) ((Qgm l2 x17_1).f1) ((Qgm l2 x17_1).f2) ((Qgm l2 x17_1).f3)).bind fun t459 => (if x8_1.size + t459.size ≤ 9223372036854775807 then (Qbu.l0 k1 (x8_1 ++ t459) y456 l2 (l2.length : Int) (wrap64 (x17_1 + 1))) else (none))) = some (r1, r2) := by first | (rw [hy456]; with_reducible exact H) | (have H2_ := (Option.bind_some _ _).symm.trans H; rw [hy456]; with_reducible exact H2_) | (have H2_ := (Option.bind_some _ _).symm.trans H; with_reducible exact H2_) | with_reducible exact H | (rw [hy456]; exact H) | exact H
       have Ny456 := QA hy456
       clear hy456
       replace H := Option.bind_eq_some_iff.mp H
       obtain ⟨t459, A130, H⟩ := H
       replace H : (if x8_1.size + t459.size ≤ 9223372036854775807 then (Qbu.l0 k1 (x8_1 ++ t459) y456 l2 (l2.length : Int) (wrap64 (x17_1 + 1))) else (none)) = some (r1, r2) := H
       have A13 := QA A130
       clear A130
       by_cases c14 : x8_1.size + t459.size ≤ 9223372036854775807
       ·rw [if_pos c14] at H
        have c14b0 := eq_true c14
        have c14b1 : decide (x8_1.size + t459.size ≤ 9223372036854775807) = true := decide_eq_true c14
        try have c14b2 : (9223372036854775807 < x8_1.size + t459.size) = False := eq_false (Nat.not_lt.2 c14)
        have H' := QA H
        clear H
        have p453 : 0 ≤ (x17_1 : Int) := of_decide_eq_true qq_7
        have q453 : x17_1 < (l2.length : Int) := of_decide_eq_true qq_7
        obtain ⟨ad453, e453, hx453_0, hx453_1, hx453_2, hx453_3⟩ := at_T39 HR2.out x17_1 p453 q453
        cases e453
        replace hx453_0 := qq_h HB.out hx453_0
        replace hx453_1 := qq_h HB.out hx453_1
        replace hx453_2 := qq_h HB.out hx453_2
        replace hx453_3 := qq_h HB.out hx453_3
        replace p453 := eq_true p453
        replace q453 := eq_true q453
        go_wp2_with (first | ((with_reducible refine Qef (N := 11) rfl ?_); refine qq_e 11 #[.bool false, .int .u64 0, .string (⟨#[]⟩ : ByteArray), .string (⟨#[]⟩ : ByteArray)] 39 ?_; intro gb454 hg w15 hbox hb; have n0_ := QA (Kd.R_below qq_4 hb); have n1_ := QA (Qdt (g := gb451) (o := .cells #[.int .u8 a0_0, .int .u32 a0_1] 27 (0, 0)) qq_0 hb); have n2_ := QA (Qea qq_b hb); have n3_ := QA (hbox); have n4_ := QA ((qq_s hg : w.heap.size ≤ gb454)); have n5_ := QA ((qq_s hg : w.heap.size ≤ gb454)); have n6_ := QA ((by rw [hg]; exact Nat.ne_of_lt (Qdi (g := gb451) (o := .cells #[.int .u8 a0_0, .int .u32 a0_1] 27 (0, 0)) qq_0) : gb451 ≠ gb454)); have n7_ := QA ((by rw [hg]; exact Nat.ne_of_gt (Qdi (g := gb451) (o := .cells #[.int .u8 a0_0, .int .u32 a0_1] 27 (0, 0)) qq_0) : gb454 ≠ gb451)); clear HO_9; clear BK451; clear HB; have HO_9 := n0_; have BK451 := n1_; have HB := n2_; have BK454 := n3_; have GW454 := n4_; have GE454 := n5_; have NB451_454 := n6_; have NB454_451 := n7_; clear n0_ n1_ n2_ n3_ n4_ n5_ n6_ n7_; clear hb hbox hg; have hnb16 := NB454_451.out; have hnc16 := NB451_454.out; have hcz17_0 := qq_c (.bool false) BK454.out 0 rfl; have hcz17_1 := qq_c (.int .u64 0) BK454.out 1 rfl; have hcz17_2 := qq_c (.string (⟨#[]⟩ : ByteArray)) BK454.out 2 rfl; have hcz17_3 := qq_c (.string (⟨#[]⟩ : ByteArray)) BK454.out 3 rfl; have hfz17_0 := Qdk BK454.out 0; have hfz17_1 := Qdk BK454.out 1; have hfz17_2 := Qdk BK454.out 2; have hfz17_3 := Qdk BK454.out 3) | ((with_reducible refine Qgf (f := 65) rfl ?_); refine Qeu (some 24) rfl rfl Tryz.func65 qq_6 rfl #[.int .u64 0, .string ((Qgm l2 x17_1).f2)] rfl qq_1 ?_; (with_reducible refine (Qau.calls k1 0 ((Qgm l2 x17_1).f2) t455 _ A11.out).mono ?_); rintro e w18 ⟨rfl, hb⟩; refine ⟨_, rfl, ?_⟩; have n0_ := QA (Kd.R_below (by (with_reducible repeat (first | apply Kd.R_alloc | apply Kd.R_drewN | apply Kd.R_drew)); exact (Kd.R_mono (Kd.R_far (p := ⟨gb454, 3, none⟩) (Kd.R_far (p := ⟨gb454, 2, none⟩) (Kd.R_far (p := ⟨gb454, 1, none⟩) (Kd.R_far (p := ⟨gb454, 0, none⟩) (Kd.R_types HO_9.out BK454.out (by decide)) (fun _ hk => hk.2) (.bool ((Qgm l2 x17_1).f0))) (fun _ hk => hk.2) (.int .u64 ((Qgm l2 x17_1).f1))) (fun _ hk => hk.2) (.string ((Qgm l2 x17_1).f2))) (fun _ hk => hk.2) (.string ((Qgm l2 x17_1).f3))) (fun _ h_ => h_.1))) hb); have n1_ := QA (Qdt (g := gb451) (o := .cells #[.int .u8 a0_0, .int .u32 a0_1] 27 (0, 0)) qq_9 hb); have n2_ := QA (Qdt (g := gb454) (o := .cells #[.bool ((Qgm l2 x17_1).f0), .int .u64 ((Qgm l2 x17_1).f1), .string ((Qgm l2 x17_1).f2), .string ((Qgm l2 x17_1).f3)] 39 (0, 0)) (by (with_reducible repeat (first | apply Qds | apply Qdr | apply Qdq)); refine Qed (cs := #[.bool ((Qgm l2 x17_1).f0), .int .u64 ((Qgm l2 x17_1).f1), .string ((Qgm l2 x17_1).f2), .string (⟨#[]⟩ : ByteArray)]) ?_ 3 _ rfl; (with_reducible repeat (first | apply Qds | apply Qdr | apply Qdq)); refine Qed (cs := #[.bool ((Qgm l2 x17_1).f0), .int .u64 ((Qgm l2 x17_1).f1), .string (⟨#[]⟩ : ByteArray), .string (⟨#[]⟩ : ByteArray)]) ?_ 2 _ rfl; (with_reducible repeat (first | apply Qds | apply Qdr | apply Qdq)); refine Qed (cs := #[.bool ((Qgm l2 x17_1).f0), .int .u64 0, .string (⟨#[]⟩ : ByteArray), .string (⟨#[]⟩ : ByteArray)]) ?_ 1 _ rfl; (with_reducible repeat (first | apply Qds | apply Qdr | apply Qdq)); refine Qed (cs := #[.bool false, .int .u64 0, .string (⟨#[]⟩ : ByteArray), .string (⟨#[]⟩ : ByteArray)]) ?_ 0 _ rfl; (with_reducible repeat (first | apply Qds | apply Qdr | apply Qdq)); exact BK454.out) hb); have n3_ := QA (Qea qq_b hb); clear HO_9; clear BK451; clear BK454; clear HB; have HO_9 := n0_; have BK451 := n1_; have BK454 := n2_; have HB := n3_; clear n0_ n1_ n2_ n3_; (try clear hb); (try clear hb2); (try clear hk); (try clear hi)) | ((with_reducible refine Qgg (b := .append) (xs := #[.tmp 21, .tmp 29]) rfl ?_); at_builtin; refine Kd.R_append k122 (w0 := w) w.heap.size rfl (.tmp 21) (.tmp 29) 49 122 (.agg #[(.int .u64 0), (.int .u32 0)]) 16 rfl Tryz.underlying49 Qgl rfl (by decide) (by omega) u9 x9_1 (⟨t455, ((x8_1.size : Int)) % 4294967296⟩ : S122) [.int .u64 t455, .int .u32 (((x8_1.size : Int)) % 4294967296)] (fun _ => True) (fun _ => False) rfl rfl ?aP (fun _ hk => hk.elim) ?aF ?aO ?aB ?aS ?aL ?_; (case aP => exact Qgp _ _ _ (⟨t455, ((x8_1.size : Int)) % 4294967296⟩ : S122)); (case aB => exact qq_b); (case aF => exact (fun _ _ => trivial)); (case aO => exact qq_4); (case aS => exact (Qdz qq_b)); (case aL => have := LMc12.out; omega); intro v457 w19 ho hb hg hat; rw [← Ny456.out] at ho; have n0_ := QA (Qdl (g := gb451) (o := .cells #[.int .u8 a0_0, .int .u32 a0_1] 27 (0, 0)) qq_0 hg (Kd.R_ne HO_9.out BK451.out (by decide))); have n1_ := QA (Qdl (g := gb454) (o := .cells #[.bool ((Qgm l2 x17_1).f0), .int .u64 ((Qgm l2 x17_1).f1), .string ((Qgm l2 x17_1).f2), .string ((Qgm l2 x17_1).f3)] 39 (0, 0)) qq_0 hg (Kd.R_ne HO_9.out BK454.out (by decide))); have n2_ := QA (hb); have n3_ := QA (ho); clear BK451; clear BK454; clear HB; clear HO_9; have BK451 := n0_; have BK454 := n1_; have HB := n2_; have HO458 := n3_; clear n0_ n1_ n2_ n3_; clear ho hb hg hat; have hcz20_0 := qq_c (.bool ((Qgm l2 x17_1).f0)) BK454.out 0 rfl; have hcz20_1 := qq_c (.int .u64 ((Qgm l2 x17_1).f1)) BK454.out 1 rfl; have hcz20_2 := qq_c (.string ((Qgm l2 x17_1).f2)) BK454.out 2 rfl; have hcz20_3 := qq_c (.string ((Qgm l2 x17_1).f3)) BK454.out 3 rfl; have hfz20_0 := Qdk BK454.out 0; have hfz20_1 := Qdk BK454.out 1; have hfz20_2 := Qdk BK454.out 2; have hfz20_3 := Qdk BK454.out 3) | ((with_reducible refine Qgf (f := 22) rfl ?_); refine Qeu (some 33) rfl rfl Tryz.func22 qq_6 rfl #[.agg #[.bool ((Qgm l2 x17_1).f0), .int .u64 ((Qgm l2 x17_1).f1), .string ((Qgm l2 x17_1).f2), .string ((Qgm l2 x17_1).f3)]] rfl qq_1 ?_; (with_reducible refine (Qbg.calls k1 ((Qgm l2 x17_1).f0) ((Qgm l2 x17_1).f1) ((Qgm l2 x17_1).f2) ((Qgm l2 x17_1).f3) t459 _ A13.out).mono ?_); rintro e w21 ⟨rfl, hb⟩; refine ⟨_, rfl, ?_⟩; have n0_ := QA (Kd.R_below qq_4 hb); have n1_ := QA (Qdt (g := gb451) (o := .cells #[.int .u8 a0_0, .int .u32 a0_1] 27 (0, 0)) qq_0 hb); have n2_ := QA (Qdt (g := gb454) (o := .cells #[.bool ((Qgm l2 x17_1).f0), .int .u64 ((Qgm l2 x17_1).f1), .string ((Qgm l2 x17_1).f2), .string ((Qgm l2 x17_1).f3)] 39 (0, 0)) qq_0 hb); have n3_ := QA (Qea qq_b hb); clear HO458; clear BK451; clear BK454; clear HB; have HO458 := n0_; have BK451 := n1_; have BK454 := n2_; have HB := n3_; clear n0_ n1_ n2_ n3_; (try clear hb); (try clear hb2); (try clear hk); (try clear hi)))
        go_roundg k1
        case measure => have := HK1.out; omega
        case rel => exact ⟨(x8_1 ++ t459), (y456), (wrap64 (x17_1 + 1)), qq_5, qq_5, H', ⟨by have := HK1.out; omega⟩, ⟨by (with_reducible repeat (first | apply Kd.R_alloc | apply Kd.R_drewN | apply Kd.R_drew)); exact HO458.out⟩, ⟨by (with_reducible repeat (first | apply Qds | apply Qdr | apply Qdq)); exact BK451.out⟩, ⟨qq_b⟩⟩
       ·rw [if_neg c14] at H
        exact absurd H (by simp)
      ·rw [if_neg c12] at H
       exact absurd H (by simp)
     ·rw [if_neg c10] at H
      exact absurd H (by simp)
    ·rw [if_neg c9] at H
     exact absurd H (by simp)
   ·rw [if_neg c8] at H
    have c8b0 : decide (x17_1 < (l2.length : Int)) = false := decide_eq_false c8
    clear c8
    replace H := Option.bind_eq_some_iff.mp H
    obtain ⟨t460, A220, H⟩ := H
    replace H : (some (x8_1, t460)) = some (r1, r2) := H
    have A22 := QA A220
    clear A220
    simp only [Option.some.injEq, Prod.mk.injEq] at H
    obtain ⟨rfl, rfl⟩ := H
    obtain ⟨Ao23, co23, eo23⟩ := Kd.R_slice HO_9.out
    subst eo23
    go_wp2_with (first | ((with_reducible refine Qgf (f := 66) rfl ?_); refine Qeu (some 38) rfl rfl Tryz.func66 qq_6 rfl #[.slice Ao23 x9_1.length co23] rfl qq_1 ?_; (with_reducible refine (Qbj.calls k1 _ _ x9_1 t460 _ ?side1 ?side2 A22.out).mono ?_); (case side1 => repeat (first | exact (Kd.R_reads' HO_9.out).2.2 | (with_reducible refine Kd.C_alloc ?_ _) | (with_reducible refine Kd.C_drewN ?_ _) | (with_reducible refine Kd.C_drew ?_))); (case side2 => exact (Kd.R_reads' HO_9.out).2.1); rintro e w24 ⟨v461, rfl, ho0, hb⟩; refine ⟨_, rfl, ?_⟩; have n0_ := QA (Kd.R_elder' qq_4 (Kd.R_base ho0) hb); have n1_ := QA (Kd.R_lower (Kd.R_new' ho0 (Kd.R_lt qq_4)) (Qdz qq_b)); have n2_ := QA (Qdt (g := gb451) (o := .cells #[.int .u8 a0_0, .int .u32 a0_1] 27 (0, 0)) qq_0 hb); have n3_ := QA (Qea qq_b hb); clear HO_9; clear BK451; clear HB; have HO_9 := n0_; have HO462 := n1_; have BK451 := n2_; have HB := n3_; clear n0_ n1_ n2_ n3_; (try clear hb); (try clear hb2); (try clear hk); (try clear hi); (try clear ho0)))
    go_ret2
    exact ⟨_, by first | rfl | (simp [Qgi, Qgj] <;> rfl) | (simp [*, Qgi, Qgj] <;> rfl), by (with_reducible repeat (first | apply Kd.R_alloc | apply Kd.R_drewN | apply Kd.R_drew)); exact Kd.R_mono HO462.out (fun _ hk => trivial), qq_b⟩
def Qbk.l0 : Nat → ByteArray → List (S122) → Int → Int → Option (ByteArray)
 | 0, _, _, _, _ => none
 | k + 1, x3, x6, x7, x8 => if x8 < x7 then (if 0 ≤ x8 then (if x8 < (x6.length : Int) then ((Qaq.f k ((Qgq x6 x8).f0) 8).bind fun t465 => (if x3.size + t465.size ≤ 9223372036854775807 then ((Qaq.f k (IntKind.u64.wrap ((Qgq x6 x8).f1)) 4).bind fun t466 => (if (x3 ++ t465).size + t466.size ≤ 9223372036854775807 then (Qbk.l0 k ((x3 ++ t465) ++ t466) x6 x7 (wrap64 (x8 + 1))) else (none))) else (none))) else (none)) else (none)) else (some x3)
def Qbk.f (k : Nat) (l0 : List (S122)) : Option (ByteArray) := Qbk.l0 k (⟨#[]⟩ : ByteArray) l0 (l0.length : Int) 0
def Qbk.T5 : Bool × List (List Nat × List Nat) := (true, [([], []), ([], []), ([1], [1]), ([2], [2]), ([0, 3], [0, 3]), ([], []), ([5], [5]), ([6], [6]), ([7, 3], [7]), ([4, 8], [4, 8]), ([9, 8, 0, 1, 2, 3, 4, 5, 6, 7, 8, 9], [0, 9])])
def Qbk.B5 : List Nat := [0, 0, 2, 6, 15, 0, 32, 96, 238, 511, 1023]
theorem Qbk.tab5 : rtab .any (Qfp Tryz.f121 5) = Qbk.T5 := by kernel_rfl
theorem Qbk.bits5 : Qfl Qbk.T5.2 Qbk.B5 = true := by kernel_rfl
theorem Qbk.calls (k : Nat) (A0 : Option Addr) (c0 : Nat) (l0 : List (S122)) (r : ByteArray) (w : World) (hr0 : Kd.C k122 w A0 l0.length l0) (hc0 : l0.length ≤ c0) (h : Qbk.f k l0 = some r) :
  Calls Tryz.prog 121 #[.slice A0 l0.length c0] w fun e w' => e = .returned (.string r) ∧ Below w.heap.size w w' := by
 have hu122 := Tryz.underlying122
 have HR0 := QA hr0
 have HC0 := QA hc0
 clear hr0 hc0
 have HB := QA (Below.refl w.heap.size w)
 have H : (Qbk.l0 k (⟨#[]⟩ : ByteArray) l0 (l0.length : Int) 0) = some r := h
 clear h
 have H' := QA H
 clear H
 go_enter Tryz.func121, Tryz.ntmps121
 go_wp2
 go_loopg [3, 8] k (fun kq v3 v8 w' => ∃ (x3_1 : ByteArray) (x8_1 : Int), v3 = .string x3_1 ∧ v8 = .int .i64 x8_1 ∧ Aside0 (Qbk.l0 kq x3_1 l0 (l0.length : Int) x8_1 = some r) ∧ Aside0 (kq ≤ k) ∧ Aside0 (Below w.heap.size w w'))
 case atStart => exact ⟨((⟨#[]⟩ : ByteArray)), (0), qq_5, qq_5, H', ⟨Nat.le_refl _⟩, ⟨qq_b⟩⟩
 case round =>
  clear H'
  obtain ⟨x3_1, x8_1, rfl, rfl, HA, HK1, HB⟩ := hrel
  cases gk with
  | zero => exact absurd HA.out (by simp [Qbk.l0])
  | succ k1 =>
   have H := HA.out
   clear HA
   simp only [Qbk.l0] at H
   by_cases c2 : x8_1 < (l0.length : Int)
   ·rw [if_pos c2] at H
    have c2b0 : decide (x8_1 < (l0.length : Int)) = true := decide_eq_true c2
    clear c2
    by_cases c3 : 0 ≤ x8_1
    ·rw [if_pos c3] at H
     have c3b0 : decide (0 ≤ x8_1) = true := decide_eq_true c3
     clear c3
     by_cases c4 : x8_1 < (l0.length : Int)
     ·rw [if_pos c4] at H
      have c4b0 : decide (x8_1 < (l0.length : Int)) = true := decide_eq_true c4
      clear c4
      replace H := Option.bind_eq_some_iff.mp H
      obtain ⟨t465, A50, H⟩ := H
      replace H : (if x3_1.size + t465.size ≤ 9223372036854775807 then ((Qaq.f k1 (IntKind.u64.wrap ((Qgq l0 x8_1).f1)) 4).bind fun t466 => (if (x3_1 ++ t465).size + t466.size ≤ 9223372036854775807 then (Qbk.l0 k1 ((x3_1 ++ t465) ++ t466) l0 (l0.length : Int) (wrap64 (x8_1 + 1))) else (none))) else (none)) = some r := H
      have A5 := QA A50
      clear A50
      by_cases c6 : x3_1.size + t465.size ≤ 9223372036854775807
      ·rw [if_pos c6] at H
       have c6b0 := eq_true c6
       have c6b1 : decide (x3_1.size + t465.size ≤ 9223372036854775807) = true := decide_eq_true c6
       try have c6b2 : (9223372036854775807 < x3_1.size + t465.size) = False := eq_false (Nat.not_lt.2 c6)
       replace H := Option.bind_eq_some_iff.mp H
       obtain ⟨t466, A70, H⟩ := H
       replace H : (if (x3_1 ++ t465).size + t466.size ≤ 9223372036854775807 then (Qbk.l0 k1 ((x3_1 ++ t465) ++ t466) l0 (l0.length : Int) (wrap64 (x8_1 + 1))) else (none)) = some r := H
       have A7 := QA A70
       clear A70
       by_cases c8 : (x3_1 ++ t465).size + t466.size ≤ 9223372036854775807
       ·rw [if_pos c8] at H
        have c8b0 := eq_true c8
        have c8b1 : decide ((x3_1 ++ t465).size + t466.size ≤ 9223372036854775807) = true := decide_eq_true c8
        try have c8b2 : (9223372036854775807 < (x3_1 ++ t465).size + t466.size) = False := eq_false (Nat.not_lt.2 c8)
        try have c8b3 := c8b2
        try simp only [ByteArray.size_append, (show ∀ x_ : UInt8, (⟨#[x_]⟩ : ByteArray).size = 1 from fun _ => rfl), (show ∀ x_ y_ : UInt8, (⟨#[x_, y_]⟩ : ByteArray).size = 2 from fun _ _ => rfl)] at c8b3
        try have c8b4 := c8b2
        try simp only [ByteArray.size_append, ByteArray.size_extract, (show ∀ x_ : UInt8, (⟨#[x_]⟩ : ByteArray).size = 1 from fun _ => rfl), (show ∀ x_ y_ : UInt8, (⟨#[x_, y_]⟩ : ByteArray).size = 2 from fun _ _ => rfl)] at c8b4
        have H' := QA H
        clear H
        have p463 : 0 ≤ (x8_1 : Int) := of_decide_eq_true qq_7
        have q463 : x8_1 < (l0.length : Int) := of_decide_eq_true qq_7
        obtain ⟨ad463, e463, hx463_0, hx463_1⟩ := Qgr HR0.out x8_1 p463 q463
        cases e463
        replace hx463_0 := qq_h HB.out hx463_0
        replace hx463_1 := qq_h HB.out hx463_1
        replace p463 := eq_true p463
        replace q463 := eq_true q463
        try go_wp2_with (first | ((with_reducible refine Qef (N := 5) rfl ?_); refine qq_e 5 #[.int .u64 0, .int .u32 0] 122 ?_; intro gb464 hg w9 hbox hb; have n0_ := QA (Qea qq_b hb); have n1_ := QA (hbox); have n2_ := QA ((qq_s hg : w.heap.size ≤ gb464)); have n3_ := QA ((qq_s hg : w.heap.size ≤ gb464)); clear HB; have HB := n0_; have BK464 := n1_; have GW464 := n2_; have GE464 := n3_; clear n0_ n1_ n2_ n3_; clear hb hbox hg; have hcz10_0 := qq_c (.int .u64 0) BK464.out 0 rfl; have hcz10_1 := qq_c (.int .u32 0) BK464.out 1 rfl; have hfz10_0 := Qdk BK464.out 0; have hfz10_1 := Qdk BK464.out 1))
        have n0_ : Aside0 (((w9.setCell ⟨gb464, 0, none⟩ (.int .u64 ((Qgq l0 x8_1).f0))).setCell ⟨gb464, 1, none⟩ (.int .u32 ((Qgq l0 x8_1).f1))).heap[gb464]? = some (.cells #[.int .u64 ((Qgq l0 x8_1).f0), .int .u32 ((Qgq l0 x8_1).f1)] 122 (0, 0))) := ⟨by (with_reducible repeat (first | apply Qds | apply Qdr | apply Qdq)); refine Qed (cs := #[.int .u64 ((Qgq l0 x8_1).f0), .int .u32 0]) ?_ 1 _ rfl; (with_reducible repeat (first | apply Qds | apply Qdr | apply Qdq)); refine Qed (cs := #[.int .u64 0, .int .u32 0]) ?_ 0 _ rfl; (with_reducible repeat (first | apply Qds | apply Qdr | apply Qdq)); exact BK464.out⟩
        have n1_ : Aside0 (Below w.heap.size w ((w9.setCell ⟨gb464, 0, none⟩ (.int .u64 ((Qgq l0 x8_1).f0))).setCell ⟨gb464, 1, none⟩ (.int .u32 ((Qgq l0 x8_1).f1)))) := ⟨qq_b⟩
        (try clear BK464)
        (try clear HB)
        generalize ((w9.setCell ⟨gb464, 0, none⟩ (.int .u64 ((Qgq l0 x8_1).f0))).setCell ⟨gb464, 1, none⟩ (.int .u32 ((Qgq l0 x8_1).f1))) = w11 at n0_ n1_ ⊢
        have BK464 := n0_
        have HB := n1_
        clear n0_ n1_
        have n0_ := QA (Qdr BK464.out)
        have n1_ := QA (Qee HB.out)
        clear BK464
        clear HB
        have BK464 := n0_
        have HB := n1_
        clear n0_ n1_
        refine Qen (n := 11) (S := fun w' => w'.cell? ⟨gb464, 0, none⟩ = some (.int .u64 ((Qgq l0 x8_1).f0)) ∧ w'.cell? ⟨gb464, 1, none⟩ = some (.int .u32 ((Qgq l0 x8_1).f1))) (ds := []) #[false, false, false, false, false, false, false, false, false, false, false] qq_6 rfl rfl ⟨(Qdj BK464.out 0).trans rfl, (Qdj BK464.out 1).trans rfl⟩ (fun hHeld => ?_); refine Qfn Qbk.tab5 Qbk.bits5 (fun HT_ HW_ => ?_)
        generalize w11.drew = w12 at BK464 HB hHeld ⊢
        refine Qeo (i := 0) (N := some 12) (v := ?_) (a' := ?_) #[true, false, false, false, false, false, false, false, false, false, false] rfl rfl (Qfh HT_.out qq_6) (fun _ _ _ h => h) (Or.inl ⟨by rfl, ?_⟩) ?_ ?_
        rotate_left
        ·intro w'
         go_simp
         with_reducible rfl
        rotate_left
        ·exact qq_2
        refine Qeo (i := 1) (N := some 13) (v := ?_) (a' := ?_) #[true, true, false, false, false, false, false, false, false, false, false] rfl rfl (Qfh HT_.out qq_6) (fun _ _ _ h => h) (Or.inl ⟨by rfl, ?_⟩) ?_ ?_
        rotate_left
        ·intro w'
         go_simp
         with_reducible rfl
        rotate_left
        ·exact qq_2
        refine Qeo (i := 5) (N := some 17) (v := ?_) (a' := ?_) #[true, true, false, false, false, true, false, false, false, false, false] rfl rfl (Qfh HT_.out qq_6) (fun _ _ _ h => h) (Or.inl ⟨by rfl, ?_⟩) ?_ ?_
        rotate_left
        ·intro w'
         go_simp
         with_reducible rfl
        rotate_left
        ·exact qq_2
        refine take_ (i := 2) (N := some 14) (v := ?_) (a' := ?_) #[true, true, true, false, false, true, false, false, false, false, false] rfl rfl (Qfm HT_.out HW_.out qq_6) (fun _ _ _ h => h) (Or.inl ⟨by rfl, ?_⟩) hHeld ?_ ?_
        rotate_left
        ·rintro w' ⟨s0, s1⟩
         go_simp
         with_reducible rfl
        rotate_left
        ·exact qq_2
        refine take_ (i := 6) (N := some 18) (v := ?_) (a' := ?_) #[true, true, true, false, false, true, true, false, false, false, false] rfl rfl (Qfm HT_.out HW_.out qq_6) (fun _ _ _ h => h) (Or.inl ⟨by rfl, ?_⟩) hHeld ?_ ?_
        rotate_left
        ·rintro w' ⟨s0, s1⟩
         go_simp
         with_reducible rfl
        rotate_left
        ·exact qq_2
        refine Qeo (i := 7) (N := some 19) (v := ?_) (a' := ?_) #[true, true, true, false, false, true, true, true, false, false, false] rfl rfl (Qfh HT_.out qq_6) (fun _ _ _ h => h) (Or.inl ⟨by rfl, ?_⟩) ?_ ?_
        rotate_left
        ·intro w'
         go_simp
         with_reducible rfl
        rotate_left
        ·exact qq_2
        refine one_ (i := 3) (N := some 15) #[true, true, true, true, false, true, true, true, false, false, false] rfl rfl (Qfi HT_.out qq_6) (by decide) (fun K hK => ?_)
        refine Qet Tryz.func103 qq_6 rfl #[.int .u64 ((Qgq l0 x8_1).f0), .int .i64 8] (by rfl) rfl rfl qq_1 ?_
        with_reducible refine (Qaq.calls k1 ((Qgq l0 x8_1).f0) 8 t465 _ A5.out).mono ?_
        rintro e w13 ⟨rfl, hb⟩
        refine ⟨_, rfl, ?_⟩
        have n0_ := QA (Qdt (g := gb464) (o := .cells #[.int .u64 ((Qgq l0 x8_1).f0), .int .u32 ((Qgq l0 x8_1).f1)] 122 (0, 0)) qq_0 hb)
        have n1_ := QA (Qea qq_b hb)
        clear BK464
        clear HB
        have BK464 := n0_
        have HB := n1_
        clear n0_ n1_
        (try clear hb)
        (try clear hb2)
        (try clear hk)
        (try clear hi)
        refine hK.out _ _ ⟨(Qdj BK464.out 0).trans rfl, (Qdj BK464.out 1).trans rfl⟩ (fun hHeld => ?_)
        clear hK K
        refine Qes (a' := ?_) ?_ ?_
        rotate_left
        ·show Act.put _ (some 15) _ = _
         simp only [Act.put, List.setIfInBounds_toArray, List.set_cons_zero, List.set_cons_succ, Qew, Qex]
         rfl
        refine Qeo (i := 4) (N := some 16) (v := ?_) (a' := ?_) #[true, true, true, true, true, true, true, true, false, false, false] rfl rfl (Qfh HT_.out qq_6) (fun _ _ _ h => h) (Or.inl ⟨by rfl, ?_⟩) ?_ ?_
        rotate_left
        ·intro w'
         go_simp
         with_reducible rfl
        rotate_left
        ·exact qq_2
        refine one_ (i := 8) (N := some 20) #[true, true, true, true, true, true, true, true, true, false, false] rfl rfl (Qfi HT_.out qq_6) (by decide) (fun K hK => ?_)
        refine Qet Tryz.func103 qq_6 rfl #[.int .u64 (IntKind.u64.wrap ((Qgq l0 x8_1).f1)), .int .i64 4] (by rfl) rfl rfl qq_1 ?_
        with_reducible refine (Qaq.calls k1 (IntKind.u64.wrap ((Qgq l0 x8_1).f1)) 4 t466 _ A7.out).mono ?_
        rintro e w14 ⟨rfl, hb⟩
        refine ⟨_, rfl, ?_⟩
        have n0_ := QA (Qdt (g := gb464) (o := .cells #[.int .u64 ((Qgq l0 x8_1).f0), .int .u32 ((Qgq l0 x8_1).f1)] 122 (0, 0)) qq_0 hb)
        have n1_ := QA (Qea qq_b hb)
        clear BK464
        clear HB
        have BK464 := n0_
        have HB := n1_
        clear n0_ n1_
        (try clear hb)
        (try clear hb2)
        (try clear hk)
        (try clear hi)
        refine hK.out _ _ ⟨(Qdj BK464.out 0).trans rfl, (Qdj BK464.out 1).trans rfl⟩ (fun hHeld => ?_)
        clear hK K
        refine Qes (a' := ?_) ?_ ?_
        rotate_left
        ·show Act.put _ (some 20) _ = _
         simp only [Act.put, List.setIfInBounds_toArray, List.set_cons_zero, List.set_cons_succ, Qew, Qex]
         rfl
        refine Qeo (i := 9) (N := some 21) (v := ?_) (a' := ?_) #[true, true, true, true, true, true, true, true, true, true, false] rfl rfl (Qfh HT_.out qq_6) (fun _ _ _ h => h) (Or.inl ⟨by rfl, ?_⟩) ?_ ?_
        rotate_left
        ·intro w'
         go_simp
         with_reducible rfl
        rotate_left
        ·exact qq_2
        refine Qeo (i := 10) (N := some 3) (v := ?_) (a' := ?_) #[true, true, true, true, true, true, true, true, true, true, true] rfl rfl (Qfh HT_.out qq_6) (fun _ _ _ h => h) (Or.inl ⟨by rfl, ?_⟩) ?_ ?_
        rotate_left
        ·intro w'
         go_simp
         with_reducible rfl
        rotate_left
        ·exact qq_2
        refine Qep (Qfk HT_.out qq_6) ?_
        try go_wp2
        go_roundg k1
        case measure => have := HK1.out; omega
        case rel => exact ⟨((x3_1 ++ t465) ++ t466), (wrap64 (x8_1 + 1)), qq_5, qq_5, H', ⟨by have := HK1.out; omega⟩, ⟨qq_b⟩⟩
       ·rw [if_neg c8] at H
        exact absurd H (by simp)
      ·rw [if_neg c6] at H
       exact absurd H (by simp)
     ·rw [if_neg c4] at H
      exact absurd H (by simp)
    ·rw [if_neg c3] at H
     exact absurd H (by simp)
   ·rw [if_neg c2] at H
    have c2b0 : decide (x8_1 < (l0.length : Int)) = false := decide_eq_false c2
    clear c2
    obtain rfl := Option.some.inj H
    go_wp2
    go_ret
    exact ⟨by first | rfl | (simp [Qgi, Qgj] <;> rfl) | (simp [*, Qgi, Qgj] <;> rfl), qq_b⟩
def Qbm.l0 : Nat → List Int → List (S122) → Int → Int → Option (List Int)
 | 0, _, _, _, _ => none
 | k + 1, x3, x6, x7, x8 => if x8 < x7 then (if 0 ≤ x8 then (if x8 < (x6.length : Int) then (if (Int.tmod x8 16) = 0 then (if x3.length < 17592186044416 then (Qbm.l0 k (x3 ++ [(Qgq x6 x8).f0]) x6 x7 (wrap64 (x8 + 1))) else (none)) else (Qbm.l0 k x3 x6 x7 (wrap64 (x8 + 1)))) else (none)) else (none)) else (some x3)
def Qbm.f (k : Nat) (l0 : List (S122)) : Option (List Int) := Qbm.l0 k ([] : List Int) l0 (l0.length : Int) 0
theorem Qbm.calls (k : Nat) (A0 : Option Addr) (c0 : Nat) (l0 : List (S122)) (r : List Int) (w : World) (hr0 : Kd.C k122 w A0 l0.length l0) (hc0 : l0.length ≤ c0) (h : Qbm.f k l0 = some r) :
  Calls Tryz.prog 123 #[.slice A0 l0.length c0] w fun e w' => ∃ v0_ : Value, e = .returned (v0_) ∧ Kd.R (Kd.int .u64) 34 w' w.heap.size (fun _ => True) v0_ r ∧ Below w.heap.size w w' := by
 have hu122 := Tryz.underlying122
 have HR0 := QA hr0
 have HC0 := QA hc0
 clear hr0 hc0
 have HB := QA (Below.refl w.heap.size w)
 have H : (Qbm.l0 k ([] : List Int) l0 (l0.length : Int) 0) = some r := h
 clear h
 have H' := QA H
 clear H
 go_enter Tryz.func123, Tryz.ntmps123
 go_wp2
 go_loopg [3, 8] k (fun kq v3 v8 w' => ∃ (x3_1 : List Int) (x8_1 : Int), v8 = .int .i64 x8_1 ∧ Aside0 (Qbm.l0 kq x3_1 l0 (l0.length : Int) x8_1 = some r) ∧ Aside0 (kq ≤ k) ∧ Aside0 (Kd.R (Kd.int .u64) 34 w' w.heap.size (fun _ => True) v3 x3_1) ∧ Aside0 (Below w.heap.size w w'))
 case atStart => exact ⟨(([] : List Int)), (0), qq_5, H', ⟨Nat.le_refl _⟩, ⟨by first | exact Kd.R_nil _ _ _ _ _ | exact Kd.N_nil _ _ _ _ _ | exact Kd.V_nil _ _ _ _ _ | exact Kd.Q_nil _ _ _ _ _ | exact Kd.S_nil _ _ _ _ _⟩, ⟨qq_b⟩⟩
 case round =>
  clear H'
  obtain ⟨x3_1, x8_1, rfl, HA, HK1, HO_3, HB⟩ := hrel
  cases gk with
  | zero => exact absurd HA.out (by simp [Qbm.l0])
  | succ k1 =>
   have H := HA.out
   clear HA
   simp only [Qbm.l0] at H
   by_cases c2 : x8_1 < (l0.length : Int)
   ·rw [if_pos c2] at H
    have c2b0 : decide (x8_1 < (l0.length : Int)) = true := decide_eq_true c2
    clear c2
    by_cases c3 : 0 ≤ x8_1
    ·rw [if_pos c3] at H
     have c3b0 : decide (0 ≤ x8_1) = true := decide_eq_true c3
     clear c3
     by_cases c4 : x8_1 < (l0.length : Int)
     ·rw [if_pos c4] at H
      have c4b0 : decide (x8_1 < (l0.length : Int)) = true := decide_eq_true c4
      clear c4
      by_cases c5 : (Int.tmod x8_1 16) = 0
      ·rw [if_pos c5] at H
       have c5b0 : ((Int.tmod x8_1 16) == 0) = true := beq_iff_eq.mpr c5
       have c5b1 : ((Int.tmod x8_1 16) != 0) = false := bne_eq_false_iff_eq.mpr c5
       clear c5
       by_cases c6 : x3_1.length < 17592186044416
       ·rw [if_pos c6] at H
        have LMc6 := QA c6
        clear c6
        obtain ⟨y471, hy471⟩ : ∃ y_ : List Int, y_ = (x3_1 ++ [(Qgq l0 x8_1).f0]) := ⟨_, rfl⟩
        replace H : (Qbm.l0 k1 y471 l0 (l0.length : Int) (wrap64 (x8_1 + 1))) = some r := by first | (rw [hy471]; with_reducible exact H) | (have H2_ := (Option.bind_some _ _).symm.trans H; rw [hy471]; with_reducible exact H2_) | (have H2_ := (Option.bind_some _ _).symm.trans H; with_reducible exact H2_) | with_reducible exact H | (rw [hy471]; exact H) | exact H
        have Ny471 := QA hy471
        clear hy471
        have H' := QA H
        clear H
        have p469 : 0 ≤ (x8_1 : Int) := of_decide_eq_true qq_7
        have q469 : x8_1 < (l0.length : Int) := of_decide_eq_true qq_7
        obtain ⟨ad469, e469, hx469_0, hx469_1⟩ := Qgr HR0.out x8_1 p469 q469
        cases e469
        replace hx469_0 := qq_h HB.out hx469_0
        replace hx469_1 := qq_h HB.out hx469_1
        replace p469 := eq_true p469
        replace q469 := eq_true q469
        go_wp2_with (first | ((with_reducible refine Qef (N := 5) rfl ?_); refine qq_e 5 #[.int .u64 0, .int .u32 0] 122 ?_; intro gb470 hg w7 hbox hb; have n0_ := QA (Kd.R_below qq_4 hb); have n1_ := QA (Qea qq_b hb); have n2_ := QA (hbox); have n3_ := QA ((qq_s hg : w.heap.size ≤ gb470)); have n4_ := QA ((qq_s hg : w.heap.size ≤ gb470)); clear HO_3; clear HB; have HO_3 := n0_; have HB := n1_; have BK470 := n2_; have GW470 := n3_; have GE470 := n4_; clear n0_ n1_ n2_ n3_ n4_; clear hb hbox hg; have hcz8_0 := qq_c (.int .u64 0) BK470.out 0 rfl; have hcz8_1 := qq_c (.int .u32 0) BK470.out 1 rfl; have hfz8_0 := Qdk BK470.out 0; have hfz8_1 := Qdk BK470.out 1) | ((with_reducible refine Qgg (b := .append) (xs := #[.tmp 16, .tmp 19]) rfl ?_); at_builtin; refine Kd.R_append (Kd.int .u64) (w0 := w) w.heap.size rfl (.tmp 16) (.tmp 19) 70 34 (.int .u64 0) 8 rfl Tryz.underlying70 info34 rfl (by decide) (by omega) u3 x3_1 ((Qgq l0 x8_1).f0) [.int .u64 ((Qgq l0 x8_1).f0)] (fun _ => True) (fun _ => False) rfl qq_12 ?aP (fun _ hk => hk.elim) ?aF ?aO ?aB ?aS ?aL ?_; (case aP => exact rfl); (case aB => exact qq_b); (case aF => exact (fun _ _ => trivial)); (case aO => exact (by (with_reducible repeat (first | apply Kd.R_alloc | apply Kd.R_drewN | apply Kd.R_drew)); exact Kd.R_mono (Kd.R_far (p := ⟨gb470, 1, none⟩) (Kd.R_far (p := ⟨gb470, 0, none⟩) (Kd.R_types HO_3.out BK470.out (by decide)) (fun _ hk => hk.2) (.int .u64 ((Qgq l0 x8_1).f0))) (fun _ hk => hk.2) (.int .u32 ((Qgq l0 x8_1).f1))) (fun _ hk => trivial))); (case aS => exact (Qdz qq_b)); (case aL => have := LMc6.out; omega); intro v472 w9 ho hb hg hat; rw [← Ny471.out] at ho; have n0_ := QA (Qdl (g := gb470) (o := .cells #[.int .u64 ((Qgq l0 x8_1).f0), .int .u32 ((Qgq l0 x8_1).f1)] 122 (0, 0)) (by (with_reducible repeat (first | apply Qds | apply Qdr | apply Qdq)); refine Qed (cs := #[.int .u64 ((Qgq l0 x8_1).f0), .int .u32 0]) ?_ 1 _ rfl; (with_reducible repeat (first | apply Qds | apply Qdr | apply Qdq)); refine Qed (cs := #[.int .u64 0, .int .u32 0]) ?_ 0 _ rfl; (with_reducible repeat (first | apply Qds | apply Qdr | apply Qdq)); exact BK470.out) hg (Kd.R_ne HO_3.out BK470.out (by decide))); have n1_ := QA (hb); have n2_ := QA (ho); clear BK470; clear HB; clear HO_3; have BK470 := n0_; have HB := n1_; have HO473 := n2_; clear n0_ n1_ n2_; clear ho hb hg hat))
        go_roundg k1
        case measure => have := HK1.out; omega
        case rel => exact ⟨(y471), (wrap64 (x8_1 + 1)), qq_5, H', ⟨by have := HK1.out; omega⟩, ⟨by (with_reducible repeat (first | apply Kd.R_alloc | apply Kd.R_drewN | apply Kd.R_drew)); exact HO473.out⟩, ⟨qq_b⟩⟩
       ·rw [if_neg c6] at H
        exact absurd H (by simp)
      ·rw [if_neg c5] at H
       have c5b0 : ((Int.tmod x8_1 16) == 0) = false := beq_eq_false_iff_ne.mpr c5
       have c5b1 : ((Int.tmod x8_1 16) != 0) = true := bne_iff_ne.mpr c5
       have H' := QA H
       clear H
       have p469 : 0 ≤ (x8_1 : Int) := of_decide_eq_true qq_7
       have q469 : x8_1 < (l0.length : Int) := of_decide_eq_true qq_7
       obtain ⟨ad469, e469, hx469_0, hx469_1⟩ := Qgr HR0.out x8_1 p469 q469
       cases e469
       replace hx469_0 := qq_h HB.out hx469_0
       replace hx469_1 := qq_h HB.out hx469_1
       replace p469 := eq_true p469
       replace q469 := eq_true q469
       go_wp2_with (first | ((with_reducible refine Qef (N := 5) rfl ?_); refine qq_e 5 #[.int .u64 0, .int .u32 0] 122 ?_; intro gb470 hg w10 hbox hb; have n0_ := QA (Kd.R_below qq_4 hb); have n1_ := QA (Qea qq_b hb); have n2_ := QA (hbox); have n3_ := QA ((qq_s hg : w.heap.size ≤ gb470)); have n4_ := QA ((qq_s hg : w.heap.size ≤ gb470)); clear HO_3; clear HB; have HO_3 := n0_; have HB := n1_; have BK470 := n2_; have GW470 := n3_; have GE470 := n4_; clear n0_ n1_ n2_ n3_ n4_; clear hb hbox hg; have hcz11_0 := qq_c (.int .u64 0) BK470.out 0 rfl; have hcz11_1 := qq_c (.int .u32 0) BK470.out 1 rfl; have hfz11_0 := Qdk BK470.out 0; have hfz11_1 := Qdk BK470.out 1))
       go_roundg k1
       case measure => have := HK1.out; omega
       case rel => exact ⟨(x3_1), (wrap64 (x8_1 + 1)), qq_5, H', ⟨by have := HK1.out; omega⟩, ⟨by (with_reducible repeat (first | apply Kd.R_alloc | apply Kd.R_drewN | apply Kd.R_drew)); exact Kd.R_mono (Kd.R_far (p := ⟨gb470, 1, none⟩) (Kd.R_far (p := ⟨gb470, 0, none⟩) (Kd.R_types HO_3.out BK470.out (by decide)) (fun _ hk => hk.2) (.int .u64 ((Qgq l0 x8_1).f0))) (fun _ hk => hk.2) (.int .u32 ((Qgq l0 x8_1).f1))) (fun _ hk => trivial)⟩, ⟨qq_b⟩⟩
     ·rw [if_neg c4] at H
      exact absurd H (by simp)
    ·rw [if_neg c3] at H
     exact absurd H (by simp)
   ·rw [if_neg c2] at H
    have c2b0 : decide (x8_1 < (l0.length : Int)) = false := decide_eq_false c2
    clear c2
    obtain rfl := Option.some.inj H
    go_wp2
    go_ret
    exact ⟨_, by first | rfl | (simp [Qgi, Qgj] <;> rfl) | (simp [*, Qgi, Qgj] <;> rfl), by (with_reducible repeat (first | apply Kd.R_alloc | apply Kd.R_drewN | apply Kd.R_drew)); exact HO_3.out, qq_b⟩
def Qbn.l0 : Nat → ByteArray → List Int → Int → Int → Option (ByteArray)
 | 0, _, _, _, _ => none
 | k + 1, x3, x6, x7, x8 => if x8 < x7 then (if 0 ≤ x8 then (if x8 < (x6.length : Int) then ((Qaq.f k (rd x6 x8) 8).bind fun t468 => (if x3.size + t468.size ≤ 9223372036854775807 then (Qbn.l0 k (x3 ++ t468) x6 x7 (wrap64 (x8 + 1))) else (none))) else (none)) else (none)) else (some x3)
def Qbn.f (k : Nat) (l0 : List Int) : Option (ByteArray) := Qbn.l0 k (⟨#[]⟩ : ByteArray) l0 (l0.length : Int) 0
theorem Qbn.calls (k : Nat) (A0 : Option Addr) (c0 : Nat) (l0 : List Int) (r : ByteArray) (w : World) (hr0 : Kd.C (Kd.int .u64) w A0 l0.length l0) (hc0 : l0.length ≤ c0) (h : Qbn.f k l0 = some r) :
  Calls Tryz.prog 122 #[.slice A0 l0.length c0] w fun e w' => e = .returned (.string r) ∧ Below w.heap.size w w' := by
 have HR0 := QA hr0
 have HC0 := QA hc0
 clear hr0 hc0
 have HB := QA (Below.refl w.heap.size w)
 have H : (Qbn.l0 k (⟨#[]⟩ : ByteArray) l0 (l0.length : Int) 0) = some r := h
 clear h
 have H' := QA H
 clear H
 go_enter Tryz.func122, Tryz.ntmps122
 go_wp2
 go_loopg [3, 8] k (fun kq v3 v8 w' => ∃ (x3_1 : ByteArray) (x8_1 : Int), v3 = .string x3_1 ∧ v8 = .int .i64 x8_1 ∧ Aside0 (Qbn.l0 kq x3_1 l0 (l0.length : Int) x8_1 = some r) ∧ Aside0 (kq ≤ k) ∧ Aside0 (Below w.heap.size w w'))
 case atStart => exact ⟨((⟨#[]⟩ : ByteArray)), (0), qq_5, qq_5, H', ⟨Nat.le_refl _⟩, ⟨qq_b⟩⟩
 case round =>
  clear H'
  obtain ⟨x3_1, x8_1, rfl, rfl, HA, HK1, HB⟩ := hrel
  cases gk with
  | zero => exact absurd HA.out (by simp [Qbn.l0])
  | succ k1 =>
   have H := HA.out
   clear HA
   simp only [Qbn.l0] at H
   by_cases c2 : x8_1 < (l0.length : Int)
   ·rw [if_pos c2] at H
    have c2b0 : decide (x8_1 < (l0.length : Int)) = true := decide_eq_true c2
    clear c2
    by_cases c3 : 0 ≤ x8_1
    ·rw [if_pos c3] at H
     have c3b0 : decide (0 ≤ x8_1) = true := decide_eq_true c3
     clear c3
     by_cases c4 : x8_1 < (l0.length : Int)
     ·rw [if_pos c4] at H
      have c4b0 : decide (x8_1 < (l0.length : Int)) = true := decide_eq_true c4
      clear c4
      replace H := Option.bind_eq_some_iff.mp H
      obtain ⟨t468, A50, H⟩ := H
      replace H : (if x3_1.size + t468.size ≤ 9223372036854775807 then (Qbn.l0 k1 (x3_1 ++ t468) l0 (l0.length : Int) (wrap64 (x8_1 + 1))) else (none)) = some r := H
      have A5 := QA A50
      clear A50
      by_cases c6 : x3_1.size + t468.size ≤ 9223372036854775807
      ·rw [if_pos c6] at H
       have c6b0 := eq_true c6
       have c6b1 : decide (x3_1.size + t468.size ≤ 9223372036854775807) = true := decide_eq_true c6
       try have c6b2 : (9223372036854775807 < x3_1.size + t468.size) = False := eq_false (Nat.not_lt.2 c6)
       have H' := QA H
       clear H
       have p467 : 0 ≤ (x8_1 : Int) := of_decide_eq_true qq_7
       have q467 : x8_1 < (l0.length : Int) := of_decide_eq_true qq_7
       obtain ⟨ad467, e467, hx467_0⟩ := Kd.at_int HR0.out x8_1 p467 q467
       cases e467
       replace hx467_0 := qq_h HB.out hx467_0
       replace p467 := eq_true p467
       replace q467 := eq_true q467
       go_wp2_with (first | ((with_reducible refine Qgf (f := 103) rfl ?_); refine Qeu (some 14) rfl rfl Tryz.func103 qq_6 rfl #[.int .u64 (rd l0 x8_1), .int .i64 8] rfl qq_1 ?_; (with_reducible refine (Qaq.calls k1 (rd l0 x8_1) 8 t468 _ A5.out).mono ?_); rintro e w7 ⟨rfl, hb⟩; refine ⟨_, rfl, ?_⟩; have n0_ := QA (Qea qq_b hb); clear HB; have HB := n0_; clear n0_; (try clear hb); (try clear hb2); (try clear hk); (try clear hi)))
       go_roundg k1
       case measure => have := HK1.out; omega
       case rel => exact ⟨(x3_1 ++ t468), (wrap64 (x8_1 + 1)), qq_5, qq_5, H', ⟨by have := HK1.out; omega⟩, ⟨qq_b⟩⟩
      ·rw [if_neg c6] at H
       exact absurd H (by simp)
     ·rw [if_neg c4] at H
      exact absurd H (by simp)
    ·rw [if_neg c3] at H
     exact absurd H (by simp)
   ·rw [if_neg c2] at H
    have c2b0 : decide (x8_1 < (l0.length : Int)) = false := decide_eq_false c2
    clear c2
    obtain rfl := Option.some.inj H
    go_wp2
    go_ret
    exact ⟨by first | rfl | (simp [Qgi, Qgj] <;> rfl) | (simp [*, Qgi, Qgj] <;> rfl), qq_b⟩
end Go.Proofs.YtnnofopfbeklbaaGreat.C
end
