/- Texts of this claim's author and of the print of its functions, merged by merge.py. -/
import Derived.Test.YtnnofopfbeklbaaGreatMD03
import Derived.Test.YtnnofopfbeklbaaGreatMD05
import Derived.Test.YtnnofopfbeklbaaGreatMD09
import Derived.Test.YtnnofopfbeklbaaGreatMD10
import Derived.Test.YtnnofopfbeklbaaGreatMD11
import Derived.Test.YtnnofopfbeklbaaGreatMD07
import Derived.Test.YtnnofopfbeklbaaGreatMD08
set_option linter.unusedVariables false
set_option linter.unusedSimpArgs false
set_option maxHeartbeats 8000000
set_option maxRecDepth 100000
section
namespace Go.Proofs.YtnnofopfbeklbaaGreat.C
open Go.RowKit Go.Proofs.YtnnofopfbeklbaaGreatW.PrintWords Go.Proofs.YtnnofopfbeklbaaGreatW.PrintLast Go.Proofs.YtnnofopfbeklbaaGreatW.PrintMore
attribute [local go_sem] Qgh Qgi Qgj Qgk Qgl Qgm Qgn Qgo
def Qbw.l0 : Nat → ByteArray → List (S122) → List (S39) → Int → Int → Option (ByteArray × (List (S122)))
 | 0, _, _, _, _, _ => none
 | k + 1, x8, x9, x15, x16, x17 => if x17 < x16 then (if 0 ≤ x17 then (if x17 < (x15.length : Int) then ((Qav.f k 0 ((Qgy x15 x17).f2)).bind fun t455 => (if x9.length < 8796093022208 then ((Qbh.f k ((Qgy x15 x17).f0) ((Qgy x15 x17).f1) ((Qgy x15 x17).f2) ((Qgy x15 x17).f3)).bind fun t459 => (if x8.size + t459.size ≤ 9223372036854775807 then (Qbw.l0 k (x8 ++ t459) (x9 ++ [(⟨t455, ((x8.size : Int)) % 4294967296⟩ : S122)]) x15 x16 (wrap64 (x17 + 1))) else (none))) else (none))) else (none)) else (none)) else ((Qbk.f k x9).bind fun t460 => (some (x8, t460)))
def Qbw.f (k : Nat) (a0_0 : Int) (a0_1 : Int) (a1 : Int) (l2 : List (S39)) : Option (ByteArray × (List (S122))) := (Qbg.f k a0_0 a0_1 a1).bind fun t452 => (Qbw.l0 k t452 ([] : List (S122)) l2 (l2.length : Int) 0)
theorem Qbw.calls (k : Nat) (a0_0 : Int) (a0_1 : Int) (a1 : Int) (A2 : Option Addr) (c2 : Nat) (l2 : List (S39)) (r1 : ByteArray) (r2 : List (S122)) (w : World) (hr2 : Kd.C k39 w A2 l2.length l2) (hc2 : l2.length ≤ c2) (h : Qbw.f k a0_0 a0_1 a1 l2 = some (r1, r2)) :
  Calls Tryz.prog 27 #[.agg #[.int .u8 a0_0, .int .u32 a0_1], .int .u64 a1, .slice A2 l2.length c2] w fun e w' => ∃ v1_ : Value, e = .returned (.tuple #[.string r1, v1_]) ∧ Kd.R k122 122 w' w.heap.size (fun _ => True) v1_ r2 ∧ Below w.heap.size w w' := by
 have hu27 := Tryz.underlying27
 have hu39 := Tryz.underlying39
 have hu122 := Tryz.underlying122
 have HR2 := QA hr2
 have HC2 := QA hc2
 clear hr2 hc2
 have HB := QA (Below.refl w.heap.size w)
 have H : ((Qbg.f k a0_0 a0_1 a1).bind fun t452 => (Qbw.l0 k t452 ([] : List (S122)) l2 (l2.length : Int) 0)) = some (r1, r2) := h
 clear h
 replace H := Option.bind_eq_some_iff.mp H
 obtain ⟨t452, A40, H⟩ := H
 replace H : (Qbw.l0 k t452 ([] : List (S122)) l2 (l2.length : Int) 0) = some (r1, r2) := H
 have A4 := QA A40
 clear A40
 have H' := QA H
 clear H
 go_enter Tryz.func27, Tryz.ntmps27
 go_wp2_with (first | ((with_reducible refine Qer (N := 3) rfl ?_); refine qq_e 3 #[.int .u8 a0_0, .int .u32 a0_1] 27 ?_; intro gb451 hg w5 hbox hb; have n0_ := QA (Qem qq_b hb); have n1_ := QA (hbox); have n2_ := QA ((qq_s hg : w.heap.size ≤ gb451)); have n3_ := QA ((qq_s hg : w.heap.size ≤ gb451)); clear HB; have HB := n0_; have BK451 := n1_; have GW451 := n2_; have GE451 := n3_; clear n0_ n1_ n2_ n3_; clear hb hbox hg; have hcz6_0 := qq_c (.int .u8 a0_0) BK451.out 0 rfl; have hcz6_1 := qq_c (.int .u32 a0_1) BK451.out 1 rfl; have hfz6_0 := Qdt BK451.out 0; have hfz6_1 := Qdt BK451.out 1) | ((with_reducible refine Qgp (f := 55) rfl ?_); refine Qfg (some 14) rfl rfl Tryz.func55 qq_7 rfl #[.agg #[.int .u8 a0_0, .int .u32 a0_1], .int .u64 a1] rfl qq_1 ?_; (with_reducible refine (Qbg.calls k a0_0 a0_1 a1 t452 _ A4.out).mono ?_); rintro e w7 ⟨rfl, hb⟩; refine ⟨_, rfl, ?_⟩; have n0_ := QA (Qeb (g := gb451) (o := .cells #[.int .u8 a0_0, .int .u32 a0_1] 27 (0, 0)) qq_0 hb); have n1_ := QA (Qem qq_b hb); clear BK451; clear HB; have BK451 := n0_; have HB := n1_; clear n0_ n1_; (try clear hb); (try clear hb2); (try clear hk); (try clear hi)))
 go_loopg [8, 9, 17] k (fun kq v8 v9 v17 w' => ∃ (x8_1 : ByteArray) (x9_1 : List (S122)) (x17_1 : Int), v8 = .string x8_1 ∧ v17 = .int .i64 x17_1 ∧ Aside0 (Qbw.l0 kq x8_1 x9_1 l2 (l2.length : Int) x17_1 = some (r1, r2)) ∧ Aside0 (kq ≤ k) ∧ Aside0 (Kd.R k122 122 w' w.heap.size (fun _ => True) v9 x9_1) ∧ Aside0 (w'.heap[gb451]? = some (.cells #[.int .u8 a0_0, .int .u32 a0_1] 27 (0, 0))) ∧ Aside0 (Below w.heap.size w w'))
 case atStart => exact ⟨(t452), (([] : List (S122))), (0), qq_6, qq_6, H', ⟨Nat.le_refl _⟩, ⟨by first | exact Kd.R_nil _ _ _ _ _ | exact Kd.N_nil _ _ _ _ _ | exact Kd.V_nil _ _ _ _ _ | exact Kd.Q_nil _ _ _ _ _ | exact Kd.S_nil _ _ _ _ _⟩, ⟨by (with_reducible repeat (first | apply Qea | apply Qdz | apply Qdy)); exact BK451.out⟩, ⟨qq_b⟩⟩
 case round =>
  clear H'
  try clear c2
  try clear hcz6_0
  try clear hcz6_1
  try clear hfz6_0
  try clear hfz6_1
  obtain ⟨x8_1, x9_1, x17_1, rfl, rfl, HA, HK1, HO_9, BK451, HB⟩ := hrel
  cases gk with
  | zero => exact absurd HA.out (by simp [Qbw.l0])
  | succ k1 =>
   have H := HA.out
   clear HA
   simp only [Qbw.l0] at H
   by_cases c8 : x17_1 < (l2.length : Int)
   ·rw [if_pos c8] at H
    have c8b0 : decide (x17_1 < (l2.length : Int)) = true := decide_eq_true c8
    clear c8
    by_cases c9 : 0 ≤ x17_1
    ·rw [if_pos c9] at H
     have c9b0 : decide (0 ≤ x17_1) = true := decide_eq_true c9
     clear c9
     by_cases c10 : x17_1 < (l2.length : Int)
     ·rw [if_pos c10] at H
      have c10b0 : decide (x17_1 < (l2.length : Int)) = true := decide_eq_true c10
      clear c10
      replace H := Option.bind_eq_some_iff.mp H
      obtain ⟨t455, A110, H⟩ := H
      replace H : (if x9_1.length < 8796093022208 then ((Qbh.f k1 ((Qgy l2 x17_1).f0) ((Qgy l2 x17_1).f1) ((Qgy l2 x17_1).f2) ((Qgy l2 x17_1).f3)).bind fun t459 => (if x8_1.size + t459.size ≤ 9223372036854775807 then (Qbw.l0 k1 (x8_1 ++ t459) (x9_1 ++ [(⟨t455, ((x8_1.size : Int)) % 4294967296⟩ : S122)]) l2 (l2.length : Int) (wrap64 (x17_1 + 1))) else (none))) else (none)) = some (r1, r2) := H
      have A11 := QA A110
      clear A110
      by_cases c12 : x9_1.length < 8796093022208
      ·rw [if_pos c12] at H
       have LMc12 := QA c12
       clear c12
       obtain ⟨y456, hy456⟩ : ∃ y_ : List (S122), y_ = (x9_1 ++ [(⟨t455, ((x8_1.size : Int)) % 4294967296⟩ : S122)]) := ⟨_, rfl⟩
       replace H : ((Qbh.f k1 ((Qgy l2 x17_1).f0) ((Qgy l2 x17_1).f1) ((Qgy l2 x17_1).f2) ((Qgy l2 x17_1).f3)).bind fun t459 => (if x8_1.size + t459.size ≤ 9223372036854775807 then (Qbw.l0 k1 (x8_1 ++ t459) y456 l2 (l2.length : Int) (wrap64 (x17_1 + 1))) else (none))) = some (r1, r2) := by first | (rw [hy456]; with_reducible exact H) | (have H2_ := (Option.bind_some _ _).symm.trans H; rw [hy456]; with_reducible exact H2_) | (have H2_ := (Option.bind_some _ _).symm.trans H; with_reducible exact H2_) | with_reducible exact H | (rw [hy456]; exact H) | exact H
       have Ny456 := QA hy456
       clear hy456
       replace H := Option.bind_eq_some_iff.mp H
       obtain ⟨t459, A130, H⟩ := H
       replace H : (if x8_1.size + t459.size ≤ 9223372036854775807 then (Qbw.l0 k1 (x8_1 ++ t459) y456 l2 (l2.length : Int) (wrap64 (x17_1 + 1))) else (none)) = some (r1, r2) := H
       have A13 := QA A130
       clear A130
       by_cases c14 : x8_1.size + t459.size ≤ 9223372036854775807
       ·rw [if_pos c14] at H
        have c14b0 := eq_true c14
        have c14b1 : decide (x8_1.size + t459.size ≤ 9223372036854775807) = true := decide_eq_true c14
        try have c14b2 : (9223372036854775807 < x8_1.size + t459.size) = False := eq_false (Nat.not_lt.2 c14)
        have H' := QA H
        clear H
        have p453 : 0 ≤ (x17_1 : Int) := of_decide_eq_true qq_5
        have q453 : x17_1 < (l2.length : Int) := of_decide_eq_true qq_5
        obtain ⟨ad453, e453, hx453_0, hx453_1, hx453_2, hx453_3⟩ := Qgz HR2.out x17_1 p453 q453
        cases e453
        replace hx453_0 := qq_h HB.out hx453_0
        replace hx453_1 := qq_h HB.out hx453_1
        replace hx453_2 := qq_h HB.out hx453_2
        replace hx453_3 := qq_h HB.out hx453_3
        replace p453 := eq_true p453
        replace q453 := eq_true q453
        go_wp2_with (first | ((with_reducible refine Qer (N := 11) rfl ?_); refine qq_e 11 #[.bool false, .int .u64 0, .string (⟨#[]⟩ : ByteArray), .string (⟨#[]⟩ : ByteArray)] 39 ?_; intro gb454 hg w15 hbox hb; have n0_ := QA (Kd.R_below qq_4 hb); have n1_ := QA (Qeb (g := gb451) (o := .cells #[.int .u8 a0_0, .int .u32 a0_1] 27 (0, 0)) qq_0 hb); have n2_ := QA (Qem qq_b hb); have n3_ := QA (hbox); have n4_ := QA ((qq_s hg : w.heap.size ≤ gb454)); have n5_ := QA ((qq_s hg : w.heap.size ≤ gb454)); have n6_ := QA ((by rw [hg]; exact Nat.ne_of_lt (Qdr (g := gb451) (o := .cells #[.int .u8 a0_0, .int .u32 a0_1] 27 (0, 0)) qq_0) : gb451 ≠ gb454)); have n7_ := QA ((by rw [hg]; exact Nat.ne_of_gt (Qdr (g := gb451) (o := .cells #[.int .u8 a0_0, .int .u32 a0_1] 27 (0, 0)) qq_0) : gb454 ≠ gb451)); clear HO_9; clear BK451; clear HB; have HO_9 := n0_; have BK451 := n1_; have HB := n2_; have BK454 := n3_; have GW454 := n4_; have GE454 := n5_; have NB451_454 := n6_; have NB454_451 := n7_; clear n0_ n1_ n2_ n3_ n4_ n5_ n6_ n7_; clear hb hbox hg; have hnb16 := NB454_451.out; have hnc16 := NB451_454.out; have hcz17_0 := qq_c (.bool false) BK454.out 0 rfl; have hcz17_1 := qq_c (.int .u64 0) BK454.out 1 rfl; have hcz17_2 := qq_c (.string (⟨#[]⟩ : ByteArray)) BK454.out 2 rfl; have hcz17_3 := qq_c (.string (⟨#[]⟩ : ByteArray)) BK454.out 3 rfl; have hfz17_0 := Qdt BK454.out 0; have hfz17_1 := Qdt BK454.out 1; have hfz17_2 := Qdt BK454.out 2; have hfz17_3 := Qdt BK454.out 3) | ((with_reducible refine Qgp (f := 65) rfl ?_); refine Qfg (some 24) rfl rfl Tryz.func65 qq_7 rfl #[.int .u64 0, .string ((Qgy l2 x17_1).f2)] rfl qq_1 ?_; (with_reducible refine (Qav.calls k1 0 ((Qgy l2 x17_1).f2) t455 _ A11.out).mono ?_); rintro e w18 ⟨rfl, hb⟩; refine ⟨_, rfl, ?_⟩; have n0_ := QA (Kd.R_below (by (with_reducible repeat (first | apply Kd.R_alloc | apply Kd.R_drewN | apply Kd.R_drew)); exact (Kd.R_mono (Kd.R_far (p := ⟨gb454, 3, none⟩) (Kd.R_far (p := ⟨gb454, 2, none⟩) (Kd.R_far (p := ⟨gb454, 1, none⟩) (Kd.R_far (p := ⟨gb454, 0, none⟩) (Kd.R_types HO_9.out BK454.out (by decide)) (fun _ hk => hk.2) (.bool ((Qgy l2 x17_1).f0))) (fun _ hk => hk.2) (.int .u64 ((Qgy l2 x17_1).f1))) (fun _ hk => hk.2) (.string ((Qgy l2 x17_1).f2))) (fun _ hk => hk.2) (.string ((Qgy l2 x17_1).f3))) (fun _ h_ => h_.1))) hb); have n1_ := QA (Qeb (g := gb451) (o := .cells #[.int .u8 a0_0, .int .u32 a0_1] 27 (0, 0)) qq_8 hb); have n2_ := QA (Qeb (g := gb454) (o := .cells #[.bool ((Qgy l2 x17_1).f0), .int .u64 ((Qgy l2 x17_1).f1), .string ((Qgy l2 x17_1).f2), .string ((Qgy l2 x17_1).f3)] 39 (0, 0)) (by (with_reducible repeat (first | apply Qea | apply Qdz | apply Qdy)); refine Qep (cs := #[.bool ((Qgy l2 x17_1).f0), .int .u64 ((Qgy l2 x17_1).f1), .string ((Qgy l2 x17_1).f2), .string (⟨#[]⟩ : ByteArray)]) ?_ 3 _ rfl; (with_reducible repeat (first | apply Qea | apply Qdz | apply Qdy)); refine Qep (cs := #[.bool ((Qgy l2 x17_1).f0), .int .u64 ((Qgy l2 x17_1).f1), .string (⟨#[]⟩ : ByteArray), .string (⟨#[]⟩ : ByteArray)]) ?_ 2 _ rfl; (with_reducible repeat (first | apply Qea | apply Qdz | apply Qdy)); refine Qep (cs := #[.bool ((Qgy l2 x17_1).f0), .int .u64 0, .string (⟨#[]⟩ : ByteArray), .string (⟨#[]⟩ : ByteArray)]) ?_ 1 _ rfl; (with_reducible repeat (first | apply Qea | apply Qdz | apply Qdy)); refine Qep (cs := #[.bool false, .int .u64 0, .string (⟨#[]⟩ : ByteArray), .string (⟨#[]⟩ : ByteArray)]) ?_ 0 _ rfl; (with_reducible repeat (first | apply Qea | apply Qdz | apply Qdy)); exact BK454.out) hb); have n3_ := QA (Qem qq_b hb); clear HO_9; clear BK451; clear BK454; clear HB; have HO_9 := n0_; have BK451 := n1_; have BK454 := n2_; have HB := n3_; clear n0_ n1_ n2_ n3_; (try clear hb); (try clear hb2); (try clear hk); (try clear hi)) | ((with_reducible refine Qgq (b := .append) (xs := #[.tmp 21, .tmp 29]) rfl ?_); at_builtin; refine Kd.R_append k122 (w0 := w) w.heap.size rfl (.tmp 21) (.tmp 29) 49 122 (.agg #[(.int .u64 0), (.int .u32 0)]) 16 rfl Tryz.underlying49 Qgx rfl (by decide) (by omega) u9 x9_1 (⟨t455, ((x8_1.size : Int)) % 4294967296⟩ : S122) [.int .u64 t455, .int .u32 (((x8_1.size : Int)) % 4294967296)] (fun _ => True) (fun _ => False) rfl rfl ?aP (fun _ hk => hk.elim) ?aF ?aO ?aB ?aS ?aL ?_; (case aP => exact Qhd _ _ _ (⟨t455, ((x8_1.size : Int)) % 4294967296⟩ : S122)); (case aB => exact qq_b); (case aF => exact (fun _ _ => trivial)); (case aO => exact qq_4); (case aS => exact (Qel qq_b)); (case aL => have := LMc12.out; omega); intro v457 w19 ho hb hg hat; rw [← Ny456.out] at ho; have n0_ := QA (Qdu (g := gb451) (o := .cells #[.int .u8 a0_0, .int .u32 a0_1] 27 (0, 0)) qq_0 hg (Kd.R_ne HO_9.out BK451.out (by decide))); have n1_ := QA (Qdu (g := gb454) (o := .cells #[.bool ((Qgy l2 x17_1).f0), .int .u64 ((Qgy l2 x17_1).f1), .string ((Qgy l2 x17_1).f2), .string ((Qgy l2 x17_1).f3)] 39 (0, 0)) qq_0 hg (Kd.R_ne HO_9.out BK454.out (by decide))); have n2_ := QA (hb); have n3_ := QA (ho); clear BK451; clear BK454; clear HB; clear HO_9; have BK451 := n0_; have BK454 := n1_; have HB := n2_; have HO458 := n3_; clear n0_ n1_ n2_ n3_; clear ho hb hg hat; have hcz20_0 := qq_c (.bool ((Qgy l2 x17_1).f0)) BK454.out 0 rfl; have hcz20_1 := qq_c (.int .u64 ((Qgy l2 x17_1).f1)) BK454.out 1 rfl; have hcz20_2 := qq_c (.string ((Qgy l2 x17_1).f2)) BK454.out 2 rfl; have hcz20_3 := qq_c (.string ((Qgy l2 x17_1).f3)) BK454.out 3 rfl; have hfz20_0 := Qdt BK454.out 0; have hfz20_1 := Qdt BK454.out 1; have hfz20_2 := Qdt BK454.out 2; have hfz20_3 := Qdt BK454.out 3) | ((with_reducible refine Qgp (f := 22) rfl ?_); refine Qfg (some 33) rfl rfl Tryz.func22 qq_7 rfl #[.agg #[.bool ((Qgy l2 x17_1).f0), .int .u64 ((Qgy l2 x17_1).f1), .string ((Qgy l2 x17_1).f2), .string ((Qgy l2 x17_1).f3)]] rfl qq_1 ?_; (with_reducible refine (Qbh.calls k1 ((Qgy l2 x17_1).f0) ((Qgy l2 x17_1).f1) ((Qgy l2 x17_1).f2) ((Qgy l2 x17_1).f3) t459 _ A13.out).mono ?_); rintro e w21 ⟨rfl, hb⟩; refine ⟨_, rfl, ?_⟩; have n0_ := QA (Kd.R_below qq_4 hb); have n1_ := QA (Qeb (g := gb451) (o := .cells #[.int .u8 a0_0, .int .u32 a0_1] 27 (0, 0)) qq_0 hb); have n2_ := QA (Qeb (g := gb454) (o := .cells #[.bool ((Qgy l2 x17_1).f0), .int .u64 ((Qgy l2 x17_1).f1), .string ((Qgy l2 x17_1).f2), .string ((Qgy l2 x17_1).f3)] 39 (0, 0)) qq_0 hb); have n3_ := QA (Qem qq_b hb); clear HO458; clear BK451; clear BK454; clear HB; have HO458 := n0_; have BK451 := n1_; have BK454 := n2_; have HB := n3_; clear n0_ n1_ n2_ n3_; (try clear hb); (try clear hb2); (try clear hk); (try clear hi)))
        go_roundg k1
        case measure => have := HK1.out; omega
        case rel => exact ⟨(x8_1 ++ t459), (y456), (wrap64 (x17_1 + 1)), qq_6, qq_6, H', ⟨by have := HK1.out; omega⟩, ⟨by (with_reducible repeat (first | apply Kd.R_alloc | apply Kd.R_drewN | apply Kd.R_drew)); exact HO458.out⟩, ⟨by (with_reducible repeat (first | apply Qea | apply Qdz | apply Qdy)); exact BK451.out⟩, ⟨qq_b⟩⟩
       ·rw [if_neg c14] at H
        exact absurd H (by simp)
      ·rw [if_neg c12] at H
       exact absurd H (by simp)
     ·rw [if_neg c10] at H
      exact absurd H (by simp)
    ·rw [if_neg c9] at H
     exact absurd H (by simp)
   ·rw [if_neg c8] at H
    have c8b0 : decide (x17_1 < (l2.length : Int)) = false := decide_eq_false c8
    clear c8
    replace H := Option.bind_eq_some_iff.mp H
    obtain ⟨t460, A220, H⟩ := H
    replace H : (some (x8_1, t460)) = some (r1, r2) := H
    have A22 := QA A220
    clear A220
    simp only [Option.some.injEq, Prod.mk.injEq] at H
    obtain ⟨rfl, rfl⟩ := H
    obtain ⟨Ao23, co23, eo23⟩ := Kd.R_slice HO_9.out
    subst eo23
    go_wp2_with (first | ((with_reducible refine Qgp (f := 66) rfl ?_); refine Qfg (some 38) rfl rfl Tryz.func66 qq_7 rfl #[.slice Ao23 x9_1.length co23] rfl qq_1 ?_; (with_reducible refine (Qbk.calls k1 _ _ x9_1 t460 _ ?side1 ?side2 A22.out).mono ?_); (case side1 => repeat (first | exact (Kd.R_reads' HO_9.out).2.2 | (with_reducible refine Kd.C_alloc ?_ _) | (with_reducible refine Kd.C_drewN ?_ _) | (with_reducible refine Kd.C_drew ?_))); (case side2 => exact (Kd.R_reads' HO_9.out).2.1); rintro e w24 ⟨v461, rfl, ho0, hb⟩; refine ⟨_, rfl, ?_⟩; have n0_ := QA (Kd.R_elder' qq_4 (Kd.R_base ho0) hb); have n1_ := QA (Kd.R_lower (Kd.R_new' ho0 (Kd.R_lt qq_4)) (Qel qq_b)); have n2_ := QA (Qeb (g := gb451) (o := .cells #[.int .u8 a0_0, .int .u32 a0_1] 27 (0, 0)) qq_0 hb); have n3_ := QA (Qem qq_b hb); clear HO_9; clear BK451; clear HB; have HO_9 := n0_; have HO462 := n1_; have BK451 := n2_; have HB := n3_; clear n0_ n1_ n2_ n3_; (try clear hb); (try clear hb2); (try clear hk); (try clear hi); (try clear ho0)))
    go_ret2
    exact ⟨_, by first | rfl | (simp [Qgu, Qgv] <;> rfl) | (simp [*, Qgu, Qgv] <;> rfl), by (with_reducible repeat (first | apply Kd.R_alloc | apply Kd.R_drewN | apply Kd.R_drew)); exact Kd.R_mono HO462.out (fun _ hk => trivial), qq_b⟩
def Qbx.f (k : Nat) (a0_0 : Int) (a0_1 : Int) (a1 : Int) (l2 : List (S39)) (a3 : Bool) : Option (ByteArray) := (Qbw.f k a0_0 a0_1 a1 l2).bind fun bt488 => (if a3 = true then ((Qbq.f k (((bt488.1.size : Int)) % 4294967296) bt488.2).bind fun t492 => (if bt488.1.size + t492.size ≤ 9223372036854775807 then ((Qbf.f k a0_0 a0_1).bind fun t493 => ((Qbv.f k (wrap64 ((wrap64 (t493)) - ((bt488.1 ++ t492).size : Int)))).bind fun t494 => (if (bt488.1 ++ t492).size + t494.size ≤ 9223372036854775807 then (some ((bt488.1 ++ t492) ++ t494)) else (none)))) else (none))) else ((Qbf.f k a0_0 a0_1).bind fun t495 => ((Qbv.f k (wrap64 ((wrap64 (t495)) - (bt488.1.size : Int)))).bind fun t496 => (if bt488.1.size + t496.size ≤ 9223372036854775807 then (some (bt488.1 ++ t496)) else (none)))))
theorem Qbx.calls (k : Nat) (a0_0 : Int) (a0_1 : Int) (a1 : Int) (A2 : Option Addr) (c2 : Nat) (l2 : List (S39)) (a3 : Bool) (r : ByteArray) (w : World) (hr2 : Kd.C k39 w A2 l2.length l2) (hc2 : l2.length ≤ c2) (h : Qbx.f k a0_0 a0_1 a1 l2 a3 = some r) :
  Calls Tryz.prog 31 #[.agg #[.int .u8 a0_0, .int .u32 a0_1], .int .u64 a1, .slice A2 l2.length c2, .bool a3] w fun e w' => e = .returned (.string r) ∧ Below w.heap.size w w' := by
 have hu27 := Tryz.underlying27
 have hu131 := Tryz.underlying131
 have HR2 := QA hr2
 have HC2 := QA hc2
 clear hr2 hc2
 have HB := QA (Below.refl w.heap.size w)
 have H : ((Qbw.f k a0_0 a0_1 a1 l2).bind fun bt488 => (if a3 = true then ((Qbq.f k (((bt488.1.size : Int)) % 4294967296) bt488.2).bind fun t492 => (if bt488.1.size + t492.size ≤ 9223372036854775807 then ((Qbf.f k a0_0 a0_1).bind fun t493 => ((Qbv.f k (wrap64 ((wrap64 (t493)) - ((bt488.1 ++ t492).size : Int)))).bind fun t494 => (if (bt488.1 ++ t492).size + t494.size ≤ 9223372036854775807 then (some ((bt488.1 ++ t492) ++ t494)) else (none)))) else (none))) else ((Qbf.f k a0_0 a0_1).bind fun t495 => ((Qbv.f k (wrap64 ((wrap64 (t495)) - (bt488.1.size : Int)))).bind fun t496 => (if bt488.1.size + t496.size ≤ 9223372036854775807 then (some (bt488.1 ++ t496)) else (none)))))) = some r := h
 clear h
 replace H := Option.bind_eq_some_iff.mp H
 obtain ⟨⟨t488, t489⟩, A50, H⟩ := H
 replace H : (if a3 = true then ((Qbq.f k (((t488.size : Int)) % 4294967296) t489).bind fun t492 => (if t488.size + t492.size ≤ 9223372036854775807 then ((Qbf.f k a0_0 a0_1).bind fun t493 => ((Qbv.f k (wrap64 ((wrap64 (t493)) - ((t488 ++ t492).size : Int)))).bind fun t494 => (if (t488 ++ t492).size + t494.size ≤ 9223372036854775807 then (some ((t488 ++ t492) ++ t494)) else (none)))) else (none))) else ((Qbf.f k a0_0 a0_1).bind fun t495 => ((Qbv.f k (wrap64 ((wrap64 (t495)) - (t488.size : Int)))).bind fun t496 => (if t488.size + t496.size ≤ 9223372036854775807 then (some (t488 ++ t496)) else (none))))) = some r := H
 have A5 := QA A50
 clear A50
 by_cases c6 : a3 = true
 ·subst c6
  have H1 : ((Qbq.f k (((t488.size : Int)) % 4294967296) t489).bind fun t492 => (if t488.size + t492.size ≤ 9223372036854775807 then ((Qbf.f k a0_0 a0_1).bind fun t493 => ((Qbv.f k (wrap64 ((wrap64 (t493)) - ((t488 ++ t492).size : Int)))).bind fun t494 => (if (t488 ++ t492).size + t494.size ≤ 9223372036854775807 then (some ((t488 ++ t492) ++ t494)) else (none)))) else (none))) = some r := by rw [if_pos rfl] at H; exact H
  clear H
  have H := H1
  clear H1
  replace H := Option.bind_eq_some_iff.mp H
  obtain ⟨t492, A70, H⟩ := H
  replace H : (if t488.size + t492.size ≤ 9223372036854775807 then ((Qbf.f k a0_0 a0_1).bind fun t493 => ((Qbv.f k (wrap64 ((wrap64 (t493)) - ((t488 ++ t492).size : Int)))).bind fun t494 => (if (t488 ++ t492).size + t494.size ≤ 9223372036854775807 then (some ((t488 ++ t492) ++ t494)) else (none)))) else (none)) = some r := H
  have A7 := QA A70
  clear A70
  by_cases c8 : t488.size + t492.size ≤ 9223372036854775807
  ·rw [if_pos c8] at H
   have c8b0 := eq_true c8
   have c8b1 : decide (t488.size + t492.size ≤ 9223372036854775807) = true := decide_eq_true c8
   try have c8b2 : (9223372036854775807 < t488.size + t492.size) = False := eq_false (Nat.not_lt.2 c8)
   replace H := Option.bind_eq_some_iff.mp H
   obtain ⟨t493, A90, H⟩ := H
   replace H : ((Qbv.f k (wrap64 ((wrap64 (t493)) - ((t488 ++ t492).size : Int)))).bind fun t494 => (if (t488 ++ t492).size + t494.size ≤ 9223372036854775807 then (some ((t488 ++ t492) ++ t494)) else (none))) = some r := H
   have A9 := QA A90
   clear A90
   replace H := Option.bind_eq_some_iff.mp H
   obtain ⟨t494, A100, H⟩ := H
   replace H : (if (t488 ++ t492).size + t494.size ≤ 9223372036854775807 then (some ((t488 ++ t492) ++ t494)) else (none)) = some r := H
   simp only [ByteArray.size_append, Int.natCast_add] at A100
   have A10 := QA A100
   clear A100
   by_cases c11 : (t488 ++ t492).size + t494.size ≤ 9223372036854775807
   ·rw [if_pos c11] at H
    have c11b0 := eq_true c11
    have c11b1 : decide ((t488 ++ t492).size + t494.size ≤ 9223372036854775807) = true := decide_eq_true c11
    try have c11b2 : (9223372036854775807 < (t488 ++ t492).size + t494.size) = False := eq_false (Nat.not_lt.2 c11)
    try have c11b3 := c11b2
    try simp only [ByteArray.size_append, (show ∀ x_ : UInt8, (⟨#[x_]⟩ : ByteArray).size = 1 from fun _ => rfl), (show ∀ x_ y_ : UInt8, (⟨#[x_, y_]⟩ : ByteArray).size = 2 from fun _ _ => rfl)] at c11b3
    obtain rfl := Option.some.inj H
    go_enter Tryz.func31, Tryz.ntmps31
    go_wp2_with (first | ((with_reducible refine Qer (N := 4) rfl ?_); refine qq_e 4 #[.int .u8 a0_0, .int .u32 a0_1] 27 ?_; intro gb487 hg w12 hbox hb; have n0_ := QA (Qem qq_b hb); have n1_ := QA (hbox); have n2_ := QA ((qq_s hg : w.heap.size ≤ gb487)); have n3_ := QA ((qq_s hg : w.heap.size ≤ gb487)); clear HB; have HB := n0_; have BK487 := n1_; have GW487 := n2_; have GE487 := n3_; clear n0_ n1_ n2_ n3_; clear hb hbox hg; have hcz13_0 := qq_c (.int .u8 a0_0) BK487.out 0 rfl; have hcz13_1 := qq_c (.int .u32 a0_1) BK487.out 1 rfl; have hfz13_0 := Qdt BK487.out 0; have hfz13_1 := Qdt BK487.out 1) | ((with_reducible refine Qgp (f := 27) rfl ?_); refine Qfg (some 15) rfl rfl Tryz.func27 qq_7 rfl #[.agg #[.int .u8 a0_0, .int .u32 a0_1], .int .u64 a1, .slice A2 l2.length c2] rfl qq_1 ?_; (with_reducible refine (Qbw.calls k a0_0 a0_1 a1 _ _ l2 t488 t489 _ ?side1 ?side2 A5.out).mono ?_); (case side1 => repeat (first | exact (Kd.C_below HR2.out HB.out) | (with_reducible refine Kd.C_alloc ?_ _) | (with_reducible refine Kd.C_drewN ?_ _) | (with_reducible refine Kd.C_drew ?_))); (case side2 => exact HC2.out); rintro e w14 ⟨v490, rfl, ho0, hb⟩; refine ⟨_, rfl, ?_⟩; have n0_ := QA (Kd.R_lower ho0 (Qel qq_b)); have n1_ := QA (Qeb (g := gb487) (o := .cells #[.int .u8 a0_0, .int .u32 a0_1] 27 (0, 0)) qq_0 hb); have n2_ := QA (Qem qq_b hb); clear BK487; clear HB; have HO491 := n0_; have BK487 := n1_; have HB := n2_; clear n0_ n1_ n2_; (try clear hb); (try clear hb2); (try clear hk); (try clear hi); (try clear ho0); obtain ⟨Ao15, co15, eo15⟩ := Kd.R_slice HO491.out; subst eo15) | ((with_reducible refine Qgp (f := 71) rfl ?_); refine Qfg (some 25) rfl rfl Tryz.func71 qq_7 rfl #[.agg #[.int .u32 (((t488.size : Int)) % 4294967296), .slice Ao15 t489.length co15]] rfl qq_1 ?_; (with_reducible refine (Qbq.calls k (((t488.size : Int)) % 4294967296) _ _ t489 t492 _ ?side1 ?side2 A7.out).mono ?_); (case side1 => repeat (first | exact (Kd.R_reads' HO491.out).2.2 | (with_reducible refine Kd.C_alloc ?_ _) | (with_reducible refine Kd.C_drewN ?_ _) | (with_reducible refine Kd.C_drew ?_))); (case side2 => exact (Kd.R_reads' HO491.out).2.1); rintro e w16 ⟨rfl, hb⟩; refine ⟨_, rfl, ?_⟩; have n0_ := QA (Kd.R_below qq_4 hb); have n1_ := QA (Qeb (g := gb487) (o := .cells #[.int .u8 a0_0, .int .u32 a0_1] 27 (0, 0)) qq_0 hb); have n2_ := QA (Qem qq_b hb); clear HO491; clear BK487; clear HB; have HO491 := n0_; have BK487 := n1_; have HB := n2_; clear n0_ n1_ n2_; (try clear hb); (try clear hb2); (try clear hk); (try clear hi); have hcz17_0 := qq_c (.int .u8 a0_0) BK487.out 0 rfl; have hcz17_1 := qq_c (.int .u32 a0_1) BK487.out 1 rfl; have hfz17_0 := Qdt BK487.out 0; have hfz17_1 := Qdt BK487.out 1) | ((with_reducible refine Qgp (f := 63) rfl ?_); refine Qfg (some 29) rfl rfl Tryz.func63 qq_7 rfl #[.agg #[.int .u8 a0_0, .int .u32 a0_1]] rfl qq_1 ?_; (with_reducible refine (Qbf.calls k a0_0 a0_1 t493 _ A9.out).mono ?_); rintro e w18 ⟨rfl, hb⟩; refine ⟨_, rfl, ?_⟩; have n0_ := QA (Kd.R_below qq_4 hb); have n1_ := QA (Qeb (g := gb487) (o := .cells #[.int .u8 a0_0, .int .u32 a0_1] 27 (0, 0)) qq_0 hb); have n2_ := QA (Qem qq_b hb); clear HO491; clear BK487; clear HB; have HO491 := n0_; have BK487 := n1_; have HB := n2_; clear n0_ n1_ n2_; (try clear hb); (try clear hb2); (try clear hk); (try clear hi)) | ((with_reducible refine Qgp (f := 72) rfl ?_); refine Qfg (some 34) rfl rfl Tryz.func72 qq_7 rfl #[.int .i64 (wrap64 ((wrap64 (t493)) - ((t488.size : Int) + (t492.size : Int))))] rfl qq_1 ?_; (with_reducible refine (Qbv.calls k _ t494 _ A10.out).mono ?_); rintro e w19 ⟨rfl, hb⟩; refine ⟨_, rfl, ?_⟩; have n0_ := QA (Kd.R_below qq_4 hb); have n1_ := QA (Qeb (g := gb487) (o := .cells #[.int .u8 a0_0, .int .u32 a0_1] 27 (0, 0)) qq_0 hb); have n2_ := QA (Qem qq_b hb); clear HO491; clear BK487; clear HB; have HO491 := n0_; have BK487 := n1_; have HB := n2_; clear n0_ n1_ n2_; (try clear hb); (try clear hb2); (try clear hk); (try clear hi)))
    go_ret
    exact ⟨by first | rfl | (simp [Qgu, Qgv] <;> rfl) | (simp [*, Qgu, Qgv] <;> rfl), qq_b⟩
   ·rw [if_neg c11] at H
    exact absurd H (by simp)
  ·rw [if_neg c8] at H
   exact absurd H (by simp)
 ·replace c6 := Bool.eq_false_iff.mpr c6
  subst c6
  have H1 : ((Qbf.f k a0_0 a0_1).bind fun t495 => ((Qbv.f k (wrap64 ((wrap64 (t495)) - (t488.size : Int)))).bind fun t496 => (if t488.size + t496.size ≤ 9223372036854775807 then (some (t488 ++ t496)) else (none)))) = some r := by rw [if_neg (show ¬ (false = true) by decide)] at H; exact H
  clear H
  have H := H1
  clear H1
  replace H := Option.bind_eq_some_iff.mp H
  obtain ⟨t495, A200, H⟩ := H
  replace H : ((Qbv.f k (wrap64 ((wrap64 (t495)) - (t488.size : Int)))).bind fun t496 => (if t488.size + t496.size ≤ 9223372036854775807 then (some (t488 ++ t496)) else (none))) = some r := H
  have A20 := QA A200
  clear A200
  replace H := Option.bind_eq_some_iff.mp H
  obtain ⟨t496, A210, H⟩ := H
  replace H : (if t488.size + t496.size ≤ 9223372036854775807 then (some (t488 ++ t496)) else (none)) = some r := H
  have A21 := QA A210
  clear A210
  by_cases c22 : t488.size + t496.size ≤ 9223372036854775807
  ·rw [if_pos c22] at H
   have c22b0 := eq_true c22
   have c22b1 : decide (t488.size + t496.size ≤ 9223372036854775807) = true := decide_eq_true c22
   try have c22b2 : (9223372036854775807 < t488.size + t496.size) = False := eq_false (Nat.not_lt.2 c22)
   obtain rfl := Option.some.inj H
   go_enter Tryz.func31, Tryz.ntmps31
   go_wp2_with (first | ((with_reducible refine Qer (N := 4) rfl ?_); refine qq_e 4 #[.int .u8 a0_0, .int .u32 a0_1] 27 ?_; intro gb487 hg w23 hbox hb; have n0_ := QA (Qem qq_b hb); have n1_ := QA (hbox); have n2_ := QA ((qq_s hg : w.heap.size ≤ gb487)); have n3_ := QA ((qq_s hg : w.heap.size ≤ gb487)); clear HB; have HB := n0_; have BK487 := n1_; have GW487 := n2_; have GE487 := n3_; clear n0_ n1_ n2_ n3_; clear hb hbox hg; have hcz24_0 := qq_c (.int .u8 a0_0) BK487.out 0 rfl; have hcz24_1 := qq_c (.int .u32 a0_1) BK487.out 1 rfl; have hfz24_0 := Qdt BK487.out 0; have hfz24_1 := Qdt BK487.out 1) | ((with_reducible refine Qgp (f := 27) rfl ?_); refine Qfg (some 15) rfl rfl Tryz.func27 qq_7 rfl #[.agg #[.int .u8 a0_0, .int .u32 a0_1], .int .u64 a1, .slice A2 l2.length c2] rfl qq_1 ?_; (with_reducible refine (Qbw.calls k a0_0 a0_1 a1 _ _ l2 t488 t489 _ ?side1 ?side2 A5.out).mono ?_); (case side1 => repeat (first | exact (Kd.C_below HR2.out HB.out) | (with_reducible refine Kd.C_alloc ?_ _) | (with_reducible refine Kd.C_drewN ?_ _) | (with_reducible refine Kd.C_drew ?_))); (case side2 => exact HC2.out); rintro e w25 ⟨v490, rfl, ho0, hb⟩; refine ⟨_, rfl, ?_⟩; have n0_ := QA (Kd.R_lower ho0 (Qel qq_b)); have n1_ := QA (Qeb (g := gb487) (o := .cells #[.int .u8 a0_0, .int .u32 a0_1] 27 (0, 0)) qq_0 hb); have n2_ := QA (Qem qq_b hb); clear BK487; clear HB; have HO491 := n0_; have BK487 := n1_; have HB := n2_; clear n0_ n1_ n2_; (try clear hb); (try clear hb2); (try clear hk); (try clear hi); (try clear ho0); have hcz26_0 := qq_c (.int .u8 a0_0) BK487.out 0 rfl; have hcz26_1 := qq_c (.int .u32 a0_1) BK487.out 1 rfl; have hfz26_0 := Qdt BK487.out 0; have hfz26_1 := Qdt BK487.out 1) | ((with_reducible refine Qgp (f := 63) rfl ?_); refine Qfg (some 29) rfl rfl Tryz.func63 qq_7 rfl #[.agg #[.int .u8 a0_0, .int .u32 a0_1]] rfl qq_1 ?_; (with_reducible refine (Qbf.calls k a0_0 a0_1 t495 _ A20.out).mono ?_); rintro e w27 ⟨rfl, hb⟩; refine ⟨_, rfl, ?_⟩; have n0_ := QA (Kd.R_below qq_4 hb); have n1_ := QA (Qeb (g := gb487) (o := .cells #[.int .u8 a0_0, .int .u32 a0_1] 27 (0, 0)) qq_0 hb); have n2_ := QA (Qem qq_b hb); clear HO491; clear BK487; clear HB; have HO491 := n0_; have BK487 := n1_; have HB := n2_; clear n0_ n1_ n2_; (try clear hb); (try clear hb2); (try clear hk); (try clear hi)) | ((with_reducible refine Qgp (f := 72) rfl ?_); refine Qfg (some 34) rfl rfl Tryz.func72 qq_7 rfl #[.int .i64 (wrap64 ((wrap64 (t495)) - (t488.size : Int)))] rfl qq_1 ?_; (with_reducible refine (Qbv.calls k (wrap64 ((wrap64 (t495)) - (t488.size : Int))) t496 _ A21.out).mono ?_); rintro e w28 ⟨rfl, hb⟩; refine ⟨_, rfl, ?_⟩; have n0_ := QA (Kd.R_below qq_4 hb); have n1_ := QA (Qeb (g := gb487) (o := .cells #[.int .u8 a0_0, .int .u32 a0_1] 27 (0, 0)) qq_0 hb); have n2_ := QA (Qem qq_b hb); clear HO491; clear BK487; clear HB; have HO491 := n0_; have BK487 := n1_; have HB := n2_; clear n0_ n1_ n2_; (try clear hb); (try clear hb2); (try clear hk); (try clear hi)))
   go_ret
   exact ⟨by first | rfl | (simp [Qgu, Qgv] <;> rfl) | (simp [*, Qgu, Qgv] <;> rfl), qq_b⟩
  ·rw [if_neg c22] at H
   exact absurd H (by simp)
end Go.Proofs.YtnnofopfbeklbaaGreat.C
end
