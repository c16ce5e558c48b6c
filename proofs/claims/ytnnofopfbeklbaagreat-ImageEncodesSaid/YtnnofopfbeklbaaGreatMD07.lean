/- Texts of this claim's author and of the print of its functions, merged by merge.py. -/
import Derived.Test.YtnnofopfbeklbaaGreatMD03
import Derived.Test.YtnnofopfbeklbaaGreatMD06
set_option linter.unusedVariables false
set_option linter.unusedSimpArgs false
set_option maxHeartbeats 8000000
set_option maxRecDepth 100000
section
namespace Go.Proofs.YtnnofopfbeklbaaGreat.C
open Go.RowKit Go.Proofs.YtnnofopfbeklbaaGreatW.PrintWords Go.Proofs.YtnnofopfbeklbaaGreatW.PrintLast Go.Proofs.YtnnofopfbeklbaaGreatW.PrintMore
attribute [local go_sem] Qgh Qgi Qgj Qgk Qgl Qgm Qgn Qgo
def Qbn.l0 : Nat → List Int → List (S122) → Int → Int → Option (List Int)
 | 0, _, _, _, _ => none
 | k + 1, x3, x6, x7, x8 => if x8 < x7 then (if 0 ≤ x8 then (if x8 < (x6.length : Int) then (if (Int.tmod x8 16) = 0 then (if x3.length < 17592186044416 then (Qbn.l0 k (x3 ++ [(Qhe x6 x8).f0]) x6 x7 (wrap64 (x8 + 1))) else (none)) else (Qbn.l0 k x3 x6 x7 (wrap64 (x8 + 1)))) else (none)) else (none)) else (some x3)
def Qbn.f (k : Nat) (l0 : List (S122)) : Option (List Int) := Qbn.l0 k ([] : List Int) l0 (l0.length : Int) 0
theorem Qbn.calls (k : Nat) (A0 : Option Addr) (c0 : Nat) (l0 : List (S122)) (r : List Int) (w : World) (hr0 : Kd.C k122 w A0 l0.length l0) (hc0 : l0.length ≤ c0) (h : Qbn.f k l0 = some r) :
  Calls Tryz.prog 123 #[.slice A0 l0.length c0] w fun e w' => ∃ v0_ : Value, e = .returned (v0_) ∧ Kd.R (Kd.int .u64) 34 w' w.heap.size (fun _ => True) v0_ r ∧ Below w.heap.size w w' := by
 have hu122 := Tryz.underlying122
 have HR0 := QA hr0
 have HC0 := QA hc0
 clear hr0 hc0
 have HB := QA (Below.refl w.heap.size w)
 have H : (Qbn.l0 k ([] : List Int) l0 (l0.length : Int) 0) = some r := h
 clear h
 have H' := QA H
 clear H
 go_enter Tryz.func123, Tryz.ntmps123
 go_wp2
 go_loopg [3, 8] k (fun kq v3 v8 w' => ∃ (x3_1 : List Int) (x8_1 : Int), v8 = .int .i64 x8_1 ∧ Aside0 (Qbn.l0 kq x3_1 l0 (l0.length : Int) x8_1 = some r) ∧ Aside0 (kq ≤ k) ∧ Aside0 (Kd.R (Kd.int .u64) 34 w' w.heap.size (fun _ => True) v3 x3_1) ∧ Aside0 (Below w.heap.size w w'))
 case atStart => exact ⟨(([] : List Int)), (0), qq_6, H', ⟨Nat.le_refl _⟩, ⟨by first | exact Kd.R_nil _ _ _ _ _ | exact Kd.N_nil _ _ _ _ _ | exact Kd.V_nil _ _ _ _ _ | exact Kd.Q_nil _ _ _ _ _ | exact Kd.S_nil _ _ _ _ _⟩, ⟨qq_b⟩⟩
 case round =>
  clear H'
  obtain ⟨x3_1, x8_1, rfl, HA, HK1, HO_3, HB⟩ := hrel
  cases gk with
  | zero => exact absurd HA.out (by simp [Qbn.l0])
  | succ k1 =>
   have H := HA.out
   clear HA
   simp only [Qbn.l0] at H
   by_cases c2 : x8_1 < (l0.length : Int)
   ·rw [if_pos c2] at H
    have c2b0 : decide (x8_1 < (l0.length : Int)) = true := decide_eq_true c2
    clear c2
    by_cases c3 : 0 ≤ x8_1
    ·rw [if_pos c3] at H
     have c3b0 : decide (0 ≤ x8_1) = true := decide_eq_true c3
     clear c3
     by_cases c4 : x8_1 < (l0.length : Int)
     ·rw [if_pos c4] at H
      have c4b0 : decide (x8_1 < (l0.length : Int)) = true := decide_eq_true c4
      clear c4
      by_cases c5 : (Int.tmod x8_1 16) = 0
      ·rw [if_pos c5] at H
       have c5b0 : ((Int.tmod x8_1 16) == 0) = true := beq_iff_eq.mpr c5
       have c5b1 : ((Int.tmod x8_1 16) != 0) = false := bne_eq_false_iff_eq.mpr c5
       clear c5
       by_cases c6 : x3_1.length < 17592186044416
       ·rw [if_pos c6] at H
        have LMc6 := QA c6
        clear c6
        obtain ⟨y471, hy471⟩ : ∃ y_ : List Int, y_ = (x3_1 ++ [(Qhe l0 x8_1).f0]) := ⟨_, rfl⟩
        replace H : (Qbn.l0 k1 y471 l0 (l0.length : Int) (wrap64 (x8_1 + 1))) = some r := by first | (rw [hy471]; with_reducible exact H) | (have H2_ := (Option.bind_some _ _).symm.trans H; rw [hy471]; with_reducible exact H2_) | (have H2_ := (Option.bind_some _ _).symm.trans H; with_reducible exact H2_) | with_reducible exact H | (rw [hy471]; exact H) | exact H
        have Ny471 := QA hy471
        clear hy471
        have H' := QA H
        clear H
        have p469 : 0 ≤ (x8_1 : Int) := of_decide_eq_true qq_5
        have q469 : x8_1 < (l0.length : Int) := of_decide_eq_true qq_5
        obtain ⟨ad469, e469, hx469_0, hx469_1⟩ := Qhf HR0.out x8_1 p469 q469
        cases e469
        replace hx469_0 := qq_h HB.out hx469_0
        replace hx469_1 := qq_h HB.out hx469_1
        replace p469 := eq_true p469
        replace q469 := eq_true q469
        go_wp2_with (first | ((with_reducible refine Qer (N := 5) rfl ?_); refine qq_e 5 #[.int .u64 0, .int .u32 0] 122 ?_; intro gb470 hg w7 hbox hb; have n0_ := QA (Kd.R_below qq_4 hb); have n1_ := QA (Qem qq_b hb); have n2_ := QA (hbox); have n3_ := QA ((qq_s hg : w.heap.size ≤ gb470)); have n4_ := QA ((qq_s hg : w.heap.size ≤ gb470)); clear HO_3; clear HB; have HO_3 := n0_; have HB := n1_; have BK470 := n2_; have GW470 := n3_; have GE470 := n4_; clear n0_ n1_ n2_ n3_ n4_; clear hb hbox hg; have hcz8_0 := qq_c (.int .u64 0) BK470.out 0 rfl; have hcz8_1 := qq_c (.int .u32 0) BK470.out 1 rfl; have hfz8_0 := Qdt BK470.out 0; have hfz8_1 := Qdt BK470.out 1) | ((with_reducible refine Qgq (b := .append) (xs := #[.tmp 16, .tmp 19]) rfl ?_); at_builtin; refine Kd.R_append (Kd.int .u64) (w0 := w) w.heap.size rfl (.tmp 16) (.tmp 19) 70 34 (.int .u64 0) 8 rfl Tryz.underlying70 info34 rfl (by decide) (by omega) u3 x3_1 ((Qhe l0 x8_1).f0) [.int .u64 ((Qhe l0 x8_1).f0)] (fun _ => True) (fun _ => False) rfl qq_13 ?aP (fun _ hk => hk.elim) ?aF ?aO ?aB ?aS ?aL ?_; (case aP => exact rfl); (case aB => exact qq_b); (case aF => exact (fun _ _ => trivial)); (case aO => exact (by (with_reducible repeat (first | apply Kd.R_alloc | apply Kd.R_drewN | apply Kd.R_drew)); exact Kd.R_mono (Kd.R_far (p := ⟨gb470, 1, none⟩) (Kd.R_far (p := ⟨gb470, 0, none⟩) (Kd.R_types HO_3.out BK470.out (by decide)) (fun _ hk => hk.2) (.int .u64 ((Qhe l0 x8_1).f0))) (fun _ hk => hk.2) (.int .u32 ((Qhe l0 x8_1).f1))) (fun _ hk => trivial))); (case aS => exact (Qel qq_b)); (case aL => have := LMc6.out; omega); intro v472 w9 ho hb hg hat; rw [← Ny471.out] at ho; have n0_ := QA (Qdu (g := gb470) (o := .cells #[.int .u64 ((Qhe l0 x8_1).f0), .int .u32 ((Qhe l0 x8_1).f1)] 122 (0, 0)) (by (with_reducible repeat (first | apply Qea | apply Qdz | apply Qdy)); refine Qep (cs := #[.int .u64 ((Qhe l0 x8_1).f0), .int .u32 0]) ?_ 1 _ rfl; (with_reducible repeat (first | apply Qea | apply Qdz | apply Qdy)); refine Qep (cs := #[.int .u64 0, .int .u32 0]) ?_ 0 _ rfl; (with_reducible repeat (first | apply Qea | apply Qdz | apply Qdy)); exact BK470.out) hg (Kd.R_ne HO_3.out BK470.out (by decide))); have n1_ := QA (hb); have n2_ := QA (ho); clear BK470; clear HB; clear HO_3; have BK470 := n0_; have HB := n1_; have HO473 := n2_; clear n0_ n1_ n2_; clear ho hb hg hat))
        go_roundg k1
        case measure => have := HK1.out; omega
        case rel => exact ⟨(y471), (wrap64 (x8_1 + 1)), qq_6, H', ⟨by have := HK1.out; omega⟩, ⟨by (with_reducible repeat (first | apply Kd.R_alloc | apply Kd.R_drewN | apply Kd.R_drew)); exact HO473.out⟩, ⟨qq_b⟩⟩
       ·rw [if_neg c6] at H
        exact absurd H (by simp)
      ·rw [if_neg c5] at H
       have c5b0 : ((Int.tmod x8_1 16) == 0) = false := beq_eq_false_iff_ne.mpr c5
       have c5b1 : ((Int.tmod x8_1 16) != 0) = true := bne_iff_ne.mpr c5
       have H' := QA H
       clear H
       have p469 : 0 ≤ (x8_1 : Int) := of_decide_eq_true qq_5
       have q469 : x8_1 < (l0.length : Int) := of_decide_eq_true qq_5
       obtain ⟨ad469, e469, hx469_0, hx469_1⟩ := Qhf HR0.out x8_1 p469 q469
       cases e469
       replace hx469_0 := qq_h HB.out hx469_0
       replace hx469_1 := qq_h HB.out hx469_1
       replace p469 := eq_true p469
       replace q469 := eq_true q469
       go_wp2_with (first | ((with_reducible refine Qer (N := 5) rfl ?_); refine qq_e 5 #[.int .u64 0, .int .u32 0] 122 ?_; intro gb470 hg w10 hbox hb; have n0_ := QA (Kd.R_below qq_4 hb); have n1_ := QA (Qem qq_b hb); have n2_ := QA (hbox); have n3_ := QA ((qq_s hg : w.heap.size ≤ gb470)); have n4_ := QA ((qq_s hg : w.heap.size ≤ gb470)); clear HO_3; clear HB; have HO_3 := n0_; have HB := n1_; have BK470 := n2_; have GW470 := n3_; have GE470 := n4_; clear n0_ n1_ n2_ n3_ n4_; clear hb hbox hg; have hcz11_0 := qq_c (.int .u64 0) BK470.out 0 rfl; have hcz11_1 := qq_c (.int .u32 0) BK470.out 1 rfl; have hfz11_0 := Qdt BK470.out 0; have hfz11_1 := Qdt BK470.out 1))
       go_roundg k1
       case measure => have := HK1.out; omega
       case rel => exact ⟨(x3_1), (wrap64 (x8_1 + 1)), qq_6, H', ⟨by have := HK1.out; omega⟩, ⟨by (with_reducible repeat (first | apply Kd.R_alloc | apply Kd.R_drewN | apply Kd.R_drew)); exact Kd.R_mono (Kd.R_far (p := ⟨gb470, 1, none⟩) (Kd.R_far (p := ⟨gb470, 0, none⟩) (Kd.R_types HO_3.out BK470.out (by decide)) (fun _ hk => hk.2) (.int .u64 ((Qhe l0 x8_1).f0))) (fun _ hk => hk.2) (.int .u32 ((Qhe l0 x8_1).f1))) (fun _ hk => trivial)⟩, ⟨qq_b⟩⟩
     ·rw [if_neg c4] at H
      exact absurd H (by simp)
    ·rw [if_neg c3] at H
     exact absurd H (by simp)
   ·rw [if_neg c2] at H
    have c2b0 : decide (x8_1 < (l0.length : Int)) = false := decide_eq_false c2
    clear c2
    obtain rfl := Option.some.inj H
    go_wp2
    go_ret
    exact ⟨_, by first | rfl | (simp [Qgu, Qgv] <;> rfl) | (simp [*, Qgu, Qgv] <;> rfl), by (with_reducible repeat (first | apply Kd.R_alloc | apply Kd.R_drewN | apply Kd.R_drew)); exact HO_3.out, qq_b⟩
def Qbo.l0 : Nat → ByteArray → List Int → Int → Int → Option (ByteArray)
 | 0, _, _, _, _ => none
 | k + 1, x3, x6, x7, x8 => if x8 < x7 then (if 0 ≤ x8 then (if x8 < (x6.length : Int) then ((Qar.f k (rd x6 x8) 8).bind fun t468 => (if x3.size + t468.size ≤ 9223372036854775807 then (Qbo.l0 k (x3 ++ t468) x6 x7 (wrap64 (x8 + 1))) else (none))) else (none)) else (none)) else (some x3)
def Qbo.f (k : Nat) (l0 : List Int) : Option (ByteArray) := Qbo.l0 k (⟨#[]⟩ : ByteArray) l0 (l0.length : Int) 0
theorem Qbo.calls (k : Nat) (A0 : Option Addr) (c0 : Nat) (l0 : List Int) (r : ByteArray) (w : World) (hr0 : Kd.C (Kd.int .u64) w A0 l0.length l0) (hc0 : l0.length ≤ c0) (h : Qbo.f k l0 = some r) :
  Calls Tryz.prog 122 #[.slice A0 l0.length c0] w fun e w' => e = .returned (.string r) ∧ Below w.heap.size w w' := by
 have HR0 := QA hr0
 have HC0 := QA hc0
 clear hr0 hc0
 have HB := QA (Below.refl w.heap.size w)
 have H : (Qbo.l0 k (⟨#[]⟩ : ByteArray) l0 (l0.length : Int) 0) = some r := h
 clear h
 have H' := QA H
 clear H
 go_enter Tryz.func122, Tryz.ntmps122
 go_wp2
 go_loopg [3, 8] k (fun kq v3 v8 w' => ∃ (x3_1 : ByteArray) (x8_1 : Int), v3 = .string x3_1 ∧ v8 = .int .i64 x8_1 ∧ Aside0 (Qbo.l0 kq x3_1 l0 (l0.length : Int) x8_1 = some r) ∧ Aside0 (kq ≤ k) ∧ Aside0 (Below w.heap.size w w'))
 case atStart => exact ⟨((⟨#[]⟩ : ByteArray)), (0), qq_6, qq_6, H', ⟨Nat.le_refl _⟩, ⟨qq_b⟩⟩
 case round =>
  clear H'
  obtain ⟨x3_1, x8_1, rfl, rfl, HA, HK1, HB⟩ := hrel
  cases gk with
  | zero => exact absurd HA.out (by simp [Qbo.l0])
  | succ k1 =>
   have H := HA.out
   clear HA
   simp only [Qbo.l0] at H
   by_cases c2 : x8_1 < (l0.length : Int)
   ·rw [if_pos c2] at H
    have c2b0 : decide (x8_1 < (l0.length : Int)) = true := decide_eq_true c2
    clear c2
    by_cases c3 : 0 ≤ x8_1
    ·rw [if_pos c3] at H
     have c3b0 : decide (0 ≤ x8_1) = true := decide_eq_true c3
     clear c3
     by_cases c4 : x8_1 < (l0.length : Int)
     ·rw [if_pos c4] at H
      have c4b0 : decide (x8_1 < (l0.length : Int)) = true := decide_eq_true c4
      clear c4
      replace H := Option.bind_eq_some_iff.mp H
      obtain ⟨t468, A50, H⟩ := H
      replace H : (if x3_1.size + t468.size ≤ 9223372036854775807 then (Qbo.l0 k1 (x3_1 ++ t468) l0 (l0.length : Int) (wrap64 (x8_1 + 1))) else (none)) = some r := H
      have A5 := QA A50
      clear A50
      by_cases c6 : x3_1.size + t468.size ≤ 9223372036854775807
      ·rw [if_pos c6] at H
       have c6b0 := eq_true c6
       have c6b1 : decide (x3_1.size + t468.size ≤ 9223372036854775807) = true := decide_eq_true c6
       try have c6b2 : (9223372036854775807 < x3_1.size + t468.size) = False := eq_false (Nat.not_lt.2 c6)
       have H' := QA H
       clear H
       have p467 : 0 ≤ (x8_1 : Int) := of_decide_eq_true qq_5
       have q467 : x8_1 < (l0.length : Int) := of_decide_eq_true qq_5
       obtain ⟨ad467, e467, hx467_0⟩ := Kd.at_int HR0.out x8_1 p467 q467
       cases e467
       replace hx467_0 := qq_h HB.out hx467_0
       replace p467 := eq_true p467
       replace q467 := eq_true q467
       go_wp2_with (first | ((with_reducible refine Qgp (f := 103) rfl ?_); refine Qfg (some 14) rfl rfl Tryz.func103 qq_7 rfl #[.int .u64 (rd l0 x8_1), .int .i64 8] rfl qq_1 ?_; (with_reducible refine (Qar.calls k1 (rd l0 x8_1) 8 t468 _ A5.out).mono ?_); rintro e w7 ⟨rfl, hb⟩; refine ⟨_, rfl, ?_⟩; have n0_ := QA (Qem qq_b hb); clear HB; have HB := n0_; clear n0_; (try clear hb); (try clear hb2); (try clear hk); (try clear hi)))
       go_roundg k1
       case measure => have := HK1.out; omega
       case rel => exact ⟨(x3_1 ++ t468), (wrap64 (x8_1 + 1)), qq_6, qq_6, H', ⟨by have := HK1.out; omega⟩, ⟨qq_b⟩⟩
      ·rw [if_neg c6] at H
       exact absurd H (by simp)
     ·rw [if_neg c4] at H
      exact absurd H (by simp)
    ·rw [if_neg c3] at H
     exact absurd H (by simp)
   ·rw [if_neg c2] at H
    have c2b0 : decide (x8_1 < (l0.length : Int)) = false := decide_eq_false c2
    clear c2
    obtain rfl := Option.some.inj H
    go_wp2
    go_ret
    exact ⟨by first | rfl | (simp [Qgu, Qgv] <;> rfl) | (simp [*, Qgu, Qgv] <;> rfl), qq_b⟩
def Qbq.f (k : Nat) (a0_0 : Int) (l0_1 : List (S122)) : Option (ByteArray) := (Qar.f k (IntKind.u64.wrap ((l0_1.length : Int))) 4).bind fun t475 => (if 1 + t475.size ≤ 9223372036854775807 then ((Qar.f k (IntKind.u64.wrap (a0_0)) 4).bind fun t476 => (if ((⟨#[4]⟩ : ByteArray) ++ t475).size + t476.size ≤ 9223372036854775807 then ((Qbl.f k l0_1).bind fun t477 => (if (((⟨#[4]⟩ : ByteArray) ++ t475) ++ t476).size + t477.size ≤ 9223372036854775807 then ((Qbn.f k l0_1).bind fun t478 => ((Qbo.f k t478).bind fun t481 => (if ((((⟨#[4]⟩ : ByteArray) ++ t475) ++ t476) ++ t477).size + t481.size ≤ 9223372036854775807 then ((Qbi.f k (((((⟨#[4]⟩ : ByteArray) ++ t475) ++ t476) ++ t477) ++ t481)).bind fun t482 => (some t482)) else (none)))) else (none))) else (none))) else (none))
def Qbq.T1 : Bool × List (List Nat × List Nat) := (true, [([], []), ([0], [0]), ([1], [1]), ([2], [2]), ([3], [3]), ([4], [4]), ([], []), ([6], [6]), ([7], [7]), ([8, 4], [8]), ([5, 9], [5, 9]), ([10, 9, 0, 1, 2, 3, 4, 5, 6, 7, 8, 9, 10], [10])])
def Qbq.B1 : List Nat := [0, 1, 3, 7, 15, 31, 0, 64, 192, 479, 1023, 2047]
theorem Qbq.tab1 : rtab .any (Qgb Tryz.f71 1) = Qbq.T1 := by kernel_rfl
theorem Qbq.bits1 : Qfx Qbq.T1.2 Qbq.B1 = true := by kernel_rfl
def Qbq.T2 : Bool × List (List Nat × List Nat) := (true, [([], []), ([], []), ([1], [1]), ([2], [2]), ([0, 3], [0, 3]), ([], []), ([5], [5]), ([6, 3], [6]), ([7, 7], [7]), ([4, 8], [4, 8]), ([9, 8], [9]), ([10, 10, 0, 1, 2, 3, 4, 5, 6, 7, 8, 9, 10], [10])])
def Qbq.B2 : List Nat := [0, 0, 2, 6, 15, 0, 32, 110, 238, 511, 1023, 2047]
theorem Qbq.tab2 : rtab .any (Qgb Tryz.f71 2) = Qbq.T2 := by kernel_rfl
theorem Qbq.bits2 : Qfx Qbq.T2.2 Qbq.B2 = true := by kernel_rfl
theorem Qbq.calls (k : Nat) (a0_0 : Int) (A0_1 : Option Addr) (c0_1 : Nat) (l0_1 : List (S122)) (r : ByteArray) (w : World) (hr0_1 : Kd.C k122 w A0_1 l0_1.length l0_1) (hc0_1 : l0_1.length ≤ c0_1) (h : Qbq.f k a0_0 l0_1 = some r) :
  Calls Tryz.prog 71 #[.agg #[.int .u32 a0_0, .slice A0_1 l0_1.length c0_1]] w fun e w' => e = .returned (.string r) ∧ Below w.heap.size w w' := by
 have hu131 := Tryz.underlying131
 have HR0_1 := QA hr0_1
 have HC0_1 := QA hc0_1
 clear hr0_1 hc0_1
 have HB := QA (Below.refl w.heap.size w)
 have H : ((Qar.f k (IntKind.u64.wrap ((l0_1.length : Int))) 4).bind fun t475 => (if 1 + t475.size ≤ 9223372036854775807 then ((Qar.f k (IntKind.u64.wrap (a0_0)) 4).bind fun t476 => (if ((⟨#[4]⟩ : ByteArray) ++ t475).size + t476.size ≤ 9223372036854775807 then ((Qbl.f k l0_1).bind fun t477 => (if (((⟨#[4]⟩ : ByteArray) ++ t475) ++ t476).size + t477.size ≤ 9223372036854775807 then ((Qbn.f k l0_1).bind fun t478 => ((Qbo.f k t478).bind fun t481 => (if ((((⟨#[4]⟩ : ByteArray) ++ t475) ++ t476) ++ t477).size + t481.size ≤ 9223372036854775807 then ((Qbi.f k (((((⟨#[4]⟩ : ByteArray) ++ t475) ++ t476) ++ t477) ++ t481)).bind fun t482 => (some t482)) else (none)))) else (none))) else (none))) else (none))) = some r := h
 clear h
 replace H := Option.bind_eq_some_iff.mp H
 obtain ⟨t475, A20, H⟩ := H
 replace H : (if 1 + t475.size ≤ 9223372036854775807 then ((Qar.f k (IntKind.u64.wrap (a0_0)) 4).bind fun t476 => (if ((⟨#[4]⟩ : ByteArray) ++ t475).size + t476.size ≤ 9223372036854775807 then ((Qbl.f k l0_1).bind fun t477 => (if (((⟨#[4]⟩ : ByteArray) ++ t475) ++ t476).size + t477.size ≤ 9223372036854775807 then ((Qbn.f k l0_1).bind fun t478 => ((Qbo.f k t478).bind fun t481 => (if ((((⟨#[4]⟩ : ByteArray) ++ t475) ++ t476) ++ t477).size + t481.size ≤ 9223372036854775807 then ((Qbi.f k (((((⟨#[4]⟩ : ByteArray) ++ t475) ++ t476) ++ t477) ++ t481)).bind fun t482 => (some t482)) else (none)))) else (none))) else (none))) else (none)) = some r := H
 have A2 := QA A20
 clear A20
 by_cases c3 : 1 + t475.size ≤ 9223372036854775807
 ·rw [if_pos c3] at H
  have c3b0 := eq_true c3
  have c3b1 : decide (1 + t475.size ≤ 9223372036854775807) = true := decide_eq_true c3
  try have c3b2 : (9223372036854775807 < 1 + t475.size) = False := eq_false (Nat.not_lt.2 c3)
  replace H := Option.bind_eq_some_iff.mp H
  obtain ⟨t476, A40, H⟩ := H
  replace H : (if ((⟨#[4]⟩ : ByteArray) ++ t475).size + t476.size ≤ 9223372036854775807 then ((Qbl.f k l0_1).bind fun t477 => (if (((⟨#[4]⟩ : ByteArray) ++ t475) ++ t476).size + t477.size ≤ 9223372036854775807 then ((Qbn.f k l0_1).bind fun t478 => ((Qbo.f k t478).bind fun t481 => (if ((((⟨#[4]⟩ : ByteArray) ++ t475) ++ t476) ++ t477).size + t481.size ≤ 9223372036854775807 then ((Qbi.f k (((((⟨#[4]⟩ : ByteArray) ++ t475) ++ t476) ++ t477) ++ t481)).bind fun t482 => (some t482)) else (none)))) else (none))) else (none)) = some r := H
  have A4 := QA A40
  clear A40
  by_cases c5 : ((⟨#[4]⟩ : ByteArray) ++ t475).size + t476.size ≤ 9223372036854775807
  ·rw [if_pos c5] at H
   have c5b0 := eq_true c5
   have c5b1 : decide (((⟨#[4]⟩ : ByteArray) ++ t475).size + t476.size ≤ 9223372036854775807) = true := decide_eq_true c5
   try have c5b2 : (9223372036854775807 < ((⟨#[4]⟩ : ByteArray) ++ t475).size + t476.size) = False := eq_false (Nat.not_lt.2 c5)
   try have c5b3 := c5b2
   try simp only [ByteArray.size_append, (show ∀ x_ : UInt8, (⟨#[x_]⟩ : ByteArray).size = 1 from fun _ => rfl), (show ∀ x_ y_ : UInt8, (⟨#[x_, y_]⟩ : ByteArray).size = 2 from fun _ _ => rfl)] at c5b3
   replace H := Option.bind_eq_some_iff.mp H
   obtain ⟨t477, A60, H⟩ := H
   replace H : (if (((⟨#[4]⟩ : ByteArray) ++ t475) ++ t476).size + t477.size ≤ 9223372036854775807 then ((Qbn.f k l0_1).bind fun t478 => ((Qbo.f k t478).bind fun t481 => (if ((((⟨#[4]⟩ : ByteArray) ++ t475) ++ t476) ++ t477).size + t481.size ≤ 9223372036854775807 then ((Qbi.f k (((((⟨#[4]⟩ : ByteArray) ++ t475) ++ t476) ++ t477) ++ t481)).bind fun t482 => (some t482)) else (none)))) else (none)) = some r := H
   have A6 := QA A60
   clear A60
   by_cases c7 : (((⟨#[4]⟩ : ByteArray) ++ t475) ++ t476).size + t477.size ≤ 9223372036854775807
   ·rw [if_pos c7] at H
    have c7b0 := eq_true c7
    have c7b1 : decide ((((⟨#[4]⟩ : ByteArray) ++ t475) ++ t476).size + t477.size ≤ 9223372036854775807) = true := decide_eq_true c7
    try have c7b2 : (9223372036854775807 < (((⟨#[4]⟩ : ByteArray) ++ t475) ++ t476).size + t477.size) = False := eq_false (Nat.not_lt.2 c7)
    try have c7b3 := c7b2
    try simp only [ByteArray.size_append, (show ∀ x_ : UInt8, (⟨#[x_]⟩ : ByteArray).size = 1 from fun _ => rfl), (show ∀ x_ y_ : UInt8, (⟨#[x_, y_]⟩ : ByteArray).size = 2 from fun _ _ => rfl)] at c7b3
    replace H := Option.bind_eq_some_iff.mp H
    obtain ⟨t478, A80, H⟩ := H
    replace H : ((Qbo.f k t478).bind fun t481 => (if ((((⟨#[4]⟩ : ByteArray) ++ t475) ++ t476) ++ t477).size + t481.size ≤ 9223372036854775807 then ((Qbi.f k (((((⟨#[4]⟩ : ByteArray) ++ t475) ++ t476) ++ t477) ++ t481)).bind fun t482 => (some t482)) else (none))) = some r := H
    have A8 := QA A80
    clear A80
    replace H := Option.bind_eq_some_iff.mp H
    obtain ⟨t481, A90, H⟩ := H
    replace H : (if ((((⟨#[4]⟩ : ByteArray) ++ t475) ++ t476) ++ t477).size + t481.size ≤ 9223372036854775807 then ((Qbi.f k (((((⟨#[4]⟩ : ByteArray) ++ t475) ++ t476) ++ t477) ++ t481)).bind fun t482 => (some t482)) else (none)) = some r := H
    have A9 := QA A90
    clear A90
    by_cases c10 : ((((⟨#[4]⟩ : ByteArray) ++ t475) ++ t476) ++ t477).size + t481.size ≤ 9223372036854775807
    ·rw [if_pos c10] at H
     have c10b0 := eq_true c10
     have c10b1 : decide (((((⟨#[4]⟩ : ByteArray) ++ t475) ++ t476) ++ t477).size + t481.size ≤ 9223372036854775807) = true := decide_eq_true c10
     try have c10b2 : (9223372036854775807 < ((((⟨#[4]⟩ : ByteArray) ++ t475) ++ t476) ++ t477).size + t481.size) = False := eq_false (Nat.not_lt.2 c10)
     try have c10b3 := c10b2
     try simp only [ByteArray.size_append, (show ∀ x_ : UInt8, (⟨#[x_]⟩ : ByteArray).size = 1 from fun _ => rfl), (show ∀ x_ y_ : UInt8, (⟨#[x_, y_]⟩ : ByteArray).size = 2 from fun _ _ => rfl)] at c10b3
     replace H := Option.bind_eq_some_iff.mp H
     obtain ⟨t482, A110, H⟩ := H
     replace H : (some t482) = some r := H
     have A11 := QA A110
     clear A110
     obtain rfl := Option.some.inj H
     go_enter Tryz.func71, Tryz.ntmps71
     try go_wp2_with (first | ((with_reducible refine Qer (N := 1) rfl ?_); refine qq_e 1 #[.int .u32 a0_0, .slice A0_1 l0_1.length c0_1] 131 ?_; intro gb474 hg w12 hbox hb; have n0_ := QA (Qem qq_b hb); have n1_ := QA (hbox); have n2_ := QA ((qq_s hg : w.heap.size ≤ gb474)); have n3_ := QA ((qq_s hg : w.heap.size ≤ gb474)); clear HB; have HB := n0_; have BK474 := n1_; have GW474 := n2_; have GE474 := n3_; clear n0_ n1_ n2_ n3_; clear hb hbox hg))
     have n0_ := QA (Qdz BK474.out)
     have n1_ := QA (Qeq HB.out)
     clear BK474
     clear HB
     have BK474 := n0_
     have HB := n1_
     clear n0_ n1_
     refine Qez (n := 12) (S := fun w' => w'.cell? ⟨gb474, 0, none⟩ = some (.int .u32 a0_0) ∧ w'.cell? ⟨gb474, 1, none⟩ = some (.slice A0_1 l0_1.length c0_1)) (ds := []) #[false, false, false, false, false, false, false, false, false, false, false, false] qq_7 rfl rfl ⟨(Qds BK474.out 0).trans rfl, (Qds BK474.out 1).trans rfl⟩ (fun hHeld => ?_); refine Qfz Qbq.tab1 Qbq.bits1 (fun HT_ HW_ => ?_)
     generalize w12.drew = w13 at BK474 HB hHeld ⊢
     refine Qfa (i := 0) (N := some 4) (v := ?_) (a' := ?_) #[true, false, false, false, false, false, false, false, false, false, false, false] rfl rfl (Qft HT_.out qq_7) (fun _ _ _ h => h) (Or.inl ⟨by rfl, ?_⟩) ?_ ?_
     rotate_left
     ·intro w'
      go_simp
      with_reducible rfl
     rotate_left
     ·exact qq_2
     refine Qfa (i := 6) (N := some 10) (v := ?_) (a' := ?_) #[true, false, false, false, false, false, true, false, false, false, false, false] rfl rfl (Qft HT_.out qq_7) (fun _ _ _ h => h) (Or.inl ⟨by rfl, ?_⟩) ?_ ?_
     rotate_left
     ·intro w'
      go_simp
      with_reducible rfl
     rotate_left
     ·exact qq_2
     refine take_ (i := 1) (N := some 5) (v := ?_) (a' := ?_) #[true, true, false, false, false, false, true, false, false, false, false, false] rfl rfl (Qfy HT_.out HW_.out qq_7) (fun _ _ _ h => h) (Or.inl ⟨by rfl, ?_⟩) hHeld ?_ ?_
     rotate_left
     ·rintro w' ⟨s0, s1⟩
      go_simp
      with_reducible rfl
     rotate_left
     ·exact qq_2
     refine Qfa (i := 2) (N := some 6) (v := ?_) (a' := ?_) #[true, true, true, false, false, false, true, false, false, false, false, false] rfl rfl (Qft HT_.out qq_7) (fun _ _ _ h => h) (Or.inl ⟨by rfl, ?_⟩) ?_ ?_
     rotate_left
     ·intro w'
      go_simp
      with_reducible rfl
     rotate_left
     ·exact qq_2
     refine Qfa (i := 3) (N := some 7) (v := ?_) (a' := ?_) #[true, true, true, true, false, false, true, false, false, false, false, false] rfl rfl (Qft HT_.out qq_7) (fun _ _ _ h => h) (Or.inl ⟨by rfl, ?_⟩) ?_ ?_
     rotate_left
     ·intro w'
      go_simp
      with_reducible rfl
     rotate_left
     ·exact qq_2
     refine take_ (i := 7) (N := some 11) (v := ?_) (a' := ?_) #[true, true, true, true, false, false, true, true, false, false, false, false] rfl rfl (Qfy HT_.out HW_.out qq_7) (fun _ _ _ h => h) (Or.inl ⟨by rfl, ?_⟩) hHeld ?_ ?_
     rotate_left
     ·rintro w' ⟨s0, s1⟩
      go_simp
      with_reducible rfl
     rotate_left
     ·exact qq_2
     refine Qfa (i := 8) (N := some 12) (v := ?_) (a' := ?_) #[true, true, true, true, false, false, true, true, true, false, false, false] rfl rfl (Qft HT_.out qq_7) (fun _ _ _ h => h) (Or.inl ⟨by rfl, ?_⟩) ?_ ?_
     rotate_left
     ·intro w'
      go_simp
      with_reducible rfl
     rotate_left
     ·exact qq_2
     refine one_ (i := 4) (N := some 8) #[true, true, true, true, true, false, true, true, true, false, false, false] rfl rfl (Qfu HT_.out qq_7) (by decide) (fun K hK => ?_)
     refine Qff Tryz.func103 qq_7 rfl #[.int .u64 (IntKind.u64.wrap ((l0_1.length : Int))), .int .i64 4] (by rfl) rfl rfl qq_1 ?_
     with_reducible refine (Qar.calls k (IntKind.u64.wrap ((l0_1.length : Int))) 4 t475 _ A2.out).mono ?_
     rintro e w14 ⟨rfl, hb⟩
     refine ⟨_, rfl, ?_⟩
     have n0_ := QA (Qeb (g := gb474) (o := .cells #[.int .u32 a0_0, .slice A0_1 l0_1.length c0_1] 131 (0, 0)) qq_0 hb)
     have n1_ := QA (Qem qq_b hb)
     clear BK474
     clear HB
     have BK474 := n0_
     have HB := n1_
     clear n0_ n1_
     (try clear hb)
     (try clear hb2)
     (try clear hk)
     (try clear hi)
     refine hK.out _ _ ⟨(Qds BK474.out 0).trans rfl, (Qds BK474.out 1).trans rfl⟩ (fun hHeld => ?_)
     clear hK K
     refine Qfe (a' := ?_) ?_ ?_
     rotate_left
     ·show Act.put _ (some 8) _ = _
      simp only [Act.put, List.setIfInBounds_toArray, List.set_cons_zero, List.set_cons_succ, Qfi, Qfj]
      rfl
     refine Qfa (i := 5) (N := some 9) (v := ?_) (a' := ?_) #[true, true, true, true, true, true, true, true, true, false, false, false] rfl rfl (Qft HT_.out qq_7) (fun _ _ _ h => h) (Or.inl ⟨by rfl, ?_⟩) ?_ ?_
     rotate_left
     ·intro w'
      go_simp
      with_reducible rfl
     rotate_left
     ·exact qq_2
     refine one_ (i := 9) (N := some 13) #[true, true, true, true, true, true, true, true, true, true, false, false] rfl rfl (Qfu HT_.out qq_7) (by decide) (fun K hK => ?_)
     refine Qff Tryz.func103 qq_7 rfl #[.int .u64 (IntKind.u64.wrap (a0_0)), .int .i64 4] (by rfl) rfl rfl qq_1 ?_
     with_reducible refine (Qar.calls k (IntKind.u64.wrap (a0_0)) 4 t476 _ A4.out).mono ?_
     rintro e w15 ⟨rfl, hb⟩
     refine ⟨_, rfl, ?_⟩
     have n0_ := QA (Qeb (g := gb474) (o := .cells #[.int .u32 a0_0, .slice A0_1 l0_1.length c0_1] 131 (0, 0)) qq_0 hb)
     have n1_ := QA (Qem qq_b hb)
     clear BK474
     clear HB
     have BK474 := n0_
     have HB := n1_
     clear n0_ n1_
     (try clear hb)
     (try clear hb2)
     (try clear hk)
     (try clear hi)
     refine hK.out _ _ ⟨(Qds BK474.out 0).trans rfl, (Qds BK474.out 1).trans rfl⟩ (fun hHeld => ?_)
     clear hK K
     refine Qfe (a' := ?_) ?_ ?_
     rotate_left
     ·show Act.put _ (some 13) _ = _
      simp only [Act.put, List.setIfInBounds_toArray, List.set_cons_zero, List.set_cons_succ, Qfi, Qfj]
      rfl
     refine Qfa (i := 10) (N := some 14) (v := ?_) (a' := ?_) #[true, true, true, true, true, true, true, true, true, true, true, false] rfl rfl (Qft HT_.out qq_7) (fun _ _ _ h => h) (Or.inl ⟨by rfl, ?_⟩) ?_ ?_
     rotate_left
     ·intro w'
      go_simp
      with_reducible rfl
     rotate_left
     ·exact qq_2
     refine Qfa (i := 11) (N := some 3) (v := ?_) (a' := ?_) #[true, true, true, true, true, true, true, true, true, true, true, true] rfl rfl (Qft HT_.out qq_7) (fun _ _ _ h => h) (Or.inl ⟨by rfl, ?_⟩) ?_ ?_
     rotate_left
     ·intro w'
      go_simp
      with_reducible rfl
     rotate_left
     ·exact qq_2
     refine Qfc (Qfw HT_.out qq_7) ?_
     try go_wp2
     have n0_ := QA (Qdz BK474.out)
     have n1_ := QA (Qeq HB.out)
     clear BK474
     clear HB
     have BK474 := n0_
     have HB := n1_
     clear n0_ n1_
     refine Qez (n := 12) (S := fun w' => w'.cell? ⟨gb474, 0, none⟩ = some (.int .u32 a0_0) ∧ w'.cell? ⟨gb474, 1, none⟩ = some (.slice A0_1 l0_1.length c0_1)) (ds := []) #[false, false, false, false, false, false, false, false, false, false, false, false] qq_7 rfl rfl ⟨(Qds BK474.out 0).trans rfl, (Qds BK474.out 1).trans rfl⟩ (fun hHeld => ?_); refine Qfz Qbq.tab2 Qbq.bits2 (fun HT_ HW_ => ?_)
     generalize w15.drew = w16 at BK474 HB hHeld ⊢
     refine Qfa (i := 0) (N := some 15) (v := ?_) (a' := ?_) #[true, false, false, false, false, false, false, false, false, false, false, false] rfl rfl (Qft HT_.out qq_7) (fun _ _ _ h => h) (Or.inl ⟨by rfl, ?_⟩) ?_ ?_
     rotate_left
     ·intro w'
      go_simp
      with_reducible rfl
     rotate_left
     ·exact qq_2
     refine Qfa (i := 1) (N := some 16) (v := ?_) (a' := ?_) #[true, true, false, false, false, false, false, false, false, false, false, false] rfl rfl (Qft HT_.out qq_7) (fun _ _ _ h => h) (Or.inl ⟨by rfl, ?_⟩) ?_ ?_
     rotate_left
     ·intro w'
      go_simp
      with_reducible rfl
     rotate_left
     ·exact qq_2
     refine Qfa (i := 5) (N := some 20) (v := ?_) (a' := ?_) #[true, true, false, false, false, true, false, false, false, false, false, false] rfl rfl (Qft HT_.out qq_7) (fun _ _ _ h => h) (Or.inl ⟨by rfl, ?_⟩) ?_ ?_
     rotate_left
     ·intro w'
      go_simp
      with_reducible rfl
     rotate_left
     ·exact qq_2
     refine take_ (i := 2) (N := some 17) (v := ?_) (a' := ?_) #[true, true, true, false, false, true, false, false, false, false, false, false] rfl rfl (Qfy HT_.out HW_.out qq_7) (fun _ _ _ h => h) (Or.inl ⟨by rfl, ?_⟩) hHeld ?_ ?_
     rotate_left
     ·rintro w' ⟨s0, s1⟩
      go_simp
      with_reducible rfl
     rotate_left
     ·exact qq_2
     refine take_ (i := 6) (N := some 21) (v := ?_) (a' := ?_) #[true, true, true, false, false, true, true, false, false, false, false, false] rfl rfl (Qfy HT_.out HW_.out qq_7) (fun _ _ _ h => h) (Or.inl ⟨by rfl, ?_⟩) hHeld ?_ ?_
     rotate_left
     ·rintro w' ⟨s0, s1⟩
      go_simp
      with_reducible rfl
     rotate_left
     ·exact qq_2
     refine one_ (i := 3) (N := some 18) #[true, true, true, true, false, true, true, false, false, false, false, false] rfl rfl (Qfu HT_.out qq_7) (by decide) (fun K hK => ?_)
     refine Qff Tryz.func121 qq_7 rfl #[.slice A0_1 l0_1.length c0_1] (by rfl) rfl rfl qq_1 ?_
     with_reducible refine (Qbl.calls k _ _ l0_1 t477 _ ?side1 ?side2 A6.out).mono ?_
     (case side1 => repeat (first | exact (Kd.C_below HR0_1.out HB.out) | (with_reducible refine Kd.C_alloc ?_ _) | (with_reducible refine Kd.C_drewN ?_ _) | (with_reducible refine Kd.C_drew ?_)))
     (case side2 => exact HC0_1.out)
     rintro e w17 ⟨rfl, hb⟩
     refine ⟨_, rfl, ?_⟩
     have n0_ := QA (Qeb (g := gb474) (o := .cells #[.int .u32 a0_0, .slice A0_1 l0_1.length c0_1] 131 (0, 0)) qq_0 hb)
     have n1_ := QA (Qem qq_b hb)
     clear BK474
     clear HB
     have BK474 := n0_
     have HB := n1_
     clear n0_ n1_
     (try clear hb)
     (try clear hb2)
     (try clear hk)
     (try clear hi)
     refine hK.out _ _ ⟨(Qds BK474.out 0).trans rfl, (Qds BK474.out 1).trans rfl⟩ (fun hHeld => ?_)
     clear hK K
     refine Qfe (a' := ?_) ?_ ?_
     rotate_left
     ·show Act.put _ (some 18) _ = _
      simp only [Act.put, List.setIfInBounds_toArray, List.set_cons_zero, List.set_cons_succ, Qfi, Qfj]
      rfl
     refine Qfa (i := 4) (N := some 19) (v := ?_) (a' := ?_) #[true, true, true, true, true, true, true, false, false, false, false, false] rfl rfl (Qft HT_.out qq_7) (fun _ _ _ h => h) (Or.inl ⟨by rfl, ?_⟩) ?_ ?_
     rotate_left
     ·intro w'
      go_simp
      with_reducible rfl
     rotate_left
     ·exact qq_2
     refine one_ (i := 7) (N := some 22) #[true, true, true, true, true, true, true, true, false, false, false, false] rfl rfl (Qfu HT_.out qq_7) (by decide) (fun K hK => ?_)
     refine Qff Tryz.func123 qq_7 rfl #[.slice A0_1 l0_1.length c0_1] (by rfl) rfl rfl qq_1 ?_
     with_reducible refine (Qbn.calls k _ _ l0_1 t478 _ ?side1 ?side2 A8.out).mono ?_
     (case side1 => repeat (first | exact (Kd.C_below HR0_1.out HB.out) | (with_reducible refine Kd.C_alloc ?_ _) | (with_reducible refine Kd.C_drewN ?_ _) | (with_reducible refine Kd.C_drew ?_)))
     (case side2 => exact HC0_1.out)
     rintro e w18 ⟨v479, rfl, ho0, hb⟩
     refine ⟨_, rfl, ?_⟩
     have n0_ := QA (Kd.R_lower ho0 (Qel qq_b))
     have n1_ := QA (Qeb (g := gb474) (o := .cells #[.int .u32 a0_0, .slice A0_1 l0_1.length c0_1] 131 (0, 0)) qq_0 hb)
     have n2_ := QA (Qem qq_b hb)
     clear BK474
     clear HB
     have HO480 := n0_
     have BK474 := n1_
     have HB := n2_
     clear n0_ n1_ n2_
     (try clear hb)
     (try clear hb2)
     (try clear hk)
     (try clear hi)
     (try clear ho0)
     obtain ⟨Ao19, co19, eo19⟩ := Kd.R_slice HO480.out
     (first | subst eo19 | (injection eo19 with f1_ f2_ f3_; have f4_ := f1_.symm; have f5_ := f3_.symm; clear f1_ f2_ f3_; subst f4_; subst f5_))
     refine hK.out _ _ ⟨(Qds BK474.out 0).trans rfl, (Qds BK474.out 1).trans rfl⟩ (fun hHeld => ?_)
     clear hK K
     refine Qfe (a' := ?_) ?_ ?_
     rotate_left
     ·show Act.put _ (some 22) _ = _
      simp only [Act.put, List.setIfInBounds_toArray, List.set_cons_zero, List.set_cons_succ, Qfi, Qfj]
      rfl
     refine one_ (i := 8) (N := some 23) #[true, true, true, true, true, true, true, true, true, false, false, false] rfl rfl (Qfu HT_.out qq_7) (by decide) (fun K hK => ?_)
     refine Qff Tryz.func122 qq_7 rfl #[.slice Ao19 t478.length co19] (by rfl) rfl rfl qq_1 ?_
     with_reducible refine (Qbo.calls k _ _ t478 t481 _ ?side1 ?side2 A9.out).mono ?_
     (case side1 => repeat (first | exact (Kd.R_reads' HO480.out).2.2 | (with_reducible refine Kd.C_alloc ?_ _) | (with_reducible refine Kd.C_drewN ?_ _) | (with_reducible refine Kd.C_drew ?_)))
     (case side2 => exact (Kd.R_reads' HO480.out).2.1)
     rintro e w20 ⟨rfl, hb⟩
     refine ⟨_, rfl, ?_⟩
     have n0_ := QA (Kd.R_below qq_4 hb)
     have n1_ := QA (Qeb (g := gb474) (o := .cells #[.int .u32 a0_0, .slice A0_1 l0_1.length c0_1] 131 (0, 0)) qq_0 hb)
     have n2_ := QA (Qem qq_b hb)
     clear HO480
     clear BK474
     clear HB
     have HO480 := n0_
     have BK474 := n1_
     have HB := n2_
     clear n0_ n1_ n2_
     (try clear hb)
     (try clear hb2)
     (try clear hk)
     (try clear hi)
     refine hK.out _ _ ⟨(Qds BK474.out 0).trans rfl, (Qds BK474.out 1).trans rfl⟩ (fun hHeld => ?_)
     clear hK K
     refine Qfe (a' := ?_) ?_ ?_
     rotate_left
     ·show Act.put _ (some 23) _ = _
      simp only [Act.put, List.setIfInBounds_toArray, List.set_cons_zero, List.set_cons_succ, Qfi, Qfj]
      rfl
     refine Qfa (i := 9) (N := some 24) (v := ?_) (a' := ?_) #[true, true, true, true, true, true, true, true, true, true, false, false] rfl rfl (Qft HT_.out qq_7) (fun _ _ _ h => h) (Or.inl ⟨by rfl, ?_⟩) ?_ ?_
     rotate_left
     ·intro w'
      go_simp
      with_reducible rfl
     rotate_left
     ·exact qq_2
     refine one_ (i := 10) (N := some 25) #[true, true, true, true, true, true, true, true, true, true, true, false] rfl rfl (Qfu HT_.out qq_7) (by decide) (fun K hK => ?_)
     refine Qff Tryz.func61 qq_7 rfl #[.string (((((⟨#[4]⟩ : ByteArray) ++ t475) ++ t476) ++ t477) ++ t481)] (by rfl) rfl rfl qq_1 ?_
     with_reducible refine (Qbi.calls k (((((⟨#[4]⟩ : ByteArray) ++ t475) ++ t476) ++ t477) ++ t481) t482 _ A11.out).mono ?_
     rintro e w21 ⟨rfl, hb⟩
     refine ⟨_, rfl, ?_⟩
     have n0_ := QA (Kd.R_below qq_4 hb)
     have n1_ := QA (Qeb (g := gb474) (o := .cells #[.int .u32 a0_0, .slice A0_1 l0_1.length c0_1] 131 (0, 0)) qq_0 hb)
     have n2_ := QA (Qem qq_b hb)
     clear HO480
     clear BK474
     clear HB
     have HO480 := n0_
     have BK474 := n1_
     have HB := n2_
     clear n0_ n1_ n2_
     (try clear hb)
     (try clear hb2)
     (try clear hk)
     (try clear hi)
     refine hK.out _ _ ⟨(Qds BK474.out 0).trans rfl, (Qds BK474.out 1).trans rfl⟩ (fun hHeld => ?_)
     clear hK K
     refine Qfe (a' := ?_) ?_ ?_
     rotate_left
     ·show Act.put _ (some 25) _ = _
      simp only [Act.put, List.setIfInBounds_toArray, List.set_cons_zero, List.set_cons_succ, Qfi, Qfj]
      rfl
     refine Qfa (i := 11) (N := some 2) (v := ?_) (a' := ?_) #[true, true, true, true, true, true, true, true, true, true, true, true] rfl rfl (Qft HT_.out qq_7) (fun _ _ _ h => h) (Or.inl ⟨by rfl, ?_⟩) ?_ ?_
     rotate_left
     ·intro w'
      go_simp
      with_reducible rfl
     rotate_left
     ·exact qq_2
     refine Qfc (Qfw HT_.out qq_7) ?_
     try go_wp2
     go_ret
     exact ⟨by first | rfl | (simp [Qgu, Qgv] <;> rfl) | (simp [*, Qgu, Qgv] <;> rfl), qq_b⟩
    ·rw [if_neg c10] at H
     exact absurd H (by simp)
   ·rw [if_neg c7] at H
    exact absurd H (by simp)
  ·rw [if_neg c5] at H
   exact absurd H (by simp)
 ·rw [if_neg c3] at H
  exact absurd H (by simp)
end Go.Proofs.YtnnofopfbeklbaaGreat.C
end
