/- Texts of this claim's author and of the print of its functions, merged by merge.py. -/
import Derived.Test.YtnnofopfbeklbaaGreatME02
import Derived.Test.YtnnofopfbeklbaaGreatME03
import Derived.Test.YtnnofopfbeklbaaGreatME06
import Derived.Test.YtnnofopfbeklbaaGreatME08
set_option linter.unusedVariables false
set_option linter.unusedSimpArgs false
set_option maxHeartbeats 8000000
set_option maxRecDepth 100000
section
namespace Go.Proofs.YtnnofopfbeklbaaGreat.C
open Go.RowKit Go.Proofs.YtnnofopfbeklbaaGreatW.PrintWords Go.Proofs.YtnnofopfbeklbaaGreatW.PrintLast Go.Proofs.YtnnofopfbeklbaaGreatW.PrintMore
attribute [local go_sem] Qeh Qei Qej Qek Qel Qem Qen Qeo
mutual
def Qbl.l0 : Nat → List (S39) → List (S39) → Int → Int → Option (Int)
 | 0, _, _, _, _ => none
 | k + 1, x0, x7, x8, x9 => if x9 < x8 then (if 0 ≤ x9 then (if x9 < (x7.length : Int) then ((Qbk.f k ((Qev x7 x9).f0) ((Qev x7 x9).f1) ((Qev x7 x9).f2) ((Qev x7 x9).f3)).bind fun t147 => (if t147 = 0 then (Qbl.l0 k x0 x7 x8 (wrap64 (x9 + 1))) else (some t147))) else (none)) else (none)) else (Qbl.l1 k x0 1)
def Qbl.l1 : Nat → List (S39) → Int → Option (Int)
 | 0, _, _ => none
 | k + 1, x0, x6 => if x6 < (x0.length : Int) then (if 0 ≤ x6 then (if 0 ≤ (wrap64 (x6 - 1)) then (if (wrap64 (x6 - 1)) < (x0.length : Int) then (if ((Qev x0 x6).f1) ≤ ((Qev x0 (wrap64 (x6 - 1))).f1) then (some 8) else (Qbl.l1 k x0 (wrap64 (x6 + 1)))) else (none)) else (none)) else (none)) else (some 0)
end
def Qbl.f (k : Nat) (l0 : List (S39)) : Option (Int) := Qbl.l0 k l0 l0 (l0.length : Int) 0
theorem Qbl.calls (k : Nat) (A0 : Option Addr) (c0 : Nat) (l0 : List (S39)) (r : Int) (w : World) (hr0 : Kd.C k39 w A0 l0.length l0) (hc0 : l0.length ≤ c0) (h : Qbl.f k l0 = some r) :
  Calls Tryz.prog 124 #[.slice A0 l0.length c0] w fun e w' => e = .returned (.int .i64 r) ∧ Below w.heap.size w w' := by
 have hu39 := Tryz.underlying39
 have HR0 := QA hr0
 have HC0 := QA hc0
 clear hr0 hc0
 have HB := QA (Below.refl w.heap.size w)
 have H : (Qbl.l0 k l0 l0 (l0.length : Int) 0) = some r := h
 clear h
 have H' := QA H
 clear H
 go_enter Tryz.func124, Tryz.ntmps124
 go_wp2
 repeat (go_quiet (fail); try go_wp2)
 go_loopg [9] k (fun kq v9 w' => ∃ (x9_1 : Int), v9 = .int .i64 x9_1 ∧ Aside0 (Qbl.l0 kq l0 l0 (l0.length : Int) x9_1 = some r) ∧ Aside0 (kq ≤ k) ∧ Aside0 (Below w.heap.size w w'))
 case atStart => exact ⟨(0), qq_8, H', ⟨Nat.le_refl _⟩, ⟨qq_b⟩⟩
 case round =>
  clear H'
  obtain ⟨x9_1, rfl, HA, HK1, HB⟩ := hrel
  cases gk with
  | zero => exact absurd HA.out (by simp [Qbl.l0])
  | succ k1 =>
   have H := HA.out
   clear HA
   simp only [Qbl.l0] at H
   by_cases c2 : x9_1 < (l0.length : Int)
   ·rw [if_pos c2] at H
    have c2b0 : decide (x9_1 < (l0.length : Int)) = true := decide_eq_true c2
    clear c2
    by_cases c3 : 0 ≤ x9_1
    ·rw [if_pos c3] at H
     have c3b0 : decide (0 ≤ x9_1) = true := decide_eq_true c3
     clear c3
     by_cases c4 : x9_1 < (l0.length : Int)
     ·rw [if_pos c4] at H
      have c4b0 : decide (x9_1 < (l0.length : Int)) = true := decide_eq_true c4
      clear c4
      replace H := Option.bind_eq_some_iff.mp H
      obtain ⟨t147, A50, H⟩ := H
      replace H : (if t147 = 0 then (Qbl.l0 k1 l0 l0 (l0.length : Int) (wrap64 (x9_1 + 1))) else (some t147)) = some r := H
      have A5 := QA A50
      clear A50
      by_cases c6 : t147 = 0
      ·rw [if_pos c6] at H
       have c6b0 : (t147 == 0) = true := beq_iff_eq.mpr c6
       have c6b1 : (t147 != 0) = false := bne_eq_false_iff_eq.mpr c6
       clear c6
       have H' := QA H
       clear H
       have p145 : 0 ≤ (x9_1 : Int) := of_decide_eq_true qq_5
       have q145 : x9_1 < (l0.length : Int) := of_decide_eq_true qq_5
       obtain ⟨ad145, e145, hx145_0, hx145_1, hx145_2, hx145_3⟩ := Qew HR0.out x9_1 p145 q145
       cases e145
       replace hx145_0 := qq_h HB.out hx145_0
       replace hx145_1 := qq_h HB.out hx145_1
       replace hx145_2 := qq_h HB.out hx145_2
       replace hx145_3 := qq_h HB.out hx145_3
       replace p145 := eq_true p145
       replace q145 := eq_true q145
       go_wp2_with (first | ((with_reducible refine Qde (N := 4) rfl ?_); refine qq_e 4 #[.bool false, .int .u64 0, .string (⟨#[]⟩ : ByteArray), .string (⟨#[]⟩ : ByteArray)] 39 ?_; intro gb146 hg w7 hbox hb; have n0_ := QA (Qcz qq_b hb); have n1_ := QA (hbox); have n2_ := QA ((qq_s hg : w.heap.size ≤ gb146)); have n3_ := QA ((qq_s hg : w.heap.size ≤ gb146)); clear HB; have HB := n0_; have BK146 := n1_; have GW146 := n2_; have GE146 := n3_; clear n0_ n1_ n2_ n3_; clear hb hbox hg; have hcz8_0 := qq_c (.bool false) BK146.out 0 rfl; have hcz8_1 := qq_c (.int .u64 0) BK146.out 1 rfl; have hcz8_2 := qq_c (.string (⟨#[]⟩ : ByteArray)) BK146.out 2 rfl; have hcz8_3 := qq_c (.string (⟨#[]⟩ : ByteArray)) BK146.out 3 rfl; have hfz8_0 := Qck BK146.out 0; have hfz8_1 := Qck BK146.out 1; have hfz8_2 := Qck BK146.out 2; have hfz8_3 := Qck BK146.out 3) | (go_at_call 56; (with_reducible refine (Qbk.calls k1 ((Qev l0 x9_1).f0) ((Qev l0 x9_1).f1) ((Qev l0 x9_1).f2) ((Qev l0 x9_1).f3) t147 _ A5.out).mono ?_); rintro e w9 ⟨rfl, hb⟩; have n0_ := QA (Qcs (g := gb146) (o := .cells #[.bool ((Qev l0 x9_1).f0), .int .u64 ((Qev l0 x9_1).f1), .string ((Qev l0 x9_1).f2), .string ((Qev l0 x9_1).f3)] 39 (0, 0)) (by (with_reducible repeat (first | apply Qcr | apply Qcq | apply Qcp)); refine Qdb (cs := #[.bool ((Qev l0 x9_1).f0), .int .u64 ((Qev l0 x9_1).f1), .string ((Qev l0 x9_1).f2), .string (⟨#[]⟩ : ByteArray)]) ?_ 3 _ rfl; (with_reducible repeat (first | apply Qcr | apply Qcq | apply Qcp)); refine Qdb (cs := #[.bool ((Qev l0 x9_1).f0), .int .u64 ((Qev l0 x9_1).f1), .string (⟨#[]⟩ : ByteArray), .string (⟨#[]⟩ : ByteArray)]) ?_ 2 _ rfl; (with_reducible repeat (first | apply Qcr | apply Qcq | apply Qcp)); refine Qdb (cs := #[.bool ((Qev l0 x9_1).f0), .int .u64 0, .string (⟨#[]⟩ : ByteArray), .string (⟨#[]⟩ : ByteArray)]) ?_ 1 _ rfl; (with_reducible repeat (first | apply Qcr | apply Qcq | apply Qcp)); refine Qdb (cs := #[.bool false, .int .u64 0, .string (⟨#[]⟩ : ByteArray), .string (⟨#[]⟩ : ByteArray)]) ?_ 0 _ rfl; (with_reducible repeat (first | apply Qcr | apply Qcq | apply Qcp)); exact BK146.out) hb); have n1_ := QA (Qcz qq_b hb); clear BK146; clear HB; have BK146 := n0_; have HB := n1_; clear n0_ n1_; (try clear hb); (try clear hb2); (try clear hk); (try clear hi)))
       go_roundg k1
       case measure => have := HK1.out; omega
       case rel => exact ⟨(wrap64 (x9_1 + 1)), qq_8, H', ⟨by have := HK1.out; omega⟩, ⟨qq_b⟩⟩
      ·rw [if_neg c6] at H
       have c6b0 : (t147 == 0) = false := beq_eq_false_iff_ne.mpr c6
       have c6b1 : (t147 != 0) = true := bne_iff_ne.mpr c6
       obtain rfl := Option.some.inj H
       have p145 : 0 ≤ (x9_1 : Int) := of_decide_eq_true qq_5
       have q145 : x9_1 < (l0.length : Int) := of_decide_eq_true qq_5
       obtain ⟨ad145, e145, hx145_0, hx145_1, hx145_2, hx145_3⟩ := Qew HR0.out x9_1 p145 q145
       cases e145
       replace hx145_0 := qq_h HB.out hx145_0
       replace hx145_1 := qq_h HB.out hx145_1
       replace hx145_2 := qq_h HB.out hx145_2
       replace hx145_3 := qq_h HB.out hx145_3
       replace p145 := eq_true p145
       replace q145 := eq_true q145
       go_wp2_with (first | ((with_reducible refine Qde (N := 4) rfl ?_); refine qq_e 4 #[.bool false, .int .u64 0, .string (⟨#[]⟩ : ByteArray), .string (⟨#[]⟩ : ByteArray)] 39 ?_; intro gb146 hg w10 hbox hb; have n0_ := QA (Qcz qq_b hb); have n1_ := QA (hbox); have n2_ := QA ((qq_s hg : w.heap.size ≤ gb146)); have n3_ := QA ((qq_s hg : w.heap.size ≤ gb146)); clear HB; have HB := n0_; have BK146 := n1_; have GW146 := n2_; have GE146 := n3_; clear n0_ n1_ n2_ n3_; clear hb hbox hg; have hcz11_0 := qq_c (.bool false) BK146.out 0 rfl; have hcz11_1 := qq_c (.int .u64 0) BK146.out 1 rfl; have hcz11_2 := qq_c (.string (⟨#[]⟩ : ByteArray)) BK146.out 2 rfl; have hcz11_3 := qq_c (.string (⟨#[]⟩ : ByteArray)) BK146.out 3 rfl; have hfz11_0 := Qck BK146.out 0; have hfz11_1 := Qck BK146.out 1; have hfz11_2 := Qck BK146.out 2; have hfz11_3 := Qck BK146.out 3) | (go_at_call 56; (with_reducible refine (Qbk.calls k1 ((Qev l0 x9_1).f0) ((Qev l0 x9_1).f1) ((Qev l0 x9_1).f2) ((Qev l0 x9_1).f3) t147 _ A5.out).mono ?_); rintro e w12 ⟨rfl, hb⟩; have n0_ := QA (Qcs (g := gb146) (o := .cells #[.bool ((Qev l0 x9_1).f0), .int .u64 ((Qev l0 x9_1).f1), .string ((Qev l0 x9_1).f2), .string ((Qev l0 x9_1).f3)] 39 (0, 0)) (by (with_reducible repeat (first | apply Qcr | apply Qcq | apply Qcp)); refine Qdb (cs := #[.bool ((Qev l0 x9_1).f0), .int .u64 ((Qev l0 x9_1).f1), .string ((Qev l0 x9_1).f2), .string (⟨#[]⟩ : ByteArray)]) ?_ 3 _ rfl; (with_reducible repeat (first | apply Qcr | apply Qcq | apply Qcp)); refine Qdb (cs := #[.bool ((Qev l0 x9_1).f0), .int .u64 ((Qev l0 x9_1).f1), .string (⟨#[]⟩ : ByteArray), .string (⟨#[]⟩ : ByteArray)]) ?_ 2 _ rfl; (with_reducible repeat (first | apply Qcr | apply Qcq | apply Qcp)); refine Qdb (cs := #[.bool ((Qev l0 x9_1).f0), .int .u64 0, .string (⟨#[]⟩ : ByteArray), .string (⟨#[]⟩ : ByteArray)]) ?_ 1 _ rfl; (with_reducible repeat (first | apply Qcr | apply Qcq | apply Qcp)); refine Qdb (cs := #[.bool false, .int .u64 0, .string (⟨#[]⟩ : ByteArray), .string (⟨#[]⟩ : ByteArray)]) ?_ 0 _ rfl; (with_reducible repeat (first | apply Qcr | apply Qcq | apply Qcp)); exact BK146.out) hb); have n1_ := QA (Qcz qq_b hb); clear BK146; clear HB; have BK146 := n0_; have HB := n1_; clear n0_ n1_; (try clear hb); (try clear hb2); (try clear hk); (try clear hi)))
       go_ret
       exact ⟨by first | rfl | (simp [Qes, Qet] <;> rfl) | (simp [*, Qes, Qet] <;> rfl), qq_b⟩
     ·rw [if_neg c4] at H
      exact absurd H (by simp)
    ·rw [if_neg c3] at H
     exact absurd H (by simp)
   ·rw [if_neg c2] at H
    have c2b0 : decide (x9_1 < (l0.length : Int)) = false := decide_eq_false c2
    clear c2
    have H' := QA H
    clear H
    go_wp2
    repeat (go_quiet (fail); try go_wp2)
    go_loopg [6] k1 (fun kq v6 w' => ∃ (x6_2 : Int), v6 = .int .i64 x6_2 ∧ Aside0 (Qbl.l1 kq l0 x6_2 = some r) ∧ Aside0 (kq ≤ k1) ∧ Aside0 (Below w.heap.size w w'))
    case atStart => exact ⟨(1), qq_8, H', ⟨Nat.le_refl _⟩, ⟨qq_b⟩⟩
    case round =>
     clear H'
     try clear c2
     try clear c2b0
     try clear c3
     try clear c3b0
     try clear c4
     try clear c4b0
     try clear c6
     try clear c6b0
     try clear c6b1
     try clear hcz11_0
     try clear hcz11_1
     try clear hcz11_2
     try clear hcz11_3
     try clear hcz8_0
     try clear hcz8_1
     try clear hcz8_2
     try clear hcz8_3
     try clear hfz11_0
     try clear hfz11_1
     try clear hfz11_2
     try clear hfz11_3
     try clear hfz8_0
     try clear hfz8_1
     try clear hfz8_2
     try clear hfz8_3
     try clear hx145_0
     try clear hx145_1
     try clear hx145_2
     try clear hx145_3
     try clear p145
     try clear q145
     obtain ⟨x6_2, rfl, HA, HK2, HB⟩ := hrel
     cases gk with
     | zero => exact absurd HA.out (by simp [Qbl.l1])
     | succ k2 =>
      have H := HA.out
      clear HA
      simp only [Qbl.l1] at H
      by_cases c13 : x6_2 < (l0.length : Int)
      ·rw [if_pos c13] at H
       have c13b0 : decide (x6_2 < (l0.length : Int)) = true := decide_eq_true c13
       clear c13
       by_cases c14 : 0 ≤ x6_2
       ·rw [if_pos c14] at H
        have c14b0 : decide (0 ≤ x6_2) = true := decide_eq_true c14
        clear c14
        obtain ⟨ji15, hji15⟩ : ∃ j_ : Int, (wrap64 (x6_2 - 1)) = j_ := ⟨_, rfl⟩
        replace H : (if 0 ≤ (ji15) then (if (ji15) < (l0.length : Int) then (if ((Qev l0 x6_2).f1) ≤ ((Qev l0 (ji15)).f1) then (some 8) else (Qbl.l1 k2 l0 (wrap64 (x6_2 + 1)))) else (none)) else (none)) = some r := by first | (rw [hji15] at H; exact H) | (simp only [hji15] at H ⊢; exact H)
        have hji15w : (IntKind.i64.wrap (x6_2 - 1)) = ji15 := (Qdo _).trans hji15
        by_cases c16 : 0 ≤ (ji15)
        ·rw [if_pos c16] at H
         have c16b0 : decide (0 ≤ (ji15)) = true := decide_eq_true c16
         clear c16
         by_cases c17 : (ji15) < (l0.length : Int)
         ·rw [if_pos c17] at H
          have c17b0 : decide ((ji15) < (l0.length : Int)) = true := decide_eq_true c17
          clear c17
          by_cases c18 : ((Qev l0 x6_2).f1) ≤ ((Qev l0 (ji15)).f1)
          ·rw [if_pos c18] at H
           have c18b0 : decide (((Qev l0 x6_2).f1) ≤ ((Qev l0 (ji15)).f1)) = true := decide_eq_true c18
           clear c18
           obtain rfl := Option.some.inj H
           have p148 : 0 ≤ (x6_2 : Int) := of_decide_eq_true qq_5
           have q148 : x6_2 < (l0.length : Int) := of_decide_eq_true qq_5
           obtain ⟨ad148, e148, hx148_0, hx148_1, hx148_2, hx148_3⟩ := Qew HR0.out x6_2 p148 q148
           cases e148
           replace hx148_0 := qq_h HB.out hx148_0
           replace hx148_1 := qq_h HB.out hx148_1
           replace hx148_2 := qq_h HB.out hx148_2
           replace hx148_3 := qq_h HB.out hx148_3
           replace p148 := eq_true p148
           replace q148 := eq_true q148
           have p149 : 0 ≤ ((ji15) : Int) := of_decide_eq_true qq_5
           have q149 : (ji15) < (l0.length : Int) := of_decide_eq_true qq_5
           obtain ⟨ad149, e149, hx149_0, hx149_1, hx149_2, hx149_3⟩ := Qew HR0.out (ji15) p149 q149
           obtain rfl : ad148 = ad149 := (by injection e149)
           replace hx149_0 := qq_h HB.out hx149_0
           replace hx149_1 := qq_h HB.out hx149_1
           replace hx149_2 := qq_h HB.out hx149_2
           replace hx149_3 := qq_h HB.out hx149_3
           replace p149 := eq_true p149
           replace q149 := eq_true q149
           go_wp2
           repeat (go_quiet (fail); try go_wp2)
           go_ret
           exact ⟨by first | rfl | (simp [Qes, Qet] <;> rfl) | (simp only [← hji15]; first | rfl | (simp [Qes, Qet] <;> rfl)) | (simp [*, Qes, Qet] <;> rfl), qq_b⟩
          ·rw [if_neg c18] at H
           have c18b0 : decide (((Qev l0 x6_2).f1) ≤ ((Qev l0 (ji15)).f1)) = false := decide_eq_false c18
           clear c18
           have H' := QA H
           clear H
           have p148 : 0 ≤ (x6_2 : Int) := of_decide_eq_true qq_5
           have q148 : x6_2 < (l0.length : Int) := of_decide_eq_true qq_5
           obtain ⟨ad148, e148, hx148_0, hx148_1, hx148_2, hx148_3⟩ := Qew HR0.out x6_2 p148 q148
           cases e148
           replace hx148_0 := qq_h HB.out hx148_0
           replace hx148_1 := qq_h HB.out hx148_1
           replace hx148_2 := qq_h HB.out hx148_2
           replace hx148_3 := qq_h HB.out hx148_3
           replace p148 := eq_true p148
           replace q148 := eq_true q148
           have p149 : 0 ≤ ((ji15) : Int) := of_decide_eq_true qq_5
           have q149 : (ji15) < (l0.length : Int) := of_decide_eq_true qq_5
           obtain ⟨ad149, e149, hx149_0, hx149_1, hx149_2, hx149_3⟩ := Qew HR0.out (ji15) p149 q149
           obtain rfl : ad148 = ad149 := (by injection e149)
           replace hx149_0 := qq_h HB.out hx149_0
           replace hx149_1 := qq_h HB.out hx149_1
           replace hx149_2 := qq_h HB.out hx149_2
           replace hx149_3 := qq_h HB.out hx149_3
           replace p149 := eq_true p149
           replace q149 := eq_true q149
           go_wp2
           repeat (go_quiet (fail); try go_wp2)
           go_roundg k2
           case measure => have := HK1.out; have := HK2.out; omega
           case rel => exact ⟨(wrap64 (x6_2 + 1)), qq_8, H', ⟨by have := HK1.out; have := HK2.out; omega⟩, ⟨qq_b⟩⟩
         ·rw [if_neg c17] at H
          exact absurd H (by simp)
        ·rw [if_neg c16] at H
         exact absurd H (by simp)
       ·rw [if_neg c14] at H
        exact absurd H (by simp)
      ·rw [if_neg c13] at H
       have c13b0 : decide (x6_2 < (l0.length : Int)) = false := decide_eq_false c13
       clear c13
       obtain rfl := Option.some.inj H
       go_wp2
       repeat (go_quiet (fail); try go_wp2)
       go_ret
       exact ⟨by first | rfl | (simp [Qes, Qet] <;> rfl) | (simp [*, Qes, Qet] <;> rfl), qq_b⟩
def Qbc.l0 : Nat → List Int → List (S39) → Int → Int → Int → Int → Option (List Int × List Int × Int)
 | 0, _, _, _, _, _, _ => none
 | k + 1, x5, x23, x24, x25, x193000, x193001 => if x25 < x24 then (if 0 ≤ x25 then (if x25 < (x23.length : Int) then ((Qaw.f ((Qev x23 x25).f0) ((Qev x23 x25).f1) ((Qev x23 x25).f2) ((Qev x23 x25).f3)).bind fun bt197 => (if x5.length < 17592186044416 then (Qbc.l0 k (x5 ++ [(bt197.1.length : Int)]) x23 x24 (wrap64 (x25 + 1)) x193000 x193001) else (none))) else (none)) else (none)) else ((Qbe.f k x193000 x193001 x5).bind fun bt204 => (some (bt204.1, x5, bt204.2)))
def Qbc.f (k : Nat) (a0_0 : Int) (a0_1 : Int) (l1 : List (S39)) : Option (List Int × List Int × Int) := (Qal.f a0_0 a0_1).bind fun t193 => (if t193 = 0 then ((Qbl.f k l1).bind fun t194 => (if t194 = 0 then (Qbc.l0 k ([] : List Int) l1 (l1.length : Int) 0 a0_0 a0_1) else (some (([] : List Int), ([] : List Int), t194)))) else (some (([] : List Int), ([] : List Int), t193)))
theorem Qbc.calls (k : Nat) (a0_0 : Int) (a0_1 : Int) (A1 : Option Addr) (c1 : Nat) (l1 : List (S39)) (r1 : List Int) (r2 : List Int) (r3 : Int) (w : World) (hr1 : Kd.C k39 w A1 l1.length l1) (hc1 : l1.length ≤ c1) (h : Qbc.f k a0_0 a0_1 l1 = some (r1, r2, r3)) :
  Calls Tryz.prog 73 #[.agg #[.int .u8 a0_0, .int .u32 a0_1], .slice A1 l1.length c1] w fun e w' => ∃ v0_ v1_ : Value, e = .returned (.tuple #[v0_, v1_, .int .i64 r3]) ∧ Kd.R (Kd.int .u32) 22 w' w.heap.size (fun _ => True) v0_ r1 ∧ Kd.R (Kd.int .i64) 3 w' w.heap.size (fun _ => True) v1_ r2 ∧ Below w.heap.size w w' := by
 have hu27 := Tryz.underlying27
 have hu39 := Tryz.underlying39
 have HR1 := QA hr1
 have HC1 := QA hc1
 clear hr1 hc1
 have HB := QA (Below.refl w.heap.size w)
 have H : ((Qal.f a0_0 a0_1).bind fun t193 => (if t193 = 0 then ((Qbl.f k l1).bind fun t194 => (if t194 = 0 then (Qbc.l0 k ([] : List Int) l1 (l1.length : Int) 0 a0_0 a0_1) else (some (([] : List Int), ([] : List Int), t194)))) else (some (([] : List Int), ([] : List Int), t193)))) = some (r1, r2, r3) := h
 clear h
 replace H := Option.bind_eq_some_iff.mp H
 obtain ⟨t193, A30, H⟩ := H
 replace H : (if t193 = 0 then ((Qbl.f k l1).bind fun t194 => (if t194 = 0 then (Qbc.l0 k ([] : List Int) l1 (l1.length : Int) 0 a0_0 a0_1) else (some (([] : List Int), ([] : List Int), t194)))) else (some (([] : List Int), ([] : List Int), t193))) = some (r1, r2, r3) := H
 have A3 := QA A30
 clear A30
 by_cases c4 : t193 = 0
 ·rw [if_pos c4] at H
  have c4b0 : (t193 == 0) = true := beq_iff_eq.mpr c4
  have c4b1 : (t193 != 0) = false := bne_eq_false_iff_eq.mpr c4
  clear c4
  replace H := Option.bind_eq_some_iff.mp H
  obtain ⟨t194, A50, H⟩ := H
  replace H : (if t194 = 0 then (Qbc.l0 k ([] : List Int) l1 (l1.length : Int) 0 a0_0 a0_1) else (some (([] : List Int), ([] : List Int), t194))) = some (r1, r2, r3) := H
  have A5 := QA A50
  clear A50
  by_cases c6 : t194 = 0
  ·rw [if_pos c6] at H
   have c6b0 : (t194 == 0) = true := beq_iff_eq.mpr c6
   have c6b1 : (t194 != 0) = false := bne_eq_false_iff_eq.mpr c6
   clear c6
   have H' := QA H
   clear H
   go_enter Tryz.func73, Tryz.ntmps73
   go_wp2_with (first | ((with_reducible refine Qde (N := 2) rfl ?_); refine qq_e 2 #[.int .u8 a0_0, .int .u32 a0_1] 27 ?_; intro gb192 hg w7 hbox hb; have n0_ := QA (Qcz qq_b hb); have n1_ := QA (hbox); have n2_ := QA ((qq_s hg : w.heap.size ≤ gb192)); have n3_ := QA ((qq_s hg : w.heap.size ≤ gb192)); clear HB; have HB := n0_; have BK192 := n1_; have GW192 := n2_; have GE192 := n3_; clear n0_ n1_ n2_ n3_; clear hb hbox hg; have hcz8_0 := qq_c (.int .u8 a0_0) BK192.out 0 rfl; have hcz8_1 := qq_c (.int .u32 a0_1) BK192.out 1 rfl; have hfz8_0 := Qck BK192.out 0; have hfz8_1 := Qck BK192.out 1) | ((with_reducible refine Qep (f := 85) rfl ?_); refine Qdn (some 14) rfl rfl Tryz.func85 qq_6 rfl #[.agg #[.int .u8 a0_0, .int .u32 a0_1]] rfl qq_1 ?_; (with_reducible refine (Qal.calls a0_0 a0_1 t193 _ A3.out).mono ?_); rintro e w9 ⟨rfl, hb⟩; refine ⟨_, rfl, ?_⟩; have n0_ := QA (Qcs (g := gb192) (o := .cells #[.int .u8 a0_0, .int .u32 a0_1] 27 (0, 0)) qq_0 hb); have n1_ := QA (Qcz qq_b hb); clear BK192; clear HB; have BK192 := n0_; have HB := n1_; clear n0_ n1_; (try clear hb); (try clear hb2); (try clear hk); (try clear hi)) | ((with_reducible refine Qep (f := 124) rfl ?_); refine Qdn (some 19) rfl rfl Tryz.func124 qq_6 rfl #[.slice A1 l1.length c1] rfl qq_1 ?_; (with_reducible refine (Qbl.calls k _ _ l1 t194 _ ?side1 ?side2 A5.out).mono ?_); (case side1 => repeat (first | exact (Kd.C_below HR1.out HB.out) | (with_reducible refine Kd.C_alloc ?_ _) | (with_reducible refine Kd.C_drewN ?_ _) | (with_reducible refine Kd.C_drew ?_))); (case side2 => exact HC1.out); rintro e w10 ⟨rfl, hb⟩; refine ⟨_, rfl, ?_⟩; have n0_ := QA (Qcs (g := gb192) (o := .cells #[.int .u8 a0_0, .int .u32 a0_1] 27 (0, 0)) qq_0 hb); have n1_ := QA (Qcz qq_b hb); clear BK192; clear HB; have BK192 := n0_; have HB := n1_; clear n0_ n1_; (try clear hb); (try clear hb2); (try clear hk); (try clear hi)))
   go_loopg [5, 25] k (fun kq v5 v25 w' => ∃ (x5_1 : List Int) (x25_1 : Int), v25 = .int .i64 x25_1 ∧ Aside0 (Qbc.l0 kq x5_1 l1 (l1.length : Int) x25_1 a0_0 a0_1 = some (r1, r2, r3)) ∧ Aside0 (kq ≤ k) ∧ Aside0 (Kd.R (Kd.int .i64) 3 w' w.heap.size (fun _ => True) v5 x5_1) ∧ Aside0 (w'.heap[gb192]? = some (.cells #[.int .u8 a0_0, .int .u32 a0_1] 27 (0, 0))) ∧ Aside0 (Below w.heap.size w w'))
   case atStart => exact ⟨(([] : List Int)), (0), qq_8, H', ⟨Nat.le_refl _⟩, ⟨by first | exact Kd.R_nil _ _ _ _ _ | exact Kd.N_nil _ _ _ _ _ | exact Kd.V_nil _ _ _ _ _ | exact Kd.Q_nil _ _ _ _ _ | exact Kd.S_nil _ _ _ _ _⟩, ⟨by (with_reducible repeat (first | apply Qcr | apply Qcq | apply Qcp)); exact BK192.out⟩, ⟨qq_b⟩⟩
   case round =>
    clear H'
    try clear c1
    try clear c4
    try clear c4b0
    try clear c4b1
    try clear c6
    try clear c6b0
    try clear c6b1
    try clear hcz8_0
    try clear hcz8_1
    try clear hfz8_0
    try clear hfz8_1
    obtain ⟨x5_1, x25_1, rfl, HA, HK1, HO_5, BK192, HB⟩ := hrel
    cases gk with
    | zero => exact absurd HA.out (by simp [Qbc.l0])
    | succ k1 =>
     have H := HA.out
     clear HA
     simp only [Qbc.l0] at H
     by_cases c11 : x25_1 < (l1.length : Int)
     ·rw [if_pos c11] at H
      have c11b0 : decide (x25_1 < (l1.length : Int)) = true := decide_eq_true c11
      clear c11
      by_cases c12 : 0 ≤ x25_1
      ·rw [if_pos c12] at H
       have c12b0 : decide (0 ≤ x25_1) = true := decide_eq_true c12
       clear c12
       by_cases c13 : x25_1 < (l1.length : Int)
       ·rw [if_pos c13] at H
        have c13b0 : decide (x25_1 < (l1.length : Int)) = true := decide_eq_true c13
        clear c13
        replace H := Option.bind_eq_some_iff.mp H
        obtain ⟨⟨t197, t200⟩, A140, H⟩ := H
        replace H : (if x5_1.length < 17592186044416 then (Qbc.l0 k1 (x5_1 ++ [(t197.length : Int)]) l1 (l1.length : Int) (wrap64 (x25_1 + 1)) a0_0 a0_1) else (none)) = some (r1, r2, r3) := H
        have A14 := QA A140
        clear A140
        by_cases c15 : x5_1.length < 17592186044416
        ·rw [if_pos c15] at H
         have LMc15 := QA c15
         clear c15
         obtain ⟨y201, hy201⟩ : ∃ y_ : List Int, y_ = (x5_1 ++ [(t197.length : Int)]) := ⟨_, rfl⟩
         replace H : (Qbc.l0 k1 y201 l1 (l1.length : Int) (wrap64 (x25_1 + 1)) a0_0 a0_1) = some (r1, r2, r3) := by first | (rw [hy201]; with_reducible exact H) | (have H2_ := (Option.bind_some _ _).symm.trans H; rw [hy201]; with_reducible exact H2_) | (have H2_ := (Option.bind_some _ _).symm.trans H; with_reducible exact H2_) | with_reducible exact H | (rw [hy201]; exact H) | exact H
         have Ny201 := QA hy201
         clear hy201
         have H' := QA H
         clear H
         have p195 : 0 ≤ (x25_1 : Int) := of_decide_eq_true qq_5
         have q195 : x25_1 < (l1.length : Int) := of_decide_eq_true qq_5
         obtain ⟨ad195, e195, hx195_0, hx195_1, hx195_2, hx195_3⟩ := Qew HR1.out x25_1 p195 q195
         cases e195
         replace hx195_0 := qq_h HB.out hx195_0
         replace hx195_1 := qq_h HB.out hx195_1
         replace hx195_2 := qq_h HB.out hx195_2
         replace hx195_3 := qq_h HB.out hx195_3
         replace p195 := eq_true p195
         replace q195 := eq_true q195
         go_wp2_with (first | ((with_reducible refine Qde (N := 10) rfl ?_); refine qq_e 10 #[.bool false, .int .u64 0, .string (⟨#[]⟩ : ByteArray), .string (⟨#[]⟩ : ByteArray)] 39 ?_; intro gb196 hg w16 hbox hb; have n0_ := QA (Kd.R_below qq_2 hb); have n1_ := QA (Qcs (g := gb192) (o := .cells #[.int .u8 a0_0, .int .u32 a0_1] 27 (0, 0)) qq_0 hb); have n2_ := QA (Qcz qq_b hb); have n3_ := QA (hbox); have n4_ := QA ((qq_s hg : w.heap.size ≤ gb196)); have n5_ := QA ((qq_s hg : w.heap.size ≤ gb196)); have n6_ := QA ((by rw [hg]; exact Nat.ne_of_lt (Qci (g := gb192) (o := .cells #[.int .u8 a0_0, .int .u32 a0_1] 27 (0, 0)) qq_0) : gb192 ≠ gb196)); have n7_ := QA ((by rw [hg]; exact Nat.ne_of_gt (Qci (g := gb192) (o := .cells #[.int .u8 a0_0, .int .u32 a0_1] 27 (0, 0)) qq_0) : gb196 ≠ gb192)); clear HO_5; clear BK192; clear HB; have HO_5 := n0_; have BK192 := n1_; have HB := n2_; have BK196 := n3_; have GW196 := n4_; have GE196 := n5_; have NB192_196 := n6_; have NB196_192 := n7_; clear n0_ n1_ n2_ n3_ n4_ n5_ n6_ n7_; clear hb hbox hg; have hnb17 := NB196_192.out; have hnc17 := NB192_196.out; have hcz18_0 := qq_c (.bool false) BK196.out 0 rfl; have hcz18_1 := qq_c (.int .u64 0) BK196.out 1 rfl; have hcz18_2 := qq_c (.string (⟨#[]⟩ : ByteArray)) BK196.out 2 rfl; have hcz18_3 := qq_c (.string (⟨#[]⟩ : ByteArray)) BK196.out 3 rfl; have hfz18_0 := Qck BK196.out 0; have hfz18_1 := Qck BK196.out 1; have hfz18_2 := Qck BK196.out 2; have hfz18_3 := Qck BK196.out 3) | ((with_reducible refine Qep (f := 57) rfl ?_); refine Qdn (some 31) rfl rfl Tryz.func57 qq_6 rfl #[.agg #[.bool ((Qev l1 x25_1).f0), .int .u64 ((Qev l1 x25_1).f1), .string ((Qev l1 x25_1).f2), .string ((Qev l1 x25_1).f3)]] rfl qq_1 ?_; (with_reducible refine (Qaw.calls ((Qev l1 x25_1).f0) ((Qev l1 x25_1).f1) ((Qev l1 x25_1).f2) ((Qev l1 x25_1).f3) t197 t200 _ A14.out).mono ?_); rintro e w19 ⟨v198, rfl, ho0, hb⟩; refine ⟨_, rfl, ?_⟩; have n0_ := QA (Kd.R_below (by (with_reducible repeat (first | apply Kd.R_alloc | apply Kd.R_drewN | apply Kd.R_drew)); exact (Kd.R_mono (Kd.R_far (p := ⟨gb196, 3, none⟩) (Kd.R_far (p := ⟨gb196, 2, none⟩) (Kd.R_far (p := ⟨gb196, 1, none⟩) (Kd.R_far (p := ⟨gb196, 0, none⟩) (Kd.R_types HO_5.out BK196.out (by decide)) (fun _ hk => hk.2) (.bool ((Qev l1 x25_1).f0))) (fun _ hk => hk.2) (.int .u64 ((Qev l1 x25_1).f1))) (fun _ hk => hk.2) (.string ((Qev l1 x25_1).f2))) (fun _ hk => hk.2) (.string ((Qev l1 x25_1).f3))) (fun _ h_ => h_.1))) hb); have n1_ := QA (Kd.R_lower ho0 (Qcy qq_b)); have n2_ := QA (Qcs (g := gb192) (o := .cells #[.int .u8 a0_0, .int .u32 a0_1] 27 (0, 0)) qq_7 hb); have n3_ := QA (Qcs (g := gb196) (o := .cells #[.bool ((Qev l1 x25_1).f0), .int .u64 ((Qev l1 x25_1).f1), .string ((Qev l1 x25_1).f2), .string ((Qev l1 x25_1).f3)] 39 (0, 0)) (by (with_reducible repeat (first | apply Qcr | apply Qcq | apply Qcp)); refine Qdb (cs := #[.bool ((Qev l1 x25_1).f0), .int .u64 ((Qev l1 x25_1).f1), .string ((Qev l1 x25_1).f2), .string (⟨#[]⟩ : ByteArray)]) ?_ 3 _ rfl; (with_reducible repeat (first | apply Qcr | apply Qcq | apply Qcp)); refine Qdb (cs := #[.bool ((Qev l1 x25_1).f0), .int .u64 ((Qev l1 x25_1).f1), .string (⟨#[]⟩ : ByteArray), .string (⟨#[]⟩ : ByteArray)]) ?_ 2 _ rfl; (with_reducible repeat (first | apply Qcr | apply Qcq | apply Qcp)); refine Qdb (cs := #[.bool ((Qev l1 x25_1).f0), .int .u64 0, .string (⟨#[]⟩ : ByteArray), .string (⟨#[]⟩ : ByteArray)]) ?_ 1 _ rfl; (with_reducible repeat (first | apply Qcr | apply Qcq | apply Qcp)); refine Qdb (cs := #[.bool false, .int .u64 0, .string (⟨#[]⟩ : ByteArray), .string (⟨#[]⟩ : ByteArray)]) ?_ 0 _ rfl; (with_reducible repeat (first | apply Qcr | apply Qcq | apply Qcp)); exact BK196.out) hb); have n4_ := QA (Qcz qq_b hb); clear HO_5; clear BK192; clear BK196; clear HB; have HO_5 := n0_; have HO199 := n1_; have BK192 := n2_; have BK196 := n3_; have HB := n4_; clear n0_ n1_ n2_ n3_ n4_; (try clear hb); (try clear hb2); (try clear hk); (try clear hi); (try clear ho0); obtain ⟨Ao20, co20, eo20⟩ := Kd.R_slice HO199.out; subst eo20) | ((with_reducible refine Qeq (b := .append) (xs := #[.tmp 34, .tmp 37]) rfl ?_); at_builtin; refine Kd.R_append (Kd.int .i64) (w0 := w) w.heap.size rfl (.tmp 34) (.tmp 37) 133 3 (.int .i64 0) 8 rfl Tryz.underlying133 info3 rfl (by decide) (by omega) u5 x5_1 (t197.length : Int) [.int .i64 (t197.length : Int)] (fun _ => True) (fun _ => False) rfl rfl ?aP (fun _ hk => hk.elim) ?aF ?aO ?aB ?aS ?aL ?_; (case aP => exact rfl); (case aB => exact qq_b); (case aF => exact (fun _ _ => trivial)); (case aO => exact qq_2); (case aS => exact (Qcy qq_b)); (case aL => have := LMc15.out; omega); intro v202 w21 ho hb hg hat; rw [← Ny201.out] at ho; have n0_ := QA (Qcl (g := gb192) (o := .cells #[.int .u8 a0_0, .int .u32 a0_1] 27 (0, 0)) qq_0 hg (Kd.R_ne HO_5.out BK192.out (by decide))); have n1_ := QA (Qcl (g := gb196) (o := .cells #[.bool ((Qev l1 x25_1).f0), .int .u64 ((Qev l1 x25_1).f1), .string ((Qev l1 x25_1).f2), .string ((Qev l1 x25_1).f3)] 39 (0, 0)) qq_0 hg (Kd.R_ne HO_5.out BK196.out (by decide))); have n2_ := QA (Kd.R_over' qq_2 (Kd.R_typed qq_2) (by decide) hg); have n3_ := QA (hb); have n4_ := QA (ho); clear BK192; clear BK196; clear HO199; clear HB; clear HO_5; have BK192 := n0_; have BK196 := n1_; have HO199 := n2_; have HB := n3_; have HO203 := n4_; clear n0_ n1_ n2_ n3_ n4_; clear ho hb hg hat))
         go_roundg k1
         case measure => have := HK1.out; omega
         case rel => exact ⟨(y201), (wrap64 (x25_1 + 1)), qq_8, H', ⟨by have := HK1.out; omega⟩, ⟨by (with_reducible repeat (first | apply Kd.R_alloc | apply Kd.R_drewN | apply Kd.R_drew)); exact HO203.out⟩, ⟨by (with_reducible repeat (first | apply Qcr | apply Qcq | apply Qcp)); exact BK192.out⟩, ⟨qq_b⟩⟩
        ·rw [if_neg c15] at H
         exact absurd H (by simp)
       ·rw [if_neg c13] at H
        exact absurd H (by simp)
      ·rw [if_neg c12] at H
       exact absurd H (by simp)
     ·rw [if_neg c11] at H
      have c11b0 : decide (x25_1 < (l1.length : Int)) = false := decide_eq_false c11
      clear c11
      replace H := Option.bind_eq_some_iff.mp H
      obtain ⟨⟨t204, t207⟩, A220, H⟩ := H
      replace H : (some (t204, x5_1, t207)) = some (r1, r2, r3) := H
      have A22 := QA A220
      clear A220
      simp only [Option.some.injEq, Prod.mk.injEq] at H
      obtain ⟨rfl, rfl, rfl⟩ := H
      have hcz23_0 := qq_c (.int .u8 a0_0) BK192.out 0 rfl
      have hcz23_1 := qq_c (.int .u32 a0_1) BK192.out 1 rfl
      have hfz23_0 := Qck BK192.out 0
      have hfz23_1 := Qck BK192.out 1
      obtain ⟨Ao24, co24, eo24⟩ := Kd.R_slice HO_5.out
      subst eo24
      go_wp2_with (first | ((with_reducible refine Qep (f := 125) rfl ?_); refine Qdn (some 43) rfl rfl Tryz.func125 qq_6 rfl #[.agg #[.int .u8 a0_0, .int .u32 a0_1], .slice Ao24 x5_1.length co24] rfl qq_1 ?_; (with_reducible refine (Qbe.calls k1 a0_0 a0_1 _ _ x5_1 t204 t207 _ ?side1 ?side2 A22.out).mono ?_); (case side1 => repeat (first | exact (Kd.R_reads' HO_5.out).2.2 | (with_reducible refine Kd.C_alloc ?_ _) | (with_reducible refine Kd.C_drewN ?_ _) | (with_reducible refine Kd.C_drew ?_))); (case side2 => exact (Kd.R_reads' HO_5.out).2.1); rintro e w25 ⟨v205, rfl, ho0, hb⟩; refine ⟨_, rfl, ?_⟩; have n0_ := QA (Kd.R_below qq_2 hb); have n1_ := QA (Kd.R_lower ho0 (Qcy qq_b)); have n2_ := QA (Qcs (g := gb192) (o := .cells #[.int .u8 a0_0, .int .u32 a0_1] 27 (0, 0)) qq_0 hb); have n3_ := QA (Qcz qq_b hb); clear HO_5; clear BK192; clear HB; have HO_5 := n0_; have HO206 := n1_; have BK192 := n2_; have HB := n3_; clear n0_ n1_ n2_ n3_; (try clear hb); (try clear hb2); (try clear hk); (try clear hi); (try clear ho0)))
      go_ret3
      exact ⟨_, _, by first | rfl | (simp [Qes, Qet] <;> rfl) | (simp [*, Qes, Qet] <;> rfl), by (with_reducible repeat (first | apply Kd.R_alloc | apply Kd.R_drewN | apply Kd.R_drew)); exact HO206.out, by (with_reducible repeat (first | apply Kd.R_alloc | apply Kd.R_drewN | apply Kd.R_drew)); exact HO_5.out, qq_b⟩
  ·rw [if_neg c6] at H
   have c6b0 : (t194 == 0) = false := beq_eq_false_iff_ne.mpr c6
   have c6b1 : (t194 != 0) = true := bne_iff_ne.mpr c6
   simp only [Option.some.injEq, Prod.mk.injEq] at H
   obtain ⟨rfl, rfl, rfl⟩ := H
   go_enter Tryz.func73, Tryz.ntmps73
   go_wp2_with (first | ((with_reducible refine Qde (N := 2) rfl ?_); refine qq_e 2 #[.int .u8 a0_0, .int .u32 a0_1] 27 ?_; intro gb192 hg w26 hbox hb; have n0_ := QA (Qcz qq_b hb); have n1_ := QA (hbox); have n2_ := QA ((qq_s hg : w.heap.size ≤ gb192)); have n3_ := QA ((qq_s hg : w.heap.size ≤ gb192)); clear HB; have HB := n0_; have BK192 := n1_; have GW192 := n2_; have GE192 := n3_; clear n0_ n1_ n2_ n3_; clear hb hbox hg; have hcz27_0 := qq_c (.int .u8 a0_0) BK192.out 0 rfl; have hcz27_1 := qq_c (.int .u32 a0_1) BK192.out 1 rfl; have hfz27_0 := Qck BK192.out 0; have hfz27_1 := Qck BK192.out 1) | ((with_reducible refine Qep (f := 85) rfl ?_); refine Qdn (some 14) rfl rfl Tryz.func85 qq_6 rfl #[.agg #[.int .u8 a0_0, .int .u32 a0_1]] rfl qq_1 ?_; (with_reducible refine (Qal.calls a0_0 a0_1 t193 _ A3.out).mono ?_); rintro e w28 ⟨rfl, hb⟩; refine ⟨_, rfl, ?_⟩; have n0_ := QA (Qcs (g := gb192) (o := .cells #[.int .u8 a0_0, .int .u32 a0_1] 27 (0, 0)) qq_0 hb); have n1_ := QA (Qcz qq_b hb); clear BK192; clear HB; have BK192 := n0_; have HB := n1_; clear n0_ n1_; (try clear hb); (try clear hb2); (try clear hk); (try clear hi)) | ((with_reducible refine Qep (f := 124) rfl ?_); refine Qdn (some 19) rfl rfl Tryz.func124 qq_6 rfl #[.slice A1 l1.length c1] rfl qq_1 ?_; (with_reducible refine (Qbl.calls k _ _ l1 t194 _ ?side1 ?side2 A5.out).mono ?_); (case side1 => repeat (first | exact (Kd.C_below HR1.out HB.out) | (with_reducible refine Kd.C_alloc ?_ _) | (with_reducible refine Kd.C_drewN ?_ _) | (with_reducible refine Kd.C_drew ?_))); (case side2 => exact HC1.out); rintro e w29 ⟨rfl, hb⟩; refine ⟨_, rfl, ?_⟩; have n0_ := QA (Qcs (g := gb192) (o := .cells #[.int .u8 a0_0, .int .u32 a0_1] 27 (0, 0)) qq_0 hb); have n1_ := QA (Qcz qq_b hb); clear BK192; clear HB; have BK192 := n0_; have HB := n1_; clear n0_ n1_; (try clear hb); (try clear hb2); (try clear hk); (try clear hi)))
   go_ret3
   exact ⟨_, _, by first | rfl | (simp [Qes, Qet] <;> rfl) | (simp [*, Qes, Qet] <;> rfl), by first | exact Kd.R_nil _ _ _ _ _ | exact Kd.N_nil _ _ _ _ _ | exact Kd.V_nil _ _ _ _ _ | exact Kd.Q_nil _ _ _ _ _ | exact Kd.S_nil _ _ _ _ _, by first | exact Kd.R_nil _ _ _ _ _ | exact Kd.N_nil _ _ _ _ _ | exact Kd.V_nil _ _ _ _ _ | exact Kd.Q_nil _ _ _ _ _ | exact Kd.S_nil _ _ _ _ _, qq_b⟩
 ·rw [if_neg c4] at H
  have c4b0 : (t193 == 0) = false := beq_eq_false_iff_ne.mpr c4
  have c4b1 : (t193 != 0) = true := bne_iff_ne.mpr c4
  simp only [Option.some.injEq, Prod.mk.injEq] at H
  obtain ⟨rfl, rfl, rfl⟩ := H
  go_enter Tryz.func73, Tryz.ntmps73
  go_wp2_with (first | ((with_reducible refine Qde (N := 2) rfl ?_); refine qq_e 2 #[.int .u8 a0_0, .int .u32 a0_1] 27 ?_; intro gb192 hg w30 hbox hb; have n0_ := QA (Qcz qq_b hb); have n1_ := QA (hbox); have n2_ := QA ((qq_s hg : w.heap.size ≤ gb192)); have n3_ := QA ((qq_s hg : w.heap.size ≤ gb192)); clear HB; have HB := n0_; have BK192 := n1_; have GW192 := n2_; have GE192 := n3_; clear n0_ n1_ n2_ n3_; clear hb hbox hg; have hcz31_0 := qq_c (.int .u8 a0_0) BK192.out 0 rfl; have hcz31_1 := qq_c (.int .u32 a0_1) BK192.out 1 rfl; have hfz31_0 := Qck BK192.out 0; have hfz31_1 := Qck BK192.out 1) | ((with_reducible refine Qep (f := 85) rfl ?_); refine Qdn (some 14) rfl rfl Tryz.func85 qq_6 rfl #[.agg #[.int .u8 a0_0, .int .u32 a0_1]] rfl qq_1 ?_; (with_reducible refine (Qal.calls a0_0 a0_1 t193 _ A3.out).mono ?_); rintro e w32 ⟨rfl, hb⟩; refine ⟨_, rfl, ?_⟩; have n0_ := QA (Qcs (g := gb192) (o := .cells #[.int .u8 a0_0, .int .u32 a0_1] 27 (0, 0)) qq_0 hb); have n1_ := QA (Qcz qq_b hb); clear BK192; clear HB; have BK192 := n0_; have HB := n1_; clear n0_ n1_; (try clear hb); (try clear hb2); (try clear hk); (try clear hi)))
  go_ret3
  exact ⟨_, _, by first | rfl | (simp [Qes, Qet] <;> rfl) | (simp [*, Qes, Qet] <;> rfl), by first | exact Kd.R_nil _ _ _ _ _ | exact Kd.N_nil _ _ _ _ _ | exact Kd.V_nil _ _ _ _ _ | exact Kd.Q_nil _ _ _ _ _ | exact Kd.S_nil _ _ _ _ _, by first | exact Kd.R_nil _ _ _ _ _ | exact Kd.N_nil _ _ _ _ _ | exact Kd.V_nil _ _ _ _ _ | exact Kd.Q_nil _ _ _ _ _ | exact Kd.S_nil _ _ _ _ _, qq_b⟩
end Go.Proofs.YtnnofopfbeklbaaGreat.C
end
