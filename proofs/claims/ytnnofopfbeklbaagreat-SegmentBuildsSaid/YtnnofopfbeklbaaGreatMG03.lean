/- Texts of this claim's author and of the print of its functions, merged by merge.py. -/
import Derived.Test.YtnnofopfbeklbaaGreatMG02
import Derived.Lib.SliceRun
import Derived.Shelf.Bytes.SlIndexAt
set_option linter.unusedVariables false
set_option linter.unusedSimpArgs false
set_option maxHeartbeats 8000000
set_option maxRecDepth 100000
section
namespace Go.Proofs.YtnnofopfbeklbaaGreat.C
open Go.RowKit Go.Proofs.YtnnofopfbeklbaaGreatW.PrintWords Go.Proofs.YtnnofopfbeklbaaGreatW.PrintLast Go.Proofs.YtnnofopfbeklbaaGreatW.PrintMore
attribute [local go_sem] Qfx Qfy Qfz Qga Qgb Qgc Qgd Qge
def Qak.f (a0_0 : Int) (a0_1 : Int) : Option (Int) := if a0_0 < 12 then (some 1) else (if a0_0 > 24 then (some 1) else (if a0_1 < 1 then (some 1) else (if a0_1 > 65536 then (some 1) else (some 0))))
theorem Qak.calls (a0_0 : Int) (a0_1 : Int) (r : Int) (w : World) (h : Qak.f a0_0 a0_1 = some r) :
  Calls Tryz.prog 85 #[.agg #[.int .u8 a0_0, .int .u32 a0_1]] w fun e w' => e = .returned (.int .i64 r) ∧ Below w.heap.size w w' := by
 have hu27 := Tryz.underlying27
 have HB := QA (Below.refl w.heap.size w)
 have H : (if a0_0 < 12 then (some 1) else (if a0_0 > 24 then (some 1) else (if a0_1 < 1 then (some 1) else (if a0_1 > 65536 then (some 1) else (some 0))))) = some r := h
 clear h
 by_cases c2 : a0_0 < 12
 ·rw [if_pos c2] at H
  have c2b0 : decide (a0_0 < 12) = true := decide_eq_true c2
  clear c2
  obtain rfl := Option.some.inj H
  go_enter Tryz.func85, Tryz.ntmps85
  go_wp2_with (first | ((with_reducible refine Qef (N := 1) rfl ?_); refine qq_e 1 #[.int .u8 a0_0, .int .u32 a0_1] 27 ?_; intro gb103 hg w3 hbox hb; have n0_ := QA (Qea qq_b hb); have n1_ := QA (hbox); have n2_ := QA ((qq_s hg : w.heap.size ≤ gb103)); have n3_ := QA ((qq_s hg : w.heap.size ≤ gb103)); clear HB; have HB := n0_; have BK103 := n1_; have GW103 := n2_; have GE103 := n3_; clear n0_ n1_ n2_ n3_; clear hb hbox hg; have hcz4_0 := qq_c (.int .u8 a0_0) BK103.out 0 rfl; have hcz4_1 := qq_c (.int .u32 a0_1) BK103.out 1 rfl; have hfz4_0 := Qdk BK103.out 0; have hfz4_1 := Qdk BK103.out 1))
  go_ret
  exact ⟨by first | rfl | (simp [Qgi, Qgj] <;> rfl) | (simp [*, Qgi, Qgj] <;> rfl), qq_b⟩
 ·rw [if_neg c2] at H
  have c2b0 : decide (a0_0 < 12) = false := decide_eq_false c2
  clear c2
  by_cases c5 : a0_0 > 24
  ·rw [if_pos c5] at H
   have c5b0 : decide (24 < a0_0) = true := decide_eq_true c5
   clear c5
   obtain rfl := Option.some.inj H
   go_enter Tryz.func85, Tryz.ntmps85
   go_wp2_with (first | ((with_reducible refine Qef (N := 1) rfl ?_); refine qq_e 1 #[.int .u8 a0_0, .int .u32 a0_1] 27 ?_; intro gb103 hg w6 hbox hb; have n0_ := QA (Qea qq_b hb); have n1_ := QA (hbox); have n2_ := QA ((qq_s hg : w.heap.size ≤ gb103)); have n3_ := QA ((qq_s hg : w.heap.size ≤ gb103)); clear HB; have HB := n0_; have BK103 := n1_; have GW103 := n2_; have GE103 := n3_; clear n0_ n1_ n2_ n3_; clear hb hbox hg; have hcz7_0 := qq_c (.int .u8 a0_0) BK103.out 0 rfl; have hcz7_1 := qq_c (.int .u32 a0_1) BK103.out 1 rfl; have hfz7_0 := Qdk BK103.out 0; have hfz7_1 := Qdk BK103.out 1))
   go_ret
   exact ⟨by first | rfl | (simp [Qgi, Qgj] <;> rfl) | (simp [*, Qgi, Qgj] <;> rfl), qq_b⟩
  ·rw [if_neg c5] at H
   have c5b0 : decide (24 < a0_0) = false := decide_eq_false c5
   clear c5
   by_cases c8 : a0_1 < 1
   ·rw [if_pos c8] at H
    have c8b0 : decide (a0_1 < 1) = true := decide_eq_true c8
    clear c8
    obtain rfl := Option.some.inj H
    go_enter Tryz.func85, Tryz.ntmps85
    go_wp2_with (first | ((with_reducible refine Qef (N := 1) rfl ?_); refine qq_e 1 #[.int .u8 a0_0, .int .u32 a0_1] 27 ?_; intro gb103 hg w9 hbox hb; have n0_ := QA (Qea qq_b hb); have n1_ := QA (hbox); have n2_ := QA ((qq_s hg : w.heap.size ≤ gb103)); have n3_ := QA ((qq_s hg : w.heap.size ≤ gb103)); clear HB; have HB := n0_; have BK103 := n1_; have GW103 := n2_; have GE103 := n3_; clear n0_ n1_ n2_ n3_; clear hb hbox hg; have hcz10_0 := qq_c (.int .u8 a0_0) BK103.out 0 rfl; have hcz10_1 := qq_c (.int .u32 a0_1) BK103.out 1 rfl; have hfz10_0 := Qdk BK103.out 0; have hfz10_1 := Qdk BK103.out 1))
    go_ret
    exact ⟨by first | rfl | (simp [Qgi, Qgj] <;> rfl) | (simp [*, Qgi, Qgj] <;> rfl), qq_b⟩
   ·rw [if_neg c8] at H
    have c8b0 : decide (a0_1 < 1) = false := decide_eq_false c8
    clear c8
    by_cases c11 : a0_1 > 65536
    ·rw [if_pos c11] at H
     have c11b0 : decide (65536 < a0_1) = true := decide_eq_true c11
     clear c11
     obtain rfl := Option.some.inj H
     go_enter Tryz.func85, Tryz.ntmps85
     go_wp2_with (first | ((with_reducible refine Qef (N := 1) rfl ?_); refine qq_e 1 #[.int .u8 a0_0, .int .u32 a0_1] 27 ?_; intro gb103 hg w12 hbox hb; have n0_ := QA (Qea qq_b hb); have n1_ := QA (hbox); have n2_ := QA ((qq_s hg : w.heap.size ≤ gb103)); have n3_ := QA ((qq_s hg : w.heap.size ≤ gb103)); clear HB; have HB := n0_; have BK103 := n1_; have GW103 := n2_; have GE103 := n3_; clear n0_ n1_ n2_ n3_; clear hb hbox hg; have hcz13_0 := qq_c (.int .u8 a0_0) BK103.out 0 rfl; have hcz13_1 := qq_c (.int .u32 a0_1) BK103.out 1 rfl; have hfz13_0 := Qdk BK103.out 0; have hfz13_1 := Qdk BK103.out 1))
     go_ret
     exact ⟨by first | rfl | (simp [Qgi, Qgj] <;> rfl) | (simp [*, Qgi, Qgj] <;> rfl), qq_b⟩
    ·rw [if_neg c11] at H
     have c11b0 : decide (65536 < a0_1) = false := decide_eq_false c11
     clear c11
     obtain rfl := Option.some.inj H
     go_enter Tryz.func85, Tryz.ntmps85
     go_wp2_with (first | ((with_reducible refine Qef (N := 1) rfl ?_); refine qq_e 1 #[.int .u8 a0_0, .int .u32 a0_1] 27 ?_; intro gb103 hg w14 hbox hb; have n0_ := QA (Qea qq_b hb); have n1_ := QA (hbox); have n2_ := QA ((qq_s hg : w.heap.size ≤ gb103)); have n3_ := QA ((qq_s hg : w.heap.size ≤ gb103)); clear HB; have HB := n0_; have BK103 := n1_; have GW103 := n2_; have GE103 := n3_; clear n0_ n1_ n2_ n3_; clear hb hbox hg; have hcz15_0 := qq_c (.int .u8 a0_0) BK103.out 0 rfl; have hcz15_1 := qq_c (.int .u32 a0_1) BK103.out 1 rfl; have hfz15_0 := Qdk BK103.out 0; have hfz15_1 := Qdk BK103.out 1))
     go_ret
     exact ⟨by first | rfl | (simp [Qgi, Qgj] <;> rfl) | (simp [*, Qgi, Qgj] <;> rfl), qq_b⟩
def Qcc.f (a0_0 : Int) (a0_1 : Int) (a1 : Int) : Option (Int) := (Qak.f a0_0 a0_1).bind fun t105 => (if t105 = 0 then (if a1 ≥ a0_1 then (some 1) else (some 0)) else (some 1))
theorem Qcc.calls (a0_0 : Int) (a0_1 : Int) (a1 : Int) (r : Int) (w : World) (h : Qcc.f a0_0 a0_1 a1 = some r) :
  Calls Tryz.prog 93 #[.agg #[.int .u8 a0_0, .int .u32 a0_1], .int .u32 a1] w fun e w' => e = .returned (.int .i64 r) ∧ Below w.heap.size w w' := by
 have hu27 := Tryz.underlying27
 have HB := QA (Below.refl w.heap.size w)
 have H : ((Qak.f a0_0 a0_1).bind fun t105 => (if t105 = 0 then (if a1 ≥ a0_1 then (some 1) else (some 0)) else (some 1))) = some r := h
 clear h
 replace H := Option.bind_eq_some_iff.mp H
 obtain ⟨t105, A30, H⟩ := H
 replace H : (if t105 = 0 then (if a1 ≥ a0_1 then (some 1) else (some 0)) else (some 1)) = some r := H
 have A3 := QA A30
 clear A30
 by_cases c4 : t105 = 0
 ·rw [if_pos c4] at H
  have c4b0 : (t105 == 0) = true := beq_iff_eq.mpr c4
  have c4b1 : (t105 != 0) = false := bne_eq_false_iff_eq.mpr c4
  clear c4
  by_cases c5 : a1 ≥ a0_1
  ·rw [if_pos c5] at H
   have c5b0 : decide (a0_1 ≤ a1) = true := decide_eq_true c5
   clear c5
   obtain rfl := Option.some.inj H
   go_enter Tryz.func93, Tryz.ntmps93
   go_wp2_with (first | ((with_reducible refine Qef (N := 2) rfl ?_); refine qq_e 2 #[.int .u8 a0_0, .int .u32 a0_1] 27 ?_; intro gb104 hg w6 hbox hb; have n0_ := QA (Qea qq_b hb); have n1_ := QA (hbox); have n2_ := QA ((qq_s hg : w.heap.size ≤ gb104)); have n3_ := QA ((qq_s hg : w.heap.size ≤ gb104)); clear HB; have HB := n0_; have BK104 := n1_; have GW104 := n2_; have GE104 := n3_; clear n0_ n1_ n2_ n3_; clear hb hbox hg; have hcz7_0 := qq_c (.int .u8 a0_0) BK104.out 0 rfl; have hcz7_1 := qq_c (.int .u32 a0_1) BK104.out 1 rfl; have hfz7_0 := Qdk BK104.out 0; have hfz7_1 := Qdk BK104.out 1) | ((with_reducible refine Qgf (f := 85) rfl ?_); refine Qeu (some 6) rfl rfl Tryz.func85 qq_6 rfl #[.agg #[.int .u8 a0_0, .int .u32 a0_1]] rfl qq_1 ?_; (with_reducible refine (Qak.calls a0_0 a0_1 t105 _ A3.out).mono ?_); rintro e w8 ⟨rfl, hb⟩; refine ⟨_, rfl, ?_⟩; have n0_ := QA (Qdt (g := gb104) (o := .cells #[.int .u8 a0_0, .int .u32 a0_1] 27 (0, 0)) qq_0 hb); have n1_ := QA (Qea qq_b hb); clear BK104; clear HB; have BK104 := n0_; have HB := n1_; clear n0_ n1_; (try clear hb); (try clear hb2); (try clear hk); (try clear hi); have hcz9_0 := qq_c (.int .u8 a0_0) BK104.out 0 rfl; have hcz9_1 := qq_c (.int .u32 a0_1) BK104.out 1 rfl; have hfz9_0 := Qdk BK104.out 0; have hfz9_1 := Qdk BK104.out 1))
   go_ret
   exact ⟨by first | rfl | (simp [Qgi, Qgj] <;> rfl) | (simp [*, Qgi, Qgj] <;> rfl), qq_b⟩
  ·rw [if_neg c5] at H
   have c5b0 : decide (a0_1 ≤ a1) = false := decide_eq_false c5
   clear c5
   obtain rfl := Option.some.inj H
   go_enter Tryz.func93, Tryz.ntmps93
   go_wp2_with (first | ((with_reducible refine Qef (N := 2) rfl ?_); refine qq_e 2 #[.int .u8 a0_0, .int .u32 a0_1] 27 ?_; intro gb104 hg w10 hbox hb; have n0_ := QA (Qea qq_b hb); have n1_ := QA (hbox); have n2_ := QA ((qq_s hg : w.heap.size ≤ gb104)); have n3_ := QA ((qq_s hg : w.heap.size ≤ gb104)); clear HB; have HB := n0_; have BK104 := n1_; have GW104 := n2_; have GE104 := n3_; clear n0_ n1_ n2_ n3_; clear hb hbox hg; have hcz11_0 := qq_c (.int .u8 a0_0) BK104.out 0 rfl; have hcz11_1 := qq_c (.int .u32 a0_1) BK104.out 1 rfl; have hfz11_0 := Qdk BK104.out 0; have hfz11_1 := Qdk BK104.out 1) | ((with_reducible refine Qgf (f := 85) rfl ?_); refine Qeu (some 6) rfl rfl Tryz.func85 qq_6 rfl #[.agg #[.int .u8 a0_0, .int .u32 a0_1]] rfl qq_1 ?_; (with_reducible refine (Qak.calls a0_0 a0_1 t105 _ A3.out).mono ?_); rintro e w12 ⟨rfl, hb⟩; refine ⟨_, rfl, ?_⟩; have n0_ := QA (Qdt (g := gb104) (o := .cells #[.int .u8 a0_0, .int .u32 a0_1] 27 (0, 0)) qq_0 hb); have n1_ := QA (Qea qq_b hb); clear BK104; clear HB; have BK104 := n0_; have HB := n1_; clear n0_ n1_; (try clear hb); (try clear hb2); (try clear hk); (try clear hi); have hcz13_0 := qq_c (.int .u8 a0_0) BK104.out 0 rfl; have hcz13_1 := qq_c (.int .u32 a0_1) BK104.out 1 rfl; have hfz13_0 := Qdk BK104.out 0; have hfz13_1 := Qdk BK104.out 1))
   go_ret
   exact ⟨by first | rfl | (simp [Qgi, Qgj] <;> rfl) | (simp [*, Qgi, Qgj] <;> rfl), qq_b⟩
 ·rw [if_neg c4] at H
  have c4b0 : (t105 == 0) = false := beq_eq_false_iff_ne.mpr c4
  have c4b1 : (t105 != 0) = true := bne_iff_ne.mpr c4
  obtain rfl := Option.some.inj H
  go_enter Tryz.func93, Tryz.ntmps93
  go_wp2_with (first | ((with_reducible refine Qef (N := 2) rfl ?_); refine qq_e 2 #[.int .u8 a0_0, .int .u32 a0_1] 27 ?_; intro gb104 hg w14 hbox hb; have n0_ := QA (Qea qq_b hb); have n1_ := QA (hbox); have n2_ := QA ((qq_s hg : w.heap.size ≤ gb104)); have n3_ := QA ((qq_s hg : w.heap.size ≤ gb104)); clear HB; have HB := n0_; have BK104 := n1_; have GW104 := n2_; have GE104 := n3_; clear n0_ n1_ n2_ n3_; clear hb hbox hg; have hcz15_0 := qq_c (.int .u8 a0_0) BK104.out 0 rfl; have hcz15_1 := qq_c (.int .u32 a0_1) BK104.out 1 rfl; have hfz15_0 := Qdk BK104.out 0; have hfz15_1 := Qdk BK104.out 1) | ((with_reducible refine Qgf (f := 85) rfl ?_); refine Qeu (some 6) rfl rfl Tryz.func85 qq_6 rfl #[.agg #[.int .u8 a0_0, .int .u32 a0_1]] rfl qq_1 ?_; (with_reducible refine (Qak.calls a0_0 a0_1 t105 _ A3.out).mono ?_); rintro e w16 ⟨rfl, hb⟩; refine ⟨_, rfl, ?_⟩; have n0_ := QA (Qdt (g := gb104) (o := .cells #[.int .u8 a0_0, .int .u32 a0_1] 27 (0, 0)) qq_0 hb); have n1_ := QA (Qea qq_b hb); clear BK104; clear HB; have BK104 := n0_; have HB := n1_; clear n0_ n1_; (try clear hb); (try clear hb2); (try clear hk); (try clear hi)))
  go_ret
  exact ⟨by first | rfl | (simp [Qgi, Qgj] <;> rfl) | (simp [*, Qgi, Qgj] <;> rfl), qq_b⟩
def Qcj.j0 : Nat → Bool → Bool → Int → ByteArray → ByteArray → Option (Int)
 | 0, _, _, _, _, _ => none
 | k + 1, x12, x117000, x117001, x117002, x117003 => if x12 = true then (some 4) else (if (x117003.size : Int) > 1048576 then (some 3) else (some 0))
def Qcj.f (k : Nat) (a0_0 : Bool) (a0_1 : Int) (a0_2 : ByteArray) (a0_3 : ByteArray) : Option (Int) := if a0_2.toList = ([] : List UInt8) then (some 4) else (if (a0_2.size : Int) > 4096 then (some 3) else (if a0_0 = true then (Qcj.j0 k (a0_3.toList != ([] : List UInt8)) a0_0 a0_1 a0_2 a0_3) else (Qcj.j0 k false a0_0 a0_1 a0_2 a0_3)))
theorem Qcj.calls (k : Nat) (a0_0 : Bool) (a0_1 : Int) (a0_2 : ByteArray) (a0_3 : ByteArray) (r : Int) (w : World) (h : Qcj.f k a0_0 a0_1 a0_2 a0_3 = some r) :
  Calls Tryz.prog 56 #[.agg #[.bool a0_0, .int .u64 a0_1, .string a0_2, .string a0_3]] w fun e w' => e = .returned (.int .i64 r) ∧ Below w.heap.size w w' := by
 have hu39 := Tryz.underlying39
 have HB := QA (Below.refl w.heap.size w)
 have H : (if a0_2.toList = ([] : List UInt8) then (some 4) else (if (a0_2.size : Int) > 4096 then (some 3) else (if a0_0 = true then (Qcj.j0 k (a0_3.toList != ([] : List UInt8)) a0_0 a0_1 a0_2 a0_3) else (Qcj.j0 k false a0_0 a0_1 a0_2 a0_3)))) = some r := h
 clear h
 by_cases c2 : a0_2.toList = ([] : List UInt8)
 ·rw [if_pos c2] at H
  have c2b0 : (a0_2.toList == ([] : List UInt8)) = true := beq_iff_eq.mpr c2
  have c2b1 : (a0_2.toList != ([] : List UInt8)) = false := bne_eq_false_iff_eq.mpr c2
  clear c2
  obtain rfl := Option.some.inj H
  go_enter Tryz.func56, Tryz.ntmps56
  go_wp2_with (first | ((with_reducible refine Qef (N := 1) rfl ?_); refine qq_e 1 #[.bool a0_0, .int .u64 a0_1, .string a0_2, .string a0_3] 39 ?_; intro gb116 hg w3 hbox hb; have n0_ := QA (Qea qq_b hb); have n1_ := QA (hbox); have n2_ := QA ((qq_s hg : w.heap.size ≤ gb116)); have n3_ := QA ((qq_s hg : w.heap.size ≤ gb116)); clear HB; have HB := n0_; have BK116 := n1_; have GW116 := n2_; have GE116 := n3_; clear n0_ n1_ n2_ n3_; clear hb hbox hg; have hcz4_0 := qq_c (.bool a0_0) BK116.out 0 rfl; have hcz4_1 := qq_c (.int .u64 a0_1) BK116.out 1 rfl; have hcz4_2 := qq_c (.string a0_2) BK116.out 2 rfl; have hcz4_3 := qq_c (.string a0_3) BK116.out 3 rfl; have hfz4_0 := Qdk BK116.out 0; have hfz4_1 := Qdk BK116.out 1; have hfz4_2 := Qdk BK116.out 2; have hfz4_3 := Qdk BK116.out 3))
  go_ret
  exact ⟨by first | rfl | (simp [Qgi, Qgj] <;> rfl) | (simp [*, Qgi, Qgj] <;> rfl), qq_b⟩
 ·rw [if_neg c2] at H
  have c2b0 : (a0_2.toList == ([] : List UInt8)) = false := beq_eq_false_iff_ne.mpr c2
  have c2b1 : (a0_2.toList != ([] : List UInt8)) = true := bne_iff_ne.mpr c2
  by_cases c5 : (a0_2.size : Int) > 4096
  ·rw [if_pos c5] at H
   have c5b0 : decide (4096 < (a0_2.size : Int)) = true := decide_eq_true c5
   have c5b1 : decide (4096 < a0_2.size) = true := decide_eq_true (by omega)
   clear c5
   obtain rfl := Option.some.inj H
   go_enter Tryz.func56, Tryz.ntmps56
   go_wp2_with (first | ((with_reducible refine Qef (N := 1) rfl ?_); refine qq_e 1 #[.bool a0_0, .int .u64 a0_1, .string a0_2, .string a0_3] 39 ?_; intro gb116 hg w6 hbox hb; have n0_ := QA (Qea qq_b hb); have n1_ := QA (hbox); have n2_ := QA ((qq_s hg : w.heap.size ≤ gb116)); have n3_ := QA ((qq_s hg : w.heap.size ≤ gb116)); clear HB; have HB := n0_; have BK116 := n1_; have GW116 := n2_; have GE116 := n3_; clear n0_ n1_ n2_ n3_; clear hb hbox hg; have hcz7_0 := qq_c (.bool a0_0) BK116.out 0 rfl; have hcz7_1 := qq_c (.int .u64 a0_1) BK116.out 1 rfl; have hcz7_2 := qq_c (.string a0_2) BK116.out 2 rfl; have hcz7_3 := qq_c (.string a0_3) BK116.out 3 rfl; have hfz7_0 := Qdk BK116.out 0; have hfz7_1 := Qdk BK116.out 1; have hfz7_2 := Qdk BK116.out 2; have hfz7_3 := Qdk BK116.out 3))
   go_ret
   exact ⟨by first | rfl | (simp [Qgi, Qgj] <;> rfl) | (simp [*, Qgi, Qgj] <;> rfl), qq_b⟩
  ·rw [if_neg c5] at H
   have c5b0 : decide (4096 < (a0_2.size : Int)) = false := decide_eq_false c5
   have c5b1 : decide (4096 < a0_2.size) = false := decide_eq_false (by omega)
   clear c5
   have HC8 := QA H
   clear H
   go_enter Tryz.func56, Tryz.ntmps56
   go_upto_region 5 with (first | ((with_reducible refine Qef (N := 1) rfl ?_); refine qq_e 1 #[.bool a0_0, .int .u64 a0_1, .string a0_2, .string a0_3] 39 ?_; intro gb116 hg w9 hbox hb; have n0_ := QA (Qea qq_b hb); have n1_ := QA (hbox); have n2_ := QA ((qq_s hg : w.heap.size ≤ gb116)); have n3_ := QA ((qq_s hg : w.heap.size ≤ gb116)); clear HB; have HB := n0_; have BK116 := n1_; have GW116 := n2_; have GE116 := n3_; clear n0_ n1_ n2_ n3_; clear hb hbox hg; have hcz10_0 := qq_c (.bool a0_0) BK116.out 0 rfl; have hcz10_1 := qq_c (.int .u64 a0_1) BK116.out 1 rfl; have hcz10_2 := qq_c (.string a0_2) BK116.out 2 rfl; have hcz10_3 := qq_c (.string a0_3) BK116.out 3 rfl; have hfz10_0 := Qdk BK116.out 0; have hfz10_1 := Qdk BK116.out 1; have hfz10_2 := Qdk BK116.out 2; have hfz10_3 := Qdk BK116.out 3))
   (try simp only [Act.put, List.setIfInBounds_toArray, List.set_cons_zero, List.set_cons_succ])
   go_cut [12] (fun v12 wc => ∃ (kq : Nat) (x12_7 : Bool), v12 = .bool x12_7 ∧ Aside0 (Qcj.j0 kq x12_7 a0_0 a0_1 a0_2 a0_3 = some r) ∧ Aside0 (kq ≤ k) ∧ Aside0 (wc.heap[gb116]? = some (.cells #[.bool a0_0, .int .u64 a0_1, .string a0_2, .string a0_3] 39 (0, 0))) ∧ Aside0 (Below w.heap.size w wc))
   case first =>
    have H := HC8.out
    clear HC8
    by_cases c11 : a0_0 = true
    ·subst c11
     have H1 : (Qcj.j0 k (a0_3.toList != ([] : List UInt8)) true a0_1 a0_2 a0_3) = some r := by rw [if_pos rfl] at H; exact H
     clear H
     have H := H1
     clear H1
     have H' := QA H
     clear H
     have hcz12_0 := qq_c (.bool true) BK116.out 0 rfl
     have hcz12_1 := qq_c (.int .u64 a0_1) BK116.out 1 rfl
     have hcz12_2 := qq_c (.string a0_2) BK116.out 2 rfl
     have hcz12_3 := qq_c (.string a0_3) BK116.out 3 rfl
     have hfz12_0 := Qdk BK116.out 0
     have hfz12_1 := Qdk BK116.out 1
     have hfz12_2 := Qdk BK116.out 2
     have hfz12_3 := Qdk BK116.out 3
     go_wp2
     go_meet
     case rel => exact ⟨_, ((a0_3.toList != ([] : List UInt8))), (by first | rfl | (simp; done) | (simp [*]; done) | (cases a0_3.toList <;> rfl)), H', ⟨by first | omega | exact Nat.le_refl _⟩, ⟨by (with_reducible repeat (first | apply Qds | apply Qdr | apply Qdq)); exact BK116.out⟩, ⟨qq_b⟩⟩
    ·replace c11 := Bool.eq_false_iff.mpr c11
     subst c11
     have H1 : (Qcj.j0 k false false a0_1 a0_2 a0_3) = some r := by rw [if_neg (show ¬ (false = true) by decide)] at H; exact H
     clear H
     have H := H1
     clear H1
     have H' := QA H
     clear H
     have hcz13_0 := qq_c (.bool false) BK116.out 0 rfl
     have hcz13_1 := qq_c (.int .u64 a0_1) BK116.out 1 rfl
     have hcz13_2 := qq_c (.string a0_2) BK116.out 2 rfl
     have hcz13_3 := qq_c (.string a0_3) BK116.out 3 rfl
     have hfz13_0 := Qdk BK116.out 0
     have hfz13_1 := Qdk BK116.out 1
     have hfz13_2 := Qdk BK116.out 2
     have hfz13_3 := Qdk BK116.out 3
     go_wp2
     go_meet
     case rel => exact ⟨_, (false), (by first | rfl | (simp; done) | (simp [*]; done) | (cases a0_3.toList <;> rfl)), H', ⟨by first | omega | exact Nat.le_refl _⟩, ⟨by (with_reducible repeat (first | apply Qds | apply Qdr | apply Qdq)); exact BK116.out⟩, ⟨qq_b⟩⟩
   case rest =>
    clear HC8
    try clear c2
    try clear c2b0
    try clear c2b1
    try clear c5
    try clear c5b0
    try clear c5b1
    try clear c11
    try clear hcz10_0
    try clear hcz10_1
    try clear hcz10_2
    try clear hcz10_3
    try clear hcz12_0
    try clear hcz12_1
    try clear hcz12_2
    try clear hcz12_3
    try clear hcz13_0
    try clear hcz13_1
    try clear hcz13_2
    try clear hcz13_3
    try clear hcz4_0
    try clear hcz4_1
    try clear hcz4_2
    try clear hcz4_3
    try clear hcz7_0
    try clear hcz7_1
    try clear hcz7_2
    try clear hcz7_3
    try clear hfz10_0
    try clear hfz10_1
    try clear hfz10_2
    try clear hfz10_3
    try clear hfz12_0
    try clear hfz12_1
    try clear hfz12_2
    try clear hfz12_3
    try clear hfz13_0
    try clear hfz13_1
    try clear hfz13_2
    try clear hfz13_3
    try clear hfz4_0
    try clear hfz4_1
    try clear hfz4_2
    try clear hfz4_3
    try clear hfz7_0
    try clear hfz7_1
    try clear hfz7_2
    try clear hfz7_3
    obtain ⟨kq, x12_7, rfl, HA, HJ7, BK116, HB⟩ := hcut
    cases kq with
    | zero => exact absurd HA.out (by simp [Qcj.j0])
    | succ kj7 =>
     have H := HA.out
     clear HA
     simp only [Qcj.j0] at H
     by_cases c14 : x12_7 = true
     ·subst c14
      have H1 : (some 4) = some r := by rw [if_pos rfl] at H; exact H
      clear H
      have H := H1
      clear H1
      obtain rfl := Option.some.inj H
      go_wp2
      go_ret
      exact ⟨by first | rfl | (simp [Qgi, Qgj] <;> rfl) | (simp [*, Qgi, Qgj] <;> rfl), qq_b⟩
     ·replace c14 := Bool.eq_false_iff.mpr c14
      subst c14
      have H1 : (if (a0_3.size : Int) > 1048576 then (some 3) else (some 0)) = some r := by rw [if_neg (show ¬ (false = true) by decide)] at H; exact H
      clear H
      have H := H1
      clear H1
      by_cases c15 : (a0_3.size : Int) > 1048576
      ·rw [if_pos c15] at H
       have c15b0 : decide (1048576 < (a0_3.size : Int)) = true := decide_eq_true c15
       have c15b1 : decide (1048576 < a0_3.size) = true := decide_eq_true (by omega)
       clear c15
       obtain rfl := Option.some.inj H
       have hcz16_0 := qq_c (.bool a0_0) BK116.out 0 rfl
       have hcz16_1 := qq_c (.int .u64 a0_1) BK116.out 1 rfl
       have hcz16_2 := qq_c (.string a0_2) BK116.out 2 rfl
       have hcz16_3 := qq_c (.string a0_3) BK116.out 3 rfl
       have hfz16_0 := Qdk BK116.out 0
       have hfz16_1 := Qdk BK116.out 1
       have hfz16_2 := Qdk BK116.out 2
       have hfz16_3 := Qdk BK116.out 3
       go_wp2
       go_ret
       exact ⟨by first | rfl | (simp [Qgi, Qgj] <;> rfl) | (simp [*, Qgi, Qgj] <;> rfl), qq_b⟩
      ·rw [if_neg c15] at H
       have c15b0 : decide (1048576 < (a0_3.size : Int)) = false := decide_eq_false c15
       have c15b1 : decide (1048576 < a0_3.size) = false := decide_eq_false (by omega)
       clear c15
       obtain rfl := Option.some.inj H
       have hcz17_0 := qq_c (.bool a0_0) BK116.out 0 rfl
       have hcz17_1 := qq_c (.int .u64 a0_1) BK116.out 1 rfl
       have hcz17_2 := qq_c (.string a0_2) BK116.out 2 rfl
       have hcz17_3 := qq_c (.string a0_3) BK116.out 3 rfl
       have hfz17_0 := Qdk BK116.out 0
       have hfz17_1 := Qdk BK116.out 1
       have hfz17_2 := Qdk BK116.out 2
       have hfz17_3 := Qdk BK116.out 3
       go_wp2
       go_ret
       exact ⟨by first | rfl | (simp [Qgi, Qgj] <;> rfl) | (simp [*, Qgi, Qgj] <;> rfl), qq_b⟩
end Go.Proofs.YtnnofopfbeklbaaGreat.C
end
section
namespace Go.Proofs.YtnnofopfbeklbaaGreat.C
open Go.RowKit Go.Proofs.YtnnofopfbeklbaaGreatW.PrintWords Go.Proofs.YtnnofopfbeklbaaGreatW.PrintLast Go.Proofs.YtnnofopfbeklbaaGreatW.PrintMore
abbrev R8 (W : World) (b : Nat) (v : Value) (xs : List Int) : Prop := Kd.R (Kd.int .u8) 5 W b (fun _ => True) v xs
def IsBuf (W : World) (b g : Nat) (xs : List Int) : Prop := ∃ v, W.heap[g]? = some (.cells #[v] 167 (0, 0)) ∧ R8 W b v xs
def leb : Int → Nat → List Int
 | _, 0 => []
 | x, n + 1 => x % 256 :: leb (x / 256) n
theorem Qgs : ∀ (n : Nat) (x : Int), (leb x n).length = n
 | 0, _ => rfl
 | n + 1, x => by simp [leb, Qgs n]
theorem R8.lit (W : World) (b : Nat) (hb : b ≤ W.heap.size) (xs : List Int) (hm : xs.length ≤ 9223372036854775807) : R8 (W.alloc (.cells (nums .u8 xs).toArray 5)) b (.slice (some ⟨W.heap.size, 0, none⟩) xs.length xs.length) xs :=
 Kd.R_of_own (own_lit W b 5 .u8 xs hb hm) (fun _ _ => trivial)
theorem R8.clean {W : World} {b g t : Nat} {v : Value} {xs : List Int} {cs : Array Value} (h : R8 W b v xs) (hg : W.heap[g]? = some (.cells cs t (0, 0))) (ht : 5 ≠ t) : some g ≠ v.ownBlock := Kd.R_ne h hg ht
theorem R8.set {W : World} {b g t : Nat} {v : Value} {xs : List Int} {cs : Array Value} (h : R8 W b v xs) (hg : W.heap[g]? = some (.cells cs t (0, 0))) (ht : 5 ≠ t) (j : Nat) (u : Value) : R8 (W.setCell ⟨g, j, none⟩ u) b v xs :=
 Kd.R_set h hg (by intro q hq; rcases List.mem_cons.1 hq with rfl | hq; exact ht; cases hq) j u
theorem R8.kept {W W' : World} {b : Nat} {v : Value} {xs : List Int} (h : R8 W b v xs) (hb : Below W.heap.size W W') : R8 W' b v xs := Kd.R_below h hb
theorem R8.low {W : World} {b b' : Nat} {v : Value} {xs : List Int} (h : R8 W b v xs) (hb : b' ≤ b) : R8 W b' v xs := Kd.R_lower h hb
theorem R8.shape {W : World} {b : Nat} {v : Value} {xs : List Int} (h : R8 W b v xs) : ∃ A n c, v = .slice A n c := by
 obtain ⟨A, c, e⟩ := Kd.R_slice h
 exact ⟨A, _, c, e⟩
theorem IsBuf.kept {W W' : World} {b g : Nat} {xs : List Int} (h : IsBuf W b g xs) (hb : Below W.heap.size W W') : IsBuf W' b g xs := by
 obtain ⟨v, h1, h2⟩ := h
 exact ⟨v, Qdt h1 hb, h2.kept hb⟩
theorem IsBuf.lt {W : World} {b g : Nat} {xs : List Int} (h : IsBuf W b g xs) : g < W.heap.size := by
 obtain ⟨v, h1, h2⟩ := h
 exact Qdi h1
theorem IsBuf.put {W w1 : World} {b g : Nat} {v v1 : Value} {xs ys : List Int} (hv : W.heap[g]? = some (.cells #[v] 167 (0, 0))) (hR : R8 W b v xs) (hg : W.grownBy w1 v.ownBlock) (h1 : R8 w1 b v1 ys) :
  w1.heap[g]? = some (.cells #[v] 167 (0, 0)) ∧ IsBuf (w1.setCell ⟨g, 0, none⟩ v1) b g ys := by
 have hv1 := Qdl hv hg (hR.clean hv (by decide))
 exact ⟨hv1, v1, Qdg hv1 0 v1, h1.set hv1 (by decide) 0 v1⟩
theorem Qgt {b : Nat} {w W : World} {g j : Nat} {v : Value} (h : Below b w W) (hg : b ≤ g) : Below b w (W.setCell ⟨g, j, none⟩ v) := h.setCell hg _
theorem Qgu {b b' : Nat} {w W : World} (h : Below b w W) (hb : b' ≤ b) : Below b' w W := ⟨h.os, h.tape, h.output, h.size, fun i hi => h.block i (by omega)⟩
def Tk (g : Nat) (w w' : World) : Prop := ∀ k cs t, w.heap[k]? = some (.cells cs t (0, 0)) → t ≠ 5 → k ≠ g → w'.heap[k]? = some (.cells cs t (0, 0))
def Bw (b g : Nat) (w w' : World) : Prop := Below b w w' ∧ Tk g w w'
theorem Tk.refl (g : Nat) (w : World) : Tk g w w := fun _ _ _ h _ _ => h
theorem Tk.trans {g : Nat} {a b c : World} (h : Tk g a b) (k : Tk g b c) : Tk g a c := fun _ _ _ h1 h2 h3 => k _ _ _ (h _ _ _ h1 h2 h3) h2 h3
theorem Tk.below {g : Nat} {w w' : World} (h : Below w.heap.size w w') : Tk g w w' := fun _ _ _ h1 _ _ => Qdt h1 h
theorem Bw.refl (b g : Nat) (w : World) : Bw b g w w := ⟨Below.refl _ _, Tk.refl _ _⟩
theorem Bw.trans {b g : Nat} {x y z : World} (h : Bw b g x y) (k : Bw b g y z) : Bw b g x z := ⟨h.1.trans k.1, h.2.trans k.2⟩
theorem Bw.below {b g : Nat} {w w' : World} (h : Below w.heap.size w w') (hb : b ≤ w.heap.size) : Bw b g w w' := ⟨Qgu h hb, Tk.below h⟩
theorem Bw.size {b g : Nat} {w w' : World} (h : Bw b g w w') : w.heap.size ≤ w'.heap.size := h.1.size
theorem Bw.put {W w1 : World} {b g : Nat} {v v1 : Value} {xs : List Int} (hbg : b ≤ g) (hv : W.heap[g]? = some (.cells #[v] 167 (0, 0))) (hR : R8 W b v xs) (hb : Below b W w1) (hg : W.grownBy w1 v.ownBlock) : Bw b g W (w1.setCell ⟨g, 0, none⟩ v1) := by
 refine ⟨Qgt hb hbg, fun k cs t h1 h2 h3 => ?_⟩
 have hne : some k ≠ v.ownBlock := Kd.R_ne hR h1 (fun e => h2 e.symm)
 have h4 := Qdl h1 hg hne
 exact Qdh h4 h3 v1
theorem clone_of (A0 : Option Addr) (c0 : Nat) (l0 : List Int) (w : World) (hr0 : Kd.C (Kd.int .u8) w A0 l0.length l0) (hl : l0.length ≤ 140737488355328) :
  Calls Tryz.prog 70 #[.slice A0 l0.length c0] w fun e w' => ∃ v0_ : Value, e = .returned (v0_) ∧ R8 w' w.heap.size v0_ l0 ∧ Below w.heap.size w w' := by
 have hu := Tryz.underlying52
 have q22 : ∀ (w : World) (a : Option Addr) (n c n' c' : Nat), (binOp .eql 52 (.slice a n c) (.slice none n' c')).run Tryz.prog w = .ok (.bool a.isNone) w := fun w a n c n' c' => Lib.run_eql_slice_nil w _ _ a n c n' c' hu
 cases A0 with
 | none =>
  obtain rfl : l0 = [] := by
   cases l0 with
   | nil => rfl
   | cons a t => obtain ⟨ad, c, h1, _⟩ := Kd.C_get hr0 0 0 (by omega) (by simp); cases h1
  go_enter Tryz.func70, Tryz.ntmps70
  go_wp2
  go_ret
  exact ⟨_, rfl, Kd.R_nil _ _ _ _ _, Below.refl _ _⟩
 | some ad =>
  go_enter Tryz.func70, Tryz.ntmps70
  go_wp2_with (first | (at_builtin; refine Kd.R_append_row (Value.int .u8) (0 : Int) (h1 := fun _ => rfl) (w0 := w) w.heap.size rfl (.tmp 5) (.tmp 6) 52 5 (.int .u8 0) 1 rfl Tryz.underlying52 Qgk rfl (by decide) _ [] l0 (some ad) l0.length c0 (fun _ => True) rfl rfl (fun _ _ => trivial) ?hO ?hR ?hB ?hS ?hL ?_; (case hO => exact R8.lit w w.heap.size (Nat.le_refl _) [] (by simp)); (case hR => exact Kd.C_below hr0 (Qco (Below.refl _ _) _)); (case hB => exact Qco (Below.refl _ _) _); (case hS => simp); (case hL => simp; omega); intro v1 w1 HR1 hb1 hg1 hat1; simp only [List.nil_append] at HR1))
  go_ret
  exact ⟨_, rfl, HR1, hb1⟩
theorem buf_num (b g : Nat) (x : Int) (n : Nat) (xs : List Int) (w : World) (hx0 : 0 ≤ x) (hx1 : x < 18446744073709551616) (hbg : b ≤ g) (hbw : b ≤ w.heap.size) (hI : IsBuf w b g xs) (hl : xs.length + n ≤ 140737488355328) :
  Calls Tryz.prog 149 #[.pointer (some ⟨g, 0, none⟩), .int .u64 x, .int .i64 n] w fun e w' => e = .returned (.pointer (some ⟨g, 0, none⟩)) ∧ IsBuf w' b g (xs ++ leb x n) ∧ Bw b g w w' := by
 have HI := QA hI
 clear hI
 go_enter Tryz.func149, Tryz.ntmps149
 go_wp2
 go_loopw [1, 8] (fun v1 v8 wr => ∃ (k : Nat) (ys : List Int) (iv xv : Int), k ≤ n ∧ ys.length = k ∧ v8 = .int .i64 iv ∧ v1 = .int .u64 xv ∧ 0 ≤ xv ∧ xv < 18446744073709551616 ∧ Aside0 (iv = (k : Int)) ∧ Aside0 (leb x n = ys ++ leb xv (n - k)) ∧ Aside0 (IsBuf wr b g (xs ++ ys)) ∧ Aside0 (Bw b g w wr))
  (fun _ v8 _ => n - (intOf v8).toNat)
 case atStart => exact ⟨0, [], 0, x, Nat.zero_le _, rfl, rfl, rfl, hx0, hx1, ⟨rfl⟩, ⟨rfl⟩, ⟨by simpa using HI.out⟩, ⟨Bw.refl _ _ _⟩⟩
 case round =>
  obtain ⟨k, ys, iv, xv, hk, hys, rfl, rfl, hx2, hx3, HK, HL, HB, HW⟩ := hrel
  by_cases hlt : k < n
  ·have hlt2 : iv < (n : Int) := by have := HK.out; omega
   have hge : 0 ≤ iv := by have := HK.out; omega
   obtain ⟨v, hv, hR⟩ := HB.out
   have hc : wr.cell? ⟨g, 0, none⟩ = some v := (Qdj hv 0).trans rfl
   have HV := QA hv
   have HR := QA hR
   clear hv hR
   go_wp2_with ((at_builtin; refine Kd.R_append (Kd.int .u8) (w0 := wr) b rfl (.tmp 14) (.tmp 17) 52 5 (.int .u8 0) 1 rfl Tryz.underlying52 Qgk rfl (by decide) (by omega) v (xs ++ ys) (xv % 256) [.int .u8 (xv % 256)] (fun _ => True) (fun _ => False) rfl ?ax ?aP (fun _ hk => hk.elim) ?aF ?aO ?aB ?aS ?aL ?_; (case ax => rfl); (case aP => rfl); (case aF => exact fun _ _ => trivial); (case aO => exact HR.out); (case aB => exact Below.refl _ _); (case aS => exact Nat.le_trans hbw HW.out.size); (case aL => simp; omega); intro v1 w1 HR1 hb1 hg1 hat1; obtain ⟨A1, n1, c1, rfl⟩ := R8.shape HR1; obtain ⟨hv1, hI1⟩ := IsBuf.put HV.out HR.out hg1 HR1; have hfz := Qdk hv1 0; have hc1 : w1.cell? ⟨g, 0, none⟩ = some v := (Qdj hv1 0).trans rfl; have HI1 := QA hI1; have HB1 := QA (HW.out.trans (Bw.put (v1 := .slice A1 n1 c1) hbg HV.out HR.out hb1 hg1)); clear hI1 hb1 hg1 hat1 HR1 hv1))
   go_roundw
   case rel => exact ⟨k + 1, ys ++ [xv % 256], iv + 1, xv / 256, by omega, by simp [hys], by go_num, by go_num, by omega, by omega, ⟨by have := HK.out; omega⟩, ⟨by
    rw [HL.out, show n - k = (n - (k + 1)) + 1 by omega, leb]; simp⟩, ⟨by rw [← List.append_assoc]; exact HI1.out⟩, ⟨HB1.out⟩⟩
   case measure => simp [intOf]; omega
  ·obtain rfl : k = n := by omega
   have e1 : iv = (k : Int) := HK.out
   subst e1
   go_wp2
   go_ret
   refine ⟨rfl, ?_, HW.out⟩
   have e := HL.out
   rw [Nat.sub_self] at e
   rw [e]
   simpa [leb] using HB.out
theorem Qgv (b g : Nat) (x : Int) (xs : List Int) (w : World) (hx0 : 0 ≤ x) (hx1 : x < 256) (hbg : b ≤ g) (hbw : b ≤ w.heap.size) (hI : IsBuf w b g xs) (hl : xs.length + 1 ≤ 140737488355328) :
  Calls Tryz.prog 94 #[.pointer (some ⟨g, 0, none⟩), .int .u8 x] w fun e w' => e = .returned (.pointer (some ⟨g, 0, none⟩)) ∧ IsBuf w' b g (xs ++ [x]) ∧ Bw b g w w' := by
 go_enter Tryz.func94, Tryz.ntmps94
 go_wp2_with (go_at_call 149; refine (buf_num b g x 1 xs w hx0 (by omega) hbg hbw hI hl).mono ?_; rintro e w' ⟨rfl, hd, hb⟩)
 go_ret
 refine ⟨rfl, ?_, hb⟩
 have e : leb x 1 = [x] := by simp [leb]; omega
 rw [e] at hd
 exact hd
theorem buf_Four (b g : Nat) (x : Int) (xs : List Int) (w : World) (hx0 : 0 ≤ x) (hx1 : x < 4294967296) (hbg : b ≤ g) (hbw : b ≤ w.heap.size) (hI : IsBuf w b g xs) (hl : xs.length + 4 ≤ 140737488355328) :
  Calls Tryz.prog 112 #[.pointer (some ⟨g, 0, none⟩), .int .u32 x] w fun e w' => e = .returned (.pointer (some ⟨g, 0, none⟩)) ∧ IsBuf w' b g (xs ++ leb x 4) ∧ Bw b g w w' := by
 go_enter Tryz.func112, Tryz.ntmps112
 go_wp2_with (go_at_call 149; refine (buf_num b g x 4 xs w hx0 (by omega) hbg hbw hI hl).mono ?_; rintro e w' ⟨rfl, hd, hb⟩)
 go_ret
 exact ⟨rfl, hd, hb⟩
theorem Qgw (b g : Nat) (x : Int) (xs : List Int) (w : World) (hx0 : 0 ≤ x) (hx1 : x < 18446744073709551616) (hbg : b ≤ g) (hbw : b ≤ w.heap.size) (hI : IsBuf w b g xs) (hl : xs.length + 8 ≤ 140737488355328) :
  Calls Tryz.prog 151 #[.pointer (some ⟨g, 0, none⟩), .int .u64 x] w fun e w' => e = .returned (.pointer (some ⟨g, 0, none⟩)) ∧ IsBuf w' b g (xs ++ leb x 8) ∧ Bw b g w w' := by
 go_enter Tryz.func151, Tryz.ntmps151
 go_wp2_with (go_at_call 149; refine (buf_num b g x 8 xs w hx0 hx1 hbg hbw hI hl).mono ?_; rintro e w' ⟨rfl, hd, hb⟩)
 go_ret
 exact ⟨rfl, hd, hb⟩
theorem buf_Raw (b g : Nat) (A0 : Option Addr) (c0 : Nat) (ys : List Int) (xs : List Int) (w : World) (hr0 : Kd.C (Kd.int .u8) w A0 ys.length ys) (hbg : b ≤ g) (hbw : b ≤ w.heap.size) (hI : IsBuf w b g xs) (hl : xs.length + ys.length ≤ 140737488355328) :
  Calls Tryz.prog 150 #[.pointer (some ⟨g, 0, none⟩), .slice A0 ys.length c0] w fun e w' => e = .returned (.pointer (some ⟨g, 0, none⟩)) ∧ IsBuf w' b g (xs ++ ys) ∧ Bw b g w w' := by
 obtain ⟨v, hv, hR⟩ := hI
 have hc : w.cell? ⟨g, 0, none⟩ = some v := (Qdj hv 0).trans rfl
 go_enter Tryz.func150, Tryz.ntmps150
 go_wp2_with (first | (at_builtin; refine Kd.R_append_row (Value.int .u8) (0 : Int) (h1 := fun _ => rfl) (w0 := w) b rfl (.tmp 9) (.tmp 10) 52 5 (.int .u8 0) 1 rfl Tryz.underlying52 Qgk rfl (by decide) v xs ys A0 ys.length c0 (fun _ => True) rfl rfl (fun _ _ => trivial) ?hO ?hR ?hB ?hS ?hL ?_; (case hO => exact hR); (case hR => exact hr0); (case hB => exact Below.refl _ _); (case hS => exact hbw); (case hL => omega); intro v1 w1 HR1 hb1 hg1 hat1; obtain ⟨A1, n1, c1, rfl⟩ := R8.shape HR1; obtain ⟨hv1, hI1⟩ := IsBuf.put hv hR hg1 HR1; have hfz := Qdk hv1 0; have hc1 : w1.cell? ⟨g, 0, none⟩ = some v := (Qdj hv1 0).trans rfl; have HI1 := QA hI1; have HB1 := QA (Bw.put (v1 := .slice A1 n1 c1) hbg hv hR hb1 hg1); clear hI1 hb1 hg1 hat1 HR1 hv1))
 go_ret
 exact ⟨rfl, HI1.out, HB1.out⟩
theorem buf_Raw' (b g : Nat) (A0 : Option Addr) (c0 n : Nat) (ys : List Int) (xs : List Int) (w : World) (hn : n = ys.length) (hr0 : Kd.C (Kd.int .u8) w A0 n ys) (hbg : b ≤ g) (hbw : b ≤ w.heap.size) (hI : IsBuf w b g xs) (hl : xs.length + n ≤ 140737488355328) :
  Calls Tryz.prog 150 #[.pointer (some ⟨g, 0, none⟩), .slice A0 n c0] w fun e w' => e = .returned (.pointer (some ⟨g, 0, none⟩)) ∧ IsBuf w' b g (xs ++ ys) ∧ Bw b g w w' := by
 subst hn
 exact buf_Raw b g A0 c0 ys xs w hr0 hbg hbw hI hl
theorem Qgx (b g : Nat) (xs : List Int) (w : World) (hI : IsBuf w b g xs) (hl : xs.length ≤ 140737488355328) :
  Calls Tryz.prog 97 #[.pointer (some ⟨g, 0, none⟩)] w fun e w' => ∃ v : Value, e = .returned v ∧ R8 w' w.heap.size v xs ∧ Below w.heap.size w w' := by
 obtain ⟨v, hv, hR⟩ := hI
 obtain ⟨A, c, rfl, hlc, hC⟩ := Kd.R_reads hR
 have hc : w.cell? ⟨g, 0, none⟩ = some (.slice A xs.length c) := (Qdj hv 0).trans rfl
 go_enter Tryz.func97, Tryz.ntmps97
 go_wp2_with (go_at_call 70; refine (clone_of A c xs w hC hl).mono ?_; rintro e w' ⟨v1, rfl, hd, hb⟩)
 go_ret
 exact ⟨_, rfl, hd, hb⟩
end Go.Proofs.YtnnofopfbeklbaaGreat.C
end
section
namespace Go.Proofs.YtnnofopfbeklbaaGreat.C
open Go.RowKit Go.Proofs.YtnnofopfbeklbaaGreatW.PrintWords Go.Proofs.YtnnofopfbeklbaaGreatW.PrintLast Go.Proofs.YtnnofopfbeklbaaGreatW.PrintMore
attribute [local go_sem] Qfx Qfy Qfz Qga Qgb Qgc Qgd Qge
def Qaj.f (a0 : Int) : Option (Int) := if a0 ≤ 0 then (some 1) else (some (wrap64 ((wrap64 (a0 + 1)) + (wrap64 (Int.tdiv (wrap64 (a0 - 1)) 254)))))
theorem Qaj.calls (a0 : Int) (r : Int) (w : World) (h : Qaj.f a0 = some r) :
  Calls Tryz.prog 197 #[.int .i64 a0] w fun e w' => e = .returned (.int .i64 r) ∧ Drawn0 w w' := by
 have H : (if a0 ≤ 0 then (some 1) else (some (wrap64 ((wrap64 (a0 + 1)) + (wrap64 (Int.tdiv (wrap64 (a0 - 1)) 254)))))) = some r := h
 clear h
 by_cases c2 : a0 ≤ 0
 ·rw [if_pos c2] at H
  have c2b0 : decide (a0 ≤ 0) = true := decide_eq_true c2
  clear c2
  obtain rfl := Option.some.inj H
  go_enter Tryz.func197, Tryz.ntmps197
  go_wp2
  go_ret
  exact ⟨by first | rfl | (simp; done) | (simp [*]; done), by repeat (first | exact Drawn0.refl _ | apply Drawn0.step)⟩
 ·rw [if_neg c2] at H
  have c2b0 : decide (a0 ≤ 0) = false := decide_eq_false c2
  clear c2
  obtain rfl := Option.some.inj H
  go_enter Tryz.func197, Tryz.ntmps197
  go_wp2
  go_ret
  exact ⟨by first | rfl | (simp; done) | (simp [*]; done), by repeat (first | exact Drawn0.refl _ | apply Drawn0.step)⟩
end Go.Proofs.YtnnofopfbeklbaaGreat.C
end
section
namespace Go.Proofs.YtnnofopfbeklbaaGreat.C
open Go.RowKit Go.Proofs.YtnnofopfbeklbaaGreatW.PrintWords Go.Proofs.YtnnofopfbeklbaaGreatW.PrintLast Go.Proofs.YtnnofopfbeklbaaGreatW.PrintMore
def ixOf (l : List Int) (c : Int) : Int := Lib.indexByte (Lib.bytesOf l) c.toNat.toUInt8
def Qad.f (l0 : List Int) (a1 : Int) : Option Int := some (ixOf l0 a1)
theorem Qad.calls (A0 : Option Addr) (c0 : Nat) (l0 : List Int) (a1 : Int) (r : Int) (w : World) (hr0 : Kd.C (Kd.int .u8) w A0 l0.length l0) (hc0 : l0.length ≤ c0) (h : Qad.f l0 a1 = some r) :
  Calls Tryz.prog 80 #[.slice A0 l0.length c0, .int .u8 a1] w fun e w' => e = .returned (.int .i64 r) ∧ Drawn0 w w' := by
 unfold Qad.f at h
 cases h
 have hcall : (callFunc 127 #[.slice A0 l0.length c0, .int .u8 a1]).run Tryz.prog w = .ok (.value (.int .i64 (ixOf l0 a1))) w := by
  rw [run_callFunc_extern Tryz.func127 qq_6 qq_6 qq_6 (e := Extern.BytealgIndexByte.indexByte) qq_6]
  cases A0 with
  | none =>
   obtain rfl : l0 = [] := by
    cases l0 with
    | nil => rfl
    | cons a t => obtain ⟨ad, c, h1, _⟩ := Kd.C_get hr0 0 0 (by omega) (by simp); cases h1
   rw [Lib.run_indexByteNil]
   rfl
  | some ad =>
   rw [Lib.run_indexByteAt w ad l0.length c0 l0 rfl (fun i hi => ?_)]
   ·rfl
   ·obtain ⟨a, ha, hx⟩ := Kd.at_int hr0 (i : Int) (by omega) (by omega)
    cases ha
    simpa [rd] using hx
 go_enter Tryz.func80, Tryz.ntmps80
 go_wp2
 go_ret
 exact ⟨rfl, Drawn0.refl _⟩
end Go.Proofs.YtnnofopfbeklbaaGreat.C
end
section
namespace Go.Proofs.YtnnofopfbeklbaaGreat.C
open Go.RowKit Go.Proofs.YtnnofopfbeklbaaGreatW.PrintWords Go.Proofs.YtnnofopfbeklbaaGreatW.PrintLast Go.Proofs.YtnnofopfbeklbaaGreatW.PrintMore
attribute [local go_sem] Qfx Qfy Qfz Qga Qgb Qgc Qgd Qge
def Qac.f (a0 : Int) (a1 : Int) : Option (Int) := if 0 ≤ (Go.bits .and .u64 (IntKind.u64.wrap (a1)) 63) then (if 0 ≤ (IntKind.u64.wrap (64 - (Go.bits .and .u64 (IntKind.u64.wrap (a1)) 63))) then (some (Go.bits .or .u64 (shl .u64 a0 (Go.bits .and .u64 (IntKind.u64.wrap (a1)) 63)) (shr .u64 a0 (IntKind.u64.wrap (64 - (Go.bits .and .u64 (IntKind.u64.wrap (a1)) 63)))))) else (none)) else (none)
theorem Qac.calls (a0 : Int) (a1 : Int) (r : Int) (w : World) (h : Qac.f a0 a1 = some r) :
  Calls Tryz.prog 202 #[.int .u64 a0, .int .i64 a1] w fun e w' => e = .returned (.int .u64 r) ∧ Drawn0 w w' := by
 have H : (if 0 ≤ (Go.bits .and .u64 (IntKind.u64.wrap (a1)) 63) then (if 0 ≤ (IntKind.u64.wrap (64 - (Go.bits .and .u64 (IntKind.u64.wrap (a1)) 63))) then (some (Go.bits .or .u64 (shl .u64 a0 (Go.bits .and .u64 (IntKind.u64.wrap (a1)) 63)) (shr .u64 a0 (IntKind.u64.wrap (64 - (Go.bits .and .u64 (IntKind.u64.wrap (a1)) 63)))))) else (none)) else (none)) = some r := h
 clear h
 obtain ⟨ji3, hji3⟩ : ∃ j_ : Int, (Go.bits .and .u64 (IntKind.u64.wrap (a1)) 63) = j_ := ⟨_, rfl⟩
 replace H : (if 0 ≤ (ji3) then (if 0 ≤ (IntKind.u64.wrap (64 - (ji3))) then (some (Go.bits .or .u64 (shl .u64 a0 (ji3)) (shr .u64 a0 (IntKind.u64.wrap (64 - (ji3)))))) else (none)) else (none)) = some r := by first | (rw [hji3] at H; exact H) | (simp only [hji3] at H ⊢; exact H)
 by_cases c4 : 0 ≤ (ji3)
 ·rw [if_pos c4] at H
  have c4b0 := eq_true c4
  have c4b1 : decide (0 ≤ (ji3)) = true := decide_eq_true c4
  clear c4
  obtain ⟨ji5, hji5⟩ : ∃ j_ : Int, (shl .u64 a0 (ji3)) = j_ := ⟨_, rfl⟩
  replace H : (if 0 ≤ (IntKind.u64.wrap (64 - (ji3))) then (some (Go.bits .or .u64 (ji5) (shr .u64 a0 (IntKind.u64.wrap (64 - (ji3)))))) else (none)) = some r := by first | (rw [hji5] at H; exact H) | (simp only [hji5] at H ⊢; exact H)
  have hji5_ : (IntKind.u64.wrap (a0 * 2 ^ min (ji3).toNat 64)) = ji5 := hji5
  have hji5z : (ji3) ≤ 64 → (IntKind.u64.wrap (a0 * 2 ^ (ji3).toNat)) = ji5 := Qgh hji5
  obtain ⟨ji6, hji6⟩ : ∃ j_ : Int, (IntKind.u64.wrap (64 - (ji3))) = j_ := ⟨_, rfl⟩
  replace H : (if 0 ≤ (ji6) then (some (Go.bits .or .u64 (ji5) (shr .u64 a0 (ji6)))) else (none)) = some r := by first | (rw [hji6] at H; exact H) | (simp only [hji6] at H ⊢; exact H)
  by_cases c7 : 0 ≤ (ji6)
  ·rw [if_pos c7] at H
   have c7b0 := eq_true c7
   have c7b1 : decide (0 ≤ (ji6)) = true := decide_eq_true c7
   clear c7
   obtain ⟨ji8, hji8⟩ : ∃ j_ : Int, (shr .u64 a0 (ji6)) = j_ := ⟨_, rfl⟩
   replace H : (some (Go.bits .or .u64 (ji5) (ji8))) = some r := by first | (rw [hji8] at H; exact H) | (simp only [hji8] at H ⊢; exact H)
   have hji8_ : (a0 / 2 ^ min (ji6).toNat 64) = ji8 := hji8
   have hji8z : (ji6) ≤ 64 → (a0 / 2 ^ (ji6).toNat) = ji8 := shr_small hji8
   obtain rfl := Option.some.inj H
   go_enter Tryz.func202, Tryz.ntmps202
   go_wp2
   go_ret
   exact ⟨by first | rfl | (simp; done) | (simp only [← hji3, ← hji5, ← hji6, ← hji8] <;> (first | rfl | simp)) | (simp [*]; done), by repeat (first | exact Drawn0.refl _ | apply Drawn0.step)⟩
  ·rw [if_neg c7] at H
   exact absurd H (by simp)
 ·rw [if_neg c4] at H
  exact absurd H (by simp)
def Qcm.f (a0 : Int) (a1 : Int) : Option (Int) := (Qac.f (IntKind.u64.wrap (a0 + (IntKind.u64.wrap (a1 * 14029467366897019727)))) 31).bind fun t566 => (some (IntKind.u64.wrap (t566 * 11400714785074694791)))
theorem Qcm.calls (a0 : Int) (a1 : Int) (r : Int) (w : World) (h : Qcm.f a0 a1 = some r) :
  Calls Tryz.prog 199 #[.int .u64 a0, .int .u64 a1] w fun e w' => e = .returned (.int .u64 r) ∧ Drawn0 w w' := by
 have H : ((Qac.f (IntKind.u64.wrap (a0 + (IntKind.u64.wrap (a1 * 14029467366897019727)))) 31).bind fun t566 => (some (IntKind.u64.wrap (t566 * 11400714785074694791)))) = some r := h
 clear h
 replace H := Option.bind_eq_some_iff.mp H
 obtain ⟨t566, A30, H⟩ := H
 replace H : (some (IntKind.u64.wrap (t566 * 11400714785074694791))) = some r := H
 have A3 := QA A30
 clear A30
 obtain rfl := Option.some.inj H
 go_enter Tryz.func199, Tryz.ntmps199
 go_wp2_with (first | ((with_reducible refine Qgf (f := 202) rfl ?_); refine Qeu (some 9) rfl rfl Tryz.func202 qq_6 rfl #[.int .u64 (IntKind.u64.wrap (a0 + (IntKind.u64.wrap (a1 * 14029467366897019727)))), .int .i64 31] rfl qq_1 ?_; (with_reducible refine (Qac.calls (IntKind.u64.wrap (a0 + (IntKind.u64.wrap (a1 * 14029467366897019727)))) 31 t566 _ A3.out).mono ?_); rintro e w' ⟨rfl, ⟨nd, rfl⟩⟩; refine ⟨_, rfl, ?_⟩))
 go_ret
 exact ⟨by first | rfl | (simp; done) | (simp [*]; done), by repeat (first | exact Drawn0.refl _ | apply Drawn0.step)⟩
end Go.Proofs.YtnnofopfbeklbaaGreat.C
end
