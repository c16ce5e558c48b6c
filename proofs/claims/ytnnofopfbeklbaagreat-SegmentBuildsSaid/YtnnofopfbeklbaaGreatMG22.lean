/- Texts of this claim's author and of the print of its functions, merged by merge.py. -/
import Derived.Test.YtnnofopfbeklbaaGreatMG02
import Derived.Test.YtnnofopfbeklbaaGreatMG18
import Derived.Test.YtnnofopfbeklbaaGreatMG21
import Derived.Test.YtnnofopfbeklbaaGreatMG20
import Derived.Test.YtnnofopfbeklbaaGreatMG13
import Derived.Test.YtnnofopfbeklbaaGreatMG16
import Derived.Test.YtnnofopfbeklbaaGreatMG06
import Derived.Test.YtnnofopfbeklbaaGreatMG07
import Derived.Test.YtnnofopfbeklbaaGreatMG08
import Derived.Test.YtnnofopfbeklbaaGreatMG12
import Derived.Test.YtnnofopfbeklbaaGreatMG05
import Derived.Test.YtnnofopfbeklbaaGreatMG03
import Derived.Test.YtnnofopfbeklbaaGreatMG10
set_option linter.unusedVariables false
set_option linter.unusedSimpArgs false
set_option maxHeartbeats 8000000
set_option maxRecDepth 100000
section
namespace Go.Proofs.YtnnofopfbeklbaaGreat.C
open Go.RowKit Go.Proofs.YtnnofopfbeklbaaGreatW.PrintWords Go.Proofs.YtnnofopfbeklbaaGreatW.PrintLast Go.Proofs.YtnnofopfbeklbaaGreatW.PrintMore
attribute [local go_sem] Qfx Qfy Qfz Qga Qgb Qgc Qgd Qge
def Qbv.f (k : Nat) (a0_0 : Int) (a0_1 : Int) (a1 : Int) (l2 : List (S39)) (a3 : Bool) : Option (ByteArray) := (Qbu.f k a0_0 a0_1 a1 l2).bind fun bt488 => (if a3 = true then ((Qbp.f k (((bt488.1.size : Int)) % 4294967296) bt488.2).bind fun t492 => (if bt488.1.size + t492.size ≤ 9223372036854775807 then ((Qbd.f k a0_0 a0_1).bind fun t493 => ((Qbt.f k (wrap64 ((wrap64 (t493)) - ((bt488.1 ++ t492).size : Int)))).bind fun t494 => (if (bt488.1 ++ t492).size + t494.size ≤ 9223372036854775807 then (some ((bt488.1 ++ t492) ++ t494)) else (none)))) else (none))) else ((Qbd.f k a0_0 a0_1).bind fun t495 => ((Qbt.f k (wrap64 ((wrap64 (t495)) - (bt488.1.size : Int)))).bind fun t496 => (if bt488.1.size + t496.size ≤ 9223372036854775807 then (some (bt488.1 ++ t496)) else (none)))))
theorem Qbv.calls (k : Nat) (a0_0 : Int) (a0_1 : Int) (a1 : Int) (A2 : Option Addr) (c2 : Nat) (l2 : List (S39)) (a3 : Bool) (r : ByteArray) (w : World) (hr2 : Kd.C k39 w A2 l2.length l2) (hc2 : l2.length ≤ c2) (h : Qbv.f k a0_0 a0_1 a1 l2 a3 = some r) :
  Calls Tryz.prog 31 #[.agg #[.int .u8 a0_0, .int .u32 a0_1], .int .u64 a1, .slice A2 l2.length c2, .bool a3] w fun e w' => e = .returned (.string r) ∧ Below w.heap.size w w' := by
 have hu27 := Tryz.underlying27
 have hu131 := Tryz.underlying131
 have HR2 := QA hr2
 have HC2 := QA hc2
 clear hr2 hc2
 have HB := QA (Below.refl w.heap.size w)
 have H : ((Qbu.f k a0_0 a0_1 a1 l2).bind fun bt488 => (if a3 = true then ((Qbp.f k (((bt488.1.size : Int)) % 4294967296) bt488.2).bind fun t492 => (if bt488.1.size + t492.size ≤ 9223372036854775807 then ((Qbd.f k a0_0 a0_1).bind fun t493 => ((Qbt.f k (wrap64 ((wrap64 (t493)) - ((bt488.1 ++ t492).size : Int)))).bind fun t494 => (if (bt488.1 ++ t492).size + t494.size ≤ 9223372036854775807 then (some ((bt488.1 ++ t492) ++ t494)) else (none)))) else (none))) else ((Qbd.f k a0_0 a0_1).bind fun t495 => ((Qbt.f k (wrap64 ((wrap64 (t495)) - (bt488.1.size : Int)))).bind fun t496 => (if bt488.1.size + t496.size ≤ 9223372036854775807 then (some (bt488.1 ++ t496)) else (none)))))) = some r := h
 clear h
 replace H := Option.bind_eq_some_iff.mp H
 obtain ⟨⟨t488, t489⟩, A50, H⟩ := H
 replace H : (if a3 = true then ((Qbp.f k (((t488.size : Int)) % 4294967296) t489).bind fun t492 => (if t488.size + t492.size ≤ 9223372036854775807 then ((Qbd.f k a0_0 a0_1).bind fun t493 => ((Qbt.f k (wrap64 ((wrap64 (t493)) - ((t488 ++ t492).size : Int)))).bind fun t494 => (if (t488 ++ t492).size + t494.size ≤ 9223372036854775807 then (some ((t488 ++ t492) ++ t494)) else (none)))) else (none))) else ((Qbd.f k a0_0 a0_1).bind fun t495 => ((Qbt.f k (wrap64 ((wrap64 (t495)) - (t488.size : Int)))).bind fun t496 => (if t488.size + t496.size ≤ 9223372036854775807 then (some (t488 ++ t496)) else (none))))) = some r := H
 have A5 := QA A50
 clear A50
 by_cases c6 : a3 = true
 ·subst c6
  have H1 : ((Qbp.f k (((t488.size : Int)) % 4294967296) t489).bind fun t492 => (if t488.size + t492.size ≤ 9223372036854775807 then ((Qbd.f k a0_0 a0_1).bind fun t493 => ((Qbt.f k (wrap64 ((wrap64 (t493)) - ((t488 ++ t492).size : Int)))).bind fun t494 => (if (t488 ++ t492).size + t494.size ≤ 9223372036854775807 then (some ((t488 ++ t492) ++ t494)) else (none)))) else (none))) = some r := by rw [if_pos rfl] at H; exact H
  clear H
  have H := H1
  clear H1
  replace H := Option.bind_eq_some_iff.mp H
  obtain ⟨t492, A70, H⟩ := H
  replace H : (if t488.size + t492.size ≤ 9223372036854775807 then ((Qbd.f k a0_0 a0_1).bind fun t493 => ((Qbt.f k (wrap64 ((wrap64 (t493)) - ((t488 ++ t492).size : Int)))).bind fun t494 => (if (t488 ++ t492).size + t494.size ≤ 9223372036854775807 then (some ((t488 ++ t492) ++ t494)) else (none)))) else (none)) = some r := H
  have A7 := QA A70
  clear A70
  by_cases c8 : t488.size + t492.size ≤ 9223372036854775807
  ·rw [if_pos c8] at H
   have c8b0 := eq_true c8
   have c8b1 : decide (t488.size + t492.size ≤ 9223372036854775807) = true := decide_eq_true c8
   try have c8b2 : (9223372036854775807 < t488.size + t492.size) = False := eq_false (Nat.not_lt.2 c8)
   replace H := Option.bind_eq_some_iff.mp H
   obtain ⟨t493, A90, H⟩ := H
   replace H : ((Qbt.f k (wrap64 ((wrap64 (t493)) - ((t488 ++ t492).size : Int)))).bind fun t494 => (if (t488 ++ t492).size + t494.size ≤ 9223372036854775807 then (some ((t488 ++ t492) ++ t494)) else (none))) = some r := H
   have A9 := QA A90
   clear A90
   replace H := Option.bind_eq_some_iff.mp H
   obtain ⟨t494, A100, H⟩ := H
   replace H : (if (t488 ++ t492).size + t494.size ≤ 9223372036854775807 then (some ((t488 ++ t492) ++ t494)) else (none)) = some r := H
   simp only [ByteArray.size_append, Int.natCast_add] at A100
   have A10 := QA A100
   clear A100
   by_cases c11 : (t488 ++ t492).size + t494.size ≤ 9223372036854775807
   ·rw [if_pos c11] at H
    have c11b0 := eq_true c11
    have c11b1 : decide ((t488 ++ t492).size + t494.size ≤ 9223372036854775807) = true := decide_eq_true c11
    try have c11b2 : (9223372036854775807 < (t488 ++ t492).size + t494.size) = False := eq_false (Nat.not_lt.2 c11)
    try have c11b3 := c11b2
    try simp only [ByteArray.size_append, (show ∀ x_ : UInt8, (⟨#[x_]⟩ : ByteArray).size = 1 from fun _ => rfl), (show ∀ x_ y_ : UInt8, (⟨#[x_, y_]⟩ : ByteArray).size = 2 from fun _ _ => rfl)] at c11b3
    try have c11b4 := c11b2
    try simp only [ByteArray.size_append, ByteArray.size_extract, (show ∀ x_ : UInt8, (⟨#[x_]⟩ : ByteArray).size = 1 from fun _ => rfl), (show ∀ x_ y_ : UInt8, (⟨#[x_, y_]⟩ : ByteArray).size = 2 from fun _ _ => rfl)] at c11b4
    obtain rfl := Option.some.inj H
    go_enter Tryz.func31, Tryz.ntmps31
    go_wp2_with (first | ((with_reducible refine Qef (N := 4) rfl ?_); refine qq_e 4 #[.int .u8 a0_0, .int .u32 a0_1] 27 ?_; intro gb487 hg w12 hbox hb; have n0_ := QA (Qea qq_b hb); have n1_ := QA (hbox); have n2_ := QA ((qq_s hg : w.heap.size ≤ gb487)); have n3_ := QA ((qq_s hg : w.heap.size ≤ gb487)); clear HB; have HB := n0_; have BK487 := n1_; have GW487 := n2_; have GE487 := n3_; clear n0_ n1_ n2_ n3_; clear hb hbox hg; have hcz13_0 := qq_c (.int .u8 a0_0) BK487.out 0 rfl; have hcz13_1 := qq_c (.int .u32 a0_1) BK487.out 1 rfl; have hfz13_0 := Qdk BK487.out 0; have hfz13_1 := Qdk BK487.out 1) | ((with_reducible refine Qgf (f := 27) rfl ?_); refine Qeu (some 15) rfl rfl Tryz.func27 qq_6 rfl #[.agg #[.int .u8 a0_0, .int .u32 a0_1], .int .u64 a1, .slice A2 l2.length c2] rfl qq_1 ?_; (with_reducible refine (Qbu.calls k a0_0 a0_1 a1 _ _ l2 t488 t489 _ ?side1 ?side2 A5.out).mono ?_); (case side1 => repeat (first | exact (Kd.C_below HR2.out HB.out) | (with_reducible refine Kd.C_alloc ?_ _) | (with_reducible refine Kd.C_drewN ?_ _) | (with_reducible refine Kd.C_drew ?_))); (case side2 => exact HC2.out); rintro e w14 ⟨v490, rfl, ho0, hb⟩; refine ⟨_, rfl, ?_⟩; have n0_ := QA (Kd.R_lower ho0 (Qdz qq_b)); have n1_ := QA (Qdt (g := gb487) (o := .cells #[.int .u8 a0_0, .int .u32 a0_1] 27 (0, 0)) qq_0 hb); have n2_ := QA (Qea qq_b hb); clear BK487; clear HB; have HO491 := n0_; have BK487 := n1_; have HB := n2_; clear n0_ n1_ n2_; (try clear hb); (try clear hb2); (try clear hk); (try clear hi); (try clear ho0); obtain ⟨Ao15, co15, eo15⟩ := Kd.R_slice HO491.out; subst eo15) | ((with_reducible refine Qgf (f := 71) rfl ?_); refine Qeu (some 25) rfl rfl Tryz.func71 qq_6 rfl #[.agg #[.int .u32 (((t488.size : Int)) % 4294967296), .slice Ao15 t489.length co15]] rfl qq_1 ?_; (with_reducible refine (Qbp.calls k (((t488.size : Int)) % 4294967296) _ _ t489 t492 _ ?side1 ?side2 A7.out).mono ?_); (case side1 => repeat (first | exact (Kd.R_reads' HO491.out).2.2 | (with_reducible refine Kd.C_alloc ?_ _) | (with_reducible refine Kd.C_drewN ?_ _) | (with_reducible refine Kd.C_drew ?_))); (case side2 => exact (Kd.R_reads' HO491.out).2.1); rintro e w16 ⟨rfl, hb⟩; refine ⟨_, rfl, ?_⟩; have n0_ := QA (Kd.R_below qq_4 hb); have n1_ := QA (Qdt (g := gb487) (o := .cells #[.int .u8 a0_0, .int .u32 a0_1] 27 (0, 0)) qq_0 hb); have n2_ := QA (Qea qq_b hb); clear HO491; clear BK487; clear HB; have HO491 := n0_; have BK487 := n1_; have HB := n2_; clear n0_ n1_ n2_; (try clear hb); (try clear hb2); (try clear hk); (try clear hi); have hcz17_0 := qq_c (.int .u8 a0_0) BK487.out 0 rfl; have hcz17_1 := qq_c (.int .u32 a0_1) BK487.out 1 rfl; have hfz17_0 := Qdk BK487.out 0; have hfz17_1 := Qdk BK487.out 1) | ((with_reducible refine Qgf (f := 63) rfl ?_); refine Qeu (some 29) rfl rfl Tryz.func63 qq_6 rfl #[.agg #[.int .u8 a0_0, .int .u32 a0_1]] rfl qq_1 ?_; (with_reducible refine (Qbd.calls k a0_0 a0_1 t493 _ A9.out).mono ?_); rintro e w18 ⟨rfl, hb⟩; refine ⟨_, rfl, ?_⟩; have n0_ := QA (Kd.R_below qq_4 hb); have n1_ := QA (Qdt (g := gb487) (o := .cells #[.int .u8 a0_0, .int .u32 a0_1] 27 (0, 0)) qq_0 hb); have n2_ := QA (Qea qq_b hb); clear HO491; clear BK487; clear HB; have HO491 := n0_; have BK487 := n1_; have HB := n2_; clear n0_ n1_ n2_; (try clear hb); (try clear hb2); (try clear hk); (try clear hi)) | ((with_reducible refine Qgf (f := 72) rfl ?_); refine Qeu (some 34) rfl rfl Tryz.func72 qq_6 rfl #[.int .i64 (wrap64 ((wrap64 (t493)) - ((t488.size : Int) + (t492.size : Int))))] rfl qq_1 ?_; (with_reducible refine (Qbt.calls k _ t494 _ A10.out).mono ?_); rintro e w19 ⟨rfl, hb⟩; refine ⟨_, rfl, ?_⟩; have n0_ := QA (Kd.R_below qq_4 hb); have n1_ := QA (Qdt (g := gb487) (o := .cells #[.int .u8 a0_0, .int .u32 a0_1] 27 (0, 0)) qq_0 hb); have n2_ := QA (Qea qq_b hb); clear HO491; clear BK487; clear HB; have HO491 := n0_; have BK487 := n1_; have HB := n2_; clear n0_ n1_ n2_; (try clear hb); (try clear hb2); (try clear hk); (try clear hi)))
    go_ret
    exact ⟨by first | rfl | (simp [Qgi, Qgj] <;> rfl) | (simp [*, Qgi, Qgj] <;> rfl), qq_b⟩
   ·rw [if_neg c11] at H
    exact absurd H (by simp)
  ·rw [if_neg c8] at H
   exact absurd H (by simp)
 ·replace c6 := Bool.eq_false_iff.mpr c6
  subst c6
  have H1 : ((Qbd.f k a0_0 a0_1).bind fun t495 => ((Qbt.f k (wrap64 ((wrap64 (t495)) - (t488.size : Int)))).bind fun t496 => (if t488.size + t496.size ≤ 9223372036854775807 then (some (t488 ++ t496)) else (none)))) = some r := by rw [if_neg (show ¬ (false = true) by decide)] at H; exact H
  clear H
  have H := H1
  clear H1
  replace H := Option.bind_eq_some_iff.mp H
  obtain ⟨t495, A200, H⟩ := H
  replace H : ((Qbt.f k (wrap64 ((wrap64 (t495)) - (t488.size : Int)))).bind fun t496 => (if t488.size + t496.size ≤ 9223372036854775807 then (some (t488 ++ t496)) else (none))) = some r := H
  have A20 := QA A200
  clear A200
  replace H := Option.bind_eq_some_iff.mp H
  obtain ⟨t496, A210, H⟩ := H
  replace H : (if t488.size + t496.size ≤ 9223372036854775807 then (some (t488 ++ t496)) else (none)) = some r := H
  have A21 := QA A210
  clear A210
  by_cases c22 : t488.size + t496.size ≤ 9223372036854775807
  ·rw [if_pos c22] at H
   have c22b0 := eq_true c22
   have c22b1 : decide (t488.size + t496.size ≤ 9223372036854775807) = true := decide_eq_true c22
   try have c22b2 : (9223372036854775807 < t488.size + t496.size) = False := eq_false (Nat.not_lt.2 c22)
   obtain rfl := Option.some.inj H
   go_enter Tryz.func31, Tryz.ntmps31
   go_wp2_with (first | ((with_reducible refine Qef (N := 4) rfl ?_); refine qq_e 4 #[.int .u8 a0_0, .int .u32 a0_1] 27 ?_; intro gb487 hg w23 hbox hb; have n0_ := QA (Qea qq_b hb); have n1_ := QA (hbox); have n2_ := QA ((qq_s hg : w.heap.size ≤ gb487)); have n3_ := QA ((qq_s hg : w.heap.size ≤ gb487)); clear HB; have HB := n0_; have BK487 := n1_; have GW487 := n2_; have GE487 := n3_; clear n0_ n1_ n2_ n3_; clear hb hbox hg; have hcz24_0 := qq_c (.int .u8 a0_0) BK487.out 0 rfl; have hcz24_1 := qq_c (.int .u32 a0_1) BK487.out 1 rfl; have hfz24_0 := Qdk BK487.out 0; have hfz24_1 := Qdk BK487.out 1) | ((with_reducible refine Qgf (f := 27) rfl ?_); refine Qeu (some 15) rfl rfl Tryz.func27 qq_6 rfl #[.agg #[.int .u8 a0_0, .int .u32 a0_1], .int .u64 a1, .slice A2 l2.length c2] rfl qq_1 ?_; (with_reducible refine (Qbu.calls k a0_0 a0_1 a1 _ _ l2 t488 t489 _ ?side1 ?side2 A5.out).mono ?_); (case side1 => repeat (first | exact (Kd.C_below HR2.out HB.out) | (with_reducible refine Kd.C_alloc ?_ _) | (with_reducible refine Kd.C_drewN ?_ _) | (with_reducible refine Kd.C_drew ?_))); (case side2 => exact HC2.out); rintro e w25 ⟨v490, rfl, ho0, hb⟩; refine ⟨_, rfl, ?_⟩; have n0_ := QA (Kd.R_lower ho0 (Qdz qq_b)); have n1_ := QA (Qdt (g := gb487) (o := .cells #[.int .u8 a0_0, .int .u32 a0_1] 27 (0, 0)) qq_0 hb); have n2_ := QA (Qea qq_b hb); clear BK487; clear HB; have HO491 := n0_; have BK487 := n1_; have HB := n2_; clear n0_ n1_ n2_; (try clear hb); (try clear hb2); (try clear hk); (try clear hi); (try clear ho0); have hcz26_0 := qq_c (.int .u8 a0_0) BK487.out 0 rfl; have hcz26_1 := qq_c (.int .u32 a0_1) BK487.out 1 rfl; have hfz26_0 := Qdk BK487.out 0; have hfz26_1 := Qdk BK487.out 1) | ((with_reducible refine Qgf (f := 63) rfl ?_); refine Qeu (some 29) rfl rfl Tryz.func63 qq_6 rfl #[.agg #[.int .u8 a0_0, .int .u32 a0_1]] rfl qq_1 ?_; (with_reducible refine (Qbd.calls k a0_0 a0_1 t495 _ A20.out).mono ?_); rintro e w27 ⟨rfl, hb⟩; refine ⟨_, rfl, ?_⟩; have n0_ := QA (Kd.R_below qq_4 hb); have n1_ := QA (Qdt (g := gb487) (o := .cells #[.int .u8 a0_0, .int .u32 a0_1] 27 (0, 0)) qq_0 hb); have n2_ := QA (Qea qq_b hb); clear HO491; clear BK487; clear HB; have HO491 := n0_; have BK487 := n1_; have HB := n2_; clear n0_ n1_ n2_; (try clear hb); (try clear hb2); (try clear hk); (try clear hi)) | ((with_reducible refine Qgf (f := 72) rfl ?_); refine Qeu (some 34) rfl rfl Tryz.func72 qq_6 rfl #[.int .i64 (wrap64 ((wrap64 (t495)) - (t488.size : Int)))] rfl qq_1 ?_; (with_reducible refine (Qbt.calls k (wrap64 ((wrap64 (t495)) - (t488.size : Int))) t496 _ A21.out).mono ?_); rintro e w28 ⟨rfl, hb⟩; refine ⟨_, rfl, ?_⟩; have n0_ := QA (Kd.R_below qq_4 hb); have n1_ := QA (Qdt (g := gb487) (o := .cells #[.int .u8 a0_0, .int .u32 a0_1] 27 (0, 0)) qq_0 hb); have n2_ := QA (Qea qq_b hb); clear HO491; clear BK487; clear HB; have HO491 := n0_; have BK487 := n1_; have HB := n2_; clear n0_ n1_ n2_; (try clear hb); (try clear hb2); (try clear hk); (try clear hi)))
   go_ret
   exact ⟨by first | rfl | (simp [Qgi, Qgj] <;> rfl) | (simp [*, Qgi, Qgj] <;> rfl), qq_b⟩
  ·rw [if_neg c22] at H
   exact absurd H (by simp)
end Go.Proofs.YtnnofopfbeklbaaGreat.C
end
section
namespace Go.Proofs.YtnnofopfbeklbaaGreat.C
open Go.RowKit Go.Proofs.YtnnofopfbeklbaaGreatW.PrintWords Go.Proofs.YtnnofopfbeklbaaGreatW.PrintLast Go.Proofs.YtnnofopfbeklbaaGreatW.PrintMore
theorem eqA27 (d : Nat) (w : World) (x0 y0 x1 y1 : Int) :
  (Op.equalIn (d + 2) 27 (.agg #[.int .u8 x0, .int .u32 x1]) (.agg #[.int .u8 y0, .int .u32 y1])).run Tryz.prog w = .ok (x0 == y0 && x1 == y1) w := by
 refine eqA_of Tryz.underlying27 qq_6 ?_
 refine Qfv (by rfl) (by go_simp; rfl) (by go_simp; rfl) (by go_simp) ?_
 exact Qfu (by rfl) (by go_simp; rfl) (by go_simp; rfl) (by go_simp)
theorem eqA47 (d : Nat) (w : World) (x0 y0 x1 y1 x2 y2 x3 y3 x4 y4 : Int) :
  (Op.equalIn (d + 3) 47 (.agg #[.int .u8 x0, .int .u32 x1, .int .u32 x2, .int .i64 x3, .int .i64 x4]) (.agg #[.int .u8 y0, .int .u32 y1, .int .u32 y2, .int .i64 y3, .int .i64 y4])).run Tryz.prog w = .ok ((x0 == y0 && x1 == y1) && (x2 == y2 && (x3 == y3 && x4 == y4))) w := by
 refine eqA_of Tryz.underlying47 qq_6 ?_
 refine Qfv (by rfl) qq_12 qq_12 (eqA27 d w _ _ _ _) ?_
 refine Qfv (by rfl) (by go_simp; rfl) (by go_simp; rfl) (by go_simp) ?_
 refine Qfv (by rfl) (by go_simp; rfl) (by go_simp; rfl) (by go_simp) ?_
 exact Qfu (by rfl) (by go_simp; rfl) (by go_simp; rfl) (by go_simp)
attribute [local go_sem high] eqA27 eqA47
def addR (B : Bd) (r : Rec) : Option (Int × Bd) :=
 if chk r.f0 r.f2 r.f3 = 0 then
  (Qbz.f r.f0 r.f1 r.f2 r.f3).bind fun p => (Qch.f B.1.1 B.1.2.1 p.1.length).bind fun tl =>
   if p.2 = 0 then
    if tl = true then some (6, B)
    else (Qcg.f B.1.1 B.1.2.1 B.1.2.2.1 B.1.2.2.2.1 B.1.2.2.2.2 p.1.length).bind fun q =>
     if q.2.2.2.2.2 = 0 then (addB B r).map fun B' => (0, B') else some (q.2.2.2.2.2, B)
   else none
 else some (chk r.f0 r.f2 r.f3, B)
theorem addR_of (b g : Nat) (B B' : Bd) (r : Rec) (code : Int) (w : World) (hI : IsB w b g B) (hbg : b ≤ g) (hbw : b ≤ w.heap.size) (h : addR B r = some (code, B')) :
  Calls Tryz.prog 21 #[.pointer (some ⟨g, 0, none⟩), .agg #[.bool r.f0, .int .u64 r.f1, .string r.f2, .string r.f3]] w fun e w' => e = .returned (.tuple #[.int .u32 (if code = 0 then (B.2.1.length : Int) % 4294967296 else 0), .int .i64 code]) ∧ IsB w' b g B' ∧ Below b w w' ∧ Tb g w w' := by
 have kept : ∀ {e : Ending} {w' : World} {c : Int}, c ≠ 0 → (e = .returned (.tuple #[.int .u32 0, .int .i64 c]) ∧ Below w.heap.size w w') → e = .returned (.tuple #[.int .u32 (if c = 0 then (B.2.1.length : Int) % 4294967296 else 0), .int .i64 c]) ∧ IsB w' b g B ∧ Below b w w' ∧ Tb g w w' := by
  intro e w' c hc h
  rw [if_neg hc]
  exact ⟨h.1, IsBd.kept hI h.2, Qgu h.2 hbw, Tb.below h.2⟩
 unfold addR at h
 split at h
 ·rename_i hchk
  obtain ⟨⟨p1, p2⟩, hp, h1⟩ := Option.bind_eq_some_iff.mp h
  obtain ⟨tl, htl, h2⟩ := Option.bind_eq_some_iff.mp h1
  clear h h1
  replace htl : Qch.f B.1.1 B.1.2.1 p1.length = some tl := htl
  replace h2 : (if p2 = 0 then (if tl = true then some (6, B) else (Qcg.f B.1.1 B.1.2.1 B.1.2.2.1 B.1.2.2.2.1 B.1.2.2.2.2 p1.length).bind fun q =>
     if q.2.2.2.2.2 = 0 then (addB B r).map fun B' => (0, B') else some (q.2.2.2.2.2, B)) else none) = some (code, B') := h2
  by_cases hp2 : p2 = 0
  ·rw [if_pos hp2] at h2
   subst hp2
   by_cases ht : tl = true
   ·rw [if_pos ht] at h2
    subst ht
    obtain ⟨rfl, rfl⟩ := Prod.mk.inj (Option.some.inj h2)
    exact (bd_Add_large b g B.1 B.2.1 p1 B.2.2 r.f0 r.f1 r.f2 r.f3 w hI hchk hp htl).mono fun _ _ h => kept (by decide) h
   ·rw [if_neg ht] at h2
    have ht' : tl = false := by simpa using ht
    subst ht'
    obtain ⟨⟨q1, q2, q3, q4, q5, q6⟩, hq, h3⟩ := Option.bind_eq_some_iff.mp h2
    replace h3 : (if q6 = 0 then (addB B r).map fun B' => (0, B') else some (q6, B)) = some (code, B') := h3
    by_cases hq6 : q6 = 0
    ·rw [if_pos hq6] at h3
     obtain ⟨B1, hB1, h4⟩ := Option.map_eq_some_iff.1 h3
     obtain ⟨rfl, rfl⟩ := Prod.mk.inj h4
     rw [if_pos rfl]
     exact add_ofT b g B B1 r w hI hbg hbw hB1
    ·rw [if_neg hq6] at h3
     obtain ⟨rfl, rfl⟩ := Prod.mk.inj (Option.some.inj h3)
     exact (bd_Add_full b g B.1 B.2.1 p1 B.2.2 r.f0 r.f1 r.f2 r.f3 w hI hchk hp htl q1 q2 q3 q4 q5 q6 hq6 hq).mono fun _ _ h => kept hq6 h
  ·rw [if_neg hp2] at h2
   cases h2
 ·rename_i hchk
  obtain ⟨rfl, rfl⟩ := (by simpa using h : chk r.f0 r.f2 r.f3 = code ∧ B = B')
  exact (bd_Add_chk g r.f0 r.f1 _ r.f2 r.f3 w rfl hchk).mono fun _ _ h => kept hchk h
def sealR (B : Bd) : Option (List Int × Int) := if B.2.2 = [] then some ([], 10) else (sealB B).map fun o => (o, 0)
theorem sealR_of (b g : Nat) (B : Bd) (o : List Int) (er : Int) (w : World) (hI : IsB w b g B) (hbw : b ≤ w.heap.size) (h : sealR B = some (o, er)) :
  Calls Tryz.prog 28 #[.pointer (some ⟨g, 0, none⟩)] w fun e w' => ∃ v : Value, e = .returned (.tuple #[v, .int .i64 er]) ∧ R8 w' w.heap.size v o ∧ Below w.heap.size w w' := by
 unfold sealR at h
 split at h
 ·rename_i hn
  obtain ⟨rfl, rfl⟩ := (by simpa using h : [] = o ∧ 10 = er)
  have hI' : IsBd w b g B.1 B.2.1 [] := by rw [← hn]; exact hI
  exact (bd_Seal_none b g B.1 B.2.1 w hI').mono fun _ _ ⟨h1, h2⟩ => ⟨_, h1, Kd.R_nil _ _ _ _ _, by rw [h2]; exact Below.refl _ _⟩
 ·obtain ⟨o1, ho1, h⟩ := Option.map_eq_some_iff.1 h
  obtain ⟨rfl, rfl⟩ := Prod.mk.inj h
  exact seal_ofB b g B o1 w hI hbw ho1
theorem bd_New_bad (e s n x0 x1 x2 x3 x4 er : Int) (w : World) (hp : Qcd.f e s n = some (x0, x1, x2, x3, x4, er)) (her : er ≠ 0) :
  Calls Tryz.prog 18 #[.agg #[.int .u8 e, .int .u32 s], .int .u32 n] w fun ee w' => ee = .returned (.tuple #[.pointer none, .int .i64 er]) ∧ Below w.heap.size w w' := by
 have hu := Tryz.underlying27
 have hu2 := Tryz.underlying47
 have HP := QA hp
 have hnb : (er == 0) = false := beq_eq_false_iff_ne.2 her
 have hnc : (er != 0) = true := bne_iff_ne.2 her
 clear hp her
 have hba : Below w.heap.size w (w.alloc (.cells #[.int .u8 e, .int .u32 s] 27)) := Qco (Below.refl _ _) _
 go_enter Tryz.func18, Tryz.ntmps18
 go_wp2_with (first
  | (go_at_call 52; refine (Qcd.calls e s n _ _ _ _ _ _ _ HP.out).mono ?_; rintro ee w1 ⟨rfl, hb1⟩))
 refine bodyPost_ret (results_tmp2 rfl _ _ _) rfl ?_
 exact ⟨rfl, (Qcr hba hba.size hb1).trans (Qgu (Qco (Below.refl _ _) _) (Qcr hba hba.size hb1).size)⟩
def SBRun (k : Nat) (e s n m2 mu mc : Int) : List Rec → List Rec → Bd → Int → Int → List Rec → Bd → Prop
  | [], had, B, _, _, had', B' => had' = had ∧ B' = B
  | r :: rs, had, B, u, c, had', B' => ∃ t c0, Qbg.f k r.f0 r.f1 r.f2 r.f3 = some t ∧ Qbb.f k r.f0 r.f1 r.f2 r.f3 = some c0 ∧ B.1 = (e, s, n, u, c) ∧
      ((∃ code, code ≠ 0 ∧ addR B r = some (code, B) ∧
          ((c0 ≠ 0 ∧ code = c0) ∨ (c0 = 0 ∧ Qbr.f k e s m2 mu mc (t.size : Int) = some false ∧ code = 6) ∨
            (c0 = 0 ∧ Qbr.f k e s m2 mu mc (t.size : Int) = some true ∧ Qbr.f k e s n u c (t.size : Int) = some false ∧ code = 7)) ∧ SBRun k e s n m2 mu mc rs had B u c had' B') ∨
       (∃ B1 u1 c1, addR B r = some (0, B1) ∧ c0 = 0 ∧ Qbr.f k e s m2 mu mc (t.size : Int) = some true ∧ Qbr.f k e s n u c (t.size : Int) = some true ∧ u = (B.2.1.length : Int) ∧ u < 4294967296 ∧
          Qbs.f e s n u c (t.size : Int) = some (e, s, n, u1, c1) ∧ B1.1 = (e, s, n, u1, c1) ∧ had.length < 1000000 ∧ SBRun k e s n m2 mu mc rs (had ++ [r]) B1 u1 c1 had' B'))
def SBEnd (k : Nat) (e s n : Int) (had : List Rec) (B : Bd) : Prop :=
 B.2.1.length ≤ 70368744177664 ∧ ∃ tbl oo t2 o er, Qbu.f k e s n had = some (strOfNums B.2.1, tbl) ∧ openB B = some oo ∧ Qbv.f k e s n had false = some t2 ∧ strOfNums oo = t2 ∧ sealR B = some (o, er) ∧
  ((had = [] ∧ er = 10 ∧ o = []) ∨ (had ≠ [] ∧ er = 0 ∧ ∃ t3, Qbv.f k e s n had true = some t3 ∧ strOfNums o = t3))
def SBGood (k : Nat) (e s n : Int) (l : List Rec) : Prop :=
 (0 ≤ n ∧ n < 4294967296) ∧ (1 ≤ s ∧ s < 4294967296) ∧ Qbf.f e s n = some true ∧ ∃ B u c m2 mu mc had B', newB e s n = some B ∧ Qbq.f k e s n = some (e, s, n, u, c) ∧ Qbq.f k e s (s - 1) = some (e, s, m2, mu, mc) ∧ SBRun k e s n m2 mu mc l [] B u c had B' ∧ SBEnd k e s n had B'
def SB (k : Nat) (a0 a1 : Int) (l : List Rec) : Prop :=
 ∃ b, Qam.f k l 60 5000 = some b ∧ l.length ≤ 4611686018427387904 ∧ (b = true → l.length ≤ 1000000 ∧ ∃ e s, Qap.f a0 = some (e, s) ∧ (SBGood k e s a1 l ∨
  ((0 ≤ a1 ∧ a1 < 4294967296) ∧ Qbf.f e s a1 = some false ∧ ∃ x0 x1 x2 x3 x4, Qcd.f e s a1 = some (x0, x1, x2, x3, x4, 1))))
noncomputable def Qao.f (k : Nat) (a0 a1 : Int) (l2 : List Rec) : Option Bool := @ite _ (SB k a0 a1 l2) (Classical.propDecidable _) (some true) none
theorem take_rdR {l : List Rec} {i : Nat} (h : i < l.length) : l.drop i = Qgm l (i : Int) :: l.drop (i + 1) := by
 rw [List.drop_eq_getElem_cons h]
 simp [Qgm, List.getElem?_eq_getElem h]
end Go.Proofs.YtnnofopfbeklbaaGreat.C
end
