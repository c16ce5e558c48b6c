/- Texts of this claim's author and of the print of its functions, merged by merge.py. -/
import Derived.Test.YtnnofopfbeklbaaGreatMG02
import Derived.Test.YtnnofopfbeklbaaGreatMG08
set_option linter.unusedVariables false
set_option linter.unusedSimpArgs false
set_option maxHeartbeats 8000000
set_option maxRecDepth 100000
section
namespace Go.Proofs.YtnnofopfbeklbaaGreat.C
open Go.RowKit Go.Proofs.YtnnofopfbeklbaaGreatW.PrintWords Go.Proofs.YtnnofopfbeklbaaGreatW.PrintLast Go.Proofs.YtnnofopfbeklbaaGreatW.PrintMore
attribute [local go_sem] Qfx Qfy Qfz Qga Qgb Qgc Qgd Qge
def Qae.f (a0 : Int) (a1 : Int) : Option (Int) := (Qah.f a0).bind fun t211 => ((Qah.f a1).bind fun t212 => (if t211 = true then (if t212 = true then (some 0) else (some (-1))) else (if t212 = true then (some 1) else (if a0 < a1 then (some (-1)) else (if a0 > a1 then (some 1) else (some 0))))))
theorem Qae.calls (a0 : Int) (a1 : Int) (r : Int) (w : World) (h : Qae.f a0 a1 = some r) :
  Calls Tryz.prog 167 #[.int .u32 a0, .int .u32 a1] w fun e w' => e = .returned (.int .i64 r) ∧ Drawn0 w w' := by
 have H : ((Qah.f a0).bind fun t211 => ((Qah.f a1).bind fun t212 => (if t211 = true then (if t212 = true then (some 0) else (some (-1))) else (if t212 = true then (some 1) else (if a0 < a1 then (some (-1)) else (if a0 > a1 then (some 1) else (some 0))))))) = some r := h
 clear h
 replace H := Option.bind_eq_some_iff.mp H
 obtain ⟨t211, A30, H⟩ := H
 replace H : ((Qah.f a1).bind fun t212 => (if t211 = true then (if t212 = true then (some 0) else (some (-1))) else (if t212 = true then (some 1) else (if a0 < a1 then (some (-1)) else (if a0 > a1 then (some 1) else (some 0)))))) = some r := H
 have A3 := QA A30
 clear A30
 replace H := Option.bind_eq_some_iff.mp H
 obtain ⟨t212, A40, H⟩ := H
 replace H : (if t211 = true then (if t212 = true then (some 0) else (some (-1))) else (if t212 = true then (some 1) else (if a0 < a1 then (some (-1)) else (if a0 > a1 then (some 1) else (some 0))))) = some r := H
 have A4 := QA A40
 clear A40
 by_cases c5 : t211 = true
 ·subst c5
  have H1 : (if t212 = true then (some 0) else (some (-1))) = some r := by rw [if_pos rfl] at H; exact H
  clear H
  have H := H1
  clear H1
  by_cases c6 : t212 = true
  ·subst c6
   have H1 : (some 0) = some r := by rw [if_pos rfl] at H; exact H
   clear H
   have H := H1
   clear H1
   obtain rfl := Option.some.inj H
   go_enter Tryz.func167, Tryz.ntmps167
   go_wp2_with (first | ((with_reducible refine Qgf (f := 216) rfl ?_); refine Qeu (some 8) rfl rfl Tryz.func216 qq_6 rfl #[.int .u32 a0] rfl qq_1 ?_; (with_reducible refine (Qah.calls a0 true _ A3.out).mono ?_); rintro e w' ⟨rfl, ⟨nd, rfl⟩⟩; refine ⟨_, rfl, ?_⟩) | ((with_reducible refine Qgf (f := 216) rfl ?_); refine Qeu (some 10) rfl rfl Tryz.func216 qq_6 rfl #[.int .u32 a1] rfl qq_1 ?_; (with_reducible refine (Qah.calls a1 true _ A4.out).mono ?_); rintro e w' ⟨rfl, ⟨nd, rfl⟩⟩; refine ⟨_, rfl, ?_⟩))
   go_ret
   exact ⟨by first | rfl | (simp; done) | (simp [*]; done), by repeat (first | exact Drawn0.refl _ | apply Drawn0.step)⟩
  ·replace c6 := Bool.eq_false_iff.mpr c6
   subst c6
   have H1 : (some (-1)) = some r := by rw [if_neg (show ¬ (false = true) by decide)] at H; exact H
   clear H
   have H := H1
   clear H1
   obtain rfl := Option.some.inj H
   go_enter Tryz.func167, Tryz.ntmps167
   go_wp2_with (first | ((with_reducible refine Qgf (f := 216) rfl ?_); refine Qeu (some 8) rfl rfl Tryz.func216 qq_6 rfl #[.int .u32 a0] rfl qq_1 ?_; (with_reducible refine (Qah.calls a0 true _ A3.out).mono ?_); rintro e w' ⟨rfl, ⟨nd, rfl⟩⟩; refine ⟨_, rfl, ?_⟩) | ((with_reducible refine Qgf (f := 216) rfl ?_); refine Qeu (some 10) rfl rfl Tryz.func216 qq_6 rfl #[.int .u32 a1] rfl qq_1 ?_; (with_reducible refine (Qah.calls a1 false _ A4.out).mono ?_); rintro e w' ⟨rfl, ⟨nd, rfl⟩⟩; refine ⟨_, rfl, ?_⟩))
   go_ret
   exact ⟨by first | rfl | (simp; done) | (simp [*]; done), by repeat (first | exact Drawn0.refl _ | apply Drawn0.step)⟩
 ·replace c5 := Bool.eq_false_iff.mpr c5
  subst c5
  have H1 : (if t212 = true then (some 1) else (if a0 < a1 then (some (-1)) else (if a0 > a1 then (some 1) else (some 0)))) = some r := by rw [if_neg (show ¬ (false = true) by decide)] at H; exact H
  clear H
  have H := H1
  clear H1
  by_cases c7 : t212 = true
  ·subst c7
   have H1 : (some 1) = some r := by rw [if_pos rfl] at H; exact H
   clear H
   have H := H1
   clear H1
   obtain rfl := Option.some.inj H
   go_enter Tryz.func167, Tryz.ntmps167
   go_wp2_with (first | ((with_reducible refine Qgf (f := 216) rfl ?_); refine Qeu (some 8) rfl rfl Tryz.func216 qq_6 rfl #[.int .u32 a0] rfl qq_1 ?_; (with_reducible refine (Qah.calls a0 false _ A3.out).mono ?_); rintro e w' ⟨rfl, ⟨nd, rfl⟩⟩; refine ⟨_, rfl, ?_⟩) | ((with_reducible refine Qgf (f := 216) rfl ?_); refine Qeu (some 10) rfl rfl Tryz.func216 qq_6 rfl #[.int .u32 a1] rfl qq_1 ?_; (with_reducible refine (Qah.calls a1 true _ A4.out).mono ?_); rintro e w' ⟨rfl, ⟨nd, rfl⟩⟩; refine ⟨_, rfl, ?_⟩))
   go_ret
   exact ⟨by first | rfl | (simp; done) | (simp [*]; done), by repeat (first | exact Drawn0.refl _ | apply Drawn0.step)⟩
  ·replace c7 := Bool.eq_false_iff.mpr c7
   subst c7
   have H1 : (if a0 < a1 then (some (-1)) else (if a0 > a1 then (some 1) else (some 0))) = some r := by rw [if_neg (show ¬ (false = true) by decide)] at H; exact H
   clear H
   have H := H1
   clear H1
   by_cases c8 : a0 < a1
   ·rw [if_pos c8] at H
    have c8b0 : decide (a0 < a1) = true := decide_eq_true c8
    clear c8
    obtain rfl := Option.some.inj H
    go_enter Tryz.func167, Tryz.ntmps167
    go_wp2_with (first | ((with_reducible refine Qgf (f := 216) rfl ?_); refine Qeu (some 8) rfl rfl Tryz.func216 qq_6 rfl #[.int .u32 a0] rfl qq_1 ?_; (with_reducible refine (Qah.calls a0 false _ A3.out).mono ?_); rintro e w' ⟨rfl, ⟨nd, rfl⟩⟩; refine ⟨_, rfl, ?_⟩) | ((with_reducible refine Qgf (f := 216) rfl ?_); refine Qeu (some 10) rfl rfl Tryz.func216 qq_6 rfl #[.int .u32 a1] rfl qq_1 ?_; (with_reducible refine (Qah.calls a1 false _ A4.out).mono ?_); rintro e w' ⟨rfl, ⟨nd, rfl⟩⟩; refine ⟨_, rfl, ?_⟩))
    go_ret
    exact ⟨by first | rfl | (simp; done) | (simp [*]; done), by repeat (first | exact Drawn0.refl _ | apply Drawn0.step)⟩
   ·rw [if_neg c8] at H
    have c8b0 : decide (a0 < a1) = false := decide_eq_false c8
    clear c8
    by_cases c9 : a0 > a1
    ·rw [if_pos c9] at H
     have c9b0 : decide (a1 < a0) = true := decide_eq_true c9
     clear c9
     obtain rfl := Option.some.inj H
     go_enter Tryz.func167, Tryz.ntmps167
     go_wp2_with (first | ((with_reducible refine Qgf (f := 216) rfl ?_); refine Qeu (some 8) rfl rfl Tryz.func216 qq_6 rfl #[.int .u32 a0] rfl qq_1 ?_; (with_reducible refine (Qah.calls a0 false _ A3.out).mono ?_); rintro e w' ⟨rfl, ⟨nd, rfl⟩⟩; refine ⟨_, rfl, ?_⟩) | ((with_reducible refine Qgf (f := 216) rfl ?_); refine Qeu (some 10) rfl rfl Tryz.func216 qq_6 rfl #[.int .u32 a1] rfl qq_1 ?_; (with_reducible refine (Qah.calls a1 false _ A4.out).mono ?_); rintro e w' ⟨rfl, ⟨nd, rfl⟩⟩; refine ⟨_, rfl, ?_⟩))
     go_ret
     exact ⟨by first | rfl | (simp; done) | (simp [*]; done), by repeat (first | exact Drawn0.refl _ | apply Drawn0.step)⟩
    ·rw [if_neg c9] at H
     have c9b0 : decide (a1 < a0) = false := decide_eq_false c9
     clear c9
     obtain rfl := Option.some.inj H
     go_enter Tryz.func167, Tryz.ntmps167
     go_wp2_with (first | ((with_reducible refine Qgf (f := 216) rfl ?_); refine Qeu (some 8) rfl rfl Tryz.func216 qq_6 rfl #[.int .u32 a0] rfl qq_1 ?_; (with_reducible refine (Qah.calls a0 false _ A3.out).mono ?_); rintro e w' ⟨rfl, ⟨nd, rfl⟩⟩; refine ⟨_, rfl, ?_⟩) | ((with_reducible refine Qgf (f := 216) rfl ?_); refine Qeu (some 10) rfl rfl Tryz.func216 qq_6 rfl #[.int .u32 a1] rfl qq_1 ?_; (with_reducible refine (Qah.calls a1 false _ A4.out).mono ?_); rintro e w' ⟨rfl, ⟨nd, rfl⟩⟩; refine ⟨_, rfl, ?_⟩))
     go_ret
     exact ⟨by first | rfl | (simp; done) | (simp [*]; done), by repeat (first | exact Drawn0.refl _ | apply Drawn0.step)⟩
def Qai.f (a0 : Int) : Option (Bool) := some (a0 != a0)
theorem Qai.calls (a0 : Int) (r : Bool) (w : World) (h : Qai.f a0 = some r) :
  Calls Tryz.prog 215 #[.int .u64 a0] w fun e w' => e = .returned (.bool r) ∧ Drawn0 w w' := by
 have H : (some (a0 != a0)) = some r := h
 clear h
 obtain rfl := Option.some.inj H
 go_enter Tryz.func215, Tryz.ntmps215
 go_wp2
 go_ret
 exact ⟨by first | rfl | (simp; done) | (simp [*]; done), by repeat (first | exact Drawn0.refl _ | apply Drawn0.step)⟩
def Qaf.f (a0 : Int) (a1 : Int) : Option (Int) := (Qai.f a0).bind fun t209 => ((Qai.f a1).bind fun t210 => (if t209 = true then (if t210 = true then (some 0) else (some (-1))) else (if t210 = true then (some 1) else (if a0 < a1 then (some (-1)) else (if a0 > a1 then (some 1) else (some 0))))))
theorem Qaf.calls (a0 : Int) (a1 : Int) (r : Int) (w : World) (h : Qaf.f a0 a1 = some r) :
  Calls Tryz.prog 166 #[.int .u64 a0, .int .u64 a1] w fun e w' => e = .returned (.int .i64 r) ∧ Drawn0 w w' := by
 have H : ((Qai.f a0).bind fun t209 => ((Qai.f a1).bind fun t210 => (if t209 = true then (if t210 = true then (some 0) else (some (-1))) else (if t210 = true then (some 1) else (if a0 < a1 then (some (-1)) else (if a0 > a1 then (some 1) else (some 0))))))) = some r := h
 clear h
 replace H := Option.bind_eq_some_iff.mp H
 obtain ⟨t209, A30, H⟩ := H
 replace H : ((Qai.f a1).bind fun t210 => (if t209 = true then (if t210 = true then (some 0) else (some (-1))) else (if t210 = true then (some 1) else (if a0 < a1 then (some (-1)) else (if a0 > a1 then (some 1) else (some 0)))))) = some r := H
 have A3 := QA A30
 clear A30
 replace H := Option.bind_eq_some_iff.mp H
 obtain ⟨t210, A40, H⟩ := H
 replace H : (if t209 = true then (if t210 = true then (some 0) else (some (-1))) else (if t210 = true then (some 1) else (if a0 < a1 then (some (-1)) else (if a0 > a1 then (some 1) else (some 0))))) = some r := H
 have A4 := QA A40
 clear A40
 by_cases c5 : t209 = true
 ·subst c5
  have H1 : (if t210 = true then (some 0) else (some (-1))) = some r := by rw [if_pos rfl] at H; exact H
  clear H
  have H := H1
  clear H1
  by_cases c6 : t210 = true
  ·subst c6
   have H1 : (some 0) = some r := by rw [if_pos rfl] at H; exact H
   clear H
   have H := H1
   clear H1
   obtain rfl := Option.some.inj H
   go_enter Tryz.func166, Tryz.ntmps166
   go_wp2_with (first | ((with_reducible refine Qgf (f := 215) rfl ?_); refine Qeu (some 8) rfl rfl Tryz.func215 qq_6 rfl #[.int .u64 a0] rfl qq_1 ?_; (with_reducible refine (Qai.calls a0 true _ A3.out).mono ?_); rintro e w' ⟨rfl, ⟨nd, rfl⟩⟩; refine ⟨_, rfl, ?_⟩) | ((with_reducible refine Qgf (f := 215) rfl ?_); refine Qeu (some 10) rfl rfl Tryz.func215 qq_6 rfl #[.int .u64 a1] rfl qq_1 ?_; (with_reducible refine (Qai.calls a1 true _ A4.out).mono ?_); rintro e w' ⟨rfl, ⟨nd, rfl⟩⟩; refine ⟨_, rfl, ?_⟩))
   go_ret
   exact ⟨by first | rfl | (simp; done) | (simp [*]; done), by repeat (first | exact Drawn0.refl _ | apply Drawn0.step)⟩
  ·replace c6 := Bool.eq_false_iff.mpr c6
   subst c6
   have H1 : (some (-1)) = some r := by rw [if_neg (show ¬ (false = true) by decide)] at H; exact H
   clear H
   have H := H1
   clear H1
   obtain rfl := Option.some.inj H
   go_enter Tryz.func166, Tryz.ntmps166
   go_wp2_with (first | ((with_reducible refine Qgf (f := 215) rfl ?_); refine Qeu (some 8) rfl rfl Tryz.func215 qq_6 rfl #[.int .u64 a0] rfl qq_1 ?_; (with_reducible refine (Qai.calls a0 true _ A3.out).mono ?_); rintro e w' ⟨rfl, ⟨nd, rfl⟩⟩; refine ⟨_, rfl, ?_⟩) | ((with_reducible refine Qgf (f := 215) rfl ?_); refine Qeu (some 10) rfl rfl Tryz.func215 qq_6 rfl #[.int .u64 a1] rfl qq_1 ?_; (with_reducible refine (Qai.calls a1 false _ A4.out).mono ?_); rintro e w' ⟨rfl, ⟨nd, rfl⟩⟩; refine ⟨_, rfl, ?_⟩))
   go_ret
   exact ⟨by first | rfl | (simp; done) | (simp [*]; done), by repeat (first | exact Drawn0.refl _ | apply Drawn0.step)⟩
 ·replace c5 := Bool.eq_false_iff.mpr c5
  subst c5
  have H1 : (if t210 = true then (some 1) else (if a0 < a1 then (some (-1)) else (if a0 > a1 then (some 1) else (some 0)))) = some r := by rw [if_neg (show ¬ (false = true) by decide)] at H; exact H
  clear H
  have H := H1
  clear H1
  by_cases c7 : t210 = true
  ·subst c7
   have H1 : (some 1) = some r := by rw [if_pos rfl] at H; exact H
   clear H
   have H := H1
   clear H1
   obtain rfl := Option.some.inj H
   go_enter Tryz.func166, Tryz.ntmps166
   go_wp2_with (first | ((with_reducible refine Qgf (f := 215) rfl ?_); refine Qeu (some 8) rfl rfl Tryz.func215 qq_6 rfl #[.int .u64 a0] rfl qq_1 ?_; (with_reducible refine (Qai.calls a0 false _ A3.out).mono ?_); rintro e w' ⟨rfl, ⟨nd, rfl⟩⟩; refine ⟨_, rfl, ?_⟩) | ((with_reducible refine Qgf (f := 215) rfl ?_); refine Qeu (some 10) rfl rfl Tryz.func215 qq_6 rfl #[.int .u64 a1] rfl qq_1 ?_; (with_reducible refine (Qai.calls a1 true _ A4.out).mono ?_); rintro e w' ⟨rfl, ⟨nd, rfl⟩⟩; refine ⟨_, rfl, ?_⟩))
   go_ret
   exact ⟨by first | rfl | (simp; done) | (simp [*]; done), by repeat (first | exact Drawn0.refl _ | apply Drawn0.step)⟩
  ·replace c7 := Bool.eq_false_iff.mpr c7
   subst c7
   have H1 : (if a0 < a1 then (some (-1)) else (if a0 > a1 then (some 1) else (some 0))) = some r := by rw [if_neg (show ¬ (false = true) by decide)] at H; exact H
   clear H
   have H := H1
   clear H1
   by_cases c8 : a0 < a1
   ·rw [if_pos c8] at H
    have c8b0 : decide (a0 < a1) = true := decide_eq_true c8
    clear c8
    obtain rfl := Option.some.inj H
    go_enter Tryz.func166, Tryz.ntmps166
    go_wp2_with (first | ((with_reducible refine Qgf (f := 215) rfl ?_); refine Qeu (some 8) rfl rfl Tryz.func215 qq_6 rfl #[.int .u64 a0] rfl qq_1 ?_; (with_reducible refine (Qai.calls a0 false _ A3.out).mono ?_); rintro e w' ⟨rfl, ⟨nd, rfl⟩⟩; refine ⟨_, rfl, ?_⟩) | ((with_reducible refine Qgf (f := 215) rfl ?_); refine Qeu (some 10) rfl rfl Tryz.func215 qq_6 rfl #[.int .u64 a1] rfl qq_1 ?_; (with_reducible refine (Qai.calls a1 false _ A4.out).mono ?_); rintro e w' ⟨rfl, ⟨nd, rfl⟩⟩; refine ⟨_, rfl, ?_⟩))
    go_ret
    exact ⟨by first | rfl | (simp; done) | (simp [*]; done), by repeat (first | exact Drawn0.refl _ | apply Drawn0.step)⟩
   ·rw [if_neg c8] at H
    have c8b0 : decide (a0 < a1) = false := decide_eq_false c8
    clear c8
    by_cases c9 : a0 > a1
    ·rw [if_pos c9] at H
     have c9b0 : decide (a1 < a0) = true := decide_eq_true c9
     clear c9
     obtain rfl := Option.some.inj H
     go_enter Tryz.func166, Tryz.ntmps166
     go_wp2_with (first | ((with_reducible refine Qgf (f := 215) rfl ?_); refine Qeu (some 8) rfl rfl Tryz.func215 qq_6 rfl #[.int .u64 a0] rfl qq_1 ?_; (with_reducible refine (Qai.calls a0 false _ A3.out).mono ?_); rintro e w' ⟨rfl, ⟨nd, rfl⟩⟩; refine ⟨_, rfl, ?_⟩) | ((with_reducible refine Qgf (f := 215) rfl ?_); refine Qeu (some 10) rfl rfl Tryz.func215 qq_6 rfl #[.int .u64 a1] rfl qq_1 ?_; (with_reducible refine (Qai.calls a1 false _ A4.out).mono ?_); rintro e w' ⟨rfl, ⟨nd, rfl⟩⟩; refine ⟨_, rfl, ?_⟩))
     go_ret
     exact ⟨by first | rfl | (simp; done) | (simp [*]; done), by repeat (first | exact Drawn0.refl _ | apply Drawn0.step)⟩
    ·rw [if_neg c9] at H
     have c9b0 : decide (a1 < a0) = false := decide_eq_false c9
     clear c9
     obtain rfl := Option.some.inj H
     go_enter Tryz.func166, Tryz.ntmps166
     go_wp2_with (first | ((with_reducible refine Qgf (f := 215) rfl ?_); refine Qeu (some 8) rfl rfl Tryz.func215 qq_6 rfl #[.int .u64 a0] rfl qq_1 ?_; (with_reducible refine (Qai.calls a0 false _ A3.out).mono ?_); rintro e w' ⟨rfl, ⟨nd, rfl⟩⟩; refine ⟨_, rfl, ?_⟩) | ((with_reducible refine Qgf (f := 215) rfl ?_); refine Qeu (some 10) rfl rfl Tryz.func215 qq_6 rfl #[.int .u64 a1] rfl qq_1 ?_; (with_reducible refine (Qai.calls a1 false _ A4.out).mono ?_); rintro e w' ⟨rfl, ⟨nd, rfl⟩⟩; refine ⟨_, rfl, ?_⟩))
     go_ret
     exact ⟨by first | rfl | (simp; done) | (simp [*]; done), by repeat (first | exact Drawn0.refl _ | apply Drawn0.step)⟩
def Qck.f (k : Nat) (a0_0 : Int) (a0_1 : Int) (a1_0 : Int) (a1_1 : Int) : Option (Int) := (Qaf.f a0_0 a1_0).bind fun t215 => ((Qae.f a0_1 a1_1).bind fun t216 => ((Qag.f k (([t215, t216] : List Int))).bind fun t220 => (some t220)))
def Qck.T1 : Bool × List (List Nat × List Nat) := (true, [([], []), ([0], [0]), ([], []), ([2], [2]), ([1, 3], [1, 3]), ([], []), ([5], [5]), ([], []), ([7], [7]), ([6, 8, 4], [6, 8]), ([4, 9], [4, 9]), ([10, 9], [10]), ([11, 11, 0, 1, 2, 3, 4, 5, 6, 7, 8, 9, 10, 11], [11])])
def Qck.B1 : List Nat := [0, 1, 0, 4, 15, 0, 32, 0, 128, 511, 1023, 2047, 4095]
theorem Qck.tab1 : rtab .any (Qfp Tryz.f118 1) = Qck.T1 := by kernel_rfl
theorem Qck.bits1 : Qfl Qck.T1.2 Qck.B1 = true := by kernel_rfl
theorem Qck.calls (k : Nat) (a0_0 : Int) (a0_1 : Int) (a1_0 : Int) (a1_1 : Int) (r : Int) (w : World) (h : Qck.f k a0_0 a0_1 a1_0 a1_1 = some r) :
  Calls Tryz.prog 118 #[.agg #[.int .u64 a0_0, .int .u32 a0_1], .agg #[.int .u64 a1_0, .int .u32 a1_1]] w fun e w' => e = .returned (.int .i64 r) ∧ Below w.heap.size w w' := by
 have hu117 := Tryz.underlying117
 have HB := QA (Below.refl w.heap.size w)
 have H : ((Qaf.f a0_0 a1_0).bind fun t215 => ((Qae.f a0_1 a1_1).bind fun t216 => ((Qag.f k (([t215, t216] : List Int))).bind fun t220 => (some t220)))) = some r := h
 clear h
 replace H := Option.bind_eq_some_iff.mp H
 obtain ⟨t215, A30, H⟩ := H
 replace H : ((Qae.f a0_1 a1_1).bind fun t216 => ((Qag.f k (([t215, t216] : List Int))).bind fun t220 => (some t220))) = some r := H
 have A3 := QA A30
 clear A30
 replace H := Option.bind_eq_some_iff.mp H
 obtain ⟨t216, A40, H⟩ := H
 replace H : ((Qag.f k (([t215, t216] : List Int))).bind fun t220 => (some t220)) = some r := H
 have A4 := QA A40
 clear A40
 obtain ⟨y217, hy217⟩ : ∃ y_ : List Int, y_ = (([t215, t216] : List Int)) := ⟨_, rfl⟩
 replace H : ((Qag.f k y217).bind fun t220 => (some t220)) = some r := by first | (rw [hy217]; with_reducible exact H) | (have H2_ := (Option.bind_some _ _).symm.trans H; rw [hy217]; with_reducible exact H2_) | (have H2_ := (Option.bind_some _ _).symm.trans H; with_reducible exact H2_) | with_reducible exact H | (rw [hy217]; exact H) | exact H
 have Ny217 := QA hy217
 clear hy217
 replace H := Option.bind_eq_some_iff.mp H
 obtain ⟨t220, A50, H⟩ := H
 replace H : (some t220) = some r := H
 have A5 := QA A50
 clear A50
 obtain rfl := Option.some.inj H
 go_enter Tryz.func118, Tryz.ntmps118
 try go_wp2_with (first | ((with_reducible refine Qef (N := 2) rfl ?_); refine qq_e 2 #[.int .u64 a0_0, .int .u32 a0_1] 117 ?_; intro gb213 hg w6 hbox hb; have n0_ := QA (Qea qq_b hb); have n1_ := QA (hbox); have n2_ := QA ((qq_s hg : w.heap.size ≤ gb213)); have n3_ := QA ((qq_s hg : w.heap.size ≤ gb213)); clear HB; have HB := n0_; have BK213 := n1_; have GW213 := n2_; have GE213 := n3_; clear n0_ n1_ n2_ n3_; clear hb hbox hg) | ((with_reducible refine Qef (N := 3) rfl ?_); refine qq_e 3 #[.int .u64 a1_0, .int .u32 a1_1] 117 ?_; intro gb214 hg w7 hbox hb; have n0_ := QA (Qdt (g := gb213) (o := .cells #[.int .u64 a0_0, .int .u32 a0_1] 117 (0, 0)) qq_0 hb); have n1_ := QA (Qea qq_b hb); have n2_ := QA (hbox); have n3_ := QA ((qq_s hg : w.heap.size ≤ gb214)); have n4_ := QA ((qq_s hg : w.heap.size ≤ gb214)); have n5_ := QA ((by rw [hg]; exact Nat.ne_of_lt (Qdi (g := gb213) (o := .cells #[.int .u64 a0_0, .int .u32 a0_1] 117 (0, 0)) qq_0) : gb213 ≠ gb214)); have n6_ := QA ((by rw [hg]; exact Nat.ne_of_gt (Qdi (g := gb213) (o := .cells #[.int .u64 a0_0, .int .u32 a0_1] 117 (0, 0)) qq_0) : gb214 ≠ gb213)); clear BK213; clear HB; have BK213 := n0_; have HB := n1_; have BK214 := n2_; have GW214 := n3_; have GE214 := n4_; have NB213_214 := n5_; have NB214_213 := n6_; clear n0_ n1_ n2_ n3_ n4_ n5_ n6_; clear hb hbox hg))
 have n0_ := QA (Qdr BK213.out)
 have n1_ := QA (Qdr BK214.out)
 have n2_ := QA (Qee HB.out)
 clear BK213
 clear BK214
 clear HB
 have BK213 := n0_
 have BK214 := n1_
 have HB := n2_
 clear n0_ n1_ n2_
 refine Qen (n := 13) (S := fun w' => w'.cell? ⟨gb213, 0, none⟩ = some (.int .u64 a0_0) ∧ w'.cell? ⟨gb213, 1, none⟩ = some (.int .u32 a0_1) ∧ w'.cell? ⟨gb214, 0, none⟩ = some (.int .u64 a1_0) ∧ w'.cell? ⟨gb214, 1, none⟩ = some (.int .u32 a1_1)) (ds := []) #[false, false, false, false, false, false, false, false, false, false, false, false, false] qq_6 rfl rfl ⟨(Qdj BK213.out 0).trans rfl, (Qdj BK213.out 1).trans rfl, (Qdj BK214.out 0).trans rfl, (Qdj BK214.out 1).trans rfl⟩ (fun hHeld => ?_); refine Qfn Qck.tab1 Qck.bits1 (fun HT_ HW_ => ?_)
 generalize w7.drew = w8 at BK213 BK214 HB hHeld ⊢
 refine Qeo (i := 0) (N := some 5) (v := ?_) (a' := ?_) #[true, false, false, false, false, false, false, false, false, false, false, false, false] rfl rfl (Qfh HT_.out qq_6) (fun _ _ _ h => h) (Or.inl ⟨by rfl, ?_⟩) ?_ ?_
 rotate_left
 ·intro w'
  go_simp
  with_reducible rfl
 rotate_left
 ·exact qq_2
 refine Qeo (i := 2) (N := some 7) (v := ?_) (a' := ?_) #[true, false, true, false, false, false, false, false, false, false, false, false, false] rfl rfl (Qfh HT_.out qq_6) (fun _ _ _ h => h) (Or.inl ⟨by rfl, ?_⟩) ?_ ?_
 rotate_left
 ·intro w'
  go_simp
  with_reducible rfl
 rotate_left
 ·exact qq_2
 refine Qeo (i := 5) (N := some 10) (v := ?_) (a' := ?_) #[true, false, true, false, false, true, false, false, false, false, false, false, false] rfl rfl (Qfh HT_.out qq_6) (fun _ _ _ h => h) (Or.inl ⟨by rfl, ?_⟩) ?_ ?_
 rotate_left
 ·intro w'
  go_simp
  with_reducible rfl
 rotate_left
 ·exact qq_2
 refine Qeo (i := 7) (N := some 12) (v := ?_) (a' := ?_) #[true, false, true, false, false, true, false, true, false, false, false, false, false] rfl rfl (Qfh HT_.out qq_6) (fun _ _ _ h => h) (Or.inl ⟨by rfl, ?_⟩) ?_ ?_
 rotate_left
 ·intro w'
  go_simp
  with_reducible rfl
 rotate_left
 ·exact qq_2
 refine take_ (i := 1) (N := some 6) (v := ?_) (a' := ?_) #[true, true, true, false, false, true, false, true, false, false, false, false, false] rfl rfl (Qfm HT_.out HW_.out qq_6) (fun _ _ _ h => h) (Or.inl ⟨by rfl, ?_⟩) hHeld ?_ ?_
 rotate_left
 ·rintro w' ⟨s0, s1, s2, s3⟩
  go_simp
  with_reducible rfl
 rotate_left
 ·exact qq_2
 refine take_ (i := 3) (N := some 8) (v := ?_) (a' := ?_) #[true, true, true, true, false, true, false, true, false, false, false, false, false] rfl rfl (Qfm HT_.out HW_.out qq_6) (fun _ _ _ h => h) (Or.inl ⟨by rfl, ?_⟩) hHeld ?_ ?_
 rotate_left
 ·rintro w' ⟨s0, s1, s2, s3⟩
  go_simp
  with_reducible rfl
 rotate_left
 ·exact qq_2
 refine take_ (i := 6) (N := some 11) (v := ?_) (a' := ?_) #[true, true, true, true, false, true, true, true, false, false, false, false, false] rfl rfl (Qfm HT_.out HW_.out qq_6) (fun _ _ _ h => h) (Or.inl ⟨by rfl, ?_⟩) hHeld ?_ ?_
 rotate_left
 ·rintro w' ⟨s0, s1, s2, s3⟩
  go_simp
  with_reducible rfl
 rotate_left
 ·exact qq_2
 refine take_ (i := 8) (N := some 13) (v := ?_) (a' := ?_) #[true, true, true, true, false, true, true, true, true, false, false, false, false] rfl rfl (Qfm HT_.out HW_.out qq_6) (fun _ _ _ h => h) (Or.inl ⟨by rfl, ?_⟩) hHeld ?_ ?_
 rotate_left
 ·rintro w' ⟨s0, s1, s2, s3⟩
  go_simp
  with_reducible rfl
 rotate_left
 ·exact qq_2
 refine one_ (i := 4) (N := some 9) #[true, true, true, true, true, true, true, true, true, false, false, false, false] rfl rfl (Qfi HT_.out qq_6) (by decide) (fun K hK => ?_)
 refine Qet Tryz.func166 qq_6 rfl #[.int .u64 a0_0, .int .u64 a1_0] (by rfl) rfl rfl qq_1 ?_
 with_reducible refine (Qaf.calls a0_0 a1_0 t215 _ A3.out).mono ?_
 rintro e w' ⟨rfl, ⟨nd, rfl⟩⟩
 refine ⟨_, rfl, ?_⟩
 refine hK.out _ _ ⟨(Qdj BK213.out 0).trans rfl, (Qdj BK213.out 1).trans rfl, (Qdj BK214.out 0).trans rfl, (Qdj BK214.out 1).trans rfl⟩ (fun hHeld => ?_)
 clear hK K
 refine Qes (a' := ?_) ?_ ?_
 rotate_left
 ·show Act.put _ (some 9) _ = _
  simp only [Act.put, List.setIfInBounds_toArray, List.set_cons_zero, List.set_cons_succ, Qew, Qex]
  rfl
 refine one_ (i := 9) (N := some 14) #[true, true, true, true, true, true, true, true, true, true, false, false, false] rfl rfl (Qfi HT_.out qq_6) (by decide) (fun K hK => ?_)
 refine Qet Tryz.func167 qq_6 rfl #[.int .u32 a0_1, .int .u32 a1_1] (by rfl) rfl rfl qq_1 ?_
 with_reducible refine (Qae.calls a0_1 a1_1 t216 _ A4.out).mono ?_
 rintro e w' ⟨rfl, ⟨nd, rfl⟩⟩
 refine ⟨_, rfl, ?_⟩
 refine hK.out _ _ ⟨(Qdj BK213.out 0).trans rfl, (Qdj BK213.out 1).trans rfl, (Qdj BK214.out 0).trans rfl, (Qdj BK214.out 1).trans rfl⟩ (fun hHeld => ?_)
 clear hK K
 refine Qes (a' := ?_) ?_ ?_
 rotate_left
 ·show Act.put _ (some 14) _ = _
  simp only [Act.put, List.setIfInBounds_toArray, List.set_cons_zero, List.set_cons_succ, Qew, Qex]
  rfl
 refine one_ (i := 10) (N := some 15) #[true, true, true, true, true, true, true, true, true, true, true, false, false] rfl rfl (Qfi HT_.out qq_6) (by decide) (fun K hK => ?_)
 refine Kd.R_lit_step (Kd.int .i64) _ 3 ?hg (N := 15) ?hd (xs := ([t215, t216] : List Int)) (inner := [.int .i64 t215, .int .i64 t216]) (ok := fun _ => True) (okp := fun _ => True) ?hr ?hp (fun _ hk => hk) trivial (Below.refl _ _) (Nat.le_refl _) (by simp) ?_; (case hd => rfl); (case hg => rfl); (case hr => exact qq_12); (case hp => exact (Reps.one (show Kd.M (Kd.int .i64) _ _ _ t215 [.int .i64 t215] from rfl) (Reps.one (show Kd.M (Kd.int .i64) _ _ _ t216 [.int .i64 t216] from rfl) (Reps.none _ _))))
 intro v218 w9 ho10 hb hg_ hnew_
 clear hg_ hnew_
 (first | rw [← Ny217.out] at ho10 | (simp only [Int.reduceToNat] at ho10; rw [← Ny217.out] at ho10))
 have n0_ := QA (Kd.R_lower ho10 (Qdz qq_b))
 have n1_ := QA (Qdt (g := gb213) (o := .cells #[.int .u64 a0_0, .int .u32 a0_1] 117 (0, 0)) qq_0 hb)
 have n2_ := QA (Qdt (g := gb214) (o := .cells #[.int .u64 a1_0, .int .u32 a1_1] 117 (0, 0)) qq_0 hb)
 have n3_ := QA (Qea qq_b hb)
 clear BK213
 clear BK214
 clear HB
 have HO219 := n0_
 have BK213 := n1_
 have BK214 := n2_
 have HB := n3_
 clear n0_ n1_ n2_ n3_
 clear hb ho10
 obtain ⟨Ao11, co11, eo11⟩ := Kd.R_slice HO219.out
 (first | subst eo11 | (injection eo11 with f1_ f2_ f3_; have f4_ := f1_.symm; have f5_ := f3_.symm; clear f1_ f2_ f3_; subst f4_; subst f5_))
 refine hK.out _ _ ⟨(Qdj BK213.out 0).trans rfl, (Qdj BK213.out 1).trans rfl, (Qdj BK214.out 0).trans rfl, (Qdj BK214.out 1).trans rfl⟩ (fun hHeld => ?_)
 clear hK K
 refine Qes (a' := ?_) ?_ ?_
 rotate_left
 ·show Act.put _ (some 15) _ = _
  simp only [Act.put, List.setIfInBounds_toArray, List.set_cons_zero, List.set_cons_succ, Qew, Qex]
  rfl
 refine one_ (i := 11) (N := some 16) #[true, true, true, true, true, true, true, true, true, true, true, true, false] rfl rfl (Qfi HT_.out qq_6) (by decide) (fun K hK => ?_)
 refine Qet Tryz.func165 qq_6 rfl #[.slice Ao11 y217.length co11] (by rfl) rfl rfl qq_1 ?_
 with_reducible refine (Qag.calls k _ _ y217 t220 _ ?side1 ?side2 A5.out).mono ?_
 (case side1 => repeat (first | exact (Kd.R_reads' HO219.out).2.2 | (with_reducible refine Kd.C_alloc ?_ _) | (with_reducible refine Kd.C_drewN ?_ _) | (with_reducible refine Kd.C_drew ?_)))
 (case side2 => exact (Kd.R_reads' HO219.out).2.1)
 rintro e w' ⟨rfl, ⟨nd, rfl⟩⟩
 refine ⟨_, rfl, ?_⟩
 refine hK.out _ _ ⟨(Qdj BK213.out 0).trans rfl, (Qdj BK213.out 1).trans rfl, (Qdj BK214.out 0).trans rfl, (Qdj BK214.out 1).trans rfl⟩ (fun hHeld => ?_)
 clear hK K
 refine Qes (a' := ?_) ?_ ?_
 rotate_left
 ·show Act.put _ (some 16) _ = _
  simp only [Act.put, List.setIfInBounds_toArray, List.set_cons_zero, List.set_cons_succ, Qew, Qex]
  rfl
 refine Qeo (i := 12) (N := some 4) (v := ?_) (a' := ?_) #[true, true, true, true, true, true, true, true, true, true, true, true, true] rfl rfl (Qfh HT_.out qq_6) (fun _ _ _ h => h) (Or.inl ⟨by rfl, ?_⟩) ?_ ?_
 rotate_left
 ·intro w'
  go_simp
  with_reducible rfl
 rotate_left
 ·exact qq_2
 refine Qep (Qfk HT_.out qq_6) ?_
 try go_wp2
 go_ret
 exact ⟨by first | rfl | (simp [Qgi, Qgj] <;> rfl) | (simp [*, Qgi, Qgj] <;> rfl), qq_b⟩
end Go.Proofs.YtnnofopfbeklbaaGreat.C
end
