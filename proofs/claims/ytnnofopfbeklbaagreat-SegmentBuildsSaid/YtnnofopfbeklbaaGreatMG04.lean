/- Texts of this claim's author and of the print of its functions, merged by merge.py. -/
import Derived.Test.YtnnofopfbeklbaaGreatMG02
import Derived.StillTailTactics
import Derived.Test.YtnnofopfbeklbaaGreatMG03
import Derived.Lib.IndexLaws
import Derived.Deep.RegionLaw
set_option linter.unusedVariables false
set_option linter.unusedSimpArgs false
set_option maxHeartbeats 8000000
set_option maxRecDepth 100000
section
namespace Go.Proofs.YtnnofopfbeklbaaGreat.C
open Go.RowKit Go.Proofs.YtnnofopfbeklbaaGreatW.PrintWords Go.Proofs.YtnnofopfbeklbaaGreatW.PrintLast Go.Proofs.YtnnofopfbeklbaaGreatW.PrintMore
attribute [local go_sem] Qfx Qfy Qfz Qga Qgb Qgc Qgd Qge
def Qcn.l0 : Nat → List Int → Int → Int → Int → Option (Int)
 | 0, _, _, _, _ => none
 | k + 1, x0, x5, x7, x8 => if x8 < x7 then (if 0 ≤ x8 then (if x8 < (x0.length : Int) then (if 0 ≤ (wrap64 (8 * x8)) then (Qcn.l0 k x0 (Go.bits .or .u64 x5 (shl .u64 (IntKind.u64.wrap (rd x0 x8)) (wrap64 (8 * x8)))) x7 (wrap64 (x8 + 1))) else (none)) else (none)) else (none)) else (some x5)
def Qcn.f (k : Nat) (l0 : List Int) (a1 : Int) : Option (Int) := Qcn.l0 k l0 0 a1 0
theorem Qcn.calls (k : Nat) (A0 : Option Addr) (c0 : Nat) (l0 : List Int) (a1 : Int) (r : Int) (w : World) (hr0 : Kd.C (Kd.int .u8) w A0 l0.length l0) (hc0 : l0.length ≤ c0) (h : Qcn.f k l0 a1 = some r) :
  Calls Tryz.prog 200 #[.slice A0 l0.length c0, .int .i64 a1] w fun e w' => e = .returned (.int .u64 r) ∧ Drawn0 w w' := by
 have HR0 := QA hr0
 have HC0 := QA hc0
 clear hr0 hc0
 have H : (Qcn.l0 k l0 0 a1 0) = some r := h
 clear h
 have H' := QA H
 clear H
 go_enter Tryz.func200, Tryz.ntmps200
 go_wp2
 go_loopg [5, 8] k (fun kq v5 v8 w' => ∃ (x5_1 : Int) (x8_1 : Int), v5 = .int .u64 x5_1 ∧ v8 = .int .i64 x8_1 ∧ Aside0 (Qcn.l0 kq l0 x5_1 a1 x8_1 = some r) ∧ Aside0 (kq ≤ k) ∧ Drawn0 w w')
 case atStart => exact ⟨(0), (0), qq_5, qq_5, H', ⟨Nat.le_refl _⟩, by repeat (first | exact Drawn0.refl _ | apply Drawn0.step)⟩
 case round =>
  clear H'
  obtain ⟨x5_1, x8_1, rfl, rfl, HA, HK1, ⟨m1, rfl⟩⟩ := hrel
  cases gk with
  | zero => exact absurd HA.out (by simp [Qcn.l0])
  | succ k1 =>
   have H := HA.out
   clear HA
   simp only [Qcn.l0] at H
   by_cases c3 : x8_1 < a1
   ·rw [if_pos c3] at H
    have c3b0 : decide (x8_1 < a1) = true := decide_eq_true c3
    clear c3
    by_cases c4 : 0 ≤ x8_1
    ·rw [if_pos c4] at H
     have c4b0 : decide (0 ≤ x8_1) = true := decide_eq_true c4
     clear c4
     by_cases c5 : x8_1 < (l0.length : Int)
     ·rw [if_pos c5] at H
      have c5b0 : decide (x8_1 < (l0.length : Int)) = true := decide_eq_true c5
      clear c5
      obtain ⟨ji6, hji6⟩ : ∃ j_ : Int, (wrap64 (8 * x8_1)) = j_ := ⟨_, rfl⟩
      replace H : (if 0 ≤ (ji6) then (Qcn.l0 k1 l0 (Go.bits .or .u64 x5_1 (shl .u64 (IntKind.u64.wrap (rd l0 x8_1)) (ji6))) a1 (wrap64 (x8_1 + 1))) else (none)) = some r := by first | (rw [hji6] at H; exact H) | (simp only [hji6] at H ⊢; exact H)
      have hji6w : (IntKind.i64.wrap (8 * x8_1)) = ji6 := (Qew _).trans hji6
      by_cases c7 : 0 ≤ (ji6)
      ·rw [if_pos c7] at H
       have c7b0 := eq_true c7
       have c7b1 : decide (0 ≤ (ji6)) = true := decide_eq_true c7
       clear c7
       obtain ⟨ji8, hji8⟩ : ∃ j_ : Int, (shl .u64 (IntKind.u64.wrap (rd l0 x8_1)) (ji6)) = j_ := ⟨_, rfl⟩
       replace H : (Qcn.l0 k1 l0 (Go.bits .or .u64 x5_1 (ji8)) a1 (wrap64 (x8_1 + 1))) = some r := by first | (rw [hji8] at H; exact H) | (simp only [hji8] at H ⊢; exact H)
       have hji8_ : (IntKind.u64.wrap ((IntKind.u64.wrap (rd l0 x8_1)) * 2 ^ min (ji6).toNat 64)) = ji8 := hji8
       have hji8z : (ji6) ≤ 64 → (IntKind.u64.wrap ((IntKind.u64.wrap (rd l0 x8_1)) * 2 ^ (ji6).toNat)) = ji8 := Qgh hji8
       have H' := QA H
       clear H
       have p567 : 0 ≤ (x8_1 : Int) := of_decide_eq_true qq_7
       have q567 : x8_1 < (l0.length : Int) := of_decide_eq_true qq_7
       obtain ⟨ad567, e567, hx567_0⟩ := Kd.at_int HR0.out x8_1 p567 q567
       cases e567
       replace p567 := eq_true p567
       replace q567 := eq_true q567
       go_wp2
       go_roundg k1
       case measure => have := HK1.out; omega
       case rel => exact ⟨(Go.bits .or .u64 x5_1 (ji8)), (wrap64 (x8_1 + 1)), (by first | rfl | (simp; done) | (simp only [← hji8] <;> (first | rfl | simp)) | (simp [*]; done)), qq_5, H', ⟨by have := HK1.out; omega⟩, by repeat (first | exact Drawn0.refl _ | apply Drawn0.step)⟩
      ·rw [if_neg c7] at H
       exact absurd H (by simp)
     ·rw [if_neg c5] at H
      exact absurd H (by simp)
    ·rw [if_neg c4] at H
     exact absurd H (by simp)
   ·rw [if_neg c3] at H
    have c3b0 : decide (x8_1 < a1) = false := decide_eq_false c3
    clear c3
    obtain rfl := Option.some.inj H
    go_wp2
    go_ret
    exact ⟨by first | rfl | (simp; done) | (simp [*]; done), by repeat (first | exact Drawn0.refl _ | apply Drawn0.step)⟩
end Go.Proofs.YtnnofopfbeklbaaGreat.C
end
section
namespace Go.Proofs.YtnnofopfbeklbaaGreat.C
open Go.RowKit Go.Proofs.YtnnofopfbeklbaaGreatW.PrintWords Go.Proofs.YtnnofopfbeklbaaGreatW.PrintLast Go.Proofs.YtnnofopfbeklbaaGreatW.PrintMore
abbrev Q1 : Int := 11400714785074694791
abbrev Q2 : Int := 14029467366897019727
abbrev Q3 : Int := 1609587929392839161
abbrev Q4 : Int := 9650029242287828579
abbrev Q5 : Int := 2870177450012600261
def IsSt (W : World) (b g : Nat) (sd v0 v1 v2 v3 : Int) (rest : List Int) (n : Int) : Prop :=
 ∃ rv, W.heap[g]? = some (.cells #[.int .u64 sd, .int .u64 v0, .int .u64 v1, .int .u64 v2, .int .u64 v3, rv, .int .u64 n] 274 (0, 0)) ∧ R8 W b rv rest
theorem st_New (sd : Int) (w : World) :
  Calls Tryz.prog 155 #[.int .u64 sd] w fun e w' => e = .returned (.pointer (some ⟨w.heap.size, 0, none⟩)) ∧ IsSt w' w.heap.size w.heap.size sd (IntKind.u64.wrap (IntKind.u64.wrap (sd + Q1) + Q2)) (IntKind.u64.wrap (sd + Q2)) sd (IntKind.u64.wrap (sd - Q1)) [] 0 ∧ Below w.heap.size w w' := by
 have hu := Tryz.underlying274
 have hu2 := Tryz.underlying231
 go_enter Tryz.func155, Tryz.ntmps155
 go_wp2_with fail
 go_region
 go_wp2_with fail
 go_region
 go_wp2_with fail
 go_region
 go_wp2_with fail
 go_region
 go_wp2_with fail
 go_ret
 refine ⟨rfl, ⟨_, Qdu w _, Kd.R_nil _ _ _ _ _⟩, Qcp (Qcp (Qcp (Qcp (Qco (Below.refl _ _) _))))⟩
def rotP (x n : Int) : Int := (Qac.f x n).getD 0
theorem rot_is (x n : Int) (h : 0 ≤ n ∧ n < 64 ∧ Go.bits .and .u64 (IntKind.u64.wrap n) 63 = n) : Qac.f x n = some (rotP x n) := by
 unfold rotP Qac.f
 rw [h.2.2, if_pos h.1, if_pos (by rw [IntWalk.u64_in _ (by omega)]; omega)]
 rfl
def Qgy (x y : Int) : Int := (Qcm.f x y).getD 0
theorem into_is (x y : Int) : Qcm.f x y = some (Qgy x y) := by
 unfold Qgy Qcm.f
 rw [rot_is _ 31 ⟨by decide, by decide, by kernel_rfl⟩]
 rfl
def numP (n : Nat) (l : List Int) : Int := (Qcn.f (n + 1) l n).getD 0
theorem num8_is (l : List Int) (h : 8 ≤ l.length) : Qcn.f 9 l 8 = some (numP 8 l) := by
 obtain ⟨v, hv⟩ : ∃ v, Qcn.f 9 l 8 = some v := by
  simp [Qcn.f, Qcn.l0, show (1 : Int) < l.length by omega, show (2 : Int) < l.length by omega, show (3 : Int) < l.length by omega, show (4 : Int) < l.length by omega, show (5 : Int) < l.length by omega, show (6 : Int) < l.length by omega, show (7 : Int) < l.length by omega, show (0 : Int) < l.length by omega, wrap64]
  omega
 unfold numP
 rw [show (8 : Nat) + 1 = 9 from rfl, show (((8 : Nat) : Int)) = 8 from rfl, hv]
 rfl
theorem num4_is (l : List Int) (h : 4 ≤ l.length) : Qcn.f 5 l 4 = some (numP 4 l) := by
 obtain ⟨v, hv⟩ : ∃ v, Qcn.f 5 l 4 = some v := by
  simp [Qcn.f, Qcn.l0, show (1 : Int) < l.length by omega, show (2 : Int) < l.length by omega, show (3 : Int) < l.length by omega, show (0 : Int) < l.length by omega, wrap64]
  omega
 unfold numP
 rw [show (4 : Nat) + 1 = 5 from rfl, show (((4 : Nat) : Int)) = 4 from rfl, hv]
 rfl
abbrev V4 := Int × Int × Int × Int
def Qgz (v : V4) (l : List Int) : V4 := (Qgy v.1 (numP 8 l), Qgy v.2.1 (numP 8 (l.drop 8)), Qgy v.2.2.1 (numP 8 (l.drop 16)), Qgy v.2.2.2 (numP 8 (l.drop 24)))
def Qha : Nat → V4 → List Int → V4
 | 0, v, _ => v
 | m + 1, v, l => Qha m (Qgz v l) (l.drop 32)
def lenV : Value → Nat
 | .slice _ n _ => n
 | _ => 0
def Qhb (i : Nat) (v : V4) (l : List Int) : V4 := (if 0 < i then Qgy v.1 (numP 8 l) else v.1, if 1 < i then Qgy v.2.1 (numP 8 (l.drop 8)) else v.2.1, if 2 < i then Qgy v.2.2.1 (numP 8 (l.drop 16)) else v.2.2.1, if 3 < i then Qgy v.2.2.2 (numP 8 (l.drop 24)) else v.2.2.2)
def StAt (W : World) (g : Nat) (sd : Int) (v : V4) (rv : Value) (n : Int) : Prop := W.heap[g]? = some (.cells #[.int .u64 sd, .int .u64 v.1, .int .u64 v.2.1, .int .u64 v.2.2.1, .int .u64 v.2.2.2, rv, .int .u64 n] 274 (0, 0))
abbrev Q8 (W : World) (b : Nat) (v : Value) (xs : List Int) : Prop := Kd.Q (Kd.int .u8) 5 W b (fun _ => True) v xs
theorem Qhc (A : Option Addr) (n c m : Nat) (j : Int) (hj : j = (m : Int)) (hm : m ≤ n) :
  ∃ A' : Option Addr, (∀ W : World, (Instr.slice 52 (.slice A n c) (some (.int .i64 j)) none none).run Tryz.prog W = .ok (.slice A' (n - m) (c - m)) W) ∧
   ∀ (W : World) (b : Nat) (xs : List Int), xs.length = n → Q8 W b (.slice A n c) xs → Q8 W b (.slice A' (n - m) (c - m)) (xs.drop m) := by
 subst hj
 obtain ⟨i, hi, hsz⟩ : ∃ i, Tryz.prog.info? 5 = some i ∧ i.size = 1 := by
  have h := Qgk
  cases hh : Tryz.prog.info? 5 with
  | none => rw [hh] at h; cases h
  | some i =>
   rw [hh] at h
   simp only [Option.map_some, Option.some.injEq, Prod.mk.injEq] at h
   exact ⟨i, rfl, h.2.1⟩
 refine ⟨if c = m then A else A.map (·.add (m * 1)), fun W => ?_, fun W b xs hn hq => ?_⟩
 ·have h := cut_from (P := Tryz.prog) 52 5 .i64 Tryz.underlying52 hi 1 hsz A n c (m : Int) (by omega) (by omega) W
  rw [Int.toNat_natCast] at h
  exact h
 ·exact Kd.Q_drop hq (by omega)
theorem Qhd {W : World} {b : Nat} {A : Option Addr} {n c : Nat} {l : List Int} (hQ : Q8 W b (.slice A n c) l) (h8 : 8 ≤ l.length) :
  Calls Tryz.prog 200 #[.slice A n c, .int .i64 8] W fun e w' => e = .returned (.int .u64 (numP 8 l)) ∧ Drawn0 W w' := by
 obtain ⟨rfl, h1, h2⟩ := Kd.Q_reads' hQ
 exact Qcn.calls 9 A c l 8 _ W h2 h1 (num8_is l h8)
theorem num4_at {W : World} {b : Nat} {A : Option Addr} {n c : Nat} {l : List Int} (hQ : Q8 W b (.slice A n c) l) (h8 : 4 ≤ l.length) :
  Calls Tryz.prog 200 #[.slice A n c, .int .i64 4] W fun e w' => e = .returned (.int .u64 (numP 4 l)) ∧ Drawn0 W w' := by
 obtain ⟨rfl, h1, h2⟩ := Kd.Q_reads' hQ
 exact Qcn.calls 5 A c l 4 _ W h2 h1 (num4_is l h8)
theorem Qhe (x y : Int) (W : World) : Calls Tryz.prog 199 #[.int .u64 x, .int .u64 y] W fun e w' => e = .returned (.int .u64 (Qgy x y)) ∧ Drawn0 W w' := Qcm.calls x y _ W (into_is x y)
end Go.Proofs.YtnnofopfbeklbaaGreat.C
end
section
namespace Go.Proofs.YtnnofopfbeklbaaGreat.C
open Go.RowKit Go.Proofs.YtnnofopfbeklbaaGreatW.PrintWords Go.Proofs.YtnnofopfbeklbaaGreatW.PrintLast Go.Proofs.YtnnofopfbeklbaaGreatW.PrintMore
attribute [local go_sem] Qfx Qfy Qfz Qga
theorem u8_info : ∃ i, Tryz.prog.info? 5 = some i ∧ i.size = 1 ∧ i.zero = some (.int .u8 0) ∧ i.bytes = 1 := by
 have h := Qgk
 cases hh : Tryz.prog.info? 5 with
 | none => rw [hh] at h; cases h
 | some i =>
  rw [hh] at h
  simp only [Option.map_some, Option.some.injEq, Prod.mk.injEq] at h
  exact ⟨i, rfl, h.2.1, h.1, h.2.2⟩
theorem c8_from (A : Option Addr) (n c m : Nat) (j : Int) (hj : j = (m : Int)) (hm : m ≤ n) (hc : n ≤ c) :
  ∃ (A' : Option Addr) (n' c' : Nat), n' = n - m ∧ n' ≤ c' ∧ (∀ W : World, (Instr.slice 52 (.slice A n c) (some (.int .i64 j)) none none).run Tryz.prog W = .ok (.slice A' n' c') W) ∧
   ∀ (W : World) (xs : List Int), Kd.C (Kd.int .u8) W A n xs → Kd.C (Kd.int .u8) W A' n' (xs.drop m) := by
 subst hj
 obtain ⟨i, hi, hsz, _⟩ := u8_info
 refine ⟨if c = m then A else A.map (·.add (m * 1)), n - m, c - m, rfl, by omega, fun W => ?_, fun W xs hq => ?_⟩
 ·have h := cut_from (P := Tryz.prog) 52 5 .i64 Tryz.underlying52 hi 1 hsz A n c (m : Int) (by omega) (by omega) W
  rw [Int.toNat_natCast] at h
  exact h
 ·have hl := hq.1
  subst hl
  have h := Kd.C_drop hq hm hc
  rw [List.length_drop] at h
  exact h
theorem c8_to (A : Option Addr) (n c m : Nat) (j : Int) (hj : j = (m : Int)) (hm : m ≤ n) (hc : n ≤ c) :
  ∃ (n' : Nat), n' = m ∧ n' ≤ c ∧ (∀ W : World, (Instr.slice 52 (.slice A n c) none (some (.int .i64 j)) none).run Tryz.prog W = .ok (.slice A n' c) W) ∧
   ∀ (W : World) (xs : List Int), Kd.C (Kd.int .u8) W A n xs → Kd.C (Kd.int .u8) W A n' (xs.take m) := by
 subst hj
 obtain ⟨i, hi, hsz, _⟩ := u8_info
 refine ⟨m, rfl, by omega, fun W => ?_, fun W xs hq => ?_⟩
 ·have h := cut_to (P := Tryz.prog) 52 5 .i64 Tryz.underlying52 hi A n c (m : Int) (by omega) (by omega) hc W
  rw [Int.toNat_natCast] at h
  exact h
 ·have hl := hq.1
  subst hl
  have h := Kd.C_take hq hm
  rw [List.length_take, Nat.min_eq_left hm] at h
  exact h
theorem ix_at {W : World} {A : Option Addr} {n c : Nat} {l : List Int} (v : Int) (hC : Kd.C (Kd.int .u8) W A n l) (hc : n ≤ c) :
  Calls Tryz.prog 80 #[.slice A n c, .int .u8 v] W fun e w' => e = .returned (.int .i64 (ixOf l v)) ∧ Drawn0 W w' := by
 have hl := hC.1
 subst hl
 exact Qad.calls A c l v _ W hC hc rfl
theorem Qhf (l : List Int) (c : Int) : -1 ≤ ixOf l c ∧ ixOf l c < l.length := by
 unfold ixOf
 refine ⟨Lib.indexByte_ge _ _, ?_⟩
 rcases Int.lt_or_le (Lib.indexByte (Lib.bytesOf l) c.toNat.toUInt8) 0 with h | h
 ·omega
 ·obtain ⟨o, ho⟩ := Int.eq_ofNat_of_zero_le h
  have h1 := (Lib.indexByte_some (o := o) ho).1
  have h2 := (List.getElem?_eq_some_iff.1 h1).1
  have h3 : (Lib.bytesOf l).length = l.length := by simp [Lib.bytesOf]
  omega
theorem R8.cap (W : World) (cs : Array Value) (cap : Nat) (hsz : cs.size = cap * 1) (hm : cap ≤ maxLen) : R8 (W.alloc (.cells cs 5)) W.heap.size (.slice (some ⟨W.heap.size, 0, none⟩) 0 cap) [] :=
 Kd.R_of_own ⟨by simp [encs], .inr ⟨W.heap.size, cap, cs, rfl, Nat.le_refl _, heap_alloc_new W _, Nat.zero_le _, hm, hsz, by simp [encs]⟩⟩ (fun _ _ => trivial)
def Qhg : Nat → List Int → List Int
 | 0, _ => []
 | k + 1, b =>
  if 0 ≤ ixOf (b.take 254) 0 then ((ixOf (b.take 254) 0 + 1) % 256) :: (b.take (ixOf (b.take 254) 0).toNat ++ Qhg k (b.drop ((ixOf (b.take 254) 0).toNat + 1)))
  else if 254 < b.length then 255 :: (b.take 254 ++ Qhg k (b.drop 254))
  else (((b.length : Int) + 1) % 256) :: b
def Qhh (b : List Int) : List Int := Qhg (b.length + 1) b
theorem Qhi : ∀ (k : Nat) (b : List Int), b.length < k → ∀ j, Qhg (k + j) b = Qhg k b
 | 0, b, h, _ => by omega
 | k + 1, b, h, j => by
  rw [show k + 1 + j = (k + j) + 1 by omega]
  unfold Qhg
  split
  ·rename_i h0
   have h1 := (Qhf (b.take 254) 0).2
   rw [List.length_take] at h1
   rw [Qhi k _ (by rw [List.length_drop]; omega) j]
  ·split
   ·rw [Qhi k _ (by rw [List.length_drop]; omega) j]
   ·rfl
theorem Qhj (k : Nat) (b : List Int) (h : b.length < k) : Qhg k b = Qhh b := by
 have e := Qhi (b.length + 1) b (by omega) (k - (b.length + 1))
 rw [show b.length + 1 + (k - (b.length + 1)) = k by omega] at e
 exact e
theorem Qhk {b : List Int} {p : Nat} (h : ixOf (b.take 254) 0 = (p : Int)) : Qhh b = (((p : Int) + 1) % 256) :: (b.take p ++ Qhh (b.drop (p + 1))) := by
 have h1 := (Qhf (b.take 254) 0).2
 rw [List.length_take] at h1
 have hp : p < b.length := by omega
 rw [Qhh, Qhg, if_pos (by omega), h, Int.toNat_natCast, Qhj _ _ (by rw [List.length_drop]; omega)]
theorem Qhl {b : List Int} (h : ixOf (b.take 254) 0 < 0) (hl : 254 < b.length) : Qhh b = 255 :: (b.take 254 ++ Qhh (b.drop 254)) := by
 rw [Qhh, Qhg, if_neg (by omega), if_pos hl, Qhj _ _ (by rw [List.length_drop]; omega)]
theorem Qhm {b : List Int} (h : ixOf (b.take 254) 0 < 0) (hl : ¬ 254 < b.length) : Qhh b = (((b.length : Int) + 1) % 256) :: b := by
 rw [Qhh, Qhg, if_neg (by omega), if_neg hl]
def most (n : Nat) : Nat := if n = 0 then 1 else n + 1 + (n - 1) / 254
theorem most_is (n : Nat) (h : n ≤ 140737488355328) : Qaj.f (n : Int) = some (most n : Int) := by
 unfold Qaj.f most
 by_cases h0 : n = 0
 ·subst h0; rfl
 ·rw [if_neg (by omega), if_neg h0]
  have e1 : wrap64 ((n : Int) - 1) = (n : Int) - 1 := by unfold wrap64; omega
  have e2 : wrap64 ((n : Int) + 1) = (n : Int) + 1 := by unfold wrap64; omega
  rw [e1, e2]
  have e3 : Int.tdiv ((n : Int) - 1) 254 = (((n - 1) / 254 : Nat) : Int) := by
   rw [show (n : Int) - 1 = ((n - 1 : Nat) : Int) by omega]
   rfl
  rw [e3]
  have e4 : wrap64 (((n - 1) / 254 : Nat) : Int) = (((n - 1) / 254 : Nat) : Int) := by unfold wrap64; omega
  rw [e4]
  have e5 : wrap64 ((n : Int) + 1 + (((n - 1) / 254 : Nat) : Int)) = (n : Int) + 1 + (((n - 1) / 254 : Nat) : Int) := by unfold wrap64; omega
  rw [e5]
  simp
theorem stuff_of (A0 : Option Addr) (c0 : Nat) (l0 : List Int) (w : World) (hr0 : Kd.C (Kd.int .u8) w A0 l0.length l0) (hc0 : l0.length ≤ c0) (hl : l0.length ≤ 35184372088832) :
  Calls Tryz.prog 152 #[.slice A0 l0.length c0] w fun e w' => ∃ v0_ : Value, e = .returned (v0_) ∧ R8 w' w.heap.size v0_ (Qhh l0) ∧ Below w.heap.size w w' := by
 obtain ⟨i8, hi8, hs8, hz8, hb8⟩ := u8_info
 have hmost : most l0.length ≤ 140737488355328 := by unfold most; split <;> omega
 have hrun := fun W => run_make (P := Tryz.prog) W 52 5 i8 (.int .u8 0) Tryz.underlying52 hi8 hz8 .i64 .i64 0 (most l0.length : Int) (by omega) (by omega) (by rw [hb8]; omega) (by omega)
 simp only [hs8] at hrun
 have HC0 := QA hr0
 clear hr0
 go_enter Tryz.func152, Tryz.ntmps152
 go_wp2_with (first | (go_at_call 197; refine (Qaj.calls _ _ _ (most_is l0.length (by omega))).mono ?_; rintro e w' ⟨rfl, hd⟩; obtain ⟨q, rfl⟩ := hd.out; clear hd))
 obtain ⟨W0, hW0⟩ : ∃ W0, W0 = (w.drewN q).alloc (.cells (madeCells #[.int .u8 0] (most l0.length)) 5) := ⟨_, rfl⟩
 have HR0 := QA (show R8 W0 w.heap.size (.slice (some ⟨w.heap.size, 0, none⟩) 0 (most l0.length)) [] by rw [hW0]; exact R8.cap (w.drewN q) _ _ (by simp [madeCells]) (by unfold maxLen; omega))
 have HB0 := QA (show Below w.heap.size w W0 by rw [hW0]; exact Qcr (Qcq (Below.refl _ _) q) (Nat.le_refl _) (Qco (Below.refl _ _) _))
 rw [← hW0]
 clear hW0 hrun
 go_loopw [0, 3, 4, 24, 41] (fun v0 v3 v4 v24 v41 wr => ∃ (l' out : List Int) (A : Option Addr) (n c : Nat), v0 = .slice A n c ∧ n ≤ c ∧ Aside0 (n = l'.length) ∧ n ≤ l0.length ∧ out.length + 2 * n ≤ 2 * l0.length ∧ Aside0 (Qhh l0 = out ++ Qhh l') ∧ Aside0 (Kd.C (Kd.int .u8) w A n l') ∧ Aside0 (R8 wr w.heap.size v3 out) ∧ Aside0 (Below w.heap.size w wr))
  (fun v0 _ _ _ _ _ => lenV v0)
 case atStart => exact ⟨l0, [], A0, l0.length, c0, rfl, hc0, ⟨rfl⟩, Nat.le_refl _, by simp, ⟨rfl⟩, HC0, HR0, HB0⟩
 case round =>
  obtain ⟨l', out, A, n, c, rfl, hnc, HN, hn0, hout, HS, HC, HR, HB⟩ := hrel
  clear HR0 HB0
  obtain ⟨x, hx⟩ : ∃ x, x = ixOf (l'.take 254) 0 := ⟨_, rfl⟩
  have hxr := Qhf (l'.take 254) 0
  rw [← hx] at hxr
  have hlt := HN.out
  have hx1 : x < (n : Int) ∧ x < 254 := by have := hxr.2; rw [List.length_take] at this; omega
  have hx0 := hxr.1
  have HX := QA hx
  clear hxr hlt hx
  obtain ⟨m, hm, hC1, hmc⟩ : ∃ m, (m = if 254 < n then 254 else n) ∧ Aside0 (Kd.C (Kd.int .u8) w A m (l'.take 254)) ∧ m ≤ c := by
   by_cases h : 254 < n
   ·refine ⟨254, by rw [if_pos h], ⟨?_⟩, by omega⟩
    have h1 := HC.out
    rw [HN.out] at h1
    have h2 := Kd.C_take h1 (m := 254) qq_14
    rw [List.length_take, Nat.min_eq_left qq_14] at h2
    exact h2
   ·refine ⟨n, by rw [if_neg h], ⟨?_⟩, hnc⟩
    rw [List.take_of_length_le qq_14]
    exact HC.out
  have HM := QA hm
  by_cases hxz : 0 ≤ x
  ·obtain ⟨p, rfl⟩ := Int.eq_ofNat_of_zero_le hxz
   have hpn : (p : Int) ≤ (n : Int) := by omega
   have hp8 : p < 254 := by omega
   have hwp : IntKind.i64.wrap ((p : Int) + 1) = (p : Int) + 1 := IntWalk.i64_in _ (by omega)
   have hCp := QA (show Kd.C (Kd.int .u8) w A p (l'.take p) by
    have h1 := HC.out
    rw [HN.out] at h1
    have h2 := Kd.C_take h1 (m := p) qq_14
    rw [List.length_take, Nat.min_eq_left qq_14] at h2
    exact h2)
   obtain ⟨p', hp', _, hcutp, _⟩ := c8_to A n c p p rfl (by omega) hnc
   subst hp'
   obtain ⟨A4, n4, c4, hn4, hnc4, hcut4, hC4⟩ := c8_from A n c (p' + 1) ((p' : Int) + 1) (by omega) (by omega) hnc
   have HN4 := QA hn4
   have hn4n : n4 < n := by omega
   clear hn4
   by_cases hbig : 254 < n
   all_goals first | rw [if_pos hbig] at hm | rw [if_neg hbig] at hm
   all_goals
    subst hm
    go_wp2_with (first | (go_at_call 80; refine (ix_at 0 (Kd.C_below hC1.out HB.out) hmc).mono ?_; rw [← HX.out]; rintro e w2 ⟨rfl, hd⟩; obtain ⟨q2, rfl⟩ := hd.out; clear hd))
    obtain ⟨W, hW⟩ : ∃ W, W = (wr.drewN q2).drew := ⟨_, rfl⟩
    go_region_law (first
     | (refine Kd.R_append_step (Kd.int .u8) (w0 := w) w.heap.size (by rfl) (.tmp 27) (.tmp 31) 52 5 (.int .u8 0) 1 rfl Tryz.underlying52 Qgk rfl (by decide) (by omega) u3 out (((p' : Int) + 1) % 256) [.int .u8 (((p' : Int) + 1) % 256)] (fun _ => True) (fun _ => False) rfl ?ax ?aP (fun _ hk => hk.elim) (fun _ _ => trivial) ?aO ?aB ?aS ?aL ?_; (case ax => rfl); (case aP => rfl); (case aO => exact Kd.R_drew (Kd.R_drewN HR.out q2)); (case aB => exact Qcp (Qcq HB.out q2)); (case aS => exact HB.out.size); (case aL => omega); intro v1 w1 HR1 hb1 hg1 hat1)
     | (refine Kd.R_append_rows_step (Kd.int .u8) (Rr := fun x cs => cs = [.int .u8 x]) (w0 := w) w.heap.size (by rfl) (.tmp 32) (.tmp 35) 52 5 (.int .u8 0) 1 rfl Tryz.underlying52 Qgk rfl (by decide) (by omega) v1 (out ++ [((p' : Int) + 1) % 256]) (l'.take p') A p' c (fun _ => True) (fun _ => False) rfl rfl HR1 ?bR (fun _ _ h => h) (fun _ hk => hk.elim) (fun _ _ => trivial) hb1 hb1.size ?bL ?_; (case bR => exact Kd.C_below hCp.out hb1); (case bL => simp; omega); intro v2 w2 HR2 hb2 hg2 hat2))
    all_goals
     have HR2' := QA HR2
     have HB2' := QA hb2
     clear HR1 hb1 hg1 hat1 HR2 hb2 hg2 hat2
     go_wp2_with fail
     go_roundw
     case rel => exact ⟨l'.drop (p' + 1), out ++ [((p' : Int) + 1) % 256] ++ l'.take p', A4, n4, c4, rfl, hnc4, ⟨by rw [List.length_drop]; have := HN4.out; have := HN.out; omega⟩, by omega, by
       have := HN.out
       have := HN4.out
       simp only [List.length_append, List.length_singleton, List.length_take]
       omega, ⟨by
       rw [HS.out, Qhk HX.out.symm]
       simp⟩, ⟨hC4 _ _ HC.out⟩, HR2', HB2'⟩
     case measure => simp [lenV]; omega
  ·have hxm : x = -1 := by omega
   subst hxm
   have hix : ixOf (l'.take 254) 0 < 0 := by have := HX.out; omega
   have HIX := QA hix
   clear hix
   by_cases hbig : 254 < n
   ·rw [if_pos hbig] at hm
    subst hm
    have hbi : (254 : Int) < (n : Int) := by omega
    obtain ⟨p', hp', _, hcutp, _⟩ := c8_to A n c 254 254 rfl (by omega) hnc
    subst hp'
    obtain ⟨A4, n4, c4, hn4, hnc4, hcut4, hC4⟩ := c8_from A n c 254 254 rfl (by omega) hnc
    have HN4 := QA hn4
    have hn4n : n4 < n := by omega
    clear hn4
    go_wp2_with (first | (go_at_call 80; refine (ix_at 0 (Kd.C_below hC1.out HB.out) hmc).mono ?_; rw [← HX.out]; rintro e w2 ⟨rfl, hd⟩; obtain ⟨q2, rfl⟩ := hd.out; clear hd))
    go_region_law (first
     | (refine Kd.R_append_step (Kd.int .u8) (w0 := w) w.heap.size (by rfl) (.tmp 45) (.tmp 46) 52 5 (.int .u8 0) 1 rfl Tryz.underlying52 Qgk rfl (by decide) (by omega) u3 out 255 [.int .u8 255] (fun _ => True) (fun _ => False) rfl ?ax ?aP (fun _ hk => hk.elim) (fun _ _ => trivial) ?aO ?aB ?aS ?aL ?_; (case ax => rfl); (case aP => rfl); (case aO => exact Kd.R_drew (Kd.R_drewN HR.out q2)); (case aB => exact Qcp (Qcq HB.out q2)); (case aS => exact HB.out.size); (case aL => omega); intro v1 w1 HR1 hb1 hg1 hat1)
     | (refine Kd.R_append_rows_step (Kd.int .u8) (Rr := fun x cs => cs = [.int .u8 x]) (w0 := w) w.heap.size (by rfl) (.tmp 47) (.tmp 49) 52 5 (.int .u8 0) 1 rfl Tryz.underlying52 Qgk rfl (by decide) (by omega) v1 (out ++ [255]) (l'.take 254) A 254 c (fun _ => True) (fun _ => False) rfl rfl HR1 ?bR (fun _ _ h => h) (fun _ hk => hk.elim) (fun _ _ => trivial) hb1 hb1.size ?bL ?_; (case bR => exact Kd.C_below hC1.out hb1); (case bL => simp; omega); intro v2 w2 HR2 hb2 hg2 hat2))
    all_goals
     have HR2' := QA HR2
     have HB2' := QA hb2
     clear HR1 hb1 hg1 hat1 HR2 hb2 hg2 hat2
     go_wp2_with fail
     go_roundw
     case rel => exact ⟨l'.drop 254, out ++ [255] ++ l'.take 254, A4, n4, c4, rfl, hnc4, ⟨by rw [List.length_drop]; have := HN4.out; have := HN.out; omega⟩, by omega, by
       have := HN.out
       have := HN4.out
       simp only [List.length_append, List.length_singleton, List.length_take]
       omega, ⟨by
       rw [HS.out, Qhl HIX.out qq_14]
       simp⟩, ⟨hC4 _ _ HC.out⟩, HR2', HB2'⟩
     case measure => simp [lenV]; omega
   ·rw [if_neg hbig] at hm
    subst hm
    have hbi : (m : Int) ≤ 254 := by omega
    go_wp2_with (first
     | (go_at_call 80; refine (ix_at 0 (Kd.C_below hC1.out HB.out) hmc).mono ?_; rw [← HX.out]; rintro e w2 ⟨rfl, hd⟩; obtain ⟨q2, rfl⟩ := hd.out; clear hd)
     | (at_builtin; refine Kd.R_append (Kd.int .u8) (w0 := w) w.heap.size rfl (.tmp 15) (.tmp 20) 52 5 (.int .u8 0) 1 rfl Tryz.underlying52 Qgk rfl (by decide) (by omega) u3 out ((m : Int) + 1) [.int .u8 ((m : Int) + 1)] (fun _ => True) (fun _ => False) rfl ?ax ?aP (fun _ hk => hk.elim) ?aF ?aO ?aB ?aS ?aL ?_; (case ax => rfl); (case aP => rfl); (case aF => exact fun _ _ => trivial); (case aO => exact Kd.R_drewN HR.out q2); (case aB => exact Qcq HB.out q2); (case aS => exact HB.out.size); (case aL => omega); intro v1 w1 HR1 hb1 hg1 hat1)
     | (at_builtin; refine Kd.R_append_rows (Kd.int .u8) (Rr := fun x cs => cs = [.int .u8 x]) (w0 := w) w.heap.size rfl (.tmp 21) (.tmp 22) 52 5 (.int .u8 0) 1 rfl Tryz.underlying52 Qgk rfl (by decide) (by omega) v1 (out ++ [(m : Int) + 1]) (l'.take 254) A m c (fun _ => True) (fun _ => False) rfl rfl HR1 ?bR (fun _ _ h => h) (fun _ hk => hk.elim) (fun _ _ => trivial) hb1 hb1.size ?bL ?_; (case bR => exact Kd.C_below hC1.out hb1); (case bL => simp; omega); intro v2 w2 HR2 hb2 hg2 hat2))
    go_ret
    refine ⟨v2, rfl, ?_, hb2⟩
    have hlm := HN.out
    rw [HS.out, Qhm HIX.out (by omega), ← hlm]
    rw [List.take_of_length_le (by omega)] at HR2
    rw [show ((m : Int) + 1) % 256 = (m : Int) + 1 by omega]
    simpa using HR2
end Go.Proofs.YtnnofopfbeklbaaGreat.C
end
section
namespace Go.Proofs.YtnnofopfbeklbaaGreat.C
open Go.RowKit Go.Proofs.YtnnofopfbeklbaaGreatW.PrintWords Go.Proofs.YtnnofopfbeklbaaGreatW.PrintLast Go.Proofs.YtnnofopfbeklbaaGreatW.PrintMore
theorem or128_all : ((List.range 256).all fun a => Go.bits .or .u8 (a : Int) 128 == (a : Int) % 128 + 128) = true := by kernel_rfl
theorem or128 (a : Int) (h0 : 0 ≤ a) (h1 : a < 256) : Go.bits .or .u8 a 128 = a % 128 + 128 := by
 have h := List.all_eq_true.1 or128_all a.toNat (List.mem_range.2 (by omega))
 have e : ((a.toNat : Nat) : Int) = a := by omega
 rw [e] at h
 exact eq_of_beq h
def vput : Nat → Int → List Int
 | 0, x => [x]
 | n + 1, x => if x < 128 then [x] else (x % 128 + 128) :: vput n (x / 128)
theorem Qhn : ∀ (n : Nat) (x : Int), (vput n x).length ≤ n + 1
 | 0, _ => by simp [vput]
 | n + 1, x => by
  unfold vput
  have := Qhn n (x / 128)
  split <;> simp <;> omega
theorem Qho (b g : Nat) (x : Int) (xs : List Int) (w : World) (hx0 : 0 ≤ x) (hx1 : x < 18446744073709551616) (hbg : b ≤ g) (hbw : b ≤ w.heap.size) (hI : IsBuf w b g xs) (hl : xs.length + 10 ≤ 140737488355328) :
  Calls Tryz.prog 95 #[.pointer (some ⟨g, 0, none⟩), .int .u64 x] w fun e w' => (∃ v, e = .returned v) ∧ IsBuf w' b g (xs ++ vput 9 x) ∧ Bw b g w w' := by
 have HI := QA hI
 clear hI
 go_enter Tryz.func95, Tryz.ntmps95
 go_wp2
 go_loopw [1] (fun v1 wr => ∃ (k : Nat) (ys : List Int) (xv : Int), k ≤ 9 ∧ ys.length = k ∧ v1 = .int .u64 xv ∧ 0 ≤ xv ∧ xv < 2 ^ (64 - 7 * k) ∧ Aside0 (vput 9 x = ys ++ vput (9 - k) xv) ∧ Aside0 (IsBuf wr b g (xs ++ ys)) ∧ Aside0 (Bw b g w wr))
  (fun v1 _ => (intOf v1).toNat)
 case atStart => exact ⟨0, [], x, by omega, rfl, rfl, hx0, by simpa using hx1, ⟨rfl⟩, ⟨by simpa using HI.out⟩, ⟨Bw.refl _ _ _⟩⟩
 case round =>
  obtain ⟨k, ys, xv, hk, hys, rfl, hx2, hx3, HL, HB, HW⟩ := hrel
  have hx4 : xv < 18446744073709551616 := by
   have : (2 : Int) ^ (64 - 7 * k) ≤ 2 ^ 64 := by exact_mod_cast Nat.pow_le_pow_right (by decide) (by omega)
   omega
  by_cases hlt : 128 ≤ xv
  ·have hk9 : k < 9 := by
    by_cases e : k < 9
    ·exact e
    ·obtain rfl : k = 9 := by omega
     simp at hx3
     omega
   have hor := or128 (xv % 256) (by omega) (by omega)
   have hm : (xv % 256) % 128 = xv % 128 := by omega
   rw [hm] at hor
   have hx5 : xv / 128 < 2 ^ (64 - 7 * (k + 1)) := by
    have e : (2 : Int) ^ (64 - 7 * k) = 2 ^ (64 - 7 * (k + 1)) * 128 := by
     rw [show 64 - 7 * k = (64 - 7 * (k + 1)) + 7 by omega, Int.pow_add]
     rfl
    rw [e] at hx3
    exact Int.ediv_lt_of_lt_mul (by decide) hx3
   have HX5 := QA hx5
   clear hx3 hx5
   go_wp2_with (go_at_call 94; (try rw [hor]); refine (Qgv b g (xv % 128 + 128) (xs ++ ys) _ (by omega) (by omega) hbg (Nat.le_trans hbw HW.out.size) HB.out (by simp; omega)).mono ?_; rintro e w1 ⟨rfl, hd, hb1⟩; have HI1 := QA hd; have HB1 := QA (HW.out.trans hb1); clear hd hb1)
   go_roundw
   case rel => exact ⟨k + 1, ys ++ [xv % 128 + 128], xv / 128, by omega, by simp [hys], by go_num, by omega, HX5.out, ⟨by
    rw [HL.out, show 9 - k = (9 - (k + 1)) + 1 by omega, vput, if_neg (by omega)]; simp⟩, ⟨by rw [← List.append_assoc]; exact HI1.out⟩, ⟨HB1.out⟩⟩
   case measure => simp [intOf]; omega
  ·have hxm : xv % 256 = xv := by omega
   go_wp2_with (go_at_call 94; (try rw [hxm]); refine (Qgv b g xv (xs ++ ys) _ (by omega) (by omega) hbg (Nat.le_trans hbw HW.out.size) HB.out (by simp; omega)).mono ?_; rintro e w1 ⟨rfl, hd, hb1⟩; have HI1 := QA hd; have HB1 := QA (HW.out.trans hb1); clear hd hb1)
   go_end0
   refine ⟨⟨_, rfl⟩, ?_, HB1.out⟩
   have e : vput (9 - k) xv = [xv] := by
    cases h : 9 - k with
    | zero => rfl
    | succ m => rw [vput, if_pos (by omega)]
   rw [HL.out, e, ← List.append_assoc]
   exact HI1.out
theorem bytes_C (W : World) (s : ByteArray) (hs : s.size ≤ 9223372036854775807) : Kd.C (Kd.int .u8) (Lib.bytesWorld W 5 s) (some ⟨W.heap.size, 0, none⟩) s.size (bytesOf s) :=
 Kd.C_of_reads (d := (0 : Int)) (bytes_reads W 5 s hs)
theorem Qhp (b g : Nat) (s : ByteArray) (xs : List Int) (w : World) (hs : s.size ≤ 70368744177664) (hbg : b ≤ g) (hbw : b ≤ w.heap.size) (hI : IsBuf w b g xs) (hl : xs.length + s.size + 10 ≤ 140737488355328) :
  Calls Tryz.prog 153 #[.pointer (some ⟨g, 0, none⟩), .string s] w fun e w' => (∃ v, e = .returned v) ∧ IsBuf w' b g (xs ++ (vput 9 s.size ++ bytesOf s)) ∧ Bw b g w w' := by
 have hvl := Qhn 9 s.size
 have kb := fun W => Qda (P := Tryz.prog) 9 52 5 Tryz.underlying9 Tryz.underlying52 Tryz.underlying5 s W
 go_enter Tryz.func153, Tryz.ntmps153
 go_wp2_with (first | (go_at_call 95; refine (Qho b g s.size xs w (by omega) (by omega) hbg hbw hI (by omega)).mono ?_; rintro e w1 ⟨⟨_, rfl⟩, hd, hb1⟩) | (go_at_call 150; refine (buf_Raw' b g _ _ s.size (bytesOf s) (xs ++ vput 9 s.size) (Lib.bytesWorld w1 5 s) (Qcy s).symm (bytes_C w1 s (by omega)) hbg (by rw [Lib.bytesWorld_size]; have := hb1.size; omega) (hd.kept (Qdb (Below.refl _ _) (Nat.le_refl _) _ _)) (by simp; omega)).mono ?_; rintro e w2 ⟨rfl, hd2, hb2⟩))
 go_end0
 refine ⟨⟨_, rfl⟩, by rw [← List.append_assoc]; exact hd2, hb1.trans ((Bw.below (Qdb (Below.refl _ _) (Nat.le_refl _) _ _) (by have := hb1.size; omega)).trans hb2)⟩
theorem rd_mem {l : List Int} {i : Int} (h0 : 0 ≤ i) (h1 : i < l.length) : rd l i ∈ l := by
 have h : i.toNat < l.length := by omega
 unfold rd
 rw [List.getD_eq_getElem?_getD, List.getElem?_eq_getElem h]
 exact List.getElem_mem h
theorem take_rd {l : List Int} {k : Nat} (h : k < l.length) : l.take (k + 1) = l.take k ++ [rd l (k : Int)] := by
 unfold rd
 rw [List.take_add_one, List.getElem?_eq_getElem h, List.getD_eq_getElem?_getD]
 simp [List.getElem?_eq_getElem h]
theorem Qhq (l : List Int) : (l.flatMap (fun x => leb x 8)).length = 8 * l.length := by
 induction l with
 | nil => rfl
 | cons a l ih => simp [Qgs, ih]; omega
theorem fence_Put_buf (b g : Nat) (A0 : Option Addr) (c0 : Nat) (l : List Int) (xs : List Int) (w : World) (hr0 : ∀ W', Bw b g w W' → Kd.C (Kd.int .u64) W' A0 l.length l) (hwf : ∀ x ∈ l, 0 ≤ x ∧ x < 18446744073709551616) (hbg : b ≤ g) (hbw : b ≤ w.heap.size) (hI : IsBuf w b g xs) (hl : xs.length + 8 * l.length ≤ 140737488355328) :
  Calls Tryz.prog 114 #[.pointer (some ⟨g, 0, none⟩), .slice A0 l.length c0] w fun e w' => (∃ v, e = .returned v) ∧ IsBuf w' b g (xs ++ l.flatMap (fun x => leb x 8)) ∧ Bw b g w w' := by
 have HI := QA hI
 clear hI
 go_enter Tryz.func114, Tryz.ntmps114
 go_wp2
 go_loopw [8] (fun i wr => ∃ (k : Nat) (iv : Int), k ≤ l.length ∧ i = .int .i64 iv ∧ Aside0 (iv = (k : Int)) ∧ Aside0 (IsBuf wr b g (xs ++ (l.take k).flatMap (fun x => leb x 8))) ∧ Aside0 (Bw b g w wr))
  (fun i _ => l.length - (intOf i).toNat)
 case atStart => exact ⟨0, 0, Nat.zero_le _, rfl, ⟨rfl⟩, ⟨by simpa using HI.out⟩, ⟨Bw.refl _ _ _⟩⟩
 case round =>
  obtain ⟨k, iv, hk, rfl, HK, HB, HW⟩ := hrel
  by_cases hlt : k < l.length
  ·have hge : 0 ≤ iv := by have := HK.out; omega
   have hl2 : iv < (l.length : Int) := by have := HK.out; omega
   obtain ⟨ad, rfl, hx0⟩ := Kd.at_int (hr0 wr HW.out) iv hge hl2
   obtain ⟨x, hx⟩ : ∃ x, x = rd l iv := ⟨_, rfl⟩
   rw [← hx] at hx0
   have hxr : 0 ≤ x ∧ x < 18446744073709551616 := by rw [hx]; exact hwf _ (rd_mem hge hl2)
   have HX := QA hx
   clear hx
   have hlen := QA (show (xs ++ (l.take k).flatMap (fun x => leb x 8)).length + 8 ≤ 140737488355328 by rw [List.length_append, Qhq, List.length_take]; omega)
   go_wp2_with (go_at_call 151; refine (Qgw b g x (xs ++ (l.take k).flatMap (fun x => leb x 8)) _ hxr.1 hxr.2 hbg (Nat.le_trans hbw HW.out.size) HB.out hlen.out).mono ?_; rintro e w1 ⟨rfl, hd, hb1⟩; have HI1 := QA hd; have HB1 := QA (HW.out.trans hb1); clear hd hb1)
   go_roundw
   case rel => exact ⟨k + 1, iv + 1, by omega, by go_num, ⟨by have := HK.out; omega⟩, ⟨by
    have e1 : iv = (k : Int) := HK.out
    rw [take_rd hlt, List.flatMap_append, ← List.append_assoc, ← e1, ← HX.out]
    simpa using HI1.out⟩, ⟨HB1.out⟩⟩
   case measure => simp [intOf]; omega
  ·obtain rfl : k = l.length := by omega
   obtain rfl : iv = (l.length : Int) := HK.out
   go_wp2
   go_end0
   refine ⟨⟨_, rfl⟩, ?_, HW.out⟩
   simpa using HB.out
def ent (x : S117) : List Int := leb x.f0 8 ++ leb x.f1 4
theorem take_rdT {l : List S117} {k : Nat} (h : k < l.length) : l.take (k + 1) = l.take k ++ [Qgn l (k : Int)] := by
 unfold Qgn
 rw [List.take_add_one, List.getElem?_eq_getElem h, List.getD_eq_getElem?_getD]
 simp [List.getElem?_eq_getElem h]
theorem rdT_mem {l : List S117} {i : Int} (h0 : 0 ≤ i) (h1 : i < l.length) : Qgn l i ∈ l := by
 have h : i.toNat < l.length := by omega
 unfold Qgn
 rw [List.getD_eq_getElem?_getD, List.getElem?_eq_getElem h]
 exact List.getElem_mem h
theorem Qhr (l : List S117) : (l.flatMap ent).length = 12 * l.length := by
 induction l with
 | nil => rfl
 | cons a l ih => simp [ent, Qgs, ih]; omega
theorem table_Put_buf (b g : Nat) (A0 : Option Addr) (c0 : Nat) (l : List S117) (xs : List Int) (w : World) (hr0 : ∀ W', Bw b g w W' → Kd.C k117 W' A0 l.length l) (hwf : ∀ x ∈ l, (0 ≤ x.f0 ∧ x.f0 < 18446744073709551616) ∧ 0 ≤ x.f1 ∧ x.f1 < 4294967296) (hbg : b ≤ g) (hbw : b ≤ w.heap.size) (hI : IsBuf w b g xs) (hl : xs.length + 12 * l.length ≤ 140737488355328) :
  Calls Tryz.prog 113 #[.pointer (some ⟨g, 0, none⟩), .slice A0 l.length c0] w fun e w' => (∃ v, e = .returned v) ∧ IsBuf w' b g (xs ++ l.flatMap ent) ∧ Bw b g w w' := by
 have hu := Tryz.underlying117
 have HI := QA hI
 clear hI
 go_enter Tryz.func113, Tryz.ntmps113
 go_wp2
 go_loopw [8] (fun i wr => ∃ (k : Nat) (iv : Int), k ≤ l.length ∧ i = .int .i64 iv ∧ Aside0 (iv = (k : Int)) ∧ Aside0 (IsBuf wr b g (xs ++ (l.take k).flatMap ent)) ∧ Aside0 (Bw b g w wr))
  (fun i _ => l.length - (intOf i).toNat)
 case atStart => exact ⟨0, 0, Nat.zero_le _, rfl, ⟨rfl⟩, ⟨by simpa using HI.out⟩, ⟨Bw.refl _ _ _⟩⟩
 case round =>
  obtain ⟨k, iv, hk, rfl, HK, HB, HW⟩ := hrel
  by_cases hlt : k < l.length
  ·have hge : 0 ≤ iv := by have := HK.out; omega
   have hl2 : iv < (l.length : Int) := by have := HK.out; omega
   obtain ⟨ad, rfl, hx0, hx1⟩ := Qgo (hr0 wr HW.out) iv hge hl2
   obtain ⟨x, hx⟩ : ∃ x, x = Qgn l iv := ⟨_, rfl⟩
   rw [← hx] at hx0 hx1
   have hxr := hwf x (by rw [hx]; exact rdT_mem hge hl2)
   have HX := QA hx
   clear hx
   have hlen := QA (show (xs ++ (l.take k).flatMap ent).length + 12 ≤ 140737488355328 by rw [List.length_append, Qhr, List.length_take]; omega)
   go_upto_region 3 with fail
   obtain ⟨B, hBe⟩ : ∃ B, B = wr.heap.size := ⟨_, rfl⟩
   obtain ⟨W, hW⟩ : ∃ W, W = wr.alloc (.cells #[.int .u64 x.f0, .int .u32 x.f1] 117) := ⟨_, rfl⟩
   have hBlk : W.heap[B]? = some (.cells #[.int .u64 x.f0, .int .u32 x.f1] 117 (0, 0)) := by rw [hW, hBe]; exact Qdu wr _
   have hIB : IsBuf W b g (xs ++ (l.take k).flatMap ent) := by rw [hW]; exact HB.out.kept (Qco (Below.refl _ _) _)
   have hBW : Bw b g w W := by rw [hW]; exact HW.out.trans (Bw.below (Qco (Below.refl _ _) _) (Nat.le_trans hbw HW.out.size))
   have hgB : B ≠ g := by have := HB.out.lt; omega
   rw [← hW, ← hBe]
   clear hW hBe hx0 hx1
   have d0 : Below W.heap.size W W.drew := Qcp (Below.refl _ _)
   have hBlk1 := Qdt hBlk d0
   have hIB1 := hIB.kept d0
   have hBW1 : Bw b g w W.drew := hBW.trans (Bw.below d0 (Nat.le_trans hbw hBW.size))
   have c0 : W.drew.cell? ⟨B, 0, none⟩ = some (.int .u64 x.f0) := (Qdj hBlk1 0).trans rfl
   have c1 : W.drew.cell? ⟨B, 1, none⟩ = some (.int .u32 x.f1) := (Qdj hBlk1 1).trans rfl
   have hs1 : b ≤ W.drew.heap.size := Nat.le_trans hbw hBW1.size
   go_region_held3 (fun w' => w'.cell? ⟨B, 0, none⟩ = some (.int .u64 x.f0) ∧ w'.cell? ⟨B, 1, none⟩ = some (.int .u32 x.f1)) (first | exact ⟨c0, c1⟩ | exact ⟨c2, c3⟩ | exact ⟨c4, c5⟩) (first | (go_at_call 151; refine (Qgw b g x.f0 (xs ++ (l.take k).flatMap ent) W.drew hxr.1.1 hxr.1.2 hbg hs1 hIB1 (by have := hlen.out; omega)).mono ?_; rintro e w2 ⟨rfl, hI2, hb2⟩; have hBlk2 := hb2.2 _ _ _ hBlk1 (by decide) hgB; have c2 : w2.cell? ⟨B, 0, none⟩ = some (.int .u64 x.f0) := (Qdj hBlk2 0).trans rfl; have c3 : w2.cell? ⟨B, 1, none⟩ = some (.int .u32 x.f1) := (Qdj hBlk2 1).trans rfl) | (go_at_call 112; refine (buf_Four b g x.f1 (xs ++ (l.take k).flatMap ent ++ leb x.f0 8) w2 hxr.2.1 hxr.2.2 hbg (Nat.le_trans hs1 hb2.size) hI2 (by have := hlen.out; simp [Qgs] at this ⊢; omega)).mono ?_; rintro e w3 ⟨rfl, hI3, hb3⟩; have hBlk3 := hb3.2 _ _ _ hBlk2 (by decide) hgB; have c4 : w3.cell? ⟨B, 0, none⟩ = some (.int .u64 x.f0) := (Qdj hBlk3 0).trans rfl; have c5 : w3.cell? ⟨B, 1, none⟩ = some (.int .u32 x.f1) := (Qdj hBlk3 1).trans rfl))
   have HI3 := QA hI3
   have HB3 := QA (hBW1.trans (hb2.trans hb3))
   clear hI3 hI2 hb2 hb3 c0 c1 c2 c3 c4 c5 hBlk hBlk1 hBlk2 hBlk3 hIB hIB1 hBW hBW1
   go_wp2
   go_roundw
   case rel => exact ⟨k + 1, iv + 1, by omega, by go_num, ⟨by have := HK.out; omega⟩, ⟨by
    have e1 : iv = (k : Int) := HK.out
    rw [take_rdT hlt, List.flatMap_append, ← List.append_assoc, ← e1, ← HX.out]
    simpa [ent] using HI3.out⟩, ⟨HB3.out⟩⟩
   case measure => simp [intOf]; omega
  ·obtain rfl : k = l.length := by omega
   obtain rfl : iv = (l.length : Int) := HK.out
   go_wp2
   go_end0
   refine ⟨⟨_, rfl⟩, ?_, HW.out⟩
   simpa using HB.out
end Go.Proofs.YtnnofopfbeklbaaGreat.C
end
