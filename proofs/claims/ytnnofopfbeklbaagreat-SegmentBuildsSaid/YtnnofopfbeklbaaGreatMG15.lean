/- Texts of this claim's author and of the print of its functions, merged by merge.py. -/
import Derived.Test.YtnnofopfbeklbaaGreatMG02
import Derived.Test.YtnnofopfbeklbaaGreatMG14
import Derived.Test.YtnnofopfbeklbaaGreatMG03
import Derived.Test.YtnnofopfbeklbaaGreatMG04
set_option linter.unusedVariables false
set_option linter.unusedSimpArgs false
set_option maxHeartbeats 8000000
set_option maxRecDepth 100000
section
namespace Go.Proofs.YtnnofopfbeklbaaGreat.C
open Go.RowKit Go.Proofs.YtnnofopfbeklbaaGreatW.PrintWords Go.Proofs.YtnnofopfbeklbaaGreatW.PrintLast Go.Proofs.YtnnofopfbeklbaaGreatW.PrintMore
theorem turn_ends (n : Nat) (hn : n ≤ 64) : ∀ (d i : Nat) (x : Int), i + d = n → ∃ r, Qay.l0 (d + 1) x (n : Int) (i : Int) = some r
 | 0, i, x, h => by
  refine ⟨x, ?_⟩
  unfold Qay.l0
  rw [if_neg (by omega)]
 | d + 1, i, x, h => by
  obtain ⟨r, hr⟩ := turn_ends n hn d (i + 1) (IntKind.u64.wrap ((IntKind.u64.wrap (2 * x)) + (IntKind.u64.wrap (Int.tdiv x 9223372036854775808)))) (by omega)
  refine ⟨r, ?_⟩
  unfold Qay.l0
  rw [if_pos (by omega), show wrap64 ((i : Int) + 1) = ((i + 1 : Nat) : Int) by unfold wrap64; omega]
  exact hr
def Qja (x : Int) (n : Nat) : Int := (Qay.f (n + 1) x n).getD 0
theorem turn_is (x : Int) (n : Nat) (hn : n ≤ 64) : Qay.f (n + 1) x n = some (Qja x n) := by
 obtain ⟨r, hr⟩ := turn_ends n hn n 0 x (by omega)
 have h : Qay.f (n + 1) x n = some r := hr
 unfold Qja
 rw [h]
 rfl
def Qjb (x y : Int) : Int := (Qaw.f 32 x y).getD 0
theorem rinto_is (x y : Int) : Qaw.f 32 x y = some (Qjb x y) := by
 unfold Qjb Qaw.f
 rw [show (32 : Nat) = 31 + 1 from rfl, show (31 : Int) = ((31 : Nat) : Int) from rfl, turn_is _ 31 (by omega)]
 rfl
theorem Qjc (s : ByteArray) (hs : s.size ≤ 1000) : ∀ (d : Nat) (x : Int), d ≤ s.size → ∃ r, Qar.l0 (d + 1) s x ((d : Int) - 1) = some r
 | 0, x, h => by
  refine ⟨x, ?_⟩
  unfold Qar.l0
  rw [if_neg (by omega)]
 | d + 1, x, h => by
  obtain ⟨r, hr⟩ := Qjc s hs d (IntKind.u64.wrap ((IntKind.u64.wrap (x * 256)) + (IntKind.u64.wrap (bt s (d : Int))))) (by omega)
  refine ⟨r, ?_⟩
  unfold Qar.l0
  rw [show ((d + 1 : Nat) : Int) - 1 = (d : Int) by omega, if_pos (by omega), if_pos (by omega), if_pos (by omega), show wrap64 ((d : Int) - 1) = (d : Int) - 1 by unfold wrap64; omega]
  exact hr
def rval (s : ByteArray) : Int := (Qar.f (s.size + 1) s).getD 0
theorem rval_is (s : ByteArray) (hs : s.size ≤ 1000) : Qar.f (s.size + 1) s = some (rval s) := by
 obtain ⟨r, hr⟩ := Qjc s hs s.size 0 (Nat.le_refl _)
 have h : Qar.f (s.size + 1) s = some r := by
  unfold Qar.f
  rw [show wrap64 ((s.size : Int) - 1) = (s.size : Int) - 1 by unfold wrap64; omega]
  exact hr
 unfold rval
 rw [h]
 rfl
def Qjd (v : V4) (s : ByteArray) : V4 := (Qjb v.1 (rval (s.extract 0 8)), Qjb v.2.1 (rval (s.extract 8 16)), Qjb v.2.2.1 (rval (s.extract 16 24)), Qjb v.2.2.2 (rval (s.extract 24 32)))
def rrun : Nat → V4 → ByteArray → V4 × ByteArray
 | 0, v, s => (v, s)
 | m + 1, v, s => rrun m (Qjd v s) (s.extract 32 s.size)
def rsum (V : V4) : Int := IntKind.u64.wrap (IntKind.u64.wrap (IntKind.u64.wrap (Qja V.1 1 + Qja V.2.1 7) + Qja V.2.2.1 12) + Qja V.2.2.2 18)
def Qje (h x : Int) : Int := IntKind.u64.wrap (IntKind.u64.wrap (Go.bits .xor .u64 h (Qjb 0 x) * Q1) + Q4)
def rmix (h : Int) (V : V4) : Int := Qje (Qje (Qje (Qje h V.1) V.2.1) V.2.2.1) V.2.2.2
def Qjf (sd : Int) : V4 := (IntKind.u64.wrap (IntKind.u64.wrap (sd + Q1) + Q2), IntKind.u64.wrap (sd + Q2), sd, IntKind.u64.wrap (sd - Q1))
def Qav.f (a0 : Int) (a1 : ByteArray) : Option (Int × ByteArray) :=
 if a1.size ≤ 9223372036854775807 then some (rmix (rsum (rrun (a1.size / 32) (Qjf a0) a1).1) (rrun (a1.size / 32) (Qjf a0) a1).1, (rrun (a1.size / 32) (Qjf a0) a1).2) else none
def rmixTo (i : Nat) (h : Int) (V : V4) : Int := match i with
 | 0 => h
 | 1 => Qje h V.1
 | 2 => Qje (Qje h V.1) V.2.1
 | 3 => Qje (Qje (Qje h V.1) V.2.1) V.2.2.1
 | _ => rmix h V
def VAt (W : World) (g : Nat) (V : V4) : Prop := W.heap[g]? = some (.cells #[.int .u64 V.1, .int .u64 V.2.1, .int .u64 V.2.2.1, .int .u64 V.2.2.2] 231 (0, 0))
def strLen : Value → Nat
 | .string s => s.size
 | _ => 0
def rstepTo (i : Nat) (v : V4) (s : ByteArray) : V4 := (if 0 < i then Qjb v.1 (rval (s.extract 0 8)) else v.1, if 1 < i then Qjb v.2.1 (rval (s.extract 8 16)) else v.2.1, if 2 < i then Qjb v.2.2.1 (rval (s.extract 16 24)) else v.2.2.1, if 3 < i then Qjb v.2.2.2 (rval (s.extract 24 32)) else v.2.2.2)
theorem rval_at (s : ByteArray) (hs : s.size ≤ 1000) (W : World) : Calls Tryz.prog 107 #[.string s] W fun e w' => e = .returned (.int .u64 (rval s)) ∧ Drawn0 W w' := Qar.calls _ s _ W (rval_is s hs)
theorem Qjg (x y : Int) (W : World) : Calls Tryz.prog 106 #[.int .u64 x, .int .u64 y] W fun e w' => e = .returned (.int .u64 (Qjb x y)) ∧ Drawn0 W w' := Qaw.calls _ x y _ W (rinto_is x y)
theorem turn_at (x : Int) (n : Nat) (j : Int) (hj : j = (n : Int)) (hn : n ≤ 64) (W : World) : Calls Tryz.prog 108 #[.int .u64 x, .int .i64 j] W fun e w' => e = .returned (.int .u64 (Qja x n)) ∧ Drawn0 W w' := by
 subst hj
 exact Qay.calls _ x n _ W (turn_is x n hn)
theorem Qjh (s : ByteArray) (a b : Nat) : (s.extract a b).size ≤ b - a := by
 rw [ByteArray.size_extract]
 omega
theorem begin_of (sd : Int) (s0 : ByteArray) (w : World) (hs : s0.size ≤ 9223372036854775807) :
  Calls Tryz.prog 105 #[.int .u64 sd, .string s0] w fun e w' => e = .returned (.tuple #[.int .u64 (rmix (rsum (rrun (s0.size / 32) (Qjf sd) s0).1) (rrun (s0.size / 32) (Qjf sd) s0).1), .string (rrun (s0.size / 32) (Qjf sd) s0).2]) ∧ Below w.heap.size w w' := by
 have hu2 := Tryz.underlying231
 go_enter Tryz.func105, Tryz.ntmps105
 go_wp2_with fail
 obtain ⟨g, hg⟩ : ∃ g, g = w.heap.size := ⟨_, rfl⟩
 obtain ⟨V0, hV0⟩ : ∃ V0, V0 = Qjf sd := ⟨_, rfl⟩
 obtain ⟨W, hW⟩ : ∃ W, W = w.alloc (.cells #[.int .u64 (IntKind.u64.wrap (IntKind.u64.wrap (sd + 11400714785074694791) + 14029467366897019727)), .int .u64 (IntKind.u64.wrap (sd + 14029467366897019727)), .int .u64 sd, .int .u64 (IntKind.u64.wrap (sd - 11400714785074694791))] 231) := ⟨_, rfl⟩
 have HV0 := QA (show VAt W g V0 by rw [hW, hg, hV0]; exact Qdu w _)
 have HW0 := QA (show Below w.heap.size w W by rw [hW]; exact Qco (Below.refl _ _) _)
 rw [← hW, ← hg]
 have HG := QA hg
 have HVV := QA hV0
 clear hW hg hV0
 go_loopw [1, 9, 29] (fun v1 v9 v29 wr => ∃ (m : Nat) (s : ByteArray) (V : V4), v1 = .string s ∧ s.size ≤ s0.size ∧ Aside0 (s.size / 32 = m ∧ rrun (s0.size / 32) V0 s0 = rrun m V s) ∧ Aside0 (VAt wr g V) ∧ Aside0 (Below w.heap.size w wr))
  (fun v1 _ _ _ => strLen v1)
 case atStart => exact ⟨_, s0, V0, rfl, Nat.le_refl _, ⟨rfl, rfl⟩, HV0, HW0⟩
 case round =>
  clear HV0 HW0
  obtain ⟨m, s, V, rfl, hss, HM, HV, HB⟩ := hrel
  by_cases h32 : 32 ≤ s.size
  ·have h32i : (32 : Int) ≤ (s.size : Int) := by omega
   go_wp2_with fail
   go_loopw [9, 29] (fun v9 v29 wi => ∃ (i : Nat) (iv : Int), i ≤ 4 ∧ v29 = .int .i64 iv ∧ Aside0 (iv = (i : Int)) ∧ Aside0 (VAt wi g (rstepTo i V s)) ∧ Aside0 (Below w.heap.size w wi))
    (fun _ v29 _ => 4 - (intOf v29).toNat)
   case atStart => exact ⟨0, 0, by omega, rfl, ⟨rfl⟩, HV, HB⟩
   case round =>
    clear HV HB
    obtain ⟨i, iv, hi, rfl, HI, HV, HB⟩ := hrel
    by_cases h4 : i < 4
    ·have hk : i = 0 ∨ i = 1 ∨ i = 2 ∨ i = 3 := by omega
     rcases hk with rfl | rfl | rfl | rfl
     ·obtain rfl : iv = 0 := HI.out
      have cv : wr.cell? ⟨g, 0, none⟩ = some (.int .u64 V.1) := (Qdj HV.out 0).trans rfl
      have fv := Qdk HV.out 0
      go_wp2_with fail
      have hw0 : IntKind.i64.wrap 0 = 0 := IntWalk.i64_in 0 (by decide)
      have hw1 : IntKind.i64.wrap 8 = 8 := IntWalk.i64_in 8 (by decide)
      have hsz : (8 : Int) ≤ (s.size : Int) := by omega
      have hx : (s.extract 0 8).size ≤ 1000 := Nat.le_trans (Qjh s 0 8) (by decide)
      go_region_with (first | (go_at_call 107; refine (rval_at (s.extract 0 8) hx _).mono ?_; rintro e w7 ⟨rfl, hd⟩; obtain ⟨q, rfl⟩ := hd.out; clear hd) | (go_at_call 106; refine (Qjg _ _ _).mono ?_; rintro e w8 ⟨rfl, hd⟩; obtain ⟨q2, rfl⟩ := hd.out; clear hd))
      all_goals
       go_wp2_with fail
       go_roundw
       case rel => exact ⟨1, 1, by omega, by go_num, ⟨rfl⟩, ⟨Qdg (w := wr.drewN _) HV.out 0 _⟩, ⟨Qgt (Qcq HB.out _) (by rw [HG.out]; exact Nat.le_refl _)⟩⟩
       case measure => simp [intOf]
     ·obtain rfl : iv = 1 := HI.out
      have cv : wr.cell? ⟨g, 1, none⟩ = some (.int .u64 V.2.1) := (Qdj HV.out 1).trans rfl
      have fv := Qdk HV.out 1
      go_wp2_with fail
      have hw0 : IntKind.i64.wrap 8 = 8 := IntWalk.i64_in 8 (by decide)
      have hw1 : IntKind.i64.wrap 16 = 16 := IntWalk.i64_in 16 (by decide)
      have hsz : (16 : Int) ≤ (s.size : Int) := by omega
      have hx : (s.extract 8 16).size ≤ 1000 := Nat.le_trans (Qjh s 8 16) (by decide)
      go_region_with (first | (go_at_call 107; refine (rval_at (s.extract 8 16) hx _).mono ?_; rintro e w7 ⟨rfl, hd⟩; obtain ⟨q, rfl⟩ := hd.out; clear hd) | (go_at_call 106; refine (Qjg _ _ _).mono ?_; rintro e w8 ⟨rfl, hd⟩; obtain ⟨q2, rfl⟩ := hd.out; clear hd))
      all_goals
       go_wp2_with fail
       go_roundw
       case rel => exact ⟨2, 2, by omega, by go_num, ⟨rfl⟩, ⟨Qdg (w := wr.drewN _) HV.out 1 _⟩, ⟨Qgt (Qcq HB.out _) (by rw [HG.out]; exact Nat.le_refl _)⟩⟩
       case measure => simp [intOf]
     ·obtain rfl : iv = 2 := HI.out
      have cv : wr.cell? ⟨g, 2, none⟩ = some (.int .u64 V.2.2.1) := (Qdj HV.out 2).trans rfl
      have fv := Qdk HV.out 2
      go_wp2_with fail
      have hw0 : IntKind.i64.wrap 16 = 16 := IntWalk.i64_in 16 (by decide)
      have hw1 : IntKind.i64.wrap 24 = 24 := IntWalk.i64_in 24 (by decide)
      have hsz : (24 : Int) ≤ (s.size : Int) := by omega
      have hx : (s.extract 16 24).size ≤ 1000 := Nat.le_trans (Qjh s 16 24) (by decide)
      go_region_with (first | (go_at_call 107; refine (rval_at (s.extract 16 24) hx _).mono ?_; rintro e w7 ⟨rfl, hd⟩; obtain ⟨q, rfl⟩ := hd.out; clear hd) | (go_at_call 106; refine (Qjg _ _ _).mono ?_; rintro e w8 ⟨rfl, hd⟩; obtain ⟨q2, rfl⟩ := hd.out; clear hd))
      all_goals
       go_wp2_with fail
       go_roundw
       case rel => exact ⟨3, 3, by omega, by go_num, ⟨rfl⟩, ⟨Qdg (w := wr.drewN _) HV.out 2 _⟩, ⟨Qgt (Qcq HB.out _) (by rw [HG.out]; exact Nat.le_refl _)⟩⟩
       case measure => simp [intOf]
     ·obtain rfl : iv = 3 := HI.out
      have cv : wr.cell? ⟨g, 3, none⟩ = some (.int .u64 V.2.2.2) := (Qdj HV.out 3).trans rfl
      have fv := Qdk HV.out 3
      go_wp2_with fail
      have hw0 : IntKind.i64.wrap 24 = 24 := IntWalk.i64_in 24 (by decide)
      have hw1 : IntKind.i64.wrap 32 = 32 := IntWalk.i64_in 32 (by decide)
      have hsz : (32 : Int) ≤ (s.size : Int) := by omega
      have hx : (s.extract 24 32).size ≤ 1000 := Nat.le_trans (Qjh s 24 32) (by decide)
      go_region_with (first | (go_at_call 107; refine (rval_at (s.extract 24 32) hx _).mono ?_; rintro e w7 ⟨rfl, hd⟩; obtain ⟨q, rfl⟩ := hd.out; clear hd) | (go_at_call 106; refine (Qjg _ _ _).mono ?_; rintro e w8 ⟨rfl, hd⟩; obtain ⟨q2, rfl⟩ := hd.out; clear hd))
      all_goals
       go_wp2_with fail
       go_roundw
       case rel => exact ⟨4, 4, by omega, by go_num, ⟨rfl⟩, ⟨Qdg (w := wr.drewN _) HV.out 3 _⟩, ⟨Qgt (Qcq HB.out _) (by rw [HG.out]; exact Nat.le_refl _)⟩⟩
       case measure => simp [intOf]
    ·obtain rfl : i = 4 := by omega
     obtain rfl : iv = 4 := HI.out
     go_wp2_with fail
     go_roundw
     case rel =>
      have e4 : rstepTo 4 V s = Qjd V s := rfl
      have hm := HM.out
      have hd : (s.extract 32 s.size).size = s.size - 32 := by rw [ByteArray.size_extract]; omega
      refine ⟨m - 1, s.extract 32 s.size, Qjd V s, rfl, by rw [hd]; omega, ⟨by rw [hd]; omega, ?_⟩, ⟨?_⟩, HB⟩
      ·rw [hm.2, show m = (m - 1) + 1 by omega]
       rfl
      ·exact HV.out
     case measure => simp [strLen]; omega
  ·have h32i : (s.size : Int) < 32 := by omega
   go_wp2_with fail
   have c0 : wr.cell? ⟨g, 0, none⟩ = some (.int .u64 V.1) := (Qdj HV.out 0).trans rfl
   have c1 : wr.cell? ⟨g, 1, none⟩ = some (.int .u64 V.2.1) := (Qdj HV.out 1).trans rfl
   have c2 : wr.cell? ⟨g, 2, none⟩ = some (.int .u64 V.2.2.1) := (Qdj HV.out 2).trans rfl
   have c3 : wr.cell? ⟨g, 3, none⟩ = some (.int .u64 V.2.2.2) := (Qdj HV.out 3).trans rfl
   go_region_held3 (fun w' => w'.cell? ⟨g, 0, none⟩ = some (.int .u64 V.1) ∧ w'.cell? ⟨g, 1, none⟩ = some (.int .u64 V.2.1) ∧ w'.cell? ⟨g, 2, none⟩ = some (.int .u64 V.2.2.1) ∧ w'.cell? ⟨g, 3, none⟩ = some (.int .u64 V.2.2.2)) (go_keep) (first
    | (go_at_call_of 108 (Value.int .i64 1); refine (turn_at V.1 1 1 rfl (by decide) _).mono ?_; rintro e w7 ⟨rfl, hd⟩; obtain ⟨q1, rfl⟩ := hd.out; clear hd)
    | (go_at_call_of 108 (Value.int .i64 7); refine (turn_at V.2.1 7 7 rfl (by decide) _).mono ?_; rintro e w7 ⟨rfl, hd⟩; obtain ⟨q2, rfl⟩ := hd.out; clear hd)
    | (go_at_call_of 108 (Value.int .i64 12); refine (turn_at V.2.2.1 12 12 rfl (by decide) _).mono ?_; rintro e w7 ⟨rfl, hd⟩; obtain ⟨q3, rfl⟩ := hd.out; clear hd)
    | (go_at_call_of 108 (Value.int .i64 18); refine (turn_at V.2.2.2 18 18 rfl (by decide) _).mono ?_; rintro e w7 ⟨rfl, hd⟩; obtain ⟨q4, rfl⟩ := hd.out; clear hd))
   obtain ⟨W2, hW2⟩ : ∃ W2, W2 = wr.drewN (1 + q1 + q2 + q3 + q4) := ⟨_, rfl⟩
   have HV2 := QA (show VAt W2 g V by rw [hW2]; exact HV.out)
   have HB2 := QA (show Below w.heap.size w W2 by rw [hW2]; exact Qcq HB.out _)
   rw [← hW2]
   clear hW2 c0 c1 c2 c3 HV HB
   have hm0 : m = 0 := by have := HM.out.1; omega
   go_wp2_with fail
   go_loopw [10, 11, 64] (fun v10 v11 v64 wi => ∃ (i : Nat) (iv h : Int), i ≤ 4 ∧ v64 = .int .i64 iv ∧ v10 = .int .u64 h ∧ Aside0 (iv = (i : Int)) ∧ Aside0 (h = rmixTo i (rsum V) V) ∧ Aside0 (VAt wi g V) ∧ Aside0 (Below w.heap.size w wi))
    (fun _ _ v64 _ => 4 - (intOf v64).toNat)
   case atStart => exact ⟨0, 0, _, by omega, rfl, rfl, ⟨rfl⟩, ⟨rfl⟩, HV2, HB2⟩
   case round =>
    clear HV2 HB2
    obtain ⟨i, iv, h, hi, rfl, rfl, HI, HH, HV, HB⟩ := hrel
    by_cases h4 : i < 4
    ·have hk : i = 0 ∨ i = 1 ∨ i = 2 ∨ i = 3 := by omega
     rcases hk with rfl | rfl | rfl | rfl
     ·obtain rfl : iv = 0 := HI.out
      have cv : wr.cell? ⟨g, 0, none⟩ = some (.int .u64 V.1) := (Qdj HV.out 0).trans rfl
      go_wp2_with (go_at_call 106; refine (Qjg _ _ _).mono ?_; rintro e w8 ⟨rfl, hd⟩; obtain ⟨q9, rfl⟩ := hd.out; clear hd)
      go_roundw
      case rel => exact ⟨1, 1, Qje h V.1, by omega, by go_num, rfl, ⟨rfl⟩, ⟨by rw [HH.out]; rfl⟩, ⟨HV.out⟩, ⟨Qcq HB.out _⟩⟩
      case measure => simp [intOf]
     ·obtain rfl : iv = 1 := HI.out
      have cv : wr.cell? ⟨g, 1, none⟩ = some (.int .u64 V.2.1) := (Qdj HV.out 1).trans rfl
      go_wp2_with (go_at_call 106; refine (Qjg _ _ _).mono ?_; rintro e w8 ⟨rfl, hd⟩; obtain ⟨q9, rfl⟩ := hd.out; clear hd)
      go_roundw
      case rel => exact ⟨2, 2, Qje h V.2.1, by omega, by go_num, rfl, ⟨rfl⟩, ⟨by rw [HH.out]; rfl⟩, ⟨HV.out⟩, ⟨Qcq HB.out _⟩⟩
      case measure => simp [intOf]
     ·obtain rfl : iv = 2 := HI.out
      have cv : wr.cell? ⟨g, 2, none⟩ = some (.int .u64 V.2.2.1) := (Qdj HV.out 2).trans rfl
      go_wp2_with (go_at_call 106; refine (Qjg _ _ _).mono ?_; rintro e w8 ⟨rfl, hd⟩; obtain ⟨q9, rfl⟩ := hd.out; clear hd)
      go_roundw
      case rel => exact ⟨3, 3, Qje h V.2.2.1, by omega, by go_num, rfl, ⟨rfl⟩, ⟨by rw [HH.out]; rfl⟩, ⟨HV.out⟩, ⟨Qcq HB.out _⟩⟩
      case measure => simp [intOf]
     ·obtain rfl : iv = 3 := HI.out
      have cv : wr.cell? ⟨g, 3, none⟩ = some (.int .u64 V.2.2.2) := (Qdj HV.out 3).trans rfl
      go_wp2_with (go_at_call 106; refine (Qjg _ _ _).mono ?_; rintro e w8 ⟨rfl, hd⟩; obtain ⟨q9, rfl⟩ := hd.out; clear hd)
      go_roundw
      case rel => exact ⟨4, 4, Qje h V.2.2.2, by omega, by go_num, rfl, ⟨rfl⟩, ⟨by rw [HH.out]; rfl⟩, ⟨HV.out⟩, ⟨Qcq HB.out _⟩⟩
      case measure => simp [intOf]
    ·obtain rfl : i = 4 := by omega
     obtain rfl : iv = 4 := HI.out
     go_wp2_with fail
     refine bodyPost_ret (results_tmp2 rfl _ _ _) rfl ?_
     refine ⟨?_, HB.out⟩
     have e5 := HM.out.2
     rw [hm0] at e5
     have e6 : rrun (s0.size / 32) (Qjf sd) s0 = (V, s) := by rw [← HVV.out]; exact e5
     rw [e6, HH.out]
     rfl
theorem Qav.calls (a0 : Int) (a1 : ByteArray) (r1 : Int) (r2 : ByteArray) (w : World) (h : Qav.f a0 a1 = some (r1, r2)) :
  Calls Tryz.prog 105 #[.int .u64 a0, .string a1] w fun e w' => e = .returned (.tuple #[.int .u64 r1, .string r2]) ∧ Below w.heap.size w w' := by
 unfold Qav.f at h
 split at h
 ·rename_i hs
  simp only [Option.some.injEq, Prod.mk.injEq] at h
  obtain ⟨rfl, rfl⟩ := h
  exact begin_of a0 a1 w hs
 ·cases h
end Go.Proofs.YtnnofopfbeklbaaGreat.C
end
section
namespace Go.Proofs.YtnnofopfbeklbaaGreat.C
open Go.RowKit Go.Proofs.YtnnofopfbeklbaaGreatW.PrintWords Go.Proofs.YtnnofopfbeklbaaGreatW.PrintLast Go.Proofs.YtnnofopfbeklbaaGreatW.PrintMore
attribute [local go_sem] Qfx Qfy Qfz Qga Qgb Qgc Qgd Qge
mutual
def Qau.j0 : Nat → ByteArray → Int → Int → Option (Int)
 | 0, _, _, _ => none
 | k + 1, x1, x5, x6 => Qau.l0 k x1 (IntKind.u64.wrap (x6 + x5))
def Qau.l0 : Nat → ByteArray → Int → Option (Int)
 | 0, _, _ => none
 | k + 1, x1, x6 => if (x1.size : Int) ≥ 8 then (if 0 ≤ 8 then (if 8 ≤ (x1.size : Int) then ((Qar.f k (x1.extract 0 8)).bind fun t274 => ((Qaw.f k 0 t274).bind fun t275 => ((Qay.f k (Go.bits .xor .u64 x6 t275) 27).bind fun t276 => (Qau.l0 k (x1.extract 8 x1.size) (IntKind.u64.wrap ((IntKind.u64.wrap (t276 * 11400714785074694791)) + 9650029242287828579)))))) else (none)) else (none)) else (Qau.l1 k x1 x6)
def Qau.l1 : Nat → ByteArray → Int → Option (Int)
 | 0, _, _ => none
 | k + 1, x1, x6 => if (x1.size : Int) ≥ 4 then (if 0 ≤ 4 then (if 4 ≤ (x1.size : Int) then ((Qar.f k (x1.extract 0 4)).bind fun t277 => ((Qay.f k (Go.bits .xor .u64 x6 (IntKind.u64.wrap (t277 * 11400714785074694791))) 23).bind fun t278 => (Qau.l1 k (x1.extract 4 x1.size) (IntKind.u64.wrap ((IntKind.u64.wrap (t278 * 14029467366897019727)) + 1609587929392839161))))) else (none)) else (none)) else (Qau.l2 k x1 x6 0)
def Qau.l2 : Nat → ByteArray → Int → Int → Option (Int)
 | 0, _, _, _ => none
 | k + 1, x1, x6, x8 => if x8 < (x1.size : Int) then (if 0 ≤ x8 then ((Qay.f k (Go.bits .xor .u64 x6 (IntKind.u64.wrap ((IntKind.u64.wrap (bt x1 x8)) * 2870177450012600261))) 11).bind fun t279 => (Qau.l2 k x1 (IntKind.u64.wrap (t279 * 11400714785074694791)) (wrap64 (x8 + 1)))) else (none)) else ((Qax.f k x6 33).bind fun t280 => ((Qax.f k (IntKind.u64.wrap (t280 * 14029467366897019727)) 29).bind fun t281 => ((Qax.f k (IntKind.u64.wrap (t281 * 1609587929392839161)) 32).bind fun t282 => (some t282))))
end
def Qau.f (k : Nat) (a0 : Int) (a1 : ByteArray) : Option (Int) := if (a1.size : Int) ≥ 32 then ((Qav.f a0 a1).bind fun bt272 => (Qau.j0 k bt272.2 (IntKind.u64.wrap ((a1.size : Int))) bt272.1)) else (Qau.j0 k a1 (IntKind.u64.wrap ((a1.size : Int))) (IntKind.u64.wrap (a0 + 2870177450012600261)))
theorem Qau.calls (k : Nat) (a0 : Int) (a1 : ByteArray) (r : Int) (w : World) (h : Qau.f k a0 a1 = some r) :
  Calls Tryz.prog 65 #[.int .u64 a0, .string a1] w fun e w' => e = .returned (.int .u64 r) ∧ Below w.heap.size w w' := by
 have HB := QA (Below.refl w.heap.size w)
 have H : (if (a1.size : Int) ≥ 32 then ((Qav.f a0 a1).bind fun bt272 => (Qau.j0 k bt272.2 (IntKind.u64.wrap ((a1.size : Int))) bt272.1)) else (Qau.j0 k a1 (IntKind.u64.wrap ((a1.size : Int))) (IntKind.u64.wrap (a0 + 2870177450012600261)))) = some r := h
 clear h
 have HC3 := QA H
 clear H
 go_enter Tryz.func65, Tryz.ntmps65
 go_upto_if 17 with (fail)
 go_cut [1, 6] (fun v1 v6 wc => ∃ (kq : Nat) (x1_2 : ByteArray) (x6_2 : Int), v1 = .string x1_2 ∧ v6 = .int .u64 x6_2 ∧ Aside0 (Qau.j0 kq x1_2 (IntKind.u64.wrap ((a1.size : Int))) x6_2 = some r) ∧ Aside0 (kq ≤ k) ∧ Aside0 (Below w.heap.size w wc))
 case first =>
  have H := HC3.out
  clear HC3
  by_cases c4 : (a1.size : Int) ≥ 32
  ·rw [if_pos c4] at H
   have c4b0 : decide (32 ≤ (a1.size : Int)) = true := decide_eq_true c4
   have c4b1 : decide (32 ≤ a1.size) = true := decide_eq_true (by omega)
   clear c4
   (first | rw [c4b0] | (simp only [Qew, Qex]; rw [c4b0]) | skip)
   replace H := Option.bind_eq_some_iff.mp H
   obtain ⟨⟨t272, t273⟩, A50, H⟩ := H
   replace H : (Qau.j0 k t273 (IntKind.u64.wrap ((a1.size : Int))) t272) = some r := H
   have A5 := QA A50
   clear A50
   have H' := QA H
   clear H
   go_wp2_with (first | ((with_reducible refine Qgf (f := 105) rfl ?_); refine Qeu (some 21) rfl rfl Tryz.func105 qq_6 rfl #[.int .u64 a0, .string a1] rfl qq_1 ?_; (with_reducible refine (Qav.calls a0 a1 t272 t273 _ A5.out).mono ?_); rintro e w6 ⟨rfl, hb⟩; refine ⟨_, rfl, ?_⟩; have n0_ := QA (Qea qq_b hb); clear HB; have HB := n0_; clear n0_; (try clear hb); (try clear hb2); (try clear hk); (try clear hi)))
   go_meet
   case rel => exact ⟨_, (t273), (t272), qq_5, qq_5, H', ⟨by first | omega | exact Nat.le_refl _⟩, ⟨qq_b⟩⟩
  ·rw [if_neg c4] at H
   have c4b0 : decide (32 ≤ (a1.size : Int)) = false := decide_eq_false c4
   have c4b1 : decide (32 ≤ a1.size) = false := decide_eq_false (by omega)
   clear c4
   (first | rw [c4b0] | (simp only [Qew, Qex]; rw [c4b0]) | skip)
   have H' := QA H
   clear H
   go_wp2
   go_meet
   case rel => exact ⟨_, (a1), (IntKind.u64.wrap (a0 + 2870177450012600261)), qq_5, qq_5, H', ⟨by first | omega | exact Nat.le_refl _⟩, ⟨qq_b⟩⟩
 case rest =>
  clear HC3
  try clear c4
  try clear c4b0
  try clear c4b1
  obtain ⟨kq, x1_2, x6_2, rfl, rfl, HA, HJ2, HB⟩ := hcut
  cases kq with
  | zero => exact absurd HA.out (by simp [Qau.j0])
  | succ kj2 =>
   have H := HA.out
   clear HA
   simp only [Qau.j0] at H
   have H' := QA H
   clear H
   go_wp2
   go_loopg [1, 6] kj2 (fun kq v1 v6 w' => ∃ (x1_2 : ByteArray) (x6_2 : Int), v1 = .string x1_2 ∧ v6 = .int .u64 x6_2 ∧ Aside0 (Qau.l0 kq x1_2 x6_2 = some r) ∧ Aside0 (kq ≤ kj2) ∧ Aside0 (Below w.heap.size w w'))
   case atStart => exact ⟨(x1_2), (IntKind.u64.wrap (x6_2 + (IntKind.u64.wrap ((a1.size : Int))))), qq_5, qq_5, H', ⟨Nat.le_refl _⟩, ⟨qq_b⟩⟩
   case round =>
    clear H'
    try clear c4
    try clear c4b0
    try clear c4b1
    obtain ⟨x1_2, x6_2, rfl, rfl, HA, HK2, HB⟩ := hrel
    cases gk with
    | zero => exact absurd HA.out (by simp [Qau.l0])
    | succ k2 =>
     have H := HA.out
     clear HA
     simp only [Qau.l0] at H
     by_cases c7 : (x1_2.size : Int) ≥ 8
     ·rw [if_pos c7] at H
      have c7b0 : decide (8 ≤ (x1_2.size : Int)) = true := decide_eq_true c7
      have c7b1 : decide (8 ≤ x1_2.size) = true := decide_eq_true (by omega)
      clear c7
      by_cases c8 : 0 ≤ 8
      ·rw [if_pos c8] at H
       have c8b0 := eq_true c8
       have c8b1 : decide (0 ≤ 8) = true := decide_eq_true c8
       clear c8
       by_cases c9 : 8 ≤ (x1_2.size : Int)
       ·rw [if_pos c9] at H
        have c9b0 := eq_true c9
        have c9b1 : decide (8 ≤ (x1_2.size : Int)) = true := decide_eq_true c9
        clear c9
        replace H := Option.bind_eq_some_iff.mp H
        obtain ⟨t274, A100, H⟩ := H
        replace H : ((Qaw.f k2 0 t274).bind fun t275 => ((Qay.f k2 (Go.bits .xor .u64 x6_2 t275) 27).bind fun t276 => (Qau.l0 k2 (x1_2.extract 8 x1_2.size) (IntKind.u64.wrap ((IntKind.u64.wrap (t276 * 11400714785074694791)) + 9650029242287828579))))) = some r := H
        have A10 := QA A100
        clear A100
        replace H := Option.bind_eq_some_iff.mp H
        obtain ⟨t275, A110, H⟩ := H
        replace H : ((Qay.f k2 (Go.bits .xor .u64 x6_2 t275) 27).bind fun t276 => (Qau.l0 k2 (x1_2.extract 8 x1_2.size) (IntKind.u64.wrap ((IntKind.u64.wrap (t276 * 11400714785074694791)) + 9650029242287828579)))) = some r := H
        have A11 := QA A110
        clear A110
        replace H := Option.bind_eq_some_iff.mp H
        obtain ⟨t276, A120, H⟩ := H
        replace H : (Qau.l0 k2 (x1_2.extract 8 x1_2.size) (IntKind.u64.wrap ((IntKind.u64.wrap (t276 * 11400714785074694791)) + 9650029242287828579))) = some r := H
        have A12 := QA A120
        clear A120
        have c13b0 := eq_true (of_decide_eq_true qq_7 : 8 ≤ (x1_2.size : Int))
        have H' := QA H
        clear H
        go_wp2_with (first | ((with_reducible refine Qgf (f := 107) rfl ?_); refine Qeu (some 33) rfl rfl Tryz.func107 qq_6 rfl #[.string (x1_2.extract 0 8)] rfl qq_1 ?_; (with_reducible refine (Qar.calls k2 (x1_2.extract 0 8) t274 _ A10.out).mono ?_); rintro e w' ⟨rfl, ⟨nd, rfl⟩⟩; refine ⟨_, rfl, ?_⟩) | ((with_reducible refine Qgf (f := 106) rfl ?_); refine Qeu (some 34) rfl rfl Tryz.func106 qq_6 rfl #[.int .u64 0, .int .u64 t274] rfl qq_1 ?_; (with_reducible refine (Qaw.calls k2 0 t274 t275 _ A11.out).mono ?_); rintro e w' ⟨rfl, ⟨nd, rfl⟩⟩; refine ⟨_, rfl, ?_⟩) | ((with_reducible refine Qgf (f := 108) rfl ?_); refine Qeu (some 37) rfl rfl Tryz.func108 qq_6 rfl #[.int .u64 (Go.bits .xor .u64 x6_2 t275), .int .i64 27] rfl qq_1 ?_; (with_reducible refine (Qay.calls k2 (Go.bits .xor .u64 x6_2 t275) 27 t276 _ A12.out).mono ?_); rintro e w' ⟨rfl, ⟨nd, rfl⟩⟩; refine ⟨_, rfl, ?_⟩))
        go_roundg k2
        case measure => have := HJ2.out; have := HK2.out; omega
        case rel => exact ⟨(x1_2.extract 8 x1_2.size), (IntKind.u64.wrap ((IntKind.u64.wrap (t276 * 11400714785074694791)) + 9650029242287828579)), qq_5, qq_5, H', ⟨by have := HJ2.out; have := HK2.out; omega⟩, ⟨qq_b⟩⟩
       ·rw [if_neg c9] at H
        exact absurd H (by simp)
      ·rw [if_neg c8] at H
       exact absurd H (by simp)
     ·rw [if_neg c7] at H
      have c7b0 : decide (8 ≤ (x1_2.size : Int)) = false := decide_eq_false c7
      have c7b1 : decide (8 ≤ x1_2.size) = false := decide_eq_false (by omega)
      clear c7
      have H' := QA H
      clear H
      go_wp2
      go_loopg [1, 6] k2 (fun kq v1 v6 w' => ∃ (x1_3 : ByteArray) (x6_3 : Int), v1 = .string x1_3 ∧ v6 = .int .u64 x6_3 ∧ Aside0 (Qau.l1 kq x1_3 x6_3 = some r) ∧ Aside0 (kq ≤ k2) ∧ Aside0 (Below w.heap.size w w'))
      case atStart => exact ⟨(x1_2), (x6_2), qq_5, qq_5, H', ⟨Nat.le_refl _⟩, ⟨qq_b⟩⟩
      case round =>
       clear H'
       try clear c4
       try clear c4b0
       try clear c4b1
       try clear c7
       try clear c7b0
       try clear c7b1
       try clear c8
       try clear c8b0
       try clear c8b1
       try clear c9
       try clear c9b0
       try clear c9b1
       try clear c13b0
       obtain ⟨x1_3, x6_3, rfl, rfl, HA, HK3, HB⟩ := hrel
       cases gk with
       | zero => exact absurd HA.out (by simp [Qau.l1])
       | succ k3 =>
        have H := HA.out
        clear HA
        simp only [Qau.l1] at H
        by_cases c14 : (x1_3.size : Int) ≥ 4
        ·rw [if_pos c14] at H
         have c14b0 : decide (4 ≤ (x1_3.size : Int)) = true := decide_eq_true c14
         have c14b1 : decide (4 ≤ x1_3.size) = true := decide_eq_true (by omega)
         clear c14
         by_cases c15 : 0 ≤ 4
         ·rw [if_pos c15] at H
          have c15b0 := eq_true c15
          have c15b1 : decide (0 ≤ 4) = true := decide_eq_true c15
          clear c15
          by_cases c16 : 4 ≤ (x1_3.size : Int)
          ·rw [if_pos c16] at H
           have c16b0 := eq_true c16
           have c16b1 : decide (4 ≤ (x1_3.size : Int)) = true := decide_eq_true c16
           clear c16
           replace H := Option.bind_eq_some_iff.mp H
           obtain ⟨t277, A170, H⟩ := H
           replace H : ((Qay.f k3 (Go.bits .xor .u64 x6_3 (IntKind.u64.wrap (t277 * 11400714785074694791))) 23).bind fun t278 => (Qau.l1 k3 (x1_3.extract 4 x1_3.size) (IntKind.u64.wrap ((IntKind.u64.wrap (t278 * 14029467366897019727)) + 1609587929392839161)))) = some r := H
           have A17 := QA A170
           clear A170
           replace H := Option.bind_eq_some_iff.mp H
           obtain ⟨t278, A180, H⟩ := H
           replace H : (Qau.l1 k3 (x1_3.extract 4 x1_3.size) (IntKind.u64.wrap ((IntKind.u64.wrap (t278 * 14029467366897019727)) + 1609587929392839161))) = some r := H
           have A18 := QA A180
           clear A180
           have c19b0 := eq_true (of_decide_eq_true qq_7 : 4 ≤ (x1_3.size : Int))
           have H' := QA H
           clear H
           go_wp2_with (first | ((with_reducible refine Qgf (f := 107) rfl ?_); refine Qeu (some 47) rfl rfl Tryz.func107 qq_6 rfl #[.string (x1_3.extract 0 4)] rfl qq_1 ?_; (with_reducible refine (Qar.calls k3 (x1_3.extract 0 4) t277 _ A17.out).mono ?_); rintro e w' ⟨rfl, ⟨nd, rfl⟩⟩; refine ⟨_, rfl, ?_⟩) | ((with_reducible refine Qgf (f := 108) rfl ?_); refine Qeu (some 52) rfl rfl Tryz.func108 qq_6 rfl #[.int .u64 (Go.bits .xor .u64 x6_3 (IntKind.u64.wrap (t277 * 11400714785074694791))), .int .i64 23] rfl qq_1 ?_; (with_reducible refine (Qay.calls k3 (Go.bits .xor .u64 x6_3 (IntKind.u64.wrap (t277 * 11400714785074694791))) 23 t278 _ A18.out).mono ?_); rintro e w' ⟨rfl, ⟨nd, rfl⟩⟩; refine ⟨_, rfl, ?_⟩))
           go_roundg k3
           case measure => have := HJ2.out; have := HK2.out; have := HK3.out; omega
           case rel => exact ⟨(x1_3.extract 4 x1_3.size), (IntKind.u64.wrap ((IntKind.u64.wrap (t278 * 14029467366897019727)) + 1609587929392839161)), qq_5, qq_5, H', ⟨by have := HJ2.out; have := HK2.out; have := HK3.out; omega⟩, ⟨qq_b⟩⟩
          ·rw [if_neg c16] at H
           exact absurd H (by simp)
         ·rw [if_neg c15] at H
          exact absurd H (by simp)
        ·rw [if_neg c14] at H
         have c14b0 : decide (4 ≤ (x1_3.size : Int)) = false := decide_eq_false c14
         have c14b1 : decide (4 ≤ x1_3.size) = false := decide_eq_false (by omega)
         clear c14
         have H' := QA H
         clear H
         go_wp2
         go_loopg [6, 8] k3 (fun kq v6 v8 w' => ∃ (x6_4 : Int) (x8_4 : Int), v6 = .int .u64 x6_4 ∧ v8 = .int .i64 x8_4 ∧ Aside0 (Qau.l2 kq x1_3 x6_4 x8_4 = some r) ∧ Aside0 (kq ≤ k3) ∧ Aside0 (Below w.heap.size w w'))
         case atStart => exact ⟨(x6_3), (0), qq_5, qq_5, H', ⟨Nat.le_refl _⟩, ⟨qq_b⟩⟩
         case round =>
          clear H'
          try clear c4
          try clear c4b0
          try clear c4b1
          try clear c7
          try clear c7b0
          try clear c7b1
          try clear c8
          try clear c8b0
          try clear c8b1
          try clear c9
          try clear c9b0
          try clear c9b1
          try clear c13b0
          try clear c14
          try clear c14b0
          try clear c14b1
          try clear c15
          try clear c15b0
          try clear c15b1
          try clear c16
          try clear c16b0
          try clear c16b1
          try clear c19b0
          obtain ⟨x6_4, x8_4, rfl, rfl, HA, HK4, HB⟩ := hrel
          cases gk with
          | zero => exact absurd HA.out (by simp [Qau.l2])
          | succ k4 =>
           have H := HA.out
           clear HA
           simp only [Qau.l2] at H
           by_cases c20 : x8_4 < (x1_3.size : Int)
           ·rw [if_pos c20] at H
            have c20b0 : decide (x8_4 < (x1_3.size : Int)) = true := decide_eq_true c20
            clear c20
            by_cases c21 : 0 ≤ x8_4
            ·rw [if_pos c21] at H
             have c21b0 : decide (0 ≤ x8_4) = true := decide_eq_true c21
             clear c21
             replace H := Option.bind_eq_some_iff.mp H
             obtain ⟨t279, A230, H⟩ := H
             replace H : (Qau.l2 k4 x1_3 (IntKind.u64.wrap (t279 * 11400714785074694791)) (wrap64 (x8_4 + 1))) = some r := H
             have A23 := QA A230
             clear A230
             have H' := QA H
             clear H
             have p22 : 0 ≤ (x8_4 : Int) := of_decide_eq_true qq_7
             have q22 : x8_4 < (x1_3.size : Int) := of_decide_eq_true qq_7
             have hx22 := bt_at x1_3 x8_4
             replace p22 := eq_true p22
             replace q22 := eq_true q22
             go_wp2_with (first | ((with_reducible refine Qgf (f := 108) rfl ?_); refine Qeu (some 71) rfl rfl Tryz.func108 qq_6 rfl #[.int .u64 (Go.bits .xor .u64 x6_4 (IntKind.u64.wrap ((IntKind.u64.wrap (bt x1_3 x8_4)) * 2870177450012600261))), .int .i64 11] rfl qq_1 ?_; (with_reducible refine (Qay.calls k4 (Go.bits .xor .u64 x6_4 (IntKind.u64.wrap ((IntKind.u64.wrap (bt x1_3 x8_4)) * 2870177450012600261))) 11 t279 _ A23.out).mono ?_); rintro e w' ⟨rfl, ⟨nd, rfl⟩⟩; refine ⟨_, rfl, ?_⟩))
             go_roundg k4
             case measure => have := HJ2.out; have := HK2.out; have := HK3.out; have := HK4.out; omega
             case rel => exact ⟨(IntKind.u64.wrap (t279 * 11400714785074694791)), (wrap64 (x8_4 + 1)), qq_5, qq_5, H', ⟨by have := HJ2.out; have := HK2.out; have := HK3.out; have := HK4.out; omega⟩, ⟨qq_b⟩⟩
            ·rw [if_neg c21] at H
             exact absurd H (by simp)
           ·rw [if_neg c20] at H
            have c20b0 : decide (x8_4 < (x1_3.size : Int)) = false := decide_eq_false c20
            clear c20
            replace H := Option.bind_eq_some_iff.mp H
            obtain ⟨t280, A240, H⟩ := H
            replace H : ((Qax.f k4 (IntKind.u64.wrap (t280 * 14029467366897019727)) 29).bind fun t281 => ((Qax.f k4 (IntKind.u64.wrap (t281 * 1609587929392839161)) 32).bind fun t282 => (some t282))) = some r := H
            have A24 := QA A240
            clear A240
            replace H := Option.bind_eq_some_iff.mp H
            obtain ⟨t281, A250, H⟩ := H
            replace H : ((Qax.f k4 (IntKind.u64.wrap (t281 * 1609587929392839161)) 32).bind fun t282 => (some t282)) = some r := H
            have A25 := QA A250
            clear A250
            replace H := Option.bind_eq_some_iff.mp H
            obtain ⟨t282, A260, H⟩ := H
            replace H : (some t282) = some r := H
            have A26 := QA A260
            clear A260
            obtain rfl := Option.some.inj H
            go_wp2_with (first | ((with_reducible refine Qgf (f := 109) rfl ?_); refine Qeu (some 74) rfl rfl Tryz.func109 qq_6 rfl #[.int .u64 x6_4, .int .i64 33] rfl qq_1 ?_; (with_reducible refine (Qax.calls k4 x6_4 33 t280 _ A24.out).mono ?_); rintro e w' ⟨rfl, ⟨nd, rfl⟩⟩; refine ⟨_, rfl, ?_⟩) | ((with_reducible refine Qgf (f := 109) rfl ?_); refine Qeu (some 77) rfl rfl Tryz.func109 qq_6 rfl #[.int .u64 (IntKind.u64.wrap (t280 * 14029467366897019727)), .int .i64 29] rfl qq_1 ?_; (with_reducible refine (Qax.calls k4 (IntKind.u64.wrap (t280 * 14029467366897019727)) 29 t281 _ A25.out).mono ?_); rintro e w' ⟨rfl, ⟨nd, rfl⟩⟩; refine ⟨_, rfl, ?_⟩) | ((with_reducible refine Qgf (f := 109) rfl ?_); refine Qeu (some 80) rfl rfl Tryz.func109 qq_6 rfl #[.int .u64 (IntKind.u64.wrap (t281 * 1609587929392839161)), .int .i64 32] rfl qq_1 ?_; (with_reducible refine (Qax.calls k4 (IntKind.u64.wrap (t281 * 1609587929392839161)) 32 t282 _ A26.out).mono ?_); rintro e w' ⟨rfl, ⟨nd, rfl⟩⟩; refine ⟨_, rfl, ?_⟩))
            go_ret
            exact ⟨by first | rfl | (simp [Qgi, Qgj] <;> rfl) | (simp [*, Qgi, Qgj] <;> rfl), qq_b⟩
end Go.Proofs.YtnnofopfbeklbaaGreat.C
end
