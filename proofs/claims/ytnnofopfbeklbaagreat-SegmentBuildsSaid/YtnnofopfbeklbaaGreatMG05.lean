/- Texts of this claim's author and of the print of its functions, merged by merge.py. -/
import Derived.Test.YtnnofopfbeklbaaGreatMG02
import Derived.Test.YtnnofopfbeklbaaGreatMG03
import Derived.Test.YtnnofopfbeklbaaGreatMG04
set_option linter.unusedVariables false
set_option linter.unusedSimpArgs false
set_option maxHeartbeats 8000000
set_option maxRecDepth 100000
section
namespace Go.Proofs.YtnnofopfbeklbaaGreat.C
open Go.RowKit Go.Proofs.YtnnofopfbeklbaaGreatW.PrintWords Go.Proofs.YtnnofopfbeklbaaGreatW.PrintLast Go.Proofs.YtnnofopfbeklbaaGreatW.PrintMore
def chk (d : Bool) (key v : ByteArray) : Int := if key.toList = ([] : List UInt8) then 4 else if (key.size : Int) > 4096 then 3 else if (d && (v.toList != ([] : List UInt8))) = true then 4 else if (v.size : Int) > 1048576 then 3 else 0
theorem Qhs (d : Bool) (s : Int) (key v : ByteArray) : Qcj.f 1 d s key v = some (chk d key v) := by
 unfold Qcj.f chk
 split
 ·rfl
 split
 ·rfl
 cases d
 ·simp only [Bool.false_eq_true, if_false, Bool.false_and, Qcj.j0]
  split <;> rfl
 ·simp only [if_true, Bool.true_and, Qcj.j0]
  split
  ·rfl
  ·split <;> rfl
theorem Qht {d : Bool} {key v : ByteArray} (h : chk d key v = 0) : key.size ≤ 4096 ∧ v.size ≤ 1048576 := by
 unfold chk at h
 repeat' split at h
 all_goals first | omega | skip
def Qhu (d : Bool) (s : Int) (key v : ByteArray) : List Int := [if d then 3 else 2] ++ vput 9 s ++ (vput 9 key.size ++ bytesOf key) ++ (if d then [] else vput 9 v.size ++ bytesOf v)
def Qci.f (a0_0 : Bool) (a0_1 : Int) (a0_2 : ByteArray) (a0_3 : ByteArray) : Option (List Int × Int) :=
 if 0 ≤ a0_1 then if a0_1 < 18446744073709551616 then some (if chk a0_0 a0_2 a0_3 = 0 then (Qhu a0_0 a0_1 a0_2 a0_3, 0) else ([], chk a0_0 a0_2 a0_3)) else none else none
theorem IsBuf.new (w : World) (b : Nat) : IsBuf (w.alloc (.cells #[.slice none 0 0] 167)) b w.heap.size [] := ⟨_, Qdu w _, Kd.R_nil _ _ _ _ _⟩
theorem box4 {W : World} {B : Nat} {d : Bool} {s : Int} {key v : ByteArray} (h : W.heap[B]? = some (.cells #[.bool d, .int .u64 s, .string key, .string v] 39 (0, 0))) :
  W.cell? ⟨B, 0, none⟩ = some (.bool d) ∧ W.cell? ⟨B, 1, none⟩ = some (.int .u64 s) ∧ W.cell? ⟨B, 2, none⟩ = some (.string key) ∧ W.cell? ⟨B, 3, none⟩ = some (.string v) :=
 ⟨(Qdj h 0).trans rfl, (Qdj h 1).trans rfl, (Qdj h 2).trans rfl, (Qdj h 3).trans rfl⟩
theorem body_of (d : Bool) (s : Int) (key v : ByteArray) (w : World) (hs0 : 0 ≤ s) (hs1 : s < 18446744073709551616) (hc : chk d key v = 0) :
  Calls Tryz.prog 99 #[.agg #[.bool d, .int .u64 s, .string key, .string v]] w fun e w' => ∃ v0_ : Value, e = .returned (.tuple #[v0_, .int .i64 0]) ∧ R8 w' w.heap.size v0_ (Qhu d s key v) ∧ Below w.heap.size w w' := by
 have hu := Tryz.underlying39
 obtain ⟨hk, hv⟩ := Qht hc
 have hl1 := Qhn 9 s
 have hl2 := Qhn 9 key.size
 have hl3 := Qhn 9 v.size
 have hkl := Qcy key
 have hvl := Qcy v
 have hcheck := Qhs d s key v
 rw [hc] at hcheck
 have HC := QA hcheck
 clear hcheck hc
 have hba : Below w.heap.size w (w.alloc (.cells #[.bool d, .int .u64 s, .string key, .string v] 39)) := Qco (Below.refl _ _) _
 have hbn := Qdu w (.cells #[.bool d, .int .u64 s, .string key, .string v] 39)
 cases d
 all_goals
  go_enter Tryz.func99, Tryz.ntmps99
  go_wp2_with (first
   | (go_at_call 56; refine (Qcj.calls 1 _ s key v 0 _ HC.out).mono ?_; rintro e w1 ⟨rfl, hb1⟩; have hk1 := Qdt hbn hb1; obtain ⟨c0, c1, c2, c3⟩ := box4 hk1; have hw1 := QA (Qcr hba hba.size hb1); have hs1' := QA (show w.heap.size < w1.heap.size from Qdi hk1); have HI1 := QA (IsBuf.new w1 w.heap.size); have hk1' := Qdq hk1 (.cells #[.slice none 0 0] 167); obtain ⟨c0', c1', c2', c3'⟩ := box4 hk1'; clear hk1 hb1 hbn hba)
   | (go_at_call 94; refine (Qgv w.heap.size w1.heap.size _ [] _ (by decide) (by decide) (Nat.le_of_lt hs1'.out) (by rw [World.size_alloc]; have := hs1'.out; omega) HI1.out (by simp)).mono ?_; rintro e w2 ⟨rfl, hI2, hb2⟩; have hk2 := hb2.2 _ _ _ hk1' (by decide) (Nat.ne_of_lt hs1'.out); obtain ⟨d0, d1, d2, d3⟩ := box4 hk2; have HI2 := QA hI2; have hs2 := QA hb2.size; clear hI2 c0 c1 c2 c3 c0' c1' c2' c3')
   | (go_at_call 95; refine (Qho w.heap.size w1.heap.size s _ _ hs0 hs1 (Nat.le_of_lt hs1'.out) (by have := hs1'.out; have := hs2.out; simp at this; omega) HI2.out (by simp)).mono ?_; rintro e w3 ⟨⟨_, rfl⟩, hI3, hb3⟩; have hk3 := hb3.2 _ _ _ hk2 (by decide) (Nat.ne_of_lt hs1'.out); obtain ⟨e0, e1, e2, e3⟩ := box4 hk3; have HI3 := QA hI3; have hs3 := QA (Nat.le_trans hs2.out hb3.size); clear hI3 d0 d1 d2 d3)
   | (go_at_call_of 153 key; refine (Qhp w.heap.size w1.heap.size key _ _ (by omega) (Nat.le_of_lt hs1'.out) (by have := hs1'.out; have := hs3.out; simp at this; omega) HI3.out (by simp; omega)).mono ?_; rintro e w4 ⟨⟨_, rfl⟩, hI4, hb4⟩; have hk4 := hb4.2 _ _ _ hk3 (by decide) (Nat.ne_of_lt hs1'.out); obtain ⟨f0, f1, f2, f3⟩ := box4 hk4; have HI4 := QA hI4; have hs4 := QA (Nat.le_trans hs3.out hb4.size); clear hI4 e0 e1 e2 e3)
   | (go_at_call_of 153 v; refine (Qhp w.heap.size w1.heap.size v _ _ (by omega) (Nat.le_of_lt hs1'.out) (by have := hs1'.out; have := hs4.out; simp at this; omega) HI4.out (by simp; omega)).mono ?_; rintro e w5 ⟨⟨_, rfl⟩, hI5, hb5⟩; have HI5 := QA hI5; have hs5 := QA (Nat.le_trans hs4.out hb5.size))
   | (go_at_call 97; first | (refine (Qgx w.heap.size w1.heap.size _ _ HI5.out (by simp; omega)).mono ?_; rintro e w6 ⟨vv, rfl, hR6, hb6⟩) | (refine (Qgx w.heap.size w1.heap.size _ _ HI4.out (by simp; omega)).mono ?_; rintro e w6 ⟨vv, rfl, hR6, hb6⟩)))
 ·refine bodyPost_ret (results_tmp2 rfl _ _ _) rfl ?_
  have hsz := hs5.out
  simp at hsz
  have := hs1'.out
  refine ⟨vv, rfl, ?_, (((((hw1.out.trans (Qgu (Qco (Below.refl _ _) _) (Nat.le_of_lt hs1'.out))).trans hb2.1).trans hb3.1).trans hb4.1).trans hb5.1).trans (Qgu hb6 (by omega))⟩
  have e : Qhu false s key v = [] ++ [2] ++ vput 9 s ++ (vput 9 key.size ++ bytesOf key) ++ (vput 9 v.size ++ bytesOf v) := by simp [Qhu]
  rw [e]
  exact hR6.low (by omega)
 ·refine bodyPost_ret (results_tmp2 rfl _ _ _) rfl ?_
  have hsz := hs4.out
  simp at hsz
  have := hs1'.out
  refine ⟨vv, rfl, ?_, ((((hw1.out.trans (Qgu (Qco (Below.refl _ _) _) (Nat.le_of_lt hs1'.out))).trans hb2.1).trans hb3.1).trans hb4.1).trans (Qgu hb6 (by omega))⟩
  have e : Qhu true s key v = [] ++ [3] ++ vput 9 s ++ (vput 9 key.size ++ bytesOf key) := by simp [Qhu]
  rw [e]
  exact hR6.low (by omega)
theorem body_not (d : Bool) (s : Int) (key v : ByteArray) (w : World) (c : Int) (hc : chk d key v = c) (hn : c ≠ 0) :
  Calls Tryz.prog 99 #[.agg #[.bool d, .int .u64 s, .string key, .string v]] w fun e w' => ∃ v0_ : Value, e = .returned (.tuple #[v0_, .int .i64 c]) ∧ R8 w' w.heap.size v0_ [] ∧ Below w.heap.size w w' := by
 have hu := Tryz.underlying39
 have hcheck := Qhs d s key v
 rw [hc] at hcheck
 have HC := QA hcheck
 have hn1 : (c == 0) = false := by simpa using hn
 have hn2 : (c != 0) = true := by simpa using hn
 clear hcheck hc
 have hba : Below w.heap.size w (w.alloc (.cells #[.bool d, .int .u64 s, .string key, .string v] 39)) := Qco (Below.refl _ _) _
 go_enter Tryz.func99, Tryz.ntmps99
 go_wp2_with (go_at_call 56; refine (Qcj.calls 1 _ s key v c _ HC.out).mono ?_; rintro e w1 ⟨rfl, hb1⟩)
 refine bodyPost_ret (results_tmp2 rfl _ _ _) rfl ?_
 exact ⟨_, rfl, Kd.R_nil _ _ _ _ _, Qcr hba hba.size hb1⟩
theorem Qci.calls (a0_0 : Bool) (a0_1 : Int) (a0_2 : ByteArray) (a0_3 : ByteArray) (r1 : List Int) (r2 : Int) (w : World) (h : Qci.f a0_0 a0_1 a0_2 a0_3 = some (r1, r2)) :
  Calls Tryz.prog 99 #[.agg #[.bool a0_0, .int .u64 a0_1, .string a0_2, .string a0_3]] w fun e w' => ∃ v0_ : Value, e = .returned (.tuple #[v0_, .int .i64 r2]) ∧ Kd.R (Kd.int .u8) 5 w' w.heap.size (fun _ => True) v0_ r1 ∧ Below w.heap.size w w' := by
 unfold Qci.f at h
 by_cases h0 : 0 ≤ a0_1
 ·by_cases h1 : a0_1 < 18446744073709551616
  ·rw [if_pos h0, if_pos h1] at h
   by_cases h2 : chk a0_0 a0_2 a0_3 = 0
   ·rw [if_pos h2] at h
    cases h
    exact body_of _ _ _ _ w h0 h1 h2
   ·rw [if_neg h2] at h
    cases h
    exact body_not _ _ _ _ w _ rfl h2
  ·rw [if_pos h0, if_neg h1] at h; cases h
 ·rw [if_neg h0] at h; cases h
def mixP (h x : Int) : Int := IntKind.u64.wrap (IntKind.u64.wrap (Go.bits .xor .u64 h (Qgy 0 x) * Q1) + Q4)
def Qhv (i : Nat) (V : V4) : Int :=
 let h1 := IntKind.u64.wrap (0 + rotP V.1 1)
 let h2 := IntKind.u64.wrap (h1 + rotP V.2.1 7)
 let h3 := IntKind.u64.wrap (h2 + rotP V.2.2.1 12)
 let h4 := IntKind.u64.wrap (h3 + rotP V.2.2.2 18)
 if i = 0 then 0 else if i = 1 then h1 else if i = 2 then h2 else if i = 3 then h3 else h4
def Qhw (i : Nat) (h : Int) (V : V4) : Int :=
 let h1 := mixP h V.1
 let h2 := mixP h1 V.2.1
 let h3 := mixP h2 V.2.2.1
 let h4 := mixP h3 V.2.2.2
 if i = 0 then h else if i = 1 then h1 else if i = 2 then h2 else if i = 3 then h3 else h4
theorem sumTo_0 (V : V4) : Qhv 0 V = 0 := by simp [Qhv]
theorem sumTo_1 (V : V4) : Qhv 1 V = IntKind.u64.wrap (Qhv 0 V + rotP V.1 1) := by simp [Qhv]
theorem sumTo_2 (V : V4) : Qhv 2 V = IntKind.u64.wrap (Qhv 1 V + rotP V.2.1 7) := by simp [Qhv]
theorem sumTo_3 (V : V4) : Qhv 3 V = IntKind.u64.wrap (Qhv 2 V + rotP V.2.2.1 12) := by simp [Qhv]
theorem sumTo_4 (V : V4) : Qhv 4 V = IntKind.u64.wrap (Qhv 3 V + rotP V.2.2.2 18) := by simp [Qhv]
theorem mixTo_0 (h : Int) (V : V4) : Qhw 0 h V = h := by simp [Qhw]
theorem mixTo_1 (h : Int) (V : V4) : Qhw 1 h V = mixP (Qhw 0 h V) V.1 := by simp [Qhw]
theorem mixTo_2 (h : Int) (V : V4) : Qhw 2 h V = mixP (Qhw 1 h V) V.2.1 := by simp [Qhw]
theorem mixTo_3 (h : Int) (V : V4) : Qhw 3 h V = mixP (Qhw 2 h V) V.2.2.1 := by simp [Qhw]
theorem mixTo_4 (h : Int) (V : V4) : Qhw 4 h V = mixP (Qhw 3 h V) V.2.2.2 := by simp [Qhw]
def Qhx (sd : Int) (V : V4) (n : Int) : Int := if n < 32 then IntKind.u64.wrap (sd + Q5) else Qhw 4 (Qhv 4 V) V
theorem Qhy (x n : Int) (h : 0 ≤ n ∧ n < 64 ∧ Go.bits .and .u64 (IntKind.u64.wrap n) 63 = n) (W : World) : Calls Tryz.prog 202 #[.int .u64 x, .int .i64 n] W fun e w' => e = .returned (.int .u64 (rotP x n)) ∧ Drawn0 W w' := Qac.calls x n _ W (rot_is x n h)
theorem StAt.kept {W W' : World} {g : Nat} {sd : Int} {V : V4} {rv : Value} {n : Int} (h : StAt W g sd V rv n) (hb : Below W.heap.size W W') : StAt W' g sd V rv n := Qdt h hb
theorem StAt.cells {W : World} {g : Nat} {sd : Int} {V : V4} {rv : Value} {n : Int} (h : StAt W g sd V rv n) :
  W.cell? ⟨g, 0, none⟩ = some (.int .u64 sd) ∧ W.cell? ⟨g, 1, none⟩ = some (.int .u64 V.1) ∧ W.cell? ⟨g, 2, none⟩ = some (.int .u64 V.2.1) ∧ W.cell? ⟨g, 3, none⟩ = some (.int .u64 V.2.2.1) ∧ W.cell? ⟨g, 4, none⟩ = some (.int .u64 V.2.2.2) ∧ W.cell? ⟨g, 5, none⟩ = some rv ∧ W.cell? ⟨g, 6, none⟩ = some (.int .u64 n) :=
 ⟨(Qdj h 0).trans rfl, (Qdj h 1).trans rfl, (Qdj h 2).trans rfl, (Qdj h 3).trans rfl, (Qdj h 4).trans rfl, (Qdj h 5).trans rfl, (Qdj h 6).trans rfl⟩
theorem arr_ix (x0 x1 x2 x3 : Int) (W : World) : (∀ k, k = 0 → (Instr.index 231 (.agg #[.int .u64 x0, .int .u64 x1, .int .u64 x2, .int .u64 x3]) (.int .i64 k)).run Tryz.prog W = .ok (.int .u64 x0) W) ∧
  (∀ k, k = 1 → (Instr.index 231 (.agg #[.int .u64 x0, .int .u64 x1, .int .u64 x2, .int .u64 x3]) (.int .i64 k)).run Tryz.prog W = .ok (.int .u64 x1) W) ∧
  (∀ k, k = 2 → (Instr.index 231 (.agg #[.int .u64 x0, .int .u64 x1, .int .u64 x2, .int .u64 x3]) (.int .i64 k)).run Tryz.prog W = .ok (.int .u64 x2) W) ∧
  (∀ k, k = 3 → (Instr.index 231 (.agg #[.int .u64 x0, .int .u64 x1, .int .u64 x2, .int .u64 x3]) (.int .i64 k)).run Tryz.prog W = .ok (.int .u64 x3) W) := by
 refine ⟨?_, ?_, ?_, ?_⟩ <;> rintro k rfl <;> simp [Instr.index, run_underlying Tryz.underlying231, asIntOf, go_sem]
theorem st_start (g : Nat) (sd : Int) (V : V4) (rv : Value) (n : Int) (w : World) (hv : StAt w g sd V rv n) :
  Calls Tryz.prog 201 #[.pointer (some ⟨g, 0, none⟩)] w fun e w' => e = .returned (.int .u64 (Qhx sd V n)) ∧ Below w.heap.size w w' := by
 have hu := Tryz.underlying274
 have hu2 := Tryz.underlying231
 have HV := QA hv
 obtain ⟨c0, c1, c2, c3, c4, c5, c6⟩ := StAt.cells hv
 clear hv
 by_cases h32 : n < 32
 ·go_enter Tryz.func201, Tryz.ntmps201
  go_wp2_with fail
  go_ret
  exact ⟨by simp [Qhx, h32], Below.refl _ _⟩
 ·have h32i : 32 ≤ n := by omega
  go_enter Tryz.func201, Tryz.ntmps201
  go_wp2_with fail
  obtain ⟨B, hB⟩ : ∃ B, B = w.heap.size := ⟨_, rfl⟩
  obtain ⟨W, hW⟩ : ∃ W, W = w.alloc (.cells #[.int .i64 1, .int .i64 7, .int .i64 12, .int .i64 18] 3) := ⟨_, rfl⟩
  have hBlk : W.heap[B]? = some (.cells #[.int .i64 1, .int .i64 7, .int .i64 12, .int .i64 18] 3 (0, 0)) := by rw [hW, hB]; exact Qdu w _
  have HBK := QA hBlk
  have HVW := QA (show StAt W g sd V rv n by rw [hW]; exact HV.out.kept (Qco (Below.refl _ _) _))
  have HBW := QA (show Below w.heap.size w W by rw [hW]; exact Qco (Below.refl _ _) _)
  rw [← hW, ← hB]
  clear hW hB hBlk c0 c1 c2 c3 c4 c5 c6 HV
  go_loopw [3, 4, 5, 20] (fun v3 v4 v5 v20 wr => ∃ (i : Nat) (iv : Int), i ≤ 4 ∧ v20 = .int .i64 iv ∧ v3 = .int .u64 (Qhv i V) ∧ Aside0 (iv = (i : Int)) ∧ Aside0 (Below W.heap.size W wr))
   (fun _ _ _ v20 _ => 4 - (intOf v20).toNat)
  case atStart => exact ⟨0, 0, by omega, rfl, congrArg (Value.int .u64) (sumTo_0 V).symm, ⟨rfl⟩, ⟨Below.refl _ _⟩⟩
  case round =>
   obtain ⟨i, iv, hi, rfl, rfl, HI, HB⟩ := hrel
   obtain ⟨d0, d1, d2, d3, d4, d5, d6⟩ := StAt.cells (HVW.out.kept HB.out)
   have hk := Qdt HBK.out HB.out
   have b0 : wr.cell? ⟨B, 0, none⟩ = some (.int .i64 1) := (Qdj hk 0).trans rfl
   have b1 : wr.cell? ⟨B, 1, none⟩ = some (.int .i64 7) := (Qdj hk 1).trans rfl
   have b2 : wr.cell? ⟨B, 2, none⟩ = some (.int .i64 12) := (Qdj hk 2).trans rfl
   have b3 : wr.cell? ⟨B, 3, none⟩ = some (.int .i64 18) := (Qdj hk 3).trans rfl
   clear hk
   by_cases h4 : i < 4
   ·have hk : i = 0 ∨ i = 1 ∨ i = 2 ∨ i = 3 := by omega
    rcases hk with rfl | rfl | rfl | rfl
    ·obtain rfl : iv = 0 := HI.out
     go_wp2_with (go_at_call 202; refine (Qhy V.1 1 ⟨by decide, by decide, by kernel_rfl⟩ _).mono ?_; rintro e w7 ⟨rfl, hd⟩; have hd1 := hd.below; clear hd)
     go_roundw
     case rel => exact ⟨1, 1, by omega, by go_num, congrArg (Value.int .u64) (sumTo_1 V).symm, ⟨rfl⟩, ⟨Qcr HB.out HB.out.size hd1⟩⟩
     case measure => simp [intOf]
    ·obtain rfl : iv = 1 := HI.out
     go_wp2_with (go_at_call 202; refine (Qhy V.2.1 7 ⟨by decide, by decide, by kernel_rfl⟩ _).mono ?_; rintro e w7 ⟨rfl, hd⟩; have hd1 := hd.below; clear hd)
     go_roundw
     case rel => exact ⟨2, 2, by omega, by go_num, congrArg (Value.int .u64) (sumTo_2 V).symm, ⟨rfl⟩, ⟨Qcr HB.out HB.out.size hd1⟩⟩
     case measure => simp [intOf]
    ·obtain rfl : iv = 2 := HI.out
     go_wp2_with (go_at_call 202; refine (Qhy V.2.2.1 12 ⟨by decide, by decide, by kernel_rfl⟩ _).mono ?_; rintro e w7 ⟨rfl, hd⟩; have hd1 := hd.below; clear hd)
     go_roundw
     case rel => exact ⟨3, 3, by omega, by go_num, congrArg (Value.int .u64) (sumTo_3 V).symm, ⟨rfl⟩, ⟨Qcr HB.out HB.out.size hd1⟩⟩
     case measure => simp [intOf]
    ·obtain rfl : iv = 3 := HI.out
     go_wp2_with (go_at_call 202; refine (Qhy V.2.2.2 18 ⟨by decide, by decide, by kernel_rfl⟩ _).mono ?_; rintro e w7 ⟨rfl, hd⟩; have hd1 := hd.below; clear hd)
     go_roundw
     case rel => exact ⟨4, 4, by omega, by go_num, congrArg (Value.int .u64) (sumTo_4 V).symm, ⟨rfl⟩, ⟨Qcr HB.out HB.out.size hd1⟩⟩
     case measure => simp [intOf]
   ·obtain rfl : i = 4 := by omega
    obtain rfl : iv = 4 := HI.out
    go_wp2_with fail
    clear d0 d1 d2 d3 d4 d5 d6 b0 b1 b2 b3
    go_loopw [3, 7, 40] (fun v3 v7 v40 wi => ∃ (i : Nat) (iv : Int), i ≤ 4 ∧ v40 = .int .i64 iv ∧ v3 = .int .u64 (Qhw i (Qhv 4 V) V) ∧ Aside0 (iv = (i : Int)) ∧ Aside0 (Below W.heap.size W wi))
     (fun _ _ v40 _ => 4 - (intOf v40).toNat)
    case atStart => exact ⟨0, 0, by omega, rfl, congrArg (Value.int .u64) (mixTo_0 _ V).symm, ⟨rfl⟩, HB⟩
    case round =>
     clear HB HI
     obtain ⟨i, iv, hi, rfl, rfl, HI, HB⟩ := hrel
     by_cases h4 : i < 4
     ·have hk : i = 0 ∨ i = 1 ∨ i = 2 ∨ i = 3 := by omega
      rcases hk with rfl | rfl | rfl | rfl
      ·obtain rfl : iv = 0 := HI.out
       have hix := (arr_ix V.1 V.2.1 V.2.2.1 V.2.2.2 wr).1 0 rfl
       go_wp2_with (go_at_call 199; refine (Qhe _ _ _).mono ?_; rintro e w7 ⟨rfl, hd⟩; have hd1 := hd.below; clear hd)
       go_roundw
       case rel => exact ⟨1, 1, by omega, by go_num, congrArg (Value.int .u64) (mixTo_1 _ V).symm, ⟨rfl⟩, ⟨Qcr HB.out HB.out.size hd1⟩⟩
       case measure => simp [intOf]
      ·obtain rfl : iv = 1 := HI.out
       have hix := (arr_ix V.1 V.2.1 V.2.2.1 V.2.2.2 wr).2.1 1 rfl
       go_wp2_with (go_at_call 199; refine (Qhe _ _ _).mono ?_; rintro e w7 ⟨rfl, hd⟩; have hd1 := hd.below; clear hd)
       go_roundw
       case rel => exact ⟨2, 2, by omega, by go_num, congrArg (Value.int .u64) (mixTo_2 _ V).symm, ⟨rfl⟩, ⟨Qcr HB.out HB.out.size hd1⟩⟩
       case measure => simp [intOf]
      ·obtain rfl : iv = 2 := HI.out
       have hix := (arr_ix V.1 V.2.1 V.2.2.1 V.2.2.2 wr).2.2.1 2 rfl
       go_wp2_with (go_at_call 199; refine (Qhe _ _ _).mono ?_; rintro e w7 ⟨rfl, hd⟩; have hd1 := hd.below; clear hd)
       go_roundw
       case rel => exact ⟨3, 3, by omega, by go_num, congrArg (Value.int .u64) (mixTo_3 _ V).symm, ⟨rfl⟩, ⟨Qcr HB.out HB.out.size hd1⟩⟩
       case measure => simp [intOf]
      ·obtain rfl : iv = 3 := HI.out
       have hix := (arr_ix V.1 V.2.1 V.2.2.1 V.2.2.2 wr).2.2.2 3 rfl
       go_wp2_with (go_at_call 199; refine (Qhe _ _ _).mono ?_; rintro e w7 ⟨rfl, hd⟩; have hd1 := hd.below; clear hd)
       go_roundw
       case rel => exact ⟨4, 4, by omega, by go_num, congrArg (Value.int .u64) (mixTo_4 _ V).symm, ⟨rfl⟩, ⟨Qcr HB.out HB.out.size hd1⟩⟩
       case measure => simp [intOf]
     ·obtain rfl : i = 4 := by omega
      obtain rfl : iv = 4 := HI.out
      go_wp2_with fail
      go_ret
      refine ⟨by simp only [Qhx, if_neg (show ¬ n < 32 by omega)]; rfl, HBW.out.trans (Qgu HB.out HBW.out.size)⟩
def one8 (h : Int) (l : List Int) : Int := IntKind.u64.wrap (IntKind.u64.wrap (rotP (Go.bits .xor .u64 h (Qgy 0 (numP 8 l))) 27 * Q1) + Q4)
def tail8 : Nat → Int → List Int → Int
 | 0, h, _ => h
 | m + 1, h, l => tail8 m (one8 h l) (l.drop 8)
def one4 (h : Int) (l : List Int) : Int := IntKind.u64.wrap (IntKind.u64.wrap (rotP (Go.bits .xor .u64 h (IntKind.u64.wrap (numP 4 l * Q1))) 23 * Q2) + Q3)
def one1 (h x : Int) : Int := IntKind.u64.wrap (rotP (Go.bits .xor .u64 h (IntKind.u64.wrap (IntKind.u64.wrap x * Q5))) 11 * Q1)
def finP (h : Int) : Int :=
 let a := IntKind.u64.wrap (Go.bits .xor .u64 h (h / 8589934592) * Q2)
 let b := IntKind.u64.wrap (Go.bits .xor .u64 a (a / 536870912) * Q3)
 Go.bits .xor .u64 b (b / 4294967296)
def sumP (h0 : Int) (l : List Int) : Int :=
 if 4 ≤ (l.drop (8 * (l.length / 8))).length then finP (((l.drop (8 * (l.length / 8))).drop 4).foldl one1 (one4 (tail8 (l.length / 8) h0 l) (l.drop (8 * (l.length / 8))))) else finP ((l.drop (8 * (l.length / 8))).foldl one1 (tail8 (l.length / 8) h0 l))
theorem q8_cut' (A : Option Addr) (n c m : Nat) (j : Int) (hj : j = (m : Int)) (hm : m ≤ n) (hc : n ≤ c) :
  ∃ (A' : Option Addr) (n' c' : Nat), n' = n - m ∧ n' ≤ c' ∧ (∀ W : World, (Instr.slice 52 (.slice A n c) (some (.int .i64 j)) none none).run Tryz.prog W = .ok (.slice A' n' c') W) ∧
   ∀ (W : World) (b : Nat) (xs : List Int), xs.length = n → Q8 W b (.slice A n c) xs → Q8 W b (.slice A' n' c') (xs.drop m) := by
 obtain ⟨A', h1, h2⟩ := Qhc A n c m j hj hm
 exact ⟨A', n - m, c - m, rfl, by omega, h1, h2⟩
theorem st_Sum (g b : Nat) (sd : Int) (V : V4) (rv : Value) (n : Int) (l : List Int) (w : World) (hv : StAt w g sd V rv n) (hR : Q8 w b rv l) :
  Calls Tryz.prog 157 #[.pointer (some ⟨g, 0, none⟩)] w fun e w' => e = .returned (.int .u64 (sumP (IntKind.u64.wrap (Qhx sd V n + n)) l)) ∧ Below w.heap.size w w' := by
 have hu := Tryz.underlying274
 have hu2 := Tryz.underlying231
 obtain ⟨A, c, rfl, hlc⟩ := Kd.Q_slice hR
 have HR := QA hR
 have HV := QA hv
 obtain ⟨k0, k1, k2, k3, k4, k5, k6⟩ := StAt.cells hv
 have hvd : StAt w.drew g sd V (.slice A l.length c) n := hv.kept (Qcp (Below.refl _ _))
 obtain ⟨j0, j1, j2, j3, j4, j5, j6⟩ := StAt.cells hvd
 go_enter Tryz.func157, Tryz.ntmps157
 go_wp2_with fail
 go_region_held3 (fun w' => w'.cell? ⟨g, 5, none⟩ = some (.slice A l.length c) ∧ w'.cell? ⟨g, 6, none⟩ = some (.int .u64 n)) (first | exact ⟨j5, j6⟩ | exact ⟨i5, i6⟩) (first | (go_at_call 201; refine (st_start g sd V _ n w.drew hvd).mono ?_; rintro e w2 ⟨rfl, hb2⟩; have hv2 := hvd.kept hb2; obtain ⟨i0, i1, i2, i3, i4, i5, i6⟩ := StAt.cells hv2))
 have HQ2 := QA (show Q8 w2 b (.slice A l.length c) l from Kd.Q_below (Kd.Q_drew HR.out) hb2)
 have HB2 := QA (Qcr (Qcp (Below.refl w.heap.size w)) (Nat.le_refl _) hb2)
 clear j0 j1 j2 j3 j4 j5 j6 k0 k1 k2 k3 k4 k5 k6 hvd hv HV HR hR hb2 hv2 i0 i1 i2 i3 i4 i5 i6
 go_wp2_with fail
 obtain ⟨h0, hh0⟩ : ∃ h0, h0 = IntKind.u64.wrap (Qhx sd V n + n) := ⟨_, rfl⟩
 rw [← hh0]
 have HH := QA hh0
 clear hh0
 go_loopw [3, 4] (fun v3 v4 wr => ∃ (m : Nat) (l' : List Int) (h : Int) (A : Option Addr) (c : Nat), v3 = .int .u64 h ∧ v4 = .slice A l'.length c ∧ l'.length ≤ c ∧ l'.length ≤ l.length ∧ Aside0 (l'.length / 8 = m ∧ tail8 (l.length / 8) h0 l = tail8 m h l' ∧ l.drop (8 * (l.length / 8)) = l'.drop (8 * m)) ∧ Aside0 (Q8 wr b (.slice A l'.length c) l') ∧ Aside0 (Below w.heap.size w wr))
  (fun _ v4 _ => lenV v4)
 case atStart => exact ⟨_, l, h0, A, c, rfl, rfl, hlc, Nat.le_refl _, ⟨rfl, rfl, rfl⟩, HQ2, HB2⟩
 case round =>
  clear HQ2 HB2 hlc
  obtain ⟨m, l', h, A, c, rfl, rfl, hlc, hll, HM, HQ, HB⟩ := hrel
  by_cases h8 : 8 ≤ l'.length
  ·have h8i : (8 : Int) ≤ (l'.length : Int) := by omega
   obtain ⟨A', hcut, hA'⟩ := Qhc A l'.length c 8 8 rfl h8
   go_wp2_with (first | (go_at_call 200; refine (Qhd HQ.out h8).mono ?_; rintro e w7 ⟨rfl, hd⟩; have hd1 := hd.below; clear hd) | (go_at_call 199; refine (Qhe _ _ _).mono ?_; rintro e w8 ⟨rfl, hd⟩; have hd2 := hd.below; clear hd) | (go_at_call 202; refine (Qhy _ 27 ⟨by decide, by decide, by kernel_rfl⟩ _).mono ?_; rintro e w9 ⟨rfl, hd⟩; have hd3 := hd.below; clear hd))
   go_roundw
   case rel =>
    have hm := HM.out
    have hd : (l'.drop 8).length = l'.length - 8 := List.length_drop
    refine ⟨m - 1, l'.drop 8, one8 h l', A', c - 8, rfl, by rw [hd], by rw [hd]; omega, by rw [hd]; omega, ⟨by rw [hd]; omega, ?_, ?_⟩, ⟨?_⟩, ⟨?_⟩⟩
    ·rw [hm.2.1, show m = (m - 1) + 1 by omega]
     rfl
    ·rw [hm.2.2, List.drop_drop]
     congr 1
     omega
    ·rw [hd]
     exact hA' _ _ _ rfl (Kd.Q_below (Kd.Q_below (Kd.Q_below HQ.out hd1) hd2) hd3)
    ·exact Qcr (Qcr (Qcr HB.out HB.out.size hd1) (Nat.le_trans HB.out.size hd1.size) hd2) (Nat.le_trans (Nat.le_trans HB.out.size hd1.size) hd2.size) hd3
   case measure => simp [lenV]; omega
  ·have h8i : (l'.length : Int) < 8 := by omega
   by_cases h4 : 4 ≤ l'.length
   ·have h4i : (4 : Int) ≤ (l'.length : Int) := by omega
    obtain ⟨A3, n3, c3, hn3, hc3, hcut, hA'⟩ := q8_cut' A l'.length c 4 4 rfl h4 hlc
    have hn8 : n3 ≤ 8 := by omega
    have HN := QA hn3
    clear hn3
    go_wp2_with (first | (go_at_call 200; refine (num4_at HQ.out h4).mono ?_; rintro e w7 ⟨rfl, hd⟩; have hd1 := hd.below; clear hd) | (go_at_call 202; refine (Qhy _ 23 ⟨by decide, by decide, by kernel_rfl⟩ _).mono ?_; rintro e w9 ⟨rfl, hd⟩; have hd3 := hd.below; clear hd))
    have HQ3 := QA (hA' _ _ _ rfl (Kd.Q_below (Kd.Q_below HQ.out hd1) hd3))
    have HB3 := QA (Qcr (Qcr HB.out HB.out.size hd1) (Nat.le_trans HB.out.size hd1.size) hd3)
    clear hcut hA' hd1 hd3
    have HC3 := QA (Kd.Q_reads' HQ3.out)
    obtain ⟨R, hR⟩ : ∃ R, R = (l'.drop 4).foldl one1 (one4 h l') := ⟨_, rfl⟩
    have HRR := QA hR
    clear hR
    go_loopw [3, 6, 46] (fun v3 v6 v46 wi => ∃ (k : Nat) (iv x : Int), k ≤ n3 ∧ v46 = .int .i64 iv ∧ v3 = .int .u64 x ∧ Aside0 (iv = (k : Int)) ∧ Aside0 (((l'.drop 4).drop k).foldl one1 x = R) ∧ Aside0 (Below w9.heap.size w9 wi))
     (fun _ _ v46 _ => n3 - (intOf v46).toNat)
    case atStart => exact ⟨0, 0, _, Nat.zero_le _, rfl, rfl, ⟨rfl⟩, ⟨by rw [List.drop_zero]; exact HRR.out.symm⟩, ⟨Below.refl _ _⟩⟩
    case round =>
     obtain ⟨k, iv, x, hk, rfl, rfl, HK, HX, HBi⟩ := hrel
     by_cases hlt : k < n3
     ·have hge : 0 ≤ iv := by have := HK.out; omega
      have hl2 : iv < (n3 : Int) := by have := HK.out; omega
      obtain ⟨ad, hA3, hx0⟩ := Kd.at_int (Kd.C_below HC3.out.2.2 HBi.out) iv hge (by rw [← HC3.out.1]; exact hl2)
      have hA4 := hA3
      obtain ⟨y, hy⟩ : ∃ y, y = rd (l'.drop 4) iv := ⟨_, rfl⟩
      rw [← hy] at hx0
      have HY := QA hy
      have HA := QA hA4
      clear hy hA4
      subst hA3
      go_wp2_with (go_at_call 202; refine (Qhy _ 11 ⟨by decide, by decide, by kernel_rfl⟩ _).mono ?_; rintro e w11 ⟨rfl, hd⟩; have hd4 := hd.below; clear hd)
      go_roundw
      case rel => exact ⟨k + 1, iv + 1, one1 x y, by omega, by go_num, rfl, ⟨by have := HK.out; omega⟩, ⟨by
       have e1 : iv = (k : Int) := HK.out
       have hkl : k < (l'.drop 4).length := by have := HC3.out.1; omega
       have e2 : (l'.drop 4).drop k = rd (l'.drop 4) (k : Int) :: (l'.drop 4).drop (k + 1) := by
        rw [List.drop_eq_getElem_cons hkl]
        simp [rd, List.getD_eq_getElem?_getD, List.getElem?_eq_getElem hkl]
       have e3 := HX.out
       rw [e2, List.foldl_cons, ← e1, ← HY.out] at e3
       exact e3⟩, ⟨Qcr HBi.out HBi.out.size hd4⟩⟩
      case measure => simp [intOf]; omega
     ·obtain rfl : n3 = k := by omega
      have e1 : iv = _ := HK.out
      subst e1
      go_wp2_with fail
      go_ret
      have hL : (l'.drop 4).drop n3 = [] := List.drop_eq_nil_of_le (by have := HC3.out.1; omega)
      have hx := HX.out
      rw [hL] at hx
      have hx' : x = R := hx
      subst hx'
      have hm := HM.out
      have hm0 : m = 0 := by omega
      subst hm0
      refine ⟨?_, Qcr HB3.out (Nat.le_trans HB3.out.size (Nat.le_refl _)) HBi.out⟩
      have e5 : sumP h0 l = finP x := by
       rw [HRR.out]
       unfold sumP
       rw [hm.2.1, hm.2.2]
       simp only [tail8, Nat.mul_zero, List.drop_zero]
       first | rw [if_pos h4] | rw [if_neg h4]
      rw [← HH.out, e5]
      rfl
   ·have h4i : (l'.length : Int) < 4 := by omega
    go_wp2_with fail
    have HC3 := QA (Kd.Q_reads' HQ.out)
    obtain ⟨R, hR⟩ : ∃ R, R = (l').foldl one1 (h) := ⟨_, rfl⟩
    have HRR := QA hR
    clear hR
    go_loopw [3, 6, 46] (fun v3 v6 v46 wi => ∃ (k : Nat) (iv x : Int), k ≤ l'.length ∧ v46 = .int .i64 iv ∧ v3 = .int .u64 x ∧ Aside0 (iv = (k : Int)) ∧ Aside0 (((l').drop k).foldl one1 x = R) ∧ Aside0 (Below wr.heap.size wr wi))
     (fun _ _ v46 _ => l'.length - (intOf v46).toNat)
    case atStart => exact ⟨0, 0, _, Nat.zero_le _, rfl, rfl, ⟨rfl⟩, ⟨by rw [List.drop_zero]; exact HRR.out.symm⟩, ⟨Below.refl _ _⟩⟩
    case round =>
     obtain ⟨k, iv, x, hk, rfl, rfl, HK, HX, HBi⟩ := hrel
     by_cases hlt : k < l'.length
     ·have hge : 0 ≤ iv := by have := HK.out; omega
      have hl2 : iv < (l'.length : Int) := by have := HK.out; omega
      obtain ⟨ad, hA3, hx0⟩ := Kd.at_int (Kd.C_below HC3.out.2.2 HBi.out) iv hge (by rw [← HC3.out.1]; exact hl2)
      have hA4 := hA3
      obtain ⟨y, hy⟩ : ∃ y, y = rd (l') iv := ⟨_, rfl⟩
      rw [← hy] at hx0
      have HY := QA hy
      have HA := QA hA4
      clear hy hA4
      subst hA3
      go_wp2_with (go_at_call 202; refine (Qhy _ 11 ⟨by decide, by decide, by kernel_rfl⟩ _).mono ?_; rintro e w11 ⟨rfl, hd⟩; have hd4 := hd.below; clear hd)
      go_roundw
      case rel => exact ⟨k + 1, iv + 1, one1 x y, by omega, by go_num, rfl, ⟨by have := HK.out; omega⟩, ⟨by
       have e1 : iv = (k : Int) := HK.out
       have hkl : k < (l').length := by have := HC3.out.1; omega
       have e2 : (l').drop k = rd (l') (k : Int) :: (l').drop (k + 1) := by
        rw [List.drop_eq_getElem_cons hkl]
        simp [rd, List.getD_eq_getElem?_getD, List.getElem?_eq_getElem hkl]
       have e3 := HX.out
       rw [e2, List.foldl_cons, ← e1, ← HY.out] at e3
       exact e3⟩, ⟨Qcr HBi.out HBi.out.size hd4⟩⟩
      case measure => simp [intOf]; omega
     ·obtain rfl : k = l'.length := by omega
      have e1 : iv = _ := HK.out
      subst e1
      go_wp2_with fail
      go_ret
      have hL : (l').drop l'.length = [] := List.drop_eq_nil_of_le (by have := HC3.out.1; omega)
      have hx := HX.out
      rw [hL] at hx
      have hx' : x = R := hx
      subst hx'
      have hm := HM.out
      have hm0 : m = 0 := by omega
      subst hm0
      refine ⟨?_, Qcr HB.out (Nat.le_trans HB.out.size (Nat.le_refl _)) HBi.out⟩
      have e5 : sumP h0 l = finP x := by
       rw [HRR.out]
       unfold sumP
       rw [hm.2.1, hm.2.2]
       simp only [tail8, Nat.mul_zero, List.drop_zero]
       first | rw [if_pos h4] | rw [if_neg h4]
      rw [← HH.out, e5]
      rfl
def Qhz (sd : Int) (l : List Int) : Int :=
 sumP (IntKind.u64.wrap (Qhx sd (Qha (l.length / 32) (IntKind.u64.wrap (IntKind.u64.wrap (sd + Q1) + Q2), IntKind.u64.wrap (sd + Q2), sd, IntKind.u64.wrap (sd - Q1)) l) l.length + l.length)) (l.drop (32 * (l.length / 32)))
theorem st_Write (b g : Nat) (sd : Int) (V : V4) (rv : Value) (A0 : Option Addr) (c0 : Nat) (l : List Int) (w : World) (hr0 : Kd.C (Kd.int .u8) w A0 l.length l) (hfar : ∀ ad, A0 = some ad → 0 < l.length → ad.block ≠ g) (hv : StAt w g sd V rv 0) (hR : R8 w b rv []) (hbg : b ≤ g) (hbw : b ≤ w.heap.size) (hl : l.length ≤ 140737488355328) :
  Calls Tryz.prog 156 #[.pointer (some ⟨g, 0, none⟩), .slice A0 l.length c0] w fun e w' => e = .returned (.pointer (some ⟨g, 0, none⟩)) ∧ (∃ rv', StAt w' g sd (Qha (l.length / 32) V l) rv' l.length ∧ R8 w' b rv' (l.drop (32 * (l.length / 32)))) ∧ Below b w w' := by
 have hu := Tryz.underlying274
 have hu2 := Tryz.underlying231
 have hu3 := Tryz.underlying52
 obtain ⟨A1, n1, c1, rfl⟩ := R8.shape hR
 have c6 : w.cell? ⟨g, 6, none⟩ = some (.int .u64 0) := (Qdj hv 6).trans rfl
 have c5 : w.cell? ⟨g, 5, none⟩ = some (.slice A1 n1 c1) := (Qdj hv 5).trans rfl
 have f6 := Qdk hv 6
 have hw := IntWalk.u64_in (l.length : Int) (by omega)
 go_enter Tryz.func156, Tryz.ntmps156
 have hC1 : Kd.C (Kd.int .u8) (w.setCell ⟨g, 6, none⟩ (.int .u64 l.length)) A0 l.length l := Kd.C_keep (0 : Int) hr0 ((KeepBut.refl w g none).set_ 6 _) hfar
 have hv1 : StAt (w.setCell ⟨g, 6, none⟩ (.int .u64 l.length)) g sd V (.slice A1 n1 c1) l.length := Qdg hv 6 _
 have hR1 : R8 (w.setCell ⟨g, 6, none⟩ (.int .u64 l.length)) b (.slice A1 n1 c1) [] := hR.set hv (by decide) 6 _
 have hb1 : Below b w (w.setCell ⟨g, 6, none⟩ (.int .u64 l.length)) := Qgt (Below.refl _ _) hbg
 have hz1 : (w.setCell ⟨g, 6, none⟩ (.int .u64 l.length)).heap.size = w.heap.size := by simp
 go_wp2_with (first | (at_builtin; refine Kd.R_append_row (Value.int .u8) (0 : Int) (h1 := fun _ => rfl) (w0 := w) b rfl (.tmp 20) (.tmp 21) 52 5 (.int .u8 0) 1 rfl Tryz.underlying52 Qgk rfl (by decide) (.slice A1 n1 c1) [] l A0 l.length c0 (fun _ => True) rfl rfl (fun _ _ => trivial) ?hO ?hR ?hB ?hS ?hL ?_; (case hO => exact hR1); (case hR => exact hC1); (case hB => exact hb1); (case hS => rw [hz1]; exact hbw); (case hL => simp; omega); intro v2 w2 HR2 hb2 hg2 hat2; have hv2 := Qdl hv1 hg2 (hR1.clean hv1 (by decide)); simp only [List.nil_append] at HR2))
 have HV2 := QA (show StAt w2 g sd V (.slice A1 n1 c1) l.length from hv2)
 have HB2 := QA hb2
 obtain ⟨A2, cc2, rfl, hcc2, _⟩ := Kd.R_reads HR2
 have HQ2 := QA (Kd.Q_of_R HR2)
 clear hv2 hb2 HR2 hC1 hv1 hR1 hb1 hz1 c6 c5 f6 hr0 hfar hv hR hg2 hat2
 go_loopw [5] (fun v5 wr => ∃ (m : Nat) (l' : List Int) (V' : V4) (A : Option Addr) (c : Nat), v5 = .slice A l'.length c ∧ l'.length ≤ c ∧ l'.length ≤ l.length ∧ Aside0 (l'.length / 32 = m ∧ Qha (l.length / 32) V l = Qha m V' l' ∧ l.drop (32 * (l.length / 32)) = l'.drop (32 * m)) ∧ Aside0 (Q8 wr b (.slice A l'.length c) l') ∧ Aside0 (StAt wr g sd V' (.slice A1 n1 c1) l.length) ∧ Aside0 (Below b w wr))
  (fun v5 _ => lenV v5)
 case atStart => exact ⟨_, l, V, A2, cc2, rfl, hcc2, Nat.le_refl _, ⟨rfl, rfl, rfl⟩, HQ2, HV2, HB2⟩
 case round =>
  obtain ⟨m, l', V', A, c, rfl, hlc, hll, HM, HQ, HV, HB⟩ := hrel
  clear HQ2 HV2 HB2
  by_cases h32 : 32 ≤ l'.length
  ·have h32i : (32 : Int) ≤ (l'.length : Int) := by omega
   go_wp2_with fail
   go_loopw [6, 26] (fun v6 v26 wi => ∃ (i : Nat) (iv : Int), i ≤ 4 ∧ v26 = .int .i64 iv ∧ Aside0 (iv = (i : Int)) ∧ Aside0 (Q8 wi b (.slice A l'.length c) l') ∧ Aside0 (StAt wi g sd (Qhb i V' l') (.slice A1 n1 c1) l.length) ∧ Aside0 (Below b w wi))
    (fun _ v26 _ => 4 - (intOf v26).toNat)
   case atStart => exact ⟨0, 0, by omega, rfl, ⟨rfl⟩, HQ, HV, HB⟩
   case round =>
    obtain ⟨i, iv, hi, rfl, HI, HQi, HVi, HBi⟩ := hrel
    clear HQ HV HB
    by_cases h4 : i < 4
    ·have hk : i = 0 ∨ i = 1 ∨ i = 2 ∨ i = 3 := by omega
     rcases hk with rfl | rfl | rfl | rfl
     ·obtain rfl : iv = 0 := HI.out
      have cv : wr.cell? ⟨g, 1, none⟩ = some (.int .u64 V'.1) := (Qdj HVi.out 1).trans rfl
      have fv := Qdk HVi.out 1
      go_wp2_with fail
      obtain ⟨A', hcut, hA'⟩ := Qhc A l'.length c 0 0 rfl (by omega)
      have hwa : IntKind.i64.wrap 0 = 0 := IntWalk.i64_in 0 (by decide)
      have hq : ∀ q, Q8 (wr.drewN q) b (.slice A' (l'.length - 0) (c - 0)) (l'.drop 0) := fun q => hA' _ _ _ rfl (Kd.Q_drewN HQi.out q)
      have h8 : 8 ≤ (l'.drop 0).length := by rw [List.length_drop]; omega
      go_region_with (first | (go_at_call 200; refine (Qhd (hq _) h8).mono ?_; rintro e w7 ⟨rfl, hd⟩; obtain ⟨q, rfl⟩ := hd.out; clear hd) | (go_at_call 199; refine (Qhe _ _ _).mono ?_; rintro e w8 ⟨rfl, hd⟩; obtain ⟨q2, rfl⟩ := hd.out; clear hd))
      all_goals
       go_wp2_with fail
       go_roundw
       case rel => exact ⟨1, 1, by omega, by go_num, ⟨rfl⟩, ⟨Kd.Q_set (Kd.Q_drewN HQi.out _) (cells := #[.int .u64 sd, .int .u64 (Qhb 0 V' l').1, .int .u64 (Qhb 0 V' l').2.1, .int .u64 (Qhb 0 V' l').2.2.1, .int .u64 (Qhb 0 V' l').2.2.2, .slice A1 n1 c1, .int .u64 l.length]) (t := 274) HVi.out (by intro q hq; rcases List.mem_cons.1 hq with rfl | hq; decide; cases hq) _ _⟩, ⟨Qdg (w := wr.drewN _) HVi.out 1 _⟩, ⟨Qgt (Qcq HBi.out _) hbg⟩⟩
       case measure => simp [intOf]
     ·obtain rfl : iv = 1 := HI.out
      have cv : wr.cell? ⟨g, 2, none⟩ = some (.int .u64 V'.2.1) := (Qdj HVi.out 2).trans rfl
      have fv := Qdk HVi.out 2
      go_wp2_with fail
      obtain ⟨A', hcut, hA'⟩ := Qhc A l'.length c 8 8 rfl (by omega)
      have hwa : IntKind.i64.wrap 8 = 8 := IntWalk.i64_in 8 (by decide)
      have hq : ∀ q, Q8 (wr.drewN q) b (.slice A' (l'.length - 8) (c - 8)) (l'.drop 8) := fun q => hA' _ _ _ rfl (Kd.Q_drewN HQi.out q)
      have h8 : 8 ≤ (l'.drop 8).length := by rw [List.length_drop]; omega
      go_region_with (first | (go_at_call 200; refine (Qhd (hq _) h8).mono ?_; rintro e w7 ⟨rfl, hd⟩; obtain ⟨q, rfl⟩ := hd.out; clear hd) | (go_at_call 199; refine (Qhe _ _ _).mono ?_; rintro e w8 ⟨rfl, hd⟩; obtain ⟨q2, rfl⟩ := hd.out; clear hd))
      all_goals
       go_wp2_with fail
       go_roundw
       case rel => exact ⟨2, 2, by omega, by go_num, ⟨rfl⟩, ⟨Kd.Q_set (Kd.Q_drewN HQi.out _) (cells := #[.int .u64 sd, .int .u64 (Qhb 1 V' l').1, .int .u64 (Qhb 1 V' l').2.1, .int .u64 (Qhb 1 V' l').2.2.1, .int .u64 (Qhb 1 V' l').2.2.2, .slice A1 n1 c1, .int .u64 l.length]) (t := 274) HVi.out (by intro q hq; rcases List.mem_cons.1 hq with rfl | hq; decide; cases hq) _ _⟩, ⟨Qdg (w := wr.drewN _) HVi.out 2 _⟩, ⟨Qgt (Qcq HBi.out _) hbg⟩⟩
       case measure => simp [intOf]
     ·obtain rfl : iv = 2 := HI.out
      have cv : wr.cell? ⟨g, 3, none⟩ = some (.int .u64 V'.2.2.1) := (Qdj HVi.out 3).trans rfl
      have fv := Qdk HVi.out 3
      go_wp2_with fail
      obtain ⟨A', hcut, hA'⟩ := Qhc A l'.length c 16 16 rfl (by omega)
      have hwa : IntKind.i64.wrap 16 = 16 := IntWalk.i64_in 16 (by decide)
      have hq : ∀ q, Q8 (wr.drewN q) b (.slice A' (l'.length - 16) (c - 16)) (l'.drop 16) := fun q => hA' _ _ _ rfl (Kd.Q_drewN HQi.out q)
      have h8 : 8 ≤ (l'.drop 16).length := by rw [List.length_drop]; omega
      go_region_with (first | (go_at_call 200; refine (Qhd (hq _) h8).mono ?_; rintro e w7 ⟨rfl, hd⟩; obtain ⟨q, rfl⟩ := hd.out; clear hd) | (go_at_call 199; refine (Qhe _ _ _).mono ?_; rintro e w8 ⟨rfl, hd⟩; obtain ⟨q2, rfl⟩ := hd.out; clear hd))
      all_goals
       go_wp2_with fail
       go_roundw
       case rel => exact ⟨3, 3, by omega, by go_num, ⟨rfl⟩, ⟨Kd.Q_set (Kd.Q_drewN HQi.out _) (cells := #[.int .u64 sd, .int .u64 (Qhb 2 V' l').1, .int .u64 (Qhb 2 V' l').2.1, .int .u64 (Qhb 2 V' l').2.2.1, .int .u64 (Qhb 2 V' l').2.2.2, .slice A1 n1 c1, .int .u64 l.length]) (t := 274) HVi.out (by intro q hq; rcases List.mem_cons.1 hq with rfl | hq; decide; cases hq) _ _⟩, ⟨Qdg (w := wr.drewN _) HVi.out 3 _⟩, ⟨Qgt (Qcq HBi.out _) hbg⟩⟩
       case measure => simp [intOf]
     ·obtain rfl : iv = 3 := HI.out
      have cv : wr.cell? ⟨g, 4, none⟩ = some (.int .u64 V'.2.2.2) := (Qdj HVi.out 4).trans rfl
      have fv := Qdk HVi.out 4
      go_wp2_with fail
      obtain ⟨A', hcut, hA'⟩ := Qhc A l'.length c 24 24 rfl (by omega)
      have hwa : IntKind.i64.wrap 24 = 24 := IntWalk.i64_in 24 (by decide)
      have hq : ∀ q, Q8 (wr.drewN q) b (.slice A' (l'.length - 24) (c - 24)) (l'.drop 24) := fun q => hA' _ _ _ rfl (Kd.Q_drewN HQi.out q)
      have h8 : 8 ≤ (l'.drop 24).length := by rw [List.length_drop]; omega
      go_region_with (first | (go_at_call 200; refine (Qhd (hq _) h8).mono ?_; rintro e w7 ⟨rfl, hd⟩; obtain ⟨q, rfl⟩ := hd.out; clear hd) | (go_at_call 199; refine (Qhe _ _ _).mono ?_; rintro e w8 ⟨rfl, hd⟩; obtain ⟨q2, rfl⟩ := hd.out; clear hd))
      all_goals
       go_wp2_with fail
       go_roundw
       case rel => exact ⟨4, 4, by omega, by go_num, ⟨rfl⟩, ⟨Kd.Q_set (Kd.Q_drewN HQi.out _) (cells := #[.int .u64 sd, .int .u64 (Qhb 3 V' l').1, .int .u64 (Qhb 3 V' l').2.1, .int .u64 (Qhb 3 V' l').2.2.1, .int .u64 (Qhb 3 V' l').2.2.2, .slice A1 n1 c1, .int .u64 l.length]) (t := 274) HVi.out (by intro q hq; rcases List.mem_cons.1 hq with rfl | hq; decide; cases hq) _ _⟩, ⟨Qdg (w := wr.drewN _) HVi.out 4 _⟩, ⟨Qgt (Qcq HBi.out _) hbg⟩⟩
       case measure => simp [intOf]
    ·obtain rfl : i = 4 := by omega
     obtain rfl : iv = 4 := HI.out
     obtain ⟨A', hcut, hA'⟩ := Qhc A l'.length c 32 32 rfl h32
     go_wp2_with fail
     go_roundw
     case rel =>
      have e4 : Qhb 4 V' l' = Qgz V' l' := rfl
      have hm := HM.out
      have hd : (l'.drop 32).length = l'.length - 32 := List.length_drop
      refine ⟨m - 1, l'.drop 32, Qgz V' l', A', c - 32, by rw [hd], by rw [hd]; omega, by rw [hd]; omega, ⟨by rw [hd]; omega, ?_, ?_⟩, ⟨?_⟩, ⟨?_⟩, HBi⟩
      ·rw [hm.2.1, show m = (m - 1) + 1 by omega]
       rfl
      ·rw [hm.2.2, List.drop_drop]
       congr 1
       omega
      ·rw [hd]
       exact hA' _ _ _ rfl HQi.out
      ·exact HVi.out
     case measure => simp [lenV]; omega
  ·have h32i : (l'.length : Int) < 32 := by omega
   have hq' := Kd.Q_reads' HQ.out
   have cv : wr.cell? ⟨g, 5, none⟩ = some (.slice A1 n1 c1) := (Qdj HV.out 5).trans rfl
   go_wp2_with (first | (at_builtin; refine Kd.R_append_row (Value.int .u8) (0 : Int) (h1 := fun _ => rfl) (w0 := wr) b rfl (.const (.slice none 0 0)) (.tmp 50) 52 5 (.int .u8 0) 1 rfl Tryz.underlying52 Qgk rfl (by decide) (.slice none 0 0) [] l' A l'.length c (fun _ => True) rfl rfl (fun _ _ => trivial) ?hO ?hR ?hB ?hS ?hL ?_; (case hO => exact Kd.R_nil _ _ _ _ _); (case hR => exact hq'.2.2); (case hB => exact Below.refl _ _); (case hS => exact Nat.le_trans hbw HB.out.size); (case hL => simp; omega); intro v3 w3 HR3 hb3 hg3 hat3; obtain ⟨A3, n3, c3, rfl⟩ := R8.shape HR3; have hv3 := Qdl (show wr.heap[g]? = _ from HV.out) hg3 (by simp [Value.ownBlock]); have fv := Qdk hv3 5; have cv3 : w3.cell? ⟨g, 5, none⟩ = some (.slice A1 n1 c1) := (Qdj hv3 5).trans rfl; (try simp only [List.nil_append] at HR3)))
   go_ret
   have hm := HM.out
   have hm0 : m = 0 := by omega
   subst hm0
   refine ⟨rfl, ⟨.slice A3 n3 c3, ?_, ?_⟩, Qgt (HB.out.trans hb3) hbg⟩
   ·rw [hm.2.1]
    exact Qdg hv3 5 _
   ·rw [hm.2.2]
    simpa using R8.set HR3 hv3 (by decide) 5 _
theorem sum_of (a0 : Int) (A1 : Option Addr) (c1 : Nat) (l1 : List Int) (w : World) (hr1 : Kd.C (Kd.int .u8) w A1 l1.length l1) (hl : l1.length ≤ 140737488355328) :
  Calls Tryz.prog 101 #[.int .u64 a0, .slice A1 l1.length c1] w fun e w' => e = .returned (.int .u64 (Qhz a0 l1)) ∧ Below w.heap.size w w' := by
 go_enter Tryz.func101, Tryz.ntmps101
 go_wp2_with (first | (go_at_call 155; refine (st_New a0 w).mono ?_; rintro e w1 ⟨rfl, ⟨rv, hv, hR⟩, hb1⟩; have hv1 : StAt w1 w.heap.size a0 (IntKind.u64.wrap (IntKind.u64.wrap (a0 + Q1) + Q2), IntKind.u64.wrap (a0 + Q2), a0, IntKind.u64.wrap (a0 - Q1)) rv 0 := hv; have hr := Kd.C_below hr1 hb1; have hf := Kd.far_C (0 : Int) hr1 (Nat.le_refl w.heap.size)) | (go_at_call 156; refine (st_Write w.heap.size w.heap.size a0 _ rv A1 c1 l1 w1 hr hf hv1 hR (Nat.le_refl _) hb1.size hl).mono ?_; rintro e w2 ⟨rfl, ⟨rv2, hv2, hR2⟩, hb2⟩) | (go_at_call 157; refine (st_Sum w.heap.size w.heap.size a0 _ rv2 _ _ w2 hv2 (Kd.Q_of_R hR2)).mono ?_; rintro e w3 ⟨rfl, hb3⟩))
 go_ret
 exact ⟨rfl, (hb1.trans hb2).trans (Qgu hb3 (Nat.le_trans hb1.size hb2.size))⟩
theorem sum_of' (a0 : Int) (A1 : Option Addr) (c1 n : Nat) (l1 : List Int) (w : World) (hn : n = l1.length) (hr1 : Kd.C (Kd.int .u8) w A1 n l1) (hl : n ≤ 140737488355328) :
  Calls Tryz.prog 101 #[.int .u64 a0, .slice A1 n c1] w fun e w' => e = .returned (.int .u64 (Qhz a0 l1)) ∧ Below w.heap.size w w' := by
 subst hn
 exact sum_of a0 A1 c1 l1 w hr1 hl
theorem hash_of (s : ByteArray) (w : World) (hl : s.size ≤ 140737488355328) :
  Calls Tryz.prog 60 #[.string s] w fun e w' => e = .returned (.int .u64 (Qhz 0 (bytesOf s))) ∧ Below w.heap.size w w' := by
 have kb := fun W => Qda (P := Tryz.prog) 9 52 5 Tryz.underlying9 Tryz.underlying52 Tryz.underlying5 s W
 have hbb := Qdb (Below.refl w.heap.size w) (Nat.le_refl _) 5 s
 go_enter Tryz.func60, Tryz.ntmps60
 go_wp2_with (go_at_call 101; refine (sum_of' 0 _ _ s.size (bytesOf s) (Lib.bytesWorld w 5 s) (Qcy s).symm (bytes_C w s (by omega)) hl).mono ?_; rintro e w1 ⟨rfl, hb1⟩)
 go_ret
 exact ⟨rfl, Qcr hbb hbb.size hb1⟩
end Go.Proofs.YtnnofopfbeklbaaGreat.C
end
