/- Texts of this claim's author and of the print of its functions, merged by merge.py. -/
import Derived.Test.YtnnofopfbeklbaaGreatMD03
import Derived.Lib.SliceRun
import Derived.StillTailTactics
set_option linter.unusedVariables false
set_option linter.unusedSimpArgs false
set_option maxHeartbeats 8000000
set_option maxRecDepth 100000
section
namespace Go.Proofs.YtnnofopfbeklbaaGreat.C
open Go.RowKit Go.Proofs.YtnnofopfbeklbaaGreatW.PrintWords Go.Proofs.YtnnofopfbeklbaaGreatW.PrintLast Go.Proofs.YtnnofopfbeklbaaGreatW.PrintMore
attribute [local go_sem] Qgh Qgi Qgj Qgk Qgl Qgm Qgn Qgo
def Qay.l0 : Nat → Int → Int → Int → Int → Option (Int)
 | 0, _, _, _, _ => none
 | k + 1, x0, x5, x7, x8 => if x8 < x7 then (Qay.l0 k x0 (IntKind.u64.wrap (Int.tdiv x5 2)) x7 (wrap64 (x8 + 1))) else (some (Go.bits .xor .u64 x0 x5))
def Qay.f (k : Nat) (a0 : Int) (a1 : Int) : Option (Int) := Qay.l0 k a0 a0 a1 0
theorem Qay.mono_l : ∀ k, (∀ y0 y1 y2 y3, LeO (Qay.l0 k y0 y1 y2 y3) (Qay.l0 (k + 1) y0 y1 y2 y3))
 | 0 => fun _ _ _ _ r h => by simp [Qay.l0] at h
 | k + 1 => by
  have ih0 := Qay.mono_l k
  ·intro y0 y1 y2 y3
   unfold Qay.l0
   repeat' first
   | (with_reducible exact ih0 _ _ _ _)
   | (with_reducible exact LeO.refl _)
   | (with_reducible exact LeO.none _)
   | (with_reducible refine LeO.ite ?_ ?_)
   | (with_reducible refine LeO.bind ?_ (fun _ => ?_))
   | exact ih0 _ _ _ _
   | exact LeO.none _
   | refine LeO.ite ?_ ?_
   | refine LeO.bind ?_ (fun _ => ?_)
theorem Qay.mono : ∀ a0 a1 k, LeO (Qay.f k a0 a1) (Qay.f (k + 1) a0 a1) := by
 intro a0 a1 k
 have ih0 := Qay.mono_l k
 unfold Qay.f
 repeat' first
   | (with_reducible exact ih0 _ _ _ _)
   | (with_reducible exact LeO.refl _)
   | (with_reducible exact LeO.none _)
   | (with_reducible refine LeO.ite ?_ ?_)
   | (with_reducible refine LeO.bind ?_ (fun _ => ?_))
   | exact ih0 _ _ _ _
   | exact LeO.none _
   | refine LeO.ite ?_ ?_
   | refine LeO.bind ?_ (fun _ => ?_)
theorem Qay.calls (k : Nat) (a0 : Int) (a1 : Int) (r : Int) (w : World) (h : Qay.f k a0 a1 = some r) :
  Calls Tryz.prog 109 #[.int .u64 a0, .int .i64 a1] w fun e w' => e = .returned (.int .u64 r) ∧ Drawn0 w w' := by
 have H : (Qay.l0 k a0 a0 a1 0) = some r := h
 clear h
 have H' := QA H
 clear H
 go_enter Tryz.func109, Tryz.ntmps109
 go_wp2
 go_loopg [5, 8] k (fun kq v5 v8 w' => ∃ (x5_1 : Int) (x8_1 : Int), v5 = .int .u64 x5_1 ∧ v8 = .int .i64 x8_1 ∧ Aside0 (Qay.l0 kq a0 x5_1 a1 x8_1 = some r) ∧ Aside0 (kq ≤ k) ∧ Drawn0 w w')
 case atStart => exact ⟨(a0), (0), qq_6, qq_6, H', ⟨Nat.le_refl _⟩, by repeat (first | exact Drawn0.refl _ | apply Drawn0.step)⟩
 case round =>
  clear H'
  obtain ⟨x5_1, x8_1, rfl, rfl, HA, HK1, ⟨m1, rfl⟩⟩ := hrel
  cases gk with
  | zero => exact absurd HA.out (by simp [Qay.l0])
  | succ k1 =>
   have H := HA.out
   clear HA
   simp only [Qay.l0] at H
   by_cases c3 : x8_1 < a1
   ·rw [if_pos c3] at H
    have c3b0 : decide (x8_1 < a1) = true := decide_eq_true c3
    clear c3
    have H' := QA H
    clear H
    go_wp2
    go_roundg k1
    case measure => have := HK1.out; omega
    case rel => exact ⟨(IntKind.u64.wrap (Int.tdiv x5_1 2)), (wrap64 (x8_1 + 1)), qq_6, qq_6, H', ⟨by have := HK1.out; omega⟩, by repeat (first | exact Drawn0.refl _ | apply Drawn0.step)⟩
   ·rw [if_neg c3] at H
    have c3b0 : decide (x8_1 < a1) = false := decide_eq_false c3
    clear c3
    obtain rfl := Option.some.inj H
    go_wp2
    go_ret
    exact ⟨by first | rfl | (simp; done) | (simp [*]; done), by repeat (first | exact Drawn0.refl _ | apply Drawn0.step)⟩
end Go.Proofs.YtnnofopfbeklbaaGreat.C
end
section
namespace Go.Proofs.YtnnofopfbeklbaaGreat.C
open Go.RowKit Go.Proofs.YtnnofopfbeklbaaGreatW.PrintWords Go.Proofs.YtnnofopfbeklbaaGreatW.PrintLast Go.Proofs.YtnnofopfbeklbaaGreatW.PrintMore
abbrev R8 (W : World) (b : Nat) (v : Value) (xs : List Int) : Prop := Kd.R (Kd.int .u8) 5 W b (fun _ => True) v xs
def IsBuf (W : World) (b g : Nat) (xs : List Int) : Prop := ∃ v, W.heap[g]? = some (.cells #[v] 167 (0, 0)) ∧ R8 W b v xs
def leb : Int → Nat → List Int
 | _, 0 => []
 | x, n + 1 => x % 256 :: leb (x / 256) n
theorem Qhg : ∀ (n : Nat) (x : Int), (leb x n).length = n
 | 0, _ => rfl
 | n + 1, x => by simp [leb, Qhg n]
theorem R8.lit (W : World) (b : Nat) (hb : b ≤ W.heap.size) (xs : List Int) (hm : xs.length ≤ 9223372036854775807) : R8 (W.alloc (.cells (nums .u8 xs).toArray 5)) b (.slice (some ⟨W.heap.size, 0, none⟩) xs.length xs.length) xs :=
 Kd.R_of_own (own_lit W b 5 .u8 xs hb hm) (fun _ _ => trivial)
theorem R8.clean {W : World} {b g t : Nat} {v : Value} {xs : List Int} {cs : Array Value} (h : R8 W b v xs) (hg : W.heap[g]? = some (.cells cs t (0, 0))) (ht : 5 ≠ t) : some g ≠ v.ownBlock := Kd.R_ne h hg ht
theorem R8.set {W : World} {b g t : Nat} {v : Value} {xs : List Int} {cs : Array Value} (h : R8 W b v xs) (hg : W.heap[g]? = some (.cells cs t (0, 0))) (ht : 5 ≠ t) (j : Nat) (u : Value) : R8 (W.setCell ⟨g, j, none⟩ u) b v xs :=
 Kd.R_set h hg (by intro q hq; rcases List.mem_cons.1 hq with rfl | hq; exact ht; cases hq) j u
theorem R8.kept {W W' : World} {b : Nat} {v : Value} {xs : List Int} (h : R8 W b v xs) (hb : Below W.heap.size W W') : R8 W' b v xs := Kd.R_below h hb
theorem R8.low {W : World} {b b' : Nat} {v : Value} {xs : List Int} (h : R8 W b v xs) (hb : b' ≤ b) : R8 W b' v xs := Kd.R_lower h hb
theorem R8.shape {W : World} {b : Nat} {v : Value} {xs : List Int} (h : R8 W b v xs) : ∃ A n c, v = .slice A n c := by
 obtain ⟨A, c, e⟩ := Kd.R_slice h
 exact ⟨A, _, c, e⟩
theorem IsBuf.kept {W W' : World} {b g : Nat} {xs : List Int} (h : IsBuf W b g xs) (hb : Below W.heap.size W W') : IsBuf W' b g xs := by
 obtain ⟨v, h1, h2⟩ := h
 exact ⟨v, Qeb h1 hb, h2.kept hb⟩
theorem IsBuf.lt {W : World} {b g : Nat} {xs : List Int} (h : IsBuf W b g xs) : g < W.heap.size := by
 obtain ⟨v, h1, h2⟩ := h
 exact Qdr h1
theorem IsBuf.put {W w1 : World} {b g : Nat} {v v1 : Value} {xs ys : List Int} (hv : W.heap[g]? = some (.cells #[v] 167 (0, 0))) (hR : R8 W b v xs) (hg : W.grownBy w1 v.ownBlock) (h1 : R8 w1 b v1 ys) :
  w1.heap[g]? = some (.cells #[v] 167 (0, 0)) ∧ IsBuf (w1.setCell ⟨g, 0, none⟩ v1) b g ys := by
 have hv1 := Qdu hv hg (hR.clean hv (by decide))
 exact ⟨hv1, v1, Qdp hv1 0 v1, h1.set hv1 (by decide) 0 v1⟩
theorem Qhh {b : Nat} {w W : World} {g j : Nat} {v : Value} (h : Below b w W) (hg : b ≤ g) : Below b w (W.setCell ⟨g, j, none⟩ v) := h.setCell hg _
theorem Qhi {b b' : Nat} {w W : World} (h : Below b w W) (hb : b' ≤ b) : Below b' w W := ⟨h.os, h.tape, h.output, h.size, fun i hi => h.block i (by omega)⟩
def Tk (g : Nat) (w w' : World) : Prop := ∀ k cs t, w.heap[k]? = some (.cells cs t (0, 0)) → t ≠ 5 → k ≠ g → w'.heap[k]? = some (.cells cs t (0, 0))
def Bw (b g : Nat) (w w' : World) : Prop := Below b w w' ∧ Tk g w w'
theorem Tk.refl (g : Nat) (w : World) : Tk g w w := fun _ _ _ h _ _ => h
theorem Tk.trans {g : Nat} {a b c : World} (h : Tk g a b) (k : Tk g b c) : Tk g a c := fun _ _ _ h1 h2 h3 => k _ _ _ (h _ _ _ h1 h2 h3) h2 h3
theorem Tk.below {g : Nat} {w w' : World} (h : Below w.heap.size w w') : Tk g w w' := fun _ _ _ h1 _ _ => Qeb h1 h
theorem Bw.refl (b g : Nat) (w : World) : Bw b g w w := ⟨Below.refl _ _, Tk.refl _ _⟩
theorem Bw.trans {b g : Nat} {x y z : World} (h : Bw b g x y) (k : Bw b g y z) : Bw b g x z := ⟨h.1.trans k.1, h.2.trans k.2⟩
theorem Bw.below {b g : Nat} {w w' : World} (h : Below w.heap.size w w') (hb : b ≤ w.heap.size) : Bw b g w w' := ⟨Qhi h hb, Tk.below h⟩
theorem Bw.size {b g : Nat} {w w' : World} (h : Bw b g w w') : w.heap.size ≤ w'.heap.size := h.1.size
theorem Bw.put {W w1 : World} {b g : Nat} {v v1 : Value} {xs : List Int} (hbg : b ≤ g) (hv : W.heap[g]? = some (.cells #[v] 167 (0, 0))) (hR : R8 W b v xs) (hb : Below b W w1) (hg : W.grownBy w1 v.ownBlock) : Bw b g W (w1.setCell ⟨g, 0, none⟩ v1) := by
 refine ⟨Qhh hb hbg, fun k cs t h1 h2 h3 => ?_⟩
 have hne : some k ≠ v.ownBlock := Kd.R_ne hR h1 (fun e => h2 e.symm)
 have h4 := Qdu h1 hg hne
 exact Qdq h4 h3 v1
theorem clone_of (A0 : Option Addr) (c0 : Nat) (l0 : List Int) (w : World) (hr0 : Kd.C (Kd.int .u8) w A0 l0.length l0) (hl : l0.length ≤ 140737488355328) :
  Calls Tryz.prog 70 #[.slice A0 l0.length c0] w fun e w' => ∃ v0_ : Value, e = .returned (v0_) ∧ R8 w' w.heap.size v0_ l0 ∧ Below w.heap.size w w' := by
 have hu := Tryz.underlying52
 have q22 : ∀ (w : World) (a : Option Addr) (n c n' c' : Nat), (binOp .eql 52 (.slice a n c) (.slice none n' c')).run Tryz.prog w = .ok (.bool a.isNone) w := fun w a n c n' c' => Lib.run_eql_slice_nil w _ _ a n c n' c' hu
 cases A0 with
 | none =>
  obtain rfl : l0 = [] := by
   cases l0 with
   | nil => rfl
   | cons a t => obtain ⟨ad, c, h1, _⟩ := Kd.C_get hr0 0 0 (by omega) (by simp); cases h1
  go_enter Tryz.func70, Tryz.ntmps70
  go_wp2
  go_ret
  exact ⟨_, rfl, Kd.R_nil _ _ _ _ _, Below.refl _ _⟩
 | some ad =>
  go_enter Tryz.func70, Tryz.ntmps70
  go_wp2_with (first | (at_builtin; refine Kd.R_append_row (Value.int .u8) (0 : Int) (h1 := fun _ => rfl) (w0 := w) w.heap.size rfl (.tmp 5) (.tmp 6) 52 5 (.int .u8 0) 1 rfl Tryz.underlying52 Qgw rfl (by decide) _ [] l0 (some ad) l0.length c0 (fun _ => True) rfl rfl (fun _ _ => trivial) ?hO ?hR ?hB ?hS ?hL ?_; (case hO => exact R8.lit w w.heap.size (Nat.le_refl _) [] (by simp)); (case hR => exact Kd.C_below hr0 (Qcx (Below.refl _ _) _)); (case hB => exact Qcx (Below.refl _ _) _); (case hS => simp); (case hL => simp; omega); intro v1 w1 HR1 hb1 hg1 hat1; simp only [List.nil_append] at HR1))
  go_ret
  exact ⟨_, rfl, HR1, hb1⟩
theorem buf_num (b g : Nat) (x : Int) (n : Nat) (xs : List Int) (w : World) (hx0 : 0 ≤ x) (hx1 : x < 18446744073709551616) (hbg : b ≤ g) (hbw : b ≤ w.heap.size) (hI : IsBuf w b g xs) (hl : xs.length + n ≤ 140737488355328) :
  Calls Tryz.prog 149 #[.pointer (some ⟨g, 0, none⟩), .int .u64 x, .int .i64 n] w fun e w' => e = .returned (.pointer (some ⟨g, 0, none⟩)) ∧ IsBuf w' b g (xs ++ leb x n) ∧ Bw b g w w' := by
 have HI := QA hI
 clear hI
 go_enter Tryz.func149, Tryz.ntmps149
 go_wp2
 go_loopw [1, 8] (fun v1 v8 wr => ∃ (k : Nat) (ys : List Int) (iv xv : Int), k ≤ n ∧ ys.length = k ∧ v8 = .int .i64 iv ∧ v1 = .int .u64 xv ∧ 0 ≤ xv ∧ xv < 18446744073709551616 ∧ Aside0 (iv = (k : Int)) ∧ Aside0 (leb x n = ys ++ leb xv (n - k)) ∧ Aside0 (IsBuf wr b g (xs ++ ys)) ∧ Aside0 (Bw b g w wr))
  (fun _ v8 _ => n - (intOf v8).toNat)
 case atStart => exact ⟨0, [], 0, x, Nat.zero_le _, rfl, rfl, rfl, hx0, hx1, ⟨rfl⟩, ⟨rfl⟩, ⟨by simpa using HI.out⟩, ⟨Bw.refl _ _ _⟩⟩
 case round =>
  obtain ⟨k, ys, iv, xv, hk, hys, rfl, rfl, hx2, hx3, HK, HL, HB, HW⟩ := hrel
  by_cases hlt : k < n
  ·have hlt2 : iv < (n : Int) := by have := HK.out; omega
   have hge : 0 ≤ iv := by have := HK.out; omega
   obtain ⟨v, hv, hR⟩ := HB.out
   have hc : wr.cell? ⟨g, 0, none⟩ = some v := (Qds hv 0).trans rfl
   have HV := QA hv
   have HR := QA hR
   clear hv hR
   go_wp2_with ((at_builtin; refine Kd.R_append (Kd.int .u8) (w0 := wr) b rfl (.tmp 14) (.tmp 17) 52 5 (.int .u8 0) 1 rfl Tryz.underlying52 Qgw rfl (by decide) (by omega) v (xs ++ ys) (xv % 256) [.int .u8 (xv % 256)] (fun _ => True) (fun _ => False) rfl ?ax ?aP (fun _ hk => hk.elim) ?aF ?aO ?aB ?aS ?aL ?_; (case ax => rfl); (case aP => rfl); (case aF => exact fun _ _ => trivial); (case aO => exact HR.out); (case aB => exact Below.refl _ _); (case aS => exact Nat.le_trans hbw HW.out.size); (case aL => simp; omega); intro v1 w1 HR1 hb1 hg1 hat1; obtain ⟨A1, n1, c1, rfl⟩ := R8.shape HR1; obtain ⟨hv1, hI1⟩ := IsBuf.put HV.out HR.out hg1 HR1; have hfz := Qdt hv1 0; have hc1 : w1.cell? ⟨g, 0, none⟩ = some v := (Qds hv1 0).trans rfl; have HI1 := QA hI1; have HB1 := QA (HW.out.trans (Bw.put (v1 := .slice A1 n1 c1) hbg HV.out HR.out hb1 hg1)); clear hI1 hb1 hg1 hat1 HR1 hv1))
   go_roundw
   case rel => exact ⟨k + 1, ys ++ [xv % 256], iv + 1, xv / 256, by omega, by simp [hys], by go_num, by go_num, by omega, by omega, ⟨by have := HK.out; omega⟩, ⟨by
    rw [HL.out, show n - k = (n - (k + 1)) + 1 by omega, leb]; simp⟩, ⟨by rw [← List.append_assoc]; exact HI1.out⟩, ⟨HB1.out⟩⟩
   case measure => simp [intOf]; omega
  ·obtain rfl : k = n := by omega
   have e1 : iv = (k : Int) := HK.out
   subst e1
   go_wp2
   go_ret
   refine ⟨rfl, ?_, HW.out⟩
   have e := HL.out
   rw [Nat.sub_self] at e
   rw [e]
   simpa [leb] using HB.out
theorem Qhj (b g : Nat) (x : Int) (xs : List Int) (w : World) (hx0 : 0 ≤ x) (hx1 : x < 256) (hbg : b ≤ g) (hbw : b ≤ w.heap.size) (hI : IsBuf w b g xs) (hl : xs.length + 1 ≤ 140737488355328) :
  Calls Tryz.prog 94 #[.pointer (some ⟨g, 0, none⟩), .int .u8 x] w fun e w' => e = .returned (.pointer (some ⟨g, 0, none⟩)) ∧ IsBuf w' b g (xs ++ [x]) ∧ Bw b g w w' := by
 go_enter Tryz.func94, Tryz.ntmps94
 go_wp2_with (go_at_call 149; refine (buf_num b g x 1 xs w hx0 (by omega) hbg hbw hI hl).mono ?_; rintro e w' ⟨rfl, hd, hb⟩)
 go_ret
 refine ⟨rfl, ?_, hb⟩
 have e : leb x 1 = [x] := by simp [leb]; omega
 rw [e] at hd
 exact hd
theorem buf_Four (b g : Nat) (x : Int) (xs : List Int) (w : World) (hx0 : 0 ≤ x) (hx1 : x < 4294967296) (hbg : b ≤ g) (hbw : b ≤ w.heap.size) (hI : IsBuf w b g xs) (hl : xs.length + 4 ≤ 140737488355328) :
  Calls Tryz.prog 112 #[.pointer (some ⟨g, 0, none⟩), .int .u32 x] w fun e w' => e = .returned (.pointer (some ⟨g, 0, none⟩)) ∧ IsBuf w' b g (xs ++ leb x 4) ∧ Bw b g w w' := by
 go_enter Tryz.func112, Tryz.ntmps112
 go_wp2_with (go_at_call 149; refine (buf_num b g x 4 xs w hx0 (by omega) hbg hbw hI hl).mono ?_; rintro e w' ⟨rfl, hd, hb⟩)
 go_ret
 exact ⟨rfl, hd, hb⟩
theorem Qhk (b g : Nat) (x : Int) (xs : List Int) (w : World) (hx0 : 0 ≤ x) (hx1 : x < 18446744073709551616) (hbg : b ≤ g) (hbw : b ≤ w.heap.size) (hI : IsBuf w b g xs) (hl : xs.length + 8 ≤ 140737488355328) :
  Calls Tryz.prog 151 #[.pointer (some ⟨g, 0, none⟩), .int .u64 x] w fun e w' => e = .returned (.pointer (some ⟨g, 0, none⟩)) ∧ IsBuf w' b g (xs ++ leb x 8) ∧ Bw b g w w' := by
 go_enter Tryz.func151, Tryz.ntmps151
 go_wp2_with (go_at_call 149; refine (buf_num b g x 8 xs w hx0 hx1 hbg hbw hI hl).mono ?_; rintro e w' ⟨rfl, hd, hb⟩)
 go_ret
 exact ⟨rfl, hd, hb⟩
theorem buf_Raw (b g : Nat) (A0 : Option Addr) (c0 : Nat) (ys : List Int) (xs : List Int) (w : World) (hr0 : Kd.C (Kd.int .u8) w A0 ys.length ys) (hbg : b ≤ g) (hbw : b ≤ w.heap.size) (hI : IsBuf w b g xs) (hl : xs.length + ys.length ≤ 140737488355328) :
  Calls Tryz.prog 150 #[.pointer (some ⟨g, 0, none⟩), .slice A0 ys.length c0] w fun e w' => e = .returned (.pointer (some ⟨g, 0, none⟩)) ∧ IsBuf w' b g (xs ++ ys) ∧ Bw b g w w' := by
 obtain ⟨v, hv, hR⟩ := hI
 have hc : w.cell? ⟨g, 0, none⟩ = some v := (Qds hv 0).trans rfl
 go_enter Tryz.func150, Tryz.ntmps150
 go_wp2_with (first | (at_builtin; refine Kd.R_append_row (Value.int .u8) (0 : Int) (h1 := fun _ => rfl) (w0 := w) b rfl (.tmp 9) (.tmp 10) 52 5 (.int .u8 0) 1 rfl Tryz.underlying52 Qgw rfl (by decide) v xs ys A0 ys.length c0 (fun _ => True) rfl rfl (fun _ _ => trivial) ?hO ?hR ?hB ?hS ?hL ?_; (case hO => exact hR); (case hR => exact hr0); (case hB => exact Below.refl _ _); (case hS => exact hbw); (case hL => omega); intro v1 w1 HR1 hb1 hg1 hat1; obtain ⟨A1, n1, c1, rfl⟩ := R8.shape HR1; obtain ⟨hv1, hI1⟩ := IsBuf.put hv hR hg1 HR1; have hfz := Qdt hv1 0; have hc1 : w1.cell? ⟨g, 0, none⟩ = some v := (Qds hv1 0).trans rfl; have HI1 := QA hI1; have HB1 := QA (Bw.put (v1 := .slice A1 n1 c1) hbg hv hR hb1 hg1); clear hI1 hb1 hg1 hat1 HR1 hv1))
 go_ret
 exact ⟨rfl, HI1.out, HB1.out⟩
theorem buf_Raw' (b g : Nat) (A0 : Option Addr) (c0 n : Nat) (ys : List Int) (xs : List Int) (w : World) (hn : n = ys.length) (hr0 : Kd.C (Kd.int .u8) w A0 n ys) (hbg : b ≤ g) (hbw : b ≤ w.heap.size) (hI : IsBuf w b g xs) (hl : xs.length + n ≤ 140737488355328) :
  Calls Tryz.prog 150 #[.pointer (some ⟨g, 0, none⟩), .slice A0 n c0] w fun e w' => e = .returned (.pointer (some ⟨g, 0, none⟩)) ∧ IsBuf w' b g (xs ++ ys) ∧ Bw b g w w' := by
 subst hn
 exact buf_Raw b g A0 c0 ys xs w hr0 hbg hbw hI hl
theorem Qhl (b g : Nat) (xs : List Int) (w : World) (hI : IsBuf w b g xs) (hl : xs.length ≤ 140737488355328) :
  Calls Tryz.prog 97 #[.pointer (some ⟨g, 0, none⟩)] w fun e w' => ∃ v : Value, e = .returned v ∧ R8 w' w.heap.size v xs ∧ Below w.heap.size w w' := by
 obtain ⟨v, hv, hR⟩ := hI
 obtain ⟨A, c, rfl, hlc, hC⟩ := Kd.R_reads hR
 have hc : w.cell? ⟨g, 0, none⟩ = some (.slice A xs.length c) := (Qds hv 0).trans rfl
 go_enter Tryz.func97, Tryz.ntmps97
 go_wp2_with (go_at_call 70; refine (clone_of A c xs w hC hl).mono ?_; rintro e w' ⟨v1, rfl, hd, hb⟩)
 go_ret
 exact ⟨_, rfl, hd, hb⟩
end Go.Proofs.YtnnofopfbeklbaaGreat.C
end
section
namespace Go.Proofs.YtnnofopfbeklbaaGreat.C
open Go.RowKit Go.Proofs.YtnnofopfbeklbaaGreatW.PrintWords Go.Proofs.YtnnofopfbeklbaaGreatW.PrintLast Go.Proofs.YtnnofopfbeklbaaGreatW.PrintMore
attribute [local go_sem] Qgh Qgi Qgj Qgk Qgl Qgm Qgn Qgo
def Qac.f (a0 : Int) (a1 : Int) : Option (Int) := if 0 ≤ (Go.bits .and .u64 (IntKind.u64.wrap (a1)) 63) then (if 0 ≤ (IntKind.u64.wrap (64 - (Go.bits .and .u64 (IntKind.u64.wrap (a1)) 63))) then (some (Go.bits .or .u64 (shl .u64 a0 (Go.bits .and .u64 (IntKind.u64.wrap (a1)) 63)) (shr .u64 a0 (IntKind.u64.wrap (64 - (Go.bits .and .u64 (IntKind.u64.wrap (a1)) 63)))))) else (none)) else (none)
theorem Qac.calls (a0 : Int) (a1 : Int) (r : Int) (w : World) (h : Qac.f a0 a1 = some r) :
  Calls Tryz.prog 202 #[.int .u64 a0, .int .i64 a1] w fun e w' => e = .returned (.int .u64 r) ∧ Drawn0 w w' := by
 have H : (if 0 ≤ (Go.bits .and .u64 (IntKind.u64.wrap (a1)) 63) then (if 0 ≤ (IntKind.u64.wrap (64 - (Go.bits .and .u64 (IntKind.u64.wrap (a1)) 63))) then (some (Go.bits .or .u64 (shl .u64 a0 (Go.bits .and .u64 (IntKind.u64.wrap (a1)) 63)) (shr .u64 a0 (IntKind.u64.wrap (64 - (Go.bits .and .u64 (IntKind.u64.wrap (a1)) 63)))))) else (none)) else (none)) = some r := h
 clear h
 obtain ⟨ji3, hji3⟩ : ∃ j_ : Int, (Go.bits .and .u64 (IntKind.u64.wrap (a1)) 63) = j_ := ⟨_, rfl⟩
 replace H : (if 0 ≤ (ji3) then (if 0 ≤ (IntKind.u64.wrap (64 - (ji3))) then (some (Go.bits .or .u64 (shl .u64 a0 (ji3)) (shr .u64 a0 (IntKind.u64.wrap (64 - (ji3)))))) else (none)) else (none)) = some r := by first | (rw [hji3] at H; exact H) | (simp only [hji3] at H ⊢; exact H)
 by_cases c4 : 0 ≤ (ji3)
 ·rw [if_pos c4] at H
  have c4b0 := eq_true c4
  have c4b1 : decide (0 ≤ (ji3)) = true := decide_eq_true c4
  clear c4
  obtain ⟨ji5, hji5⟩ : ∃ j_ : Int, (shl .u64 a0 (ji3)) = j_ := ⟨_, rfl⟩
  replace H : (if 0 ≤ (IntKind.u64.wrap (64 - (ji3))) then (some (Go.bits .or .u64 (ji5) (shr .u64 a0 (IntKind.u64.wrap (64 - (ji3)))))) else (none)) = some r := by first | (rw [hji5] at H; exact H) | (simp only [hji5] at H ⊢; exact H)
  have hji5_ : (IntKind.u64.wrap (a0 * 2 ^ min (ji3).toNat 64)) = ji5 := hji5
  have hji5z : (ji3) ≤ 64 → (IntKind.u64.wrap (a0 * 2 ^ (ji3).toNat)) = ji5 := Qgr hji5
  obtain ⟨ji6, hji6⟩ : ∃ j_ : Int, (IntKind.u64.wrap (64 - (ji3))) = j_ := ⟨_, rfl⟩
  replace H : (if 0 ≤ (ji6) then (some (Go.bits .or .u64 (ji5) (shr .u64 a0 (ji6)))) else (none)) = some r := by first | (rw [hji6] at H; exact H) | (simp only [hji6] at H ⊢; exact H)
  by_cases c7 : 0 ≤ (ji6)
  ·rw [if_pos c7] at H
   have c7b0 := eq_true c7
   have c7b1 : decide (0 ≤ (ji6)) = true := decide_eq_true c7
   clear c7
   obtain ⟨ji8, hji8⟩ : ∃ j_ : Int, (shr .u64 a0 (ji6)) = j_ := ⟨_, rfl⟩
   replace H : (some (Go.bits .or .u64 (ji5) (ji8))) = some r := by first | (rw [hji8] at H; exact H) | (simp only [hji8] at H ⊢; exact H)
   have hji8_ : (a0 / 2 ^ min (ji6).toNat 64) = ji8 := hji8
   have hji8z : (ji6) ≤ 64 → (a0 / 2 ^ (ji6).toNat) = ji8 := shr_small hji8
   obtain rfl := Option.some.inj H
   go_enter Tryz.func202, Tryz.ntmps202
   go_wp2
   go_ret
   exact ⟨by first | rfl | (simp; done) | (simp only [← hji3, ← hji5, ← hji6, ← hji8] <;> (first | rfl | simp)) | (simp [*]; done), by repeat (first | exact Drawn0.refl _ | apply Drawn0.step)⟩
  ·rw [if_neg c7] at H
   exact absurd H (by simp)
 ·rw [if_neg c4] at H
  exact absurd H (by simp)
def Qcv.f (a0 : Int) (a1 : Int) : Option (Int) := (Qac.f (IntKind.u64.wrap (a0 + (IntKind.u64.wrap (a1 * 14029467366897019727)))) 31).bind fun t566 => (some (IntKind.u64.wrap (t566 * 11400714785074694791)))
theorem Qcv.calls (a0 : Int) (a1 : Int) (r : Int) (w : World) (h : Qcv.f a0 a1 = some r) :
  Calls Tryz.prog 199 #[.int .u64 a0, .int .u64 a1] w fun e w' => e = .returned (.int .u64 r) ∧ Drawn0 w w' := by
 have H : ((Qac.f (IntKind.u64.wrap (a0 + (IntKind.u64.wrap (a1 * 14029467366897019727)))) 31).bind fun t566 => (some (IntKind.u64.wrap (t566 * 11400714785074694791)))) = some r := h
 clear h
 replace H := Option.bind_eq_some_iff.mp H
 obtain ⟨t566, A30, H⟩ := H
 replace H : (some (IntKind.u64.wrap (t566 * 11400714785074694791))) = some r := H
 have A3 := QA A30
 clear A30
 obtain rfl := Option.some.inj H
 go_enter Tryz.func199, Tryz.ntmps199
 go_wp2_with (first | ((with_reducible refine Qgp (f := 202) rfl ?_); refine Qfg (some 9) rfl rfl Tryz.func202 qq_7 rfl #[.int .u64 (IntKind.u64.wrap (a0 + (IntKind.u64.wrap (a1 * 14029467366897019727)))), .int .i64 31] rfl qq_1 ?_; (with_reducible refine (Qac.calls (IntKind.u64.wrap (a0 + (IntKind.u64.wrap (a1 * 14029467366897019727)))) 31 t566 _ A3.out).mono ?_); rintro e w' ⟨rfl, ⟨nd, rfl⟩⟩; refine ⟨_, rfl, ?_⟩))
 go_ret
 exact ⟨by first | rfl | (simp; done) | (simp [*]; done), by repeat (first | exact Drawn0.refl _ | apply Drawn0.step)⟩
def Qcw.l0 : Nat → List Int → Int → Int → Int → Option (Int)
 | 0, _, _, _, _ => none
 | k + 1, x0, x5, x7, x8 => if x8 < x7 then (if 0 ≤ x8 then (if x8 < (x0.length : Int) then (if 0 ≤ (wrap64 (8 * x8)) then (Qcw.l0 k x0 (Go.bits .or .u64 x5 (shl .u64 (IntKind.u64.wrap (rd x0 x8)) (wrap64 (8 * x8)))) x7 (wrap64 (x8 + 1))) else (none)) else (none)) else (none)) else (some x5)
def Qcw.f (k : Nat) (l0 : List Int) (a1 : Int) : Option (Int) := Qcw.l0 k l0 0 a1 0
theorem Qcw.calls (k : Nat) (A0 : Option Addr) (c0 : Nat) (l0 : List Int) (a1 : Int) (r : Int) (w : World) (hr0 : Kd.C (Kd.int .u8) w A0 l0.length l0) (hc0 : l0.length ≤ c0) (h : Qcw.f k l0 a1 = some r) :
  Calls Tryz.prog 200 #[.slice A0 l0.length c0, .int .i64 a1] w fun e w' => e = .returned (.int .u64 r) ∧ Drawn0 w w' := by
 have HR0 := QA hr0
 have HC0 := QA hc0
 clear hr0 hc0
 have H : (Qcw.l0 k l0 0 a1 0) = some r := h
 clear h
 have H' := QA H
 clear H
 go_enter Tryz.func200, Tryz.ntmps200
 go_wp2
 go_loopg [5, 8] k (fun kq v5 v8 w' => ∃ (x5_1 : Int) (x8_1 : Int), v5 = .int .u64 x5_1 ∧ v8 = .int .i64 x8_1 ∧ Aside0 (Qcw.l0 kq l0 x5_1 a1 x8_1 = some r) ∧ Aside0 (kq ≤ k) ∧ Drawn0 w w')
 case atStart => exact ⟨(0), (0), qq_6, qq_6, H', ⟨Nat.le_refl _⟩, by repeat (first | exact Drawn0.refl _ | apply Drawn0.step)⟩
 case round =>
  clear H'
  obtain ⟨x5_1, x8_1, rfl, rfl, HA, HK1, ⟨m1, rfl⟩⟩ := hrel
  cases gk with
  | zero => exact absurd HA.out (by simp [Qcw.l0])
  | succ k1 =>
   have H := HA.out
   clear HA
   simp only [Qcw.l0] at H
   by_cases c3 : x8_1 < a1
   ·rw [if_pos c3] at H
    have c3b0 : decide (x8_1 < a1) = true := decide_eq_true c3
    clear c3
    by_cases c4 : 0 ≤ x8_1
    ·rw [if_pos c4] at H
     have c4b0 : decide (0 ≤ x8_1) = true := decide_eq_true c4
     clear c4
     by_cases c5 : x8_1 < (l0.length : Int)
     ·rw [if_pos c5] at H
      have c5b0 : decide (x8_1 < (l0.length : Int)) = true := decide_eq_true c5
      clear c5
      obtain ⟨ji6, hji6⟩ : ∃ j_ : Int, (wrap64 (8 * x8_1)) = j_ := ⟨_, rfl⟩
      replace H : (if 0 ≤ (ji6) then (Qcw.l0 k1 l0 (Go.bits .or .u64 x5_1 (shl .u64 (IntKind.u64.wrap (rd l0 x8_1)) (ji6))) a1 (wrap64 (x8_1 + 1))) else (none)) = some r := by first | (rw [hji6] at H; exact H) | (simp only [hji6] at H ⊢; exact H)
      have hji6w : (IntKind.i64.wrap (8 * x8_1)) = ji6 := (Qfi _).trans hji6
      by_cases c7 : 0 ≤ (ji6)
      ·rw [if_pos c7] at H
       have c7b0 := eq_true c7
       have c7b1 : decide (0 ≤ (ji6)) = true := decide_eq_true c7
       clear c7
       obtain ⟨ji8, hji8⟩ : ∃ j_ : Int, (shl .u64 (IntKind.u64.wrap (rd l0 x8_1)) (ji6)) = j_ := ⟨_, rfl⟩
       replace H : (Qcw.l0 k1 l0 (Go.bits .or .u64 x5_1 (ji8)) a1 (wrap64 (x8_1 + 1))) = some r := by first | (rw [hji8] at H; exact H) | (simp only [hji8] at H ⊢; exact H)
       have hji8_ : (IntKind.u64.wrap ((IntKind.u64.wrap (rd l0 x8_1)) * 2 ^ min (ji6).toNat 64)) = ji8 := hji8
       have hji8z : (ji6) ≤ 64 → (IntKind.u64.wrap ((IntKind.u64.wrap (rd l0 x8_1)) * 2 ^ (ji6).toNat)) = ji8 := Qgr hji8
       have H' := QA H
       clear H
       have p567 : 0 ≤ (x8_1 : Int) := of_decide_eq_true qq_5
       have q567 : x8_1 < (l0.length : Int) := of_decide_eq_true qq_5
       obtain ⟨ad567, e567, hx567_0⟩ := Kd.at_int HR0.out x8_1 p567 q567
       cases e567
       replace p567 := eq_true p567
       replace q567 := eq_true q567
       go_wp2
       go_roundg k1
       case measure => have := HK1.out; omega
       case rel => exact ⟨(Go.bits .or .u64 x5_1 (ji8)), (wrap64 (x8_1 + 1)), (by first | rfl | (simp; done) | (simp only [← hji8] <;> (first | rfl | simp)) | (simp [*]; done)), qq_6, H', ⟨by have := HK1.out; omega⟩, by repeat (first | exact Drawn0.refl _ | apply Drawn0.step)⟩
      ·rw [if_neg c7] at H
       exact absurd H (by simp)
     ·rw [if_neg c5] at H
      exact absurd H (by simp)
    ·rw [if_neg c4] at H
     exact absurd H (by simp)
   ·rw [if_neg c3] at H
    have c3b0 : decide (x8_1 < a1) = false := decide_eq_false c3
    clear c3
    obtain rfl := Option.some.inj H
    go_wp2
    go_ret
    exact ⟨by first | rfl | (simp; done) | (simp [*]; done), by repeat (first | exact Drawn0.refl _ | apply Drawn0.step)⟩
end Go.Proofs.YtnnofopfbeklbaaGreat.C
end
section
namespace Go.Proofs.YtnnofopfbeklbaaGreat.C
open Go.RowKit Go.Proofs.YtnnofopfbeklbaaGreatW.PrintWords Go.Proofs.YtnnofopfbeklbaaGreatW.PrintLast Go.Proofs.YtnnofopfbeklbaaGreatW.PrintMore
abbrev Q1 : Int := 11400714785074694791
abbrev Q2 : Int := 14029467366897019727
abbrev Q3 : Int := 1609587929392839161
abbrev Q4 : Int := 9650029242287828579
abbrev Q5 : Int := 2870177450012600261
def IsSt (W : World) (b g : Nat) (sd v0 v1 v2 v3 : Int) (rest : List Int) (n : Int) : Prop :=
 ∃ rv, W.heap[g]? = some (.cells #[.int .u64 sd, .int .u64 v0, .int .u64 v1, .int .u64 v2, .int .u64 v3, rv, .int .u64 n] 274 (0, 0)) ∧ R8 W b rv rest
theorem st_New (sd : Int) (w : World) :
  Calls Tryz.prog 155 #[.int .u64 sd] w fun e w' => e = .returned (.pointer (some ⟨w.heap.size, 0, none⟩)) ∧ IsSt w' w.heap.size w.heap.size sd (IntKind.u64.wrap (IntKind.u64.wrap (sd + Q1) + Q2)) (IntKind.u64.wrap (sd + Q2)) sd (IntKind.u64.wrap (sd - Q1)) [] 0 ∧ Below w.heap.size w w' := by
 have hu := Tryz.underlying274
 have hu2 := Tryz.underlying231
 go_enter Tryz.func155, Tryz.ntmps155
 go_wp2_with fail
 go_region
 go_wp2_with fail
 go_region
 go_wp2_with fail
 go_region
 go_wp2_with fail
 go_region
 go_wp2_with fail
 go_ret
 refine ⟨rfl, ⟨_, Qec w _, Kd.R_nil _ _ _ _ _⟩, Qcy (Qcy (Qcy (Qcy (Qcx (Below.refl _ _) _))))⟩
def rotP (x n : Int) : Int := (Qac.f x n).getD 0
theorem rot_is (x n : Int) (h : 0 ≤ n ∧ n < 64 ∧ Go.bits .and .u64 (IntKind.u64.wrap n) 63 = n) : Qac.f x n = some (rotP x n) := by
 unfold rotP Qac.f
 rw [h.2.2, if_pos h.1, if_pos (by rw [IntWalk.u64_in _ (by omega)]; omega)]
 rfl
def Qhm (x y : Int) : Int := (Qcv.f x y).getD 0
theorem into_is (x y : Int) : Qcv.f x y = some (Qhm x y) := by
 unfold Qhm Qcv.f
 rw [rot_is _ 31 ⟨by decide, by decide, by kernel_rfl⟩]
 rfl
def numP (n : Nat) (l : List Int) : Int := (Qcw.f (n + 1) l n).getD 0
theorem num8_is (l : List Int) (h : 8 ≤ l.length) : Qcw.f 9 l 8 = some (numP 8 l) := by
 obtain ⟨v, hv⟩ : ∃ v, Qcw.f 9 l 8 = some v := by
  simp [Qcw.f, Qcw.l0, show (1 : Int) < l.length by omega, show (2 : Int) < l.length by omega, show (3 : Int) < l.length by omega, show (4 : Int) < l.length by omega, show (5 : Int) < l.length by omega, show (6 : Int) < l.length by omega, show (7 : Int) < l.length by omega, show (0 : Int) < l.length by omega, wrap64]
  omega
 unfold numP
 rw [show (8 : Nat) + 1 = 9 from rfl, show (((8 : Nat) : Int)) = 8 from rfl, hv]
 rfl
theorem num4_is (l : List Int) (h : 4 ≤ l.length) : Qcw.f 5 l 4 = some (numP 4 l) := by
 obtain ⟨v, hv⟩ : ∃ v, Qcw.f 5 l 4 = some v := by
  simp [Qcw.f, Qcw.l0, show (1 : Int) < l.length by omega, show (2 : Int) < l.length by omega, show (3 : Int) < l.length by omega, show (0 : Int) < l.length by omega, wrap64]
  omega
 unfold numP
 rw [show (4 : Nat) + 1 = 5 from rfl, show (((4 : Nat) : Int)) = 4 from rfl, hv]
 rfl
abbrev V4 := Int × Int × Int × Int
def Qhn (v : V4) (l : List Int) : V4 := (Qhm v.1 (numP 8 l), Qhm v.2.1 (numP 8 (l.drop 8)), Qhm v.2.2.1 (numP 8 (l.drop 16)), Qhm v.2.2.2 (numP 8 (l.drop 24)))
def Qho : Nat → V4 → List Int → V4
 | 0, v, _ => v
 | m + 1, v, l => Qho m (Qhn v l) (l.drop 32)
def lenV : Value → Nat
 | .slice _ n _ => n
 | _ => 0
def Qhp (i : Nat) (v : V4) (l : List Int) : V4 := (if 0 < i then Qhm v.1 (numP 8 l) else v.1, if 1 < i then Qhm v.2.1 (numP 8 (l.drop 8)) else v.2.1, if 2 < i then Qhm v.2.2.1 (numP 8 (l.drop 16)) else v.2.2.1, if 3 < i then Qhm v.2.2.2 (numP 8 (l.drop 24)) else v.2.2.2)
def StAt (W : World) (g : Nat) (sd : Int) (v : V4) (rv : Value) (n : Int) : Prop := W.heap[g]? = some (.cells #[.int .u64 sd, .int .u64 v.1, .int .u64 v.2.1, .int .u64 v.2.2.1, .int .u64 v.2.2.2, rv, .int .u64 n] 274 (0, 0))
abbrev Q8 (W : World) (b : Nat) (v : Value) (xs : List Int) : Prop := Kd.Q (Kd.int .u8) 5 W b (fun _ => True) v xs
theorem Qhq (A : Option Addr) (n c m : Nat) (j : Int) (hj : j = (m : Int)) (hm : m ≤ n) :
  ∃ A' : Option Addr, (∀ W : World, (Instr.slice 52 (.slice A n c) (some (.int .i64 j)) none none).run Tryz.prog W = .ok (.slice A' (n - m) (c - m)) W) ∧
   ∀ (W : World) (b : Nat) (xs : List Int), xs.length = n → Q8 W b (.slice A n c) xs → Q8 W b (.slice A' (n - m) (c - m)) (xs.drop m) := by
 subst hj
 obtain ⟨i, hi, hsz⟩ : ∃ i, Tryz.prog.info? 5 = some i ∧ i.size = 1 := by
  have h := Qgw
  cases hh : Tryz.prog.info? 5 with
  | none => rw [hh] at h; cases h
  | some i =>
   rw [hh] at h
   simp only [Option.map_some, Option.some.injEq, Prod.mk.injEq] at h
   exact ⟨i, rfl, h.2.1⟩
 refine ⟨if c = m then A else A.map (·.add (m * 1)), fun W => ?_, fun W b xs hn hq => ?_⟩
 ·have h := cut_from (P := Tryz.prog) 52 5 .i64 Tryz.underlying52 hi 1 hsz A n c (m : Int) (by omega) (by omega) W
  rw [Int.toNat_natCast] at h
  exact h
 ·exact Kd.Q_drop hq (by omega)
theorem Qhr {W : World} {b : Nat} {A : Option Addr} {n c : Nat} {l : List Int} (hQ : Q8 W b (.slice A n c) l) (h8 : 8 ≤ l.length) :
  Calls Tryz.prog 200 #[.slice A n c, .int .i64 8] W fun e w' => e = .returned (.int .u64 (numP 8 l)) ∧ Drawn0 W w' := by
 obtain ⟨rfl, h1, h2⟩ := Kd.Q_reads' hQ
 exact Qcw.calls 9 A c l 8 _ W h2 h1 (num8_is l h8)
theorem num4_at {W : World} {b : Nat} {A : Option Addr} {n c : Nat} {l : List Int} (hQ : Q8 W b (.slice A n c) l) (h8 : 4 ≤ l.length) :
  Calls Tryz.prog 200 #[.slice A n c, .int .i64 4] W fun e w' => e = .returned (.int .u64 (numP 4 l)) ∧ Drawn0 W w' := by
 obtain ⟨rfl, h1, h2⟩ := Kd.Q_reads' hQ
 exact Qcw.calls 5 A c l 4 _ W h2 h1 (num4_is l h8)
theorem Qhs (x y : Int) (W : World) : Calls Tryz.prog 199 #[.int .u64 x, .int .u64 y] W fun e w' => e = .returned (.int .u64 (Qhm x y)) ∧ Drawn0 W w' := Qcv.calls x y _ W (into_is x y)
end Go.Proofs.YtnnofopfbeklbaaGreat.C
end
