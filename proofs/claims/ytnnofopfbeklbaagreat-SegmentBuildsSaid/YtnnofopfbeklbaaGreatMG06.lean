/- Texts of this claim's author and of the print of its functions, merged by merge.py. -/
import Derived.Test.YtnnofopfbeklbaaGreatMG02
import Derived.OpenShut
import Derived.Test.YtnnofopfbeklbaaGreatMG03
import Derived.Test.YtnnofopfbeklbaaGreatMG05
import Derived.Test.YtnnofopfbeklbaaGreatMG04
set_option linter.unusedVariables false
set_option linter.unusedSimpArgs false
set_option maxHeartbeats 8000000
set_option maxRecDepth 100000
section
namespace Go.Proofs.YtnnofopfbeklbaaGreat.C
open Go.RowKit Go.Proofs.YtnnofopfbeklbaaGreatW.PrintWords Go.Proofs.YtnnofopfbeklbaaGreatW.PrintLast Go.Proofs.YtnnofopfbeklbaaGreatW.PrintMore
theorem u64_wrap (x : Int) : 0 ≤ IntKind.u64.wrap x ∧ IntKind.u64.wrap x < 18446744073709551616 := by
 simp [IntKind.wrap, IntKind.signed, IntKind.bits]
 omega
theorem u64_bits (op : BinOp) (x y : Int) : 0 ≤ Go.bits op .u64 x y ∧ Go.bits op .u64 x y < 18446744073709551616 := by
 unfold Go.bits
 split <;> exact u64_wrap _
theorem Qia (sd : Int) (l : List Int) : 0 ≤ Qhz sd l ∧ Qhz sd l < 18446744073709551616 := by
 unfold Qhz sumP finP
 split <;> exact u64_bits _ _ _
def Qib (b : List Int) : List Int := Qhh (b ++ leb (Qhz 0 b) 8) ++ [0]
theorem Qic : ∀ (n : Nat) (b : List Int), b.length ≤ n → (Qhh b).length ≤ 2 * b.length + 1
 | n, b, h => by
  rcases Int.lt_or_le (ixOf (b.take 254) 0) 0 with h0 | h0
  ·by_cases hl : 254 < b.length
   ·rw [Qhl h0 hl]
    have hd : (b.drop 254).length < b.length := by rw [List.length_drop]; omega
    cases n with
    | zero => omega
    | succ n =>
     have := Qic n (b.drop 254) (by omega)
     simp only [List.length_cons, List.length_append, List.length_take, List.length_drop] at this ⊢
     omega
   ·rw [Qhm h0 hl]
    simp
    omega
  ·obtain ⟨p, hp⟩ := Int.eq_ofNat_of_zero_le h0
   have h1 := (Qhf (b.take 254) 0).2
   rw [hp, List.length_take] at h1
   rw [Qhk hp]
   cases n with
   | zero => omega
   | succ n =>
    have := Qic n (b.drop (p + 1)) (by rw [List.length_drop]; omega)
    simp only [List.length_cons, List.length_append, List.length_take, List.length_drop] at this ⊢
    omega
theorem R8.reads {W : World} {b : Nat} {v : Value} {xs : List Int} (h : R8 W b v xs) : ∃ A n c, v = .slice A n c ∧ Aside0 (n = xs.length) ∧ n ≤ c ∧ Kd.C (Kd.int .u8) W A n xs := by
 obtain ⟨A, c, e, h1, h2⟩ := Kd.R_reads h
 exact ⟨A, _, c, e, ⟨rfl⟩, h1, h2⟩
theorem stuff_at (A : Option Addr) (n c : Nat) (l : List Int) (w : World) (hC : Kd.C (Kd.int .u8) w A n l) (hc : n ≤ c) (hl : l.length ≤ 35184372088832) :
  Calls Tryz.prog 152 #[.slice A n c] w fun e w' => ∃ v0_ : Value, e = .returned (v0_) ∧ R8 w' w.heap.size v0_ (Qhh l) ∧ Below w.heap.size w w' := by
 have hn := hC.1
 subst hn
 exact stuff_of A c l w hC hc hl
theorem seal_len (l : List Int) : ([] ++ l ++ leb (Qhz 0 l) 8).length = l.length + 8 := by simp [Qgs]
theorem seal_of (A0 : Option Addr) (c0 : Nat) (l0 : List Int) (w : World) (hr0 : Kd.C (Kd.int .u8) w A0 l0.length l0) (hl : l0.length ≤ 35184372088824) :
  Calls Tryz.prog 96 #[.slice A0 l0.length c0] w fun e w' => ∃ v0_ : Value, e = .returned (v0_) ∧ R8 w' w.heap.size v0_ (Qib l0) ∧ Below w.heap.size w w' := by
 have hI0 := QA (IsBuf.new w w.heap.size)
 have hb0 : Below w.heap.size w (w.alloc (.cells #[.slice none 0 0] 167)) := Qco (Below.refl _ _) _
 have hz0 : w.heap.size ≤ (w.alloc (.cells #[.slice none 0 0] 167)).heap.size := hb0.size
 have hC0 := Kd.C_below hr0 hb0
 have hh := Qia 0 l0
 go_enter Tryz.func96, Tryz.ntmps96
 go_wp2_with (first
  | (go_at_call 150; refine (buf_Raw w.heap.size w.heap.size A0 c0 l0 [] _ hC0 (Nat.le_refl _) hz0 hI0.out (by simp; omega)).mono ?_; rintro e w1 ⟨rfl, hI1, hb1⟩; have hC1 := Kd.C_below hr0 (hb0.trans hb1.1))
  | (go_at_call 101; refine (sum_of 0 A0 c0 l0 w1 hC1 (by omega)).mono ?_; rintro e w2 ⟨rfl, hb2⟩; have hI2 := hI1.kept hb2)
  | (go_at_call 151; refine (Qgw w.heap.size w.heap.size _ _ w2 hh.1 hh.2 (Nat.le_refl _) (Nat.le_trans (Nat.le_trans hz0 hb1.size) hb2.size) hI2 (by simp; omega)).mono ?_; rintro e w3 ⟨rfl, hI3, hb3⟩)
  | (go_at_call 97; refine (Qgx w.heap.size w.heap.size _ w3 hI3 (by rw [seal_len]; omega)).mono ?_; rintro e w4 ⟨v4, rfl, hR4, hb4⟩; obtain ⟨A4, n4, c4, rfl, hn4, hlc4, hC4⟩ := R8.reads hR4)
  | (go_at_call 152; refine (stuff_at A4 n4 c4 _ w4 hC4 hlc4 (by rw [seal_len]; omega)).mono ?_; rintro e w5 ⟨v5, rfl, hR5, hb5⟩; have HR5 := QA hR5; have hz5 : w.heap.size ≤ w5.heap.size := Nat.le_trans (Nat.le_trans (Nat.le_trans (Nat.le_trans (Nat.le_trans hz0 hb1.size) hb2.size) hb3.size) hb4.size) hb5.size; have hB5 := QA (show Below w.heap.size w w5 from ((((hb0.trans hb1.1).trans (Qgu hb2 (Nat.le_trans hz0 hb1.size))).trans hb3.1).trans (Qgu hb4 (Nat.le_trans (Nat.le_trans (Nat.le_trans hz0 hb1.size) hb2.size) hb3.size))).trans (Qgu hb5 (Nat.le_trans (Nat.le_trans (Nat.le_trans (Nat.le_trans hz0 hb1.size) hb2.size) hb3.size) hb4.size))); clear hR5)
  | (at_builtin; refine Kd.R_append (Kd.int .u8) (w0 := w) w.heap.size rfl (.tmp 10) (.tmp 11) 52 5 (.int .u8 0) 1 rfl Tryz.underlying52 Qgk rfl (by decide) (by omega) v5 (Qhh ([] ++ l0 ++ leb (Qhz 0 l0) 8)) 0 [.int .u8 0] (fun _ => True) (fun _ => False) rfl ?ax ?aP (fun _ hk => hk.elim) ?aF ?aO ?aB ?aS ?aL ?_; (case ax => rfl); (case aP => rfl); (case aF => exact fun _ _ => trivial); (case aO => exact HR5.out.low (Nat.le_trans (Nat.le_trans (Nat.le_trans (Nat.le_trans hz0 hb1.size) hb2.size) hb3.size) hb4.size)); (case aB => exact hB5.out); (case aS => exact hz5); (case aL => have := Qic _ ([] ++ l0 ++ leb (Qhz 0 l0) 8) (Nat.le_refl _); rw [seal_len] at this; omega); intro v6 w6 HR6 hb6 hg6 hat6))
 go_ret
 exact ⟨v6, rfl, HR6, hb6⟩
def Qca.f (l0 : List Int) : Option (List Int) := if l0.length ≤ 35184372088824 then some (Qib l0) else none
theorem Qca.calls (A0 : Option Addr) (c0 : Nat) (l0 : List Int) (r : List Int) (w : World) (hr0 : Kd.C (Kd.int .u8) w A0 l0.length l0) (hc0 : l0.length ≤ c0) (h : Qca.f l0 = some r) :
  Calls Tryz.prog 96 #[.slice A0 l0.length c0] w fun e w' => ∃ v0_ : Value, e = .returned (v0_) ∧ Kd.R (Kd.int .u8) 5 w' w.heap.size (fun _ => True) v0_ r ∧ Below w.heap.size w w' := by
 unfold Qca.f at h
 by_cases hl : l0.length ≤ 35184372088824
 ·rw [if_pos hl] at h
  cases h
  exact seal_of A0 c0 l0 w hr0 hl
 ·rw [if_neg hl] at h; cases h
def headL (e s n : Int) : List Int := Qib ([1, 2, e] ++ vput 9 s ++ vput 9 n)
def Qby.f (a0_0 a0_1 a1 : Int) : Option (List Int × Int) :=
 (Qcc.f a0_0 a0_1 a1).bind fun e => if e = 0 then (if 0 ≤ a0_0 ∧ a0_0 < 256 ∧ 0 ≤ a0_1 ∧ a0_1 < 4294967296 ∧ 0 ≤ a1 ∧ a1 < 4294967296 then some (headL a0_0 a0_1 a1, 0) else none) else some ([], e)
theorem seal_at (A : Option Addr) (n c : Nat) (l : List Int) (w : World) (hC : Kd.C (Kd.int .u8) w A n l) (hl : l.length ≤ 35184372088824) :
  Calls Tryz.prog 96 #[.slice A n c] w fun e w' => ∃ v0_ : Value, e = .returned (v0_) ∧ R8 w' w.heap.size v0_ (Qib l) ∧ Below w.heap.size w w' := by
 have hn := hC.1
 subst hn
 exact seal_of A c l w hC hl
theorem box2 {W : World} {B : Nat} {e s : Int} (h : W.heap[B]? = some (.cells #[.int .u8 e, .int .u32 s] 27 (0, 0))) : W.cell? ⟨B, 0, none⟩ = some (.int .u8 e) ∧ W.cell? ⟨B, 1, none⟩ = some (.int .u32 s) :=
 ⟨(Qdj h 0).trans rfl, (Qdj h 1).trans rfl⟩
theorem head_of (e s n : Int) (w : World) (hc : Qcc.f e s n = some 0) (he0 : 0 ≤ e) (he1 : e < 256) (hs0 : 0 ≤ s) (hs1 : s < 4294967296) (hn0 : 0 ≤ n) (hn1 : n < 4294967296) :
  Calls Tryz.prog 53 #[.agg #[.int .u8 e, .int .u32 s], .int .u32 n] w fun ee w' => ∃ v0_ : Value, ee = .returned (.tuple #[v0_, .int .i64 0]) ∧ R8 w' w.heap.size v0_ (headL e s n) ∧ Below w.heap.size w w' := by
 have hu := Tryz.underlying27
 have hl1 := Qhn 9 s
 have hl2 := Qhn 9 n
 have HC := QA hc
 clear hc
 have hba : Below w.heap.size w (w.alloc (.cells #[.int .u8 e, .int .u32 s] 27)) := Qco (Below.refl _ _) _
 have hbn := Qdu w (.cells #[.int .u8 e, .int .u32 s] 27)
 go_enter Tryz.func53, Tryz.ntmps53
 go_wp2_with (first
  | (go_at_call 93; refine (Qcc.calls e s n 0 _ HC.out).mono ?_; rintro ee w1 ⟨rfl, hb1⟩; have hk1 := Qdt hbn hb1; have hw1 := QA (Qcr hba hba.size hb1); have hs1' := QA (show w.heap.size < w1.heap.size from Qdi hk1); have HI1 := QA (IsBuf.new w1 w.heap.size); have hk1' := Qdq hk1 (.cells #[.slice none 0 0] 167); obtain ⟨c0, c1⟩ := box2 hk1'; clear hk1 hb1 hbn hba))
 obtain ⟨W, hW⟩ : ∃ W, W = w1.alloc (.cells #[.slice none 0 0] 167) := ⟨_, rfl⟩
 have hbW : Below w1.heap.size w1 W := by rw [hW]; exact Qco (Below.refl _ _) _
 rw [← hW] at hk1' c0 c1 HI1 ⊢
 clear hW
 have hkd := Qdt hk1' (Qcp (Below.refl W.heap.size W))
 have hId := HI1.out.kept (Qcp (Below.refl W.heap.size W))
 obtain ⟨j0, j1⟩ := box2 hkd
 have hg := Nat.le_of_lt hs1'.out
 have hzd : w.heap.size ≤ W.drew.heap.size := Nat.le_trans hg hbW.size
 have hne := Nat.ne_of_lt hs1'.out
 go_region_held3 (fun w' => w'.cell? ⟨w.heap.size, 0, none⟩ = some (.int .u8 e) ∧ w'.cell? ⟨w.heap.size, 1, none⟩ = some (.int .u32 s)) (first | exact ⟨j0, j1⟩ | exact ⟨i0, i1⟩ | exact ⟨i2, i3⟩ | exact ⟨i4, i5⟩) (first
  | (go_at_call_of 94 (Value.int .u8 1); refine (Qgv w.heap.size w1.heap.size 1 [] W.drew (by decide) (by decide) hg hzd hId (by simp)).mono ?_; rintro ee w2 ⟨rfl, hI2, hb2⟩; have hk2 := hb2.2 _ _ _ hkd (by decide) hne; obtain ⟨i0, i1⟩ := box2 hk2)
  | (go_at_call_of 94 (Value.int .u8 2); refine (Qgv w.heap.size w1.heap.size 2 ([] ++ [1]) w2 (by decide) (by decide) hg (Nat.le_trans hzd hb2.size) hI2 (by simp)).mono ?_; rintro ee w3 ⟨rfl, hI3, hb3⟩; have hk3 := hb3.2 _ _ _ hk2 (by decide) hne; obtain ⟨i2, i3⟩ := box2 hk3)
  | (go_at_call_of 94 (Value.int .u8 e); refine (Qgv w.heap.size w1.heap.size e ([] ++ [1] ++ [2]) w3 he0 he1 hg (Nat.le_trans (Nat.le_trans hzd hb2.size) hb3.size) hI3 (by simp)).mono ?_; rintro ee w4 ⟨rfl, hI4, hb4⟩; have hk4 := hb4.2 _ _ _ hk3 (by decide) hne; obtain ⟨i4, i5⟩ := box2 hk4))
 have hz4 : w.heap.size ≤ w4.heap.size := Nat.le_trans (Nat.le_trans (Nat.le_trans hzd hb2.size) hb3.size) hb4.size
 have HB4 := QA (show Below w.heap.size w w4 from ((((hw1.out.trans (Qgu hbW hg)).trans (Qgu (Qcp (Below.refl W.heap.size W)) (Nat.le_trans hg hbW.size))).trans hb2.1).trans hb3.1).trans hb4.1)
 clear i0 i1 i2 i3 j0 j1 hk2 hk3 hb2 hb3 hb4 hI2 hI3 hkd hId
 go_wp2_with (first
  | (go_at_call_of 95 (Value.int .u64 s); refine (Qho w.heap.size w1.heap.size s _ w4 hs0 (by omega) hg hz4 hI4 (by simp)).mono ?_; rintro ee w5 ⟨⟨_, rfl⟩, hI5, hb5⟩)
  | (go_at_call_of 95 (Value.int .u64 n); refine (Qho w.heap.size w1.heap.size n _ w5 hn0 (by omega) hg (Nat.le_trans hz4 hb5.size) hI5 (by simp; omega)).mono ?_; rintro ee w6 ⟨⟨_, rfl⟩, hI6, hb6⟩)
  | (go_at_call 97; refine (Qgx w.heap.size w1.heap.size _ w6 hI6 (by simp; omega)).mono ?_; rintro ee w7 ⟨v7, rfl, hR7, hb7⟩; obtain ⟨A7, n7, c7, rfl, hn7, hlc7, hC7⟩ := R8.reads hR7)
  | (go_at_call 96; refine (seal_at A7 n7 c7 _ w7 hC7 (by simp; omega)).mono ?_; rintro ee w8 ⟨v8, rfl, hR8, hb8⟩))
 refine bodyPost_ret (results_tmp2 rfl _ _ _) rfl ?_
 have hz6 : w.heap.size ≤ w6.heap.size := Nat.le_trans (Nat.le_trans hz4 hb5.size) hb6.size
 have hz7 : w.heap.size ≤ w7.heap.size := Nat.le_trans hz6 hb7.size
 exact ⟨v8, rfl, R8.low hR8 hz7, (((HB4.out.trans hb5.1).trans hb6.1).trans (Qgu hb7 hz6)).trans (Qgu hb8 hz7)⟩
theorem head_not (e s n c : Int) (w : World) (hc : Qcc.f e s n = some c) (hn : c ≠ 0) :
  Calls Tryz.prog 53 #[.agg #[.int .u8 e, .int .u32 s], .int .u32 n] w fun ee w' => ∃ v0_ : Value, ee = .returned (.tuple #[v0_, .int .i64 c]) ∧ R8 w' w.heap.size v0_ [] ∧ Below w.heap.size w w' := by
 have hu := Tryz.underlying27
 have HC := QA hc
 clear hc
 have hn1 : (c == 0) = false := by simpa using hn
 have hn2 : (c != 0) = true := by simpa using hn
 have hba : Below w.heap.size w (w.alloc (.cells #[.int .u8 e, .int .u32 s] 27)) := Qco (Below.refl _ _) _
 go_enter Tryz.func53, Tryz.ntmps53
 go_wp2_with (go_at_call 93; refine (Qcc.calls e s n c _ HC.out).mono ?_; rintro ee w1 ⟨rfl, hb1⟩)
 refine bodyPost_ret (results_tmp2 rfl _ _ _) rfl ?_
 exact ⟨_, rfl, Kd.R_nil _ _ _ _ _, Qcr hba hba.size hb1⟩
theorem Qby.calls (a0_0 a0_1 a1 : Int) (r1 : List Int) (r2 : Int) (w : World) (h : Qby.f a0_0 a0_1 a1 = some (r1, r2)) :
  Calls Tryz.prog 53 #[.agg #[.int .u8 a0_0, .int .u32 a0_1], .int .u32 a1] w fun e w' => ∃ v0_ : Value, e = .returned (.tuple #[v0_, .int .i64 r2]) ∧ Kd.R (Kd.int .u8) 5 w' w.heap.size (fun _ => True) v0_ r1 ∧ Below w.heap.size w w' := by
 unfold Qby.f at h
 obtain ⟨c, hc, h⟩ := Option.bind_eq_some_iff.mp h
 by_cases h0 : c = 0
 ·subst h0
  rw [if_pos rfl] at h
  by_cases h1 : 0 ≤ a0_0 ∧ a0_0 < 256 ∧ 0 ≤ a0_1 ∧ a0_1 < 4294967296 ∧ 0 ≤ a1 ∧ a1 < 4294967296
  ·rw [if_pos h1] at h
   cases h
   exact head_of _ _ _ w hc h1.1 h1.2.1 h1.2.2.1 h1.2.2.2.1 h1.2.2.2.2.1 h1.2.2.2.2.2
  ·rw [if_neg h1] at h; cases h
 ·rw [if_neg h0] at h
  cases h
  exact head_not _ _ _ _ w hc h0
end Go.Proofs.YtnnofopfbeklbaaGreat.C
end
section
namespace Go.Proofs.YtnnofopfbeklbaaGreat.C
open Go.RowKit Go.Proofs.YtnnofopfbeklbaaGreatW.PrintWords Go.Proofs.YtnnofopfbeklbaaGreatW.PrintLast Go.Proofs.YtnnofopfbeklbaaGreatW.PrintMore
attribute [local go_sem] Qfx Qfy Qfz Qga Qgb Qgc Qgd Qge
def Qcd.f (a0_0 : Int) (a0_1 : Int) (a1 : Int) : Option (Int × Int × Int × Int × Int × Int) := (Qby.f a0_0 a0_1 a1).bind fun bt108 => (if bt108.2 = 0 then (some (a0_0, a0_1, a1, (bt108.1.length : Int), 0, 0)) else (some (0, 0, 0, 0, 0, bt108.2)))
theorem Qcd.calls (a0_0 : Int) (a0_1 : Int) (a1 : Int) (r1 : Int) (r2 : Int) (r3 : Int) (r4 : Int) (r5 : Int) (r6 : Int) (w : World) (h : Qcd.f a0_0 a0_1 a1 = some (r1, r2, r3, r4, r5, r6)) :
  Calls Tryz.prog 52 #[.agg #[.int .u8 a0_0, .int .u32 a0_1], .int .u32 a1] w fun e w' => e = .returned (.tuple #[.agg #[.int .u8 r1, .int .u32 r2, .int .u32 r3, .int .i64 r4, .int .i64 r5], .int .i64 r6]) ∧ Below w.heap.size w w' := by
 have hu27 := Tryz.underlying27
 have hu47 := Tryz.underlying47
 have HB := QA (Below.refl w.heap.size w)
 have H : ((Qby.f a0_0 a0_1 a1).bind fun bt108 => (if bt108.2 = 0 then (some (a0_0, a0_1, a1, (bt108.1.length : Int), 0, 0)) else (some (0, 0, 0, 0, 0, bt108.2)))) = some (r1, r2, r3, r4, r5, r6) := h
 clear h
 replace H := Option.bind_eq_some_iff.mp H
 obtain ⟨⟨t108, t111⟩, A30, H⟩ := H
 replace H : (if t111 = 0 then (some (a0_0, a0_1, a1, (t108.length : Int), 0, 0)) else (some (0, 0, 0, 0, 0, t111))) = some (r1, r2, r3, r4, r5, r6) := H
 have A3 := QA A30
 clear A30
 by_cases c4 : t111 = 0
 ·rw [if_pos c4] at H
  have c4b0 : (t111 == 0) = true := beq_iff_eq.mpr c4
  have c4b1 : (t111 != 0) = false := bne_eq_false_iff_eq.mpr c4
  clear c4
  simp only [Option.some.injEq, Prod.mk.injEq] at H
  obtain ⟨rfl, rfl, rfl, rfl, rfl, rfl⟩ := H
  go_enter Tryz.func52, Tryz.ntmps52
  go_wp2_with (first | ((with_reducible refine Qef (N := 2) rfl ?_); refine qq_e 2 #[.int .u8 a0_0, .int .u32 a0_1] 27 ?_; intro gb106 hg w5 hbox hb; have n0_ := QA (Qea qq_b hb); have n1_ := QA (hbox); have n2_ := QA ((qq_s hg : w.heap.size ≤ gb106)); have n3_ := QA ((qq_s hg : w.heap.size ≤ gb106)); clear HB; have HB := n0_; have BK106 := n1_; have GW106 := n2_; have GE106 := n3_; clear n0_ n1_ n2_ n3_; clear hb hbox hg) | ((with_reducible refine Qef (N := 4) rfl ?_); refine qq_e 4 #[.int .u8 0, .int .u32 0, .int .u32 0, .int .i64 0, .int .i64 0] 47 ?_; intro gb107 hg w6 hbox hb; have n0_ := QA (Qdt (g := gb106) (o := .cells #[.int .u8 a0_0, .int .u32 a0_1] 27 (0, 0)) qq_0 hb); have n1_ := QA (Qea qq_b hb); have n2_ := QA (hbox); have n3_ := QA ((qq_s hg : w.heap.size ≤ gb107)); have n4_ := QA ((qq_s hg : w.heap.size ≤ gb107)); have n5_ := QA ((by rw [hg]; exact Nat.ne_of_lt (Qdi (g := gb106) (o := .cells #[.int .u8 a0_0, .int .u32 a0_1] 27 (0, 0)) qq_0) : gb106 ≠ gb107)); have n6_ := QA ((by rw [hg]; exact Nat.ne_of_gt (Qdi (g := gb106) (o := .cells #[.int .u8 a0_0, .int .u32 a0_1] 27 (0, 0)) qq_0) : gb107 ≠ gb106)); clear BK106; clear HB; have BK106 := n0_; have HB := n1_; have BK107 := n2_; have GW107 := n3_; have GE107 := n4_; have NB106_107 := n5_; have NB107_106 := n6_; clear n0_ n1_ n2_ n3_ n4_ n5_ n6_; clear hb hbox hg; have hnb7 := NB106_107.out; have hnc7 := NB107_106.out; have hcz8_0 := qq_c (.int .u8 a0_0) BK106.out 0 rfl; have hcz8_1 := qq_c (.int .u32 a0_1) BK106.out 1 rfl; have hfz8_0 := Qdk BK106.out 0; have hfz8_1 := Qdk BK106.out 1) | ((with_reducible refine Qgf (f := 53) rfl ?_); refine Qeu (some 11) rfl rfl Tryz.func53 qq_6 rfl #[.agg #[.int .u8 a0_0, .int .u32 a0_1], .int .u32 a1] rfl qq_1 ?_; (with_reducible refine (Qby.calls a0_0 a0_1 a1 t108 t111 _ A3.out).mono ?_); rintro e w9 ⟨v109, rfl, ho0, hb⟩; refine ⟨_, rfl, ?_⟩; have n0_ := QA (Kd.R_lower ho0 (Qdz qq_b)); have n1_ := QA (Qdt (g := gb106) (o := .cells #[.int .u8 a0_0, .int .u32 a0_1] 27 (0, 0)) qq_0 hb); have n2_ := QA (Qdt (g := gb107) (o := .cells #[.int .u8 0, .int .u32 0, .int .u32 0, .int .i64 0, .int .i64 0] 47 (0, 0)) qq_0 hb); have n3_ := QA (Qea qq_b hb); clear BK106; clear BK107; clear HB; have HO110 := n0_; have BK106 := n1_; have BK107 := n2_; have HB := n3_; clear n0_ n1_ n2_ n3_; (try clear hb); (try clear hb2); (try clear hk); (try clear hi); (try clear ho0); have hcz10_0 := qq_c (.int .u8 a0_0) BK106.out 0 rfl; have hcz10_1 := qq_c (.int .u32 a0_1) BK106.out 1 rfl; have hfz10_0 := Qdk BK106.out 0; have hfz10_1 := Qdk BK106.out 1; obtain ⟨Ao11, co11, eo11⟩ := Kd.R_slice HO110.out; subst eo11; have hcz12_0 := qq_c (.int .u8 0) BK107.out 0 rfl; have hcz12_1 := qq_c (.int .u32 0) BK107.out 1 rfl; have hcz12_2 := qq_c (.int .u32 0) BK107.out 2 rfl; have hcz12_3 := qq_c (.int .i64 0) BK107.out 3 rfl; have hcz12_4 := qq_c (.int .i64 0) BK107.out 4 rfl; have hfz12_0 := Qdk BK107.out 0; have hfz12_1 := Qdk BK107.out 1; have hfz12_2 := Qdk BK107.out 2; have hfz12_3 := Qdk BK107.out 3; have hfz12_4 := Qdk BK107.out 4))
  refine bodyPost_ret (Qdv rfl _ _ gb107 47 #[.int .u8 a0_0, .int .u32 a0_1, .int .u32 a1, .int .i64 (t108.length : Int), .int .i64 0] (0, 0) _ rfl (by (with_reducible repeat (first | apply Qds | apply Qdr | apply Qdq)); refine Qed (cs := #[.int .u8 a0_0, .int .u32 a0_1, .int .u32 a1, .int .i64 (t108.length : Int), .int .i64 0]) ?_ 4 _ rfl; (with_reducible repeat (first | apply Qds | apply Qdr | apply Qdq)); refine Qed (cs := #[.int .u8 a0_0, .int .u32 a0_1, .int .u32 a1, .int .i64 0, .int .i64 0]) ?_ 3 _ rfl; (with_reducible repeat (first | apply Qds | apply Qdr | apply Qdq)); refine Qed (cs := #[.int .u8 a0_0, .int .u32 a0_1, .int .u32 0, .int .i64 0, .int .i64 0]) ?_ 2 _ rfl; (with_reducible repeat (first | apply Qds | apply Qdr | apply Qdq)); refine Qed (cs := #[.int .u8 a0_0, .int .u32 0, .int .u32 0, .int .i64 0, .int .i64 0]) ?_ 1 _ rfl; (with_reducible repeat (first | apply Qds | apply Qdr | apply Qdq)); refine Qed (cs := #[.int .u8 0, .int .u32 0, .int .u32 0, .int .i64 0, .int .i64 0]) ?_ 0 _ rfl; (with_reducible repeat (first | apply Qds | apply Qdr | apply Qdq)); exact BK107.out) Tryz.underlying47 rfl qq_6) rfl ?_
  exact ⟨by first | rfl | (simp [Qgi, Qgj] <;> rfl) | (simp [*, Qgi, Qgj] <;> rfl), qq_b⟩
 ·rw [if_neg c4] at H
  have c4b0 : (t111 == 0) = false := beq_eq_false_iff_ne.mpr c4
  have c4b1 : (t111 != 0) = true := bne_iff_ne.mpr c4
  simp only [Option.some.injEq, Prod.mk.injEq] at H
  obtain ⟨rfl, rfl, rfl, rfl, rfl, rfl⟩ := H
  go_enter Tryz.func52, Tryz.ntmps52
  go_wp2_with (first | ((with_reducible refine Qef (N := 2) rfl ?_); refine qq_e 2 #[.int .u8 a0_0, .int .u32 a0_1] 27 ?_; intro gb106 hg w13 hbox hb; have n0_ := QA (Qea qq_b hb); have n1_ := QA (hbox); have n2_ := QA ((qq_s hg : w.heap.size ≤ gb106)); have n3_ := QA ((qq_s hg : w.heap.size ≤ gb106)); clear HB; have HB := n0_; have BK106 := n1_; have GW106 := n2_; have GE106 := n3_; clear n0_ n1_ n2_ n3_; clear hb hbox hg) | ((with_reducible refine Qef (N := 4) rfl ?_); refine qq_e 4 #[.int .u8 0, .int .u32 0, .int .u32 0, .int .i64 0, .int .i64 0] 47 ?_; intro gb107 hg w14 hbox hb; have n0_ := QA (Qdt (g := gb106) (o := .cells #[.int .u8 a0_0, .int .u32 a0_1] 27 (0, 0)) qq_0 hb); have n1_ := QA (Qea qq_b hb); have n2_ := QA (hbox); have n3_ := QA ((qq_s hg : w.heap.size ≤ gb107)); have n4_ := QA ((qq_s hg : w.heap.size ≤ gb107)); have n5_ := QA ((by rw [hg]; exact Nat.ne_of_lt (Qdi (g := gb106) (o := .cells #[.int .u8 a0_0, .int .u32 a0_1] 27 (0, 0)) qq_0) : gb106 ≠ gb107)); have n6_ := QA ((by rw [hg]; exact Nat.ne_of_gt (Qdi (g := gb106) (o := .cells #[.int .u8 a0_0, .int .u32 a0_1] 27 (0, 0)) qq_0) : gb107 ≠ gb106)); clear BK106; clear HB; have BK106 := n0_; have HB := n1_; have BK107 := n2_; have GW107 := n3_; have GE107 := n4_; have NB106_107 := n5_; have NB107_106 := n6_; clear n0_ n1_ n2_ n3_ n4_ n5_ n6_; clear hb hbox hg; have hnb15 := NB106_107.out; have hnc15 := NB107_106.out; have hcz16_0 := qq_c (.int .u8 a0_0) BK106.out 0 rfl; have hcz16_1 := qq_c (.int .u32 a0_1) BK106.out 1 rfl; have hfz16_0 := Qdk BK106.out 0; have hfz16_1 := Qdk BK106.out 1) | ((with_reducible refine Qgf (f := 53) rfl ?_); refine Qeu (some 11) rfl rfl Tryz.func53 qq_6 rfl #[.agg #[.int .u8 a0_0, .int .u32 a0_1], .int .u32 a1] rfl qq_1 ?_; (with_reducible refine (Qby.calls a0_0 a0_1 a1 t108 t111 _ A3.out).mono ?_); rintro e w17 ⟨v109, rfl, ho0, hb⟩; refine ⟨_, rfl, ?_⟩; have n0_ := QA (Kd.R_lower ho0 (Qdz qq_b)); have n1_ := QA (Qdt (g := gb106) (o := .cells #[.int .u8 a0_0, .int .u32 a0_1] 27 (0, 0)) qq_0 hb); have n2_ := QA (Qdt (g := gb107) (o := .cells #[.int .u8 0, .int .u32 0, .int .u32 0, .int .i64 0, .int .i64 0] 47 (0, 0)) qq_0 hb); have n3_ := QA (Qea qq_b hb); clear BK106; clear BK107; clear HB; have HO110 := n0_; have BK106 := n1_; have BK107 := n2_; have HB := n3_; clear n0_ n1_ n2_ n3_; (try clear hb); (try clear hb2); (try clear hk); (try clear hi); (try clear ho0); have hcz18_0 := qq_c (.int .u8 0) BK107.out 0 rfl; have hcz18_1 := qq_c (.int .u32 0) BK107.out 1 rfl; have hcz18_2 := qq_c (.int .u32 0) BK107.out 2 rfl; have hcz18_3 := qq_c (.int .i64 0) BK107.out 3 rfl; have hcz18_4 := qq_c (.int .i64 0) BK107.out 4 rfl; have hfz18_0 := Qdk BK107.out 0; have hfz18_1 := Qdk BK107.out 1; have hfz18_2 := Qdk BK107.out 2; have hfz18_3 := Qdk BK107.out 3; have hfz18_4 := Qdk BK107.out 4))
  refine bodyPost_ret (Qdv rfl _ _ gb107 47 #[.int .u8 0, .int .u32 0, .int .u32 0, .int .i64 0, .int .i64 0] (0, 0) _ rfl (by (with_reducible repeat (first | apply Qds | apply Qdr | apply Qdq)); refine Qed (cs := #[.int .u8 0, .int .u32 0, .int .u32 0, .int .i64 0, .int .i64 0]) ?_ 4 _ rfl; (with_reducible repeat (first | apply Qds | apply Qdr | apply Qdq)); refine Qed (cs := #[.int .u8 0, .int .u32 0, .int .u32 0, .int .i64 0, .int .i64 0]) ?_ 3 _ rfl; (with_reducible repeat (first | apply Qds | apply Qdr | apply Qdq)); refine Qed (cs := #[.int .u8 0, .int .u32 0, .int .u32 0, .int .i64 0, .int .i64 0]) ?_ 2 _ rfl; (with_reducible repeat (first | apply Qds | apply Qdr | apply Qdq)); refine Qed (cs := #[.int .u8 0, .int .u32 0, .int .u32 0, .int .i64 0, .int .i64 0]) ?_ 1 _ rfl; (with_reducible repeat (first | apply Qds | apply Qdr | apply Qdq)); refine Qed (cs := #[.int .u8 0, .int .u32 0, .int .u32 0, .int .i64 0, .int .i64 0]) ?_ 0 _ rfl; (with_reducible repeat (first | apply Qds | apply Qdr | apply Qdq)); exact BK107.out) Tryz.underlying47 rfl qq_6) rfl ?_
  exact ⟨by first | rfl | (simp [Qgi, Qgj] <;> rfl) | (simp [*, Qgi, Qgj] <;> rfl), qq_b⟩
def Qal.f (a0_0 : Int) (a0_1 : Int) : Option (Int) := (Qak.f a0_0 a0_1).bind fun t113 => (if t113 = 0 then (if 0 ≤ a0_0 then (some (shl .i64 1 a0_0)) else (none)) else (some 0))
theorem Qal.calls (a0_0 : Int) (a0_1 : Int) (r : Int) (w : World) (h : Qal.f a0_0 a0_1 = some r) :
  Calls Tryz.prog 78 #[.agg #[.int .u8 a0_0, .int .u32 a0_1]] w fun e w' => e = .returned (.int .i64 r) ∧ Below w.heap.size w w' := by
 have hu27 := Tryz.underlying27
 have HB := QA (Below.refl w.heap.size w)
 have H : ((Qak.f a0_0 a0_1).bind fun t113 => (if t113 = 0 then (if 0 ≤ a0_0 then (some (shl .i64 1 a0_0)) else (none)) else (some 0))) = some r := h
 clear h
 replace H := Option.bind_eq_some_iff.mp H
 obtain ⟨t113, A20, H⟩ := H
 replace H : (if t113 = 0 then (if 0 ≤ a0_0 then (some (shl .i64 1 a0_0)) else (none)) else (some 0)) = some r := H
 have A2 := QA A20
 clear A20
 by_cases c3 : t113 = 0
 ·rw [if_pos c3] at H
  have c3b0 : (t113 == 0) = true := beq_iff_eq.mpr c3
  have c3b1 : (t113 != 0) = false := bne_eq_false_iff_eq.mpr c3
  clear c3
  by_cases c4 : 0 ≤ a0_0
  ·rw [if_pos c4] at H
   have c4b0 := eq_true c4
   have c4b1 : decide (0 ≤ a0_0) = true := decide_eq_true c4
   clear c4
   obtain ⟨ji5, hji5⟩ : ∃ j_ : Int, (shl .i64 1 a0_0) = j_ := ⟨_, rfl⟩
   replace H : (some ji5) = some r := by first | (rw [hji5] at H; exact H) | (simp only [hji5] at H ⊢; exact H)
   (try rw [hji5] at A2)
   have hji5_ : (IntKind.i64.wrap (1 * 2 ^ min a0_0.toNat 64)) = ji5 := hji5
   have hji5z : a0_0 ≤ 64 → (IntKind.i64.wrap (1 * 2 ^ a0_0.toNat)) = ji5 := Qgh hji5
   have hji5u : (IntKind.i64.wrap (2 ^ min a0_0.toNat 64)) = ji5 := by have h_ := hji5_; rw [Int.one_mul] at h_; exact h_
   have hji5v : a0_0 ≤ 64 → (IntKind.i64.wrap (2 ^ a0_0.toNat)) = ji5 := fun hle_ => by have h_ := hji5z hle_; rw [Int.one_mul] at h_; exact h_
   have hji5y : (wrap64 (1 * 2 ^ min a0_0.toNat 64)) = ji5 := (Qew _).symm.trans hji5_
   have hji5x : a0_0 ≤ 64 → (wrap64 (1 * 2 ^ a0_0.toNat)) = ji5 := fun h_ => (Qew _).symm.trans (hji5z h_)
   obtain rfl := Option.some.inj H
   go_enter Tryz.func78, Tryz.ntmps78
   go_wp2_with (first | ((with_reducible refine Qef (N := 1) rfl ?_); refine qq_e 1 #[.int .u8 a0_0, .int .u32 a0_1] 27 ?_; intro gb112 hg w6 hbox hb; have n0_ := QA (Qea qq_b hb); have n1_ := QA (hbox); have n2_ := QA ((qq_s hg : w.heap.size ≤ gb112)); have n3_ := QA ((qq_s hg : w.heap.size ≤ gb112)); clear HB; have HB := n0_; have BK112 := n1_; have GW112 := n2_; have GE112 := n3_; clear n0_ n1_ n2_ n3_; clear hb hbox hg; have hcz7_0 := qq_c (.int .u8 a0_0) BK112.out 0 rfl; have hcz7_1 := qq_c (.int .u32 a0_1) BK112.out 1 rfl; have hfz7_0 := Qdk BK112.out 0; have hfz7_1 := Qdk BK112.out 1) | ((with_reducible refine Qgf (f := 85) rfl ?_); refine Qeu (some 4) rfl rfl Tryz.func85 qq_6 rfl #[.agg #[.int .u8 a0_0, .int .u32 a0_1]] rfl qq_1 ?_; (with_reducible refine (Qak.calls a0_0 a0_1 t113 _ A2.out).mono ?_); rintro e w8 ⟨rfl, hb⟩; refine ⟨_, rfl, ?_⟩; have n0_ := QA (Qdt (g := gb112) (o := .cells #[.int .u8 a0_0, .int .u32 a0_1] 27 (0, 0)) qq_0 hb); have n1_ := QA (Qea qq_b hb); clear BK112; clear HB; have BK112 := n0_; have HB := n1_; clear n0_ n1_; (try clear hb); (try clear hb2); (try clear hk); (try clear hi); have hcz9_0 := qq_c (.int .u8 a0_0) BK112.out 0 rfl; have hcz9_1 := qq_c (.int .u32 a0_1) BK112.out 1 rfl; have hfz9_0 := Qdk BK112.out 0; have hfz9_1 := Qdk BK112.out 1))
   go_ret
   exact ⟨by first | rfl | (simp [Qgi, Qgj] <;> rfl) | (simp only [← hji5]; first | rfl | (simp [Qgi, Qgj] <;> rfl)) | (simp [*, Qgi, Qgj] <;> rfl), qq_b⟩
  ·rw [if_neg c4] at H
   exact absurd H (by simp)
 ·rw [if_neg c3] at H
  have c3b0 : (t113 == 0) = false := beq_eq_false_iff_ne.mpr c3
  have c3b1 : (t113 != 0) = true := bne_iff_ne.mpr c3
  obtain rfl := Option.some.inj H
  go_enter Tryz.func78, Tryz.ntmps78
  go_wp2_with (first | ((with_reducible refine Qef (N := 1) rfl ?_); refine qq_e 1 #[.int .u8 a0_0, .int .u32 a0_1] 27 ?_; intro gb112 hg w10 hbox hb; have n0_ := QA (Qea qq_b hb); have n1_ := QA (hbox); have n2_ := QA ((qq_s hg : w.heap.size ≤ gb112)); have n3_ := QA ((qq_s hg : w.heap.size ≤ gb112)); clear HB; have HB := n0_; have BK112 := n1_; have GW112 := n2_; have GE112 := n3_; clear n0_ n1_ n2_ n3_; clear hb hbox hg; have hcz11_0 := qq_c (.int .u8 a0_0) BK112.out 0 rfl; have hcz11_1 := qq_c (.int .u32 a0_1) BK112.out 1 rfl; have hfz11_0 := Qdk BK112.out 0; have hfz11_1 := Qdk BK112.out 1) | ((with_reducible refine Qgf (f := 85) rfl ?_); refine Qeu (some 4) rfl rfl Tryz.func85 qq_6 rfl #[.agg #[.int .u8 a0_0, .int .u32 a0_1]] rfl qq_1 ?_; (with_reducible refine (Qak.calls a0_0 a0_1 t113 _ A2.out).mono ?_); rintro e w12 ⟨rfl, hb⟩; refine ⟨_, rfl, ?_⟩; have n0_ := QA (Qdt (g := gb112) (o := .cells #[.int .u8 a0_0, .int .u32 a0_1] 27 (0, 0)) qq_0 hb); have n1_ := QA (Qea qq_b hb); clear BK112; clear HB; have BK112 := n0_; have HB := n1_; clear n0_ n1_; (try clear hb); (try clear hb2); (try clear hk); (try clear hi)))
  go_ret
  exact ⟨by first | rfl | (simp [Qgi, Qgj] <;> rfl) | (simp [*, Qgi, Qgj] <;> rfl), qq_b⟩
def Qbz.f (a0_0 : Bool) (a0_1 : Int) (a0_2 : ByteArray) (a0_3 : ByteArray) : Option (List Int × Int) := (Qci.f a0_0 a0_1 a0_2 a0_3).bind fun bt118 => (if bt118.2 = 0 then ((Qca.f bt118.1).bind fun t122 => (some (t122, 0))) else (some (([] : List Int), bt118.2)))
theorem Qbz.calls (a0_0 : Bool) (a0_1 : Int) (a0_2 : ByteArray) (a0_3 : ByteArray) (r1 : List Int) (r2 : Int) (w : World) (h : Qbz.f a0_0 a0_1 a0_2 a0_3 = some (r1, r2)) :
  Calls Tryz.prog 57 #[.agg #[.bool a0_0, .int .u64 a0_1, .string a0_2, .string a0_3]] w fun e w' => ∃ v0_ : Value, e = .returned (.tuple #[v0_, .int .i64 r2]) ∧ Kd.R (Kd.int .u8) 5 w' w.heap.size (fun _ => True) v0_ r1 ∧ Below w.heap.size w w' := by
 have hu39 := Tryz.underlying39
 have HB := QA (Below.refl w.heap.size w)
 have H : ((Qci.f a0_0 a0_1 a0_2 a0_3).bind fun bt118 => (if bt118.2 = 0 then ((Qca.f bt118.1).bind fun t122 => (some (t122, 0))) else (some (([] : List Int), bt118.2)))) = some (r1, r2) := h
 clear h
 replace H := Option.bind_eq_some_iff.mp H
 obtain ⟨⟨t118, t121⟩, A20, H⟩ := H
 replace H : (if t121 = 0 then ((Qca.f t118).bind fun t122 => (some (t122, 0))) else (some (([] : List Int), t121))) = some (r1, r2) := H
 have A2 := QA A20
 clear A20
 by_cases c3 : t121 = 0
 ·rw [if_pos c3] at H
  have c3b0 : (t121 == 0) = true := beq_iff_eq.mpr c3
  have c3b1 : (t121 != 0) = false := bne_eq_false_iff_eq.mpr c3
  clear c3
  replace H := Option.bind_eq_some_iff.mp H
  obtain ⟨t122, A40, H⟩ := H
  replace H : (some (t122, 0)) = some (r1, r2) := H
  have A4 := QA A40
  clear A40
  simp only [Option.some.injEq, Prod.mk.injEq] at H
  obtain ⟨rfl, rfl⟩ := H
  go_enter Tryz.func57, Tryz.ntmps57
  go_wp2_with (first | ((with_reducible refine Qef (N := 1) rfl ?_); refine qq_e 1 #[.bool a0_0, .int .u64 a0_1, .string a0_2, .string a0_3] 39 ?_; intro gb117 hg w5 hbox hb; have n0_ := QA (Qea qq_b hb); have n1_ := QA (hbox); have n2_ := QA ((qq_s hg : w.heap.size ≤ gb117)); have n3_ := QA ((qq_s hg : w.heap.size ≤ gb117)); clear HB; have HB := n0_; have BK117 := n1_; have GW117 := n2_; have GE117 := n3_; clear n0_ n1_ n2_ n3_; clear hb hbox hg; have hcz6_0 := qq_c (.bool a0_0) BK117.out 0 rfl; have hcz6_1 := qq_c (.int .u64 a0_1) BK117.out 1 rfl; have hcz6_2 := qq_c (.string a0_2) BK117.out 2 rfl; have hcz6_3 := qq_c (.string a0_3) BK117.out 3 rfl; have hfz6_0 := Qdk BK117.out 0; have hfz6_1 := Qdk BK117.out 1; have hfz6_2 := Qdk BK117.out 2; have hfz6_3 := Qdk BK117.out 3) | ((with_reducible refine Qgf (f := 99) rfl ?_); refine Qeu (some 8) rfl rfl Tryz.func99 qq_6 rfl #[.agg #[.bool a0_0, .int .u64 a0_1, .string a0_2, .string a0_3]] rfl qq_1 ?_; (with_reducible refine (Qci.calls a0_0 a0_1 a0_2 a0_3 t118 t121 _ A2.out).mono ?_); rintro e w7 ⟨v119, rfl, ho0, hb⟩; refine ⟨_, rfl, ?_⟩; have n0_ := QA (Kd.R_lower ho0 (Qdz qq_b)); have n1_ := QA (Qdt (g := gb117) (o := .cells #[.bool a0_0, .int .u64 a0_1, .string a0_2, .string a0_3] 39 (0, 0)) qq_0 hb); have n2_ := QA (Qea qq_b hb); clear BK117; clear HB; have HO120 := n0_; have BK117 := n1_; have HB := n2_; clear n0_ n1_ n2_; (try clear hb); (try clear hb2); (try clear hk); (try clear hi); (try clear ho0); obtain ⟨Ao8, co8, eo8⟩ := Kd.R_slice HO120.out; subst eo8) | ((with_reducible refine Qgf (f := 96) rfl ?_); refine Qeu (some 15) rfl rfl Tryz.func96 qq_6 rfl #[.slice Ao8 t118.length co8] rfl qq_1 ?_; (with_reducible refine (Qca.calls _ _ t118 t122 _ ?side1 ?side2 A4.out).mono ?_); (case side1 => repeat (first | exact (Kd.R_reads' HO120.out).2.2 | (with_reducible refine Kd.C_alloc ?_ _) | (with_reducible refine Kd.C_drewN ?_ _) | (with_reducible refine Kd.C_drew ?_))); (case side2 => exact (Kd.R_reads' HO120.out).2.1); rintro e w9 ⟨v123, rfl, ho0, hb⟩; refine ⟨_, rfl, ?_⟩; have n0_ := QA (Kd.R_elder' qq_4 (Kd.R_base ho0) hb); have n1_ := QA (Kd.R_lower (Kd.R_new' ho0 (Kd.R_lt qq_4)) (Qdz qq_b)); have n2_ := QA (Qdt (g := gb117) (o := .cells #[.bool a0_0, .int .u64 a0_1, .string a0_2, .string a0_3] 39 (0, 0)) qq_0 hb); have n3_ := QA (Qea qq_b hb); clear HO120; clear BK117; clear HB; have HO120 := n0_; have HO124 := n1_; have BK117 := n2_; have HB := n3_; clear n0_ n1_ n2_ n3_; (try clear hb); (try clear hb2); (try clear hk); (try clear hi); (try clear ho0)))
  go_ret2
  exact ⟨_, by first | rfl | (simp [Qgi, Qgj] <;> rfl) | (simp [*, Qgi, Qgj] <;> rfl), by (with_reducible repeat (first | apply Kd.R_alloc | apply Kd.R_drewN | apply Kd.R_drew)); exact Kd.R_mono HO124.out (fun _ hk => trivial), qq_b⟩
 ·rw [if_neg c3] at H
  have c3b0 : (t121 == 0) = false := beq_eq_false_iff_ne.mpr c3
  have c3b1 : (t121 != 0) = true := bne_iff_ne.mpr c3
  simp only [Option.some.injEq, Prod.mk.injEq] at H
  obtain ⟨rfl, rfl⟩ := H
  go_enter Tryz.func57, Tryz.ntmps57
  go_wp2_with (first | ((with_reducible refine Qef (N := 1) rfl ?_); refine qq_e 1 #[.bool a0_0, .int .u64 a0_1, .string a0_2, .string a0_3] 39 ?_; intro gb117 hg w10 hbox hb; have n0_ := QA (Qea qq_b hb); have n1_ := QA (hbox); have n2_ := QA ((qq_s hg : w.heap.size ≤ gb117)); have n3_ := QA ((qq_s hg : w.heap.size ≤ gb117)); clear HB; have HB := n0_; have BK117 := n1_; have GW117 := n2_; have GE117 := n3_; clear n0_ n1_ n2_ n3_; clear hb hbox hg; have hcz11_0 := qq_c (.bool a0_0) BK117.out 0 rfl; have hcz11_1 := qq_c (.int .u64 a0_1) BK117.out 1 rfl; have hcz11_2 := qq_c (.string a0_2) BK117.out 2 rfl; have hcz11_3 := qq_c (.string a0_3) BK117.out 3 rfl; have hfz11_0 := Qdk BK117.out 0; have hfz11_1 := Qdk BK117.out 1; have hfz11_2 := Qdk BK117.out 2; have hfz11_3 := Qdk BK117.out 3) | ((with_reducible refine Qgf (f := 99) rfl ?_); refine Qeu (some 8) rfl rfl Tryz.func99 qq_6 rfl #[.agg #[.bool a0_0, .int .u64 a0_1, .string a0_2, .string a0_3]] rfl qq_1 ?_; (with_reducible refine (Qci.calls a0_0 a0_1 a0_2 a0_3 t118 t121 _ A2.out).mono ?_); rintro e w12 ⟨v119, rfl, ho0, hb⟩; refine ⟨_, rfl, ?_⟩; have n0_ := QA (Kd.R_lower ho0 (Qdz qq_b)); have n1_ := QA (Qdt (g := gb117) (o := .cells #[.bool a0_0, .int .u64 a0_1, .string a0_2, .string a0_3] 39 (0, 0)) qq_0 hb); have n2_ := QA (Qea qq_b hb); clear BK117; clear HB; have HO120 := n0_; have BK117 := n1_; have HB := n2_; clear n0_ n1_ n2_; (try clear hb); (try clear hb2); (try clear hk); (try clear hi); (try clear ho0)))
  go_ret2
  exact ⟨_, by first | rfl | (simp [Qgi, Qgj] <;> rfl) | (simp [*, Qgi, Qgj] <;> rfl), by first | exact Kd.R_nil _ _ _ _ _ | exact Kd.N_nil _ _ _ _ _ | exact Kd.V_nil _ _ _ _ _ | exact Kd.Q_nil _ _ _ _ _ | exact Kd.S_nil _ _ _ _ _, qq_b⟩
def Qbw.f (a0 : Int) : Option (Int) := some (wrap64 (Int.tdiv (wrap64 ((wrap64 ((mx 0 a0) + 16)) - 1)) 16))
theorem Qbw.calls (a0 : Int) (r : Int) (w : World) (h : Qbw.f a0 = some r) :
  Calls Tryz.prog 183 #[.int .i64 a0] w fun e w' => e = .returned (.int .i64 r) ∧ Below w.heap.size w w' := by
 have HB := QA (Below.refl w.heap.size w)
 have H : (some (wrap64 (Int.tdiv (wrap64 ((wrap64 ((mx 0 a0) + 16)) - 1)) 16))) = some r := h
 clear h
 obtain ⟨ji2, hji2⟩ : ∃ j_ : Int, (mx 0 a0) = j_ := ⟨_, rfl⟩
 replace H : (some (wrap64 (Int.tdiv (wrap64 ((wrap64 ((ji2) + 16)) - 1)) 16))) = some r := by first | (rw [hji2] at H; exact H) | (simp only [hji2] at H ⊢; exact H)
 (try (have hji2l : 0 ≤ ji2 := by (rw [← hji2]; unfold mx; (repeat' split) <;> omega)))
 (try (have hji2m : 0 ≤ ji2 := by omega))
 have hji2_ : (if 0 < a0 then a0 else 0) = ji2 := hji2
 obtain rfl := Option.some.inj H
 go_enter Tryz.func183, Tryz.ntmps183
 go_wp2
 go_ret
 exact ⟨by first | rfl | (simp [Qgi, Qgj] <;> rfl) | (simp only [← hji2]; first | rfl | (simp [Qgi, Qgj] <;> rfl)) | (simp [*, Qgi, Qgj] <;> rfl), qq_b⟩
def Qcb.f (a0 : Int) : Option (Int) := (Qaj.f (wrap64 ((mx 0 a0) + 8))).bind fun t125 => (some (wrap64 (t125 + 1)))
theorem Qcb.calls (a0 : Int) (r : Int) (w : World) (h : Qcb.f a0 = some r) :
  Calls Tryz.prog 226 #[.int .i64 a0] w fun e w' => e = .returned (.int .i64 r) ∧ Below w.heap.size w w' := by
 have HB := QA (Below.refl w.heap.size w)
 have H : ((Qaj.f (wrap64 ((mx 0 a0) + 8))).bind fun t125 => (some (wrap64 (t125 + 1)))) = some r := h
 clear h
 obtain ⟨ji2, hji2⟩ : ∃ j_ : Int, (mx 0 a0) = j_ := ⟨_, rfl⟩
 replace H : ((Qaj.f (wrap64 ((ji2) + 8))).bind fun t125 => (some (wrap64 (t125 + 1)))) = some r := by first | (rw [hji2] at H; exact H) | (simp only [hji2] at H ⊢; exact H)
 (try (have hji2l : 0 ≤ ji2 := by (rw [← hji2]; unfold mx; (repeat' split) <;> omega)))
 (try (have hji2m : 0 ≤ ji2 := by omega))
 have hji2_ : (if 0 < a0 then a0 else 0) = ji2 := hji2
 replace H := Option.bind_eq_some_iff.mp H
 obtain ⟨t125, A30, H⟩ := H
 replace H : (some (wrap64 (t125 + 1))) = some r := H
 have A3 := QA A30
 clear A30
 obtain rfl := Option.some.inj H
 go_enter Tryz.func226, Tryz.ntmps226
 go_wp2_with (first | ((with_reducible refine Qgf (f := 197) rfl ?_); refine Qeu (some 6) rfl rfl Tryz.func197 qq_6 rfl #[.int .i64 (wrap64 ((ji2) + 8))] rfl qq_13 ?_; (with_reducible refine (Qaj.calls (wrap64 ((ji2) + 8)) t125 _ A3.out).mono ?_); rintro e w' ⟨rfl, ⟨nd, rfl⟩⟩; refine ⟨_, rfl, ?_⟩))
 go_ret
 exact ⟨by first | rfl | (simp [Qgi, Qgj] <;> rfl) | (simp only [← hji2]; first | rfl | (simp [Qgi, Qgj] <;> rfl)) | (simp [*, Qgi, Qgj] <;> rfl), qq_b⟩
def Qbx.f (a0 : Int) : Option (Int) := (Qbw.f (mx 0 a0)).bind fun t126 => ((Qcb.f (wrap64 ((wrap64 (9 + (wrap64 (12 * (mx 0 a0))))) + (wrap64 (8 * t126))))).bind fun t127 => (some t127))
theorem Qbx.calls (a0 : Int) (r : Int) (w : World) (h : Qbx.f a0 = some r) :
  Calls Tryz.prog 198 #[.int .i64 a0] w fun e w' => e = .returned (.int .i64 r) ∧ Below w.heap.size w w' := by
 have HB := QA (Below.refl w.heap.size w)
 have H : ((Qbw.f (mx 0 a0)).bind fun t126 => ((Qcb.f (wrap64 ((wrap64 (9 + (wrap64 (12 * (mx 0 a0))))) + (wrap64 (8 * t126))))).bind fun t127 => (some t127))) = some r := h
 clear h
 obtain ⟨ji2, hji2⟩ : ∃ j_ : Int, (mx 0 a0) = j_ := ⟨_, rfl⟩
 replace H : ((Qbw.f (ji2)).bind fun t126 => ((Qcb.f (wrap64 ((wrap64 (9 + (wrap64 (12 * (ji2))))) + (wrap64 (8 * t126))))).bind fun t127 => (some t127))) = some r := by first | (rw [hji2] at H; exact H) | (simp only [hji2] at H ⊢; exact H)
 (try (have hji2l : 0 ≤ ji2 := by (rw [← hji2]; unfold mx; (repeat' split) <;> omega)))
 (try (have hji2m : 0 ≤ ji2 := by omega))
 have hji2_ : (if 0 < a0 then a0 else 0) = ji2 := hji2
 replace H := Option.bind_eq_some_iff.mp H
 obtain ⟨t126, A30, H⟩ := H
 replace H : ((Qcb.f (wrap64 ((wrap64 (9 + (wrap64 (12 * (ji2))))) + (wrap64 (8 * t126))))).bind fun t127 => (some t127)) = some r := H
 have A3 := QA A30
 clear A30
 replace H := Option.bind_eq_some_iff.mp H
 obtain ⟨t127, A40, H⟩ := H
 replace H : (some t127) = some r := H
 have A4 := QA A40
 clear A40
 obtain rfl := Option.some.inj H
 go_enter Tryz.func198, Tryz.ntmps198
 go_wp2_with (first | ((with_reducible refine Qgf (f := 183) rfl ?_); refine Qeu (some 9) rfl rfl Tryz.func183 qq_6 rfl #[.int .i64 ji2] rfl qq_13 ?_; (with_reducible refine (Qbw.calls ji2 t126 _ A3.out).mono ?_); rintro e w5 ⟨rfl, hb⟩; refine ⟨_, rfl, ?_⟩; have n0_ := QA (Qea qq_b hb); clear HB; have HB := n0_; clear n0_; (try clear hb); (try clear hb2); (try clear hk); (try clear hi)) | ((with_reducible refine Qgf (f := 226) rfl ?_); refine Qeu (some 12) rfl rfl Tryz.func226 qq_6 rfl #[.int .i64 (wrap64 ((wrap64 (9 + (wrap64 (12 * (ji2))))) + (wrap64 (8 * t126))))] rfl qq_13 ?_; (with_reducible refine (Qcb.calls (wrap64 ((wrap64 (9 + (wrap64 (12 * (ji2))))) + (wrap64 (8 * t126)))) t127 _ A4.out).mono ?_); rintro e w6 ⟨rfl, hb⟩; refine ⟨_, rfl, ?_⟩; have n0_ := QA (Qea qq_b hb); clear HB; have HB := n0_; clear n0_; (try clear hb); (try clear hb2); (try clear hk); (try clear hi)))
 go_ret
 exact ⟨by first | rfl | (simp [Qgi, Qgj] <;> rfl) | (simp only [← hji2]; first | rfl | (simp [Qgi, Qgj] <;> rfl)) | (simp [*, Qgi, Qgj] <;> rfl), qq_b⟩
end Go.Proofs.YtnnofopfbeklbaaGreat.C
end
