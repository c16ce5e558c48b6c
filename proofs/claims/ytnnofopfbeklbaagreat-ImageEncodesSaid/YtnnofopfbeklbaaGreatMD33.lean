/- Texts of this claim's author and of the print of its functions, merged by merge.py. -/
import Derived.Test.YtnnofopfbeklbaaGreatMD32
import Derived.Test.YtnnofopfbeklbaaGreatMD20
import Derived.Test.YtnnofopfbeklbaaGreatMD09
import Derived.Test.YtnnofopfbeklbaaGreatMD10
import Derived.Test.YtnnofopfbeklbaaGreatMD23
import Derived.Test.YtnnofopfbeklbaaGreatMD17
import Derived.Test.YtnnofopfbeklbaaGreatMD24
import Derived.Test.YtnnofopfbeklbaaGreatMD18
import Derived.Test.YtnnofopfbeklbaaGreatMD03
import Derived.Test.YtnnofopfbeklbaaGreatMD21
set_option linter.unusedVariables false
set_option linter.unusedSimpArgs false
set_option maxHeartbeats 8000000
set_option maxRecDepth 100000
section
namespace Go.Proofs.YtnnofopfbeklbaaGreat.CodecP
open Go.RowKit Go.Proofs.YtnnofopfbeklbaaGreat.C Go.Proofs.YtnnofopfbeklbaaGreatW.PrintWords Go.Proofs.YtnnofopfbeklbaaGreatW.PrintLast Go.Proofs.YtnnofopfbeklbaaGreatW.PrintMore
theorem num2_ref : ∀ (n k : Nat) (x : Int), n ≤ 9 → 0 ≤ x → x < 128 ^ (n + 1) → x < 18446744073709551616 → n + 1 ≤ k → ∃ t, Qat.f k x = some t ∧ bytesOf t = vput n x
 | 0, k, x, hn, h0, h1, h2, hk => by
  obtain ⟨k, rfl⟩ : ∃ m, k = m + 1 := ⟨k - 1, by omega⟩
  have hx : x < 128 := by simpa using h1
  refine ⟨strOfNums [x % 256], ?_, ?_⟩
  ·unfold Qat.f
   rw [if_pos hx]
  ·rw [Qkh (by intro y hy; simp at hy; omega)]
   simp [vput]
   omega
 | n + 1, k, x, hn, h0, h1, h2, hk => by
  obtain ⟨k, rfl⟩ : ∃ m, k = m + 1 := ⟨k - 1, by omega⟩
  by_cases hx : x < 128
  ·refine ⟨strOfNums [x % 256], ?_, ?_⟩
   ·unfold Qat.f
    rw [if_pos hx]
   ·rw [Qkh (by intro y hy; simp at hy; omega)]
    simp [vput, hx]
    omega
  ·have hq : x / 128 < 128 ^ (n + 1) := by
    rw [Int.pow_succ] at h1
    exact Int.ediv_lt_of_lt_mul (by omega) h1
   obtain ⟨t, ht, hb⟩ := num2_ref n k (x / 128) (by omega) (by omega) hq (by omega) (by omega)
   have e1 : IntKind.u64.wrap (Int.tdiv x 128) = x / 128 := by rw [Int.tdiv_eq_ediv_of_nonneg h0, IntWalk.u64_in _ (by omega)]
   have e2 : IntKind.u64.wrap (128 + (Int.tmod x 128)) % 256 = x % 128 + 128 := by rw [Int.tmod_eq_emod_of_nonneg h0, IntWalk.u64_in _ (by omega)]; omega
   have hl := Qij n (x / 128)
   have hts : t.size ≤ n + 1 := by rw [Qkc, hb]; exact hl
   have hy : (strOfNums [x % 128 + 128]).size = 1 := by rw [strOfNums_size]; rfl
   refine ⟨strOfNums [x % 128 + 128] ++ t, ?_, ?_⟩
   ·unfold Qat.f
    rw [if_neg hx, Option.bind_some, e1, e2, ht, Option.bind_some, hy]
    rw [if_pos (by omega)]
   ·rw [Qkg, Qkh (by intro y hy'; simp at hy'; omega), hb]
    simp [vput, hx]
theorem num2 (k : Nat) (x : Int) (h0 : 0 ≤ x) (h1 : x < 18446744073709551616) (hk : 10 ≤ k) : ∃ t, Qat.f k x = some t ∧ bytesOf t = vput 9 x :=
 num2_ref 9 k x (by omega) h0 (by omega) h1 hk
theorem num1_run : ∀ (d k : Nat) (n i : Nat) (x : Int) (out : ByteArray), i + d = n → n ≤ 1000 → 0 ≤ x → x < 18446744073709551616 → out.size ≤ i → d + 1 ≤ k →
  ∃ t, Qar.l0 k x out (n : Int) (i : Int) = some t ∧ bytesOf t = bytesOf out ++ leb x d
 | 0, k, n, i, x, out, h, hn, h0, h1, ho, hk => by
  obtain ⟨k, rfl⟩ : ∃ m, k = m + 1 := ⟨k - 1, by omega⟩
  refine ⟨out, ?_, by simp [leb]⟩
  unfold Qar.l0
  rw [if_neg (by omega)]
 | d + 1, k, n, i, x, out, h, hn, h0, h1, ho, hk => by
  obtain ⟨k, rfl⟩ : ∃ m, k = m + 1 := ⟨k - 1, by omega⟩
  have e1 : (Int.tmod x 256) % 256 = x % 256 := by rw [Int.tmod_eq_emod_of_nonneg h0]; omega
  have e2 : IntKind.u64.wrap (Int.tdiv x 256) = x / 256 := by rw [Int.tdiv_eq_ediv_of_nonneg h0, IntWalk.u64_in _ (by omega)]
  have hy : (strOfNums [x % 256]).size = 1 := by rw [strOfNums_size]; rfl
  obtain ⟨t, ht, hb⟩ := num1_run d k n (i + 1) (x / 256) (out ++ strOfNums [x % 256]) (by omega) hn (by omega) (by omega) (by rw [ByteArray.size_append, hy]; omega) (by omega)
  refine ⟨t, ?_, ?_⟩
  ·unfold Qar.l0
   rw [if_pos (by omega), Option.bind_some, e1, e2, hy, if_pos (by omega), Qkl i (by omega)]
   exact ht
  ·rw [hb, Qkg, Qkh (by intro y hy'; simp at hy'; omega)]
   simp [leb]
theorem num1 (k n : Nat) (x : Int) (hn : n ≤ 1000) (h0 : 0 ≤ x) (h1 : x < 18446744073709551616) (hk : n + 1 ≤ k) : ∃ t, Qar.f k x (n : Int) = some t ∧ bytesOf t = leb x n := by
 obtain ⟨t, ht, hb⟩ := num1_run n k n 0 x (⟨#[]⟩ : ByteArray) (by omega) hn h0 h1 (by decide) hk
 exact ⟨t, ht, by rw [hb]; rfl⟩
theorem text2 (k : Nat) (s : ByteArray) (hs : s.size ≤ 70368744177664) (hk : 10 ≤ k) : ∃ t, Qau.f k s = some t ∧ bytesOf t = vput 9 s.size ++ bytesOf s ∧ t.size ≤ s.size + 10 := by
 obtain ⟨t, ht, hb⟩ := num2 k (s.size : Int) (by omega) (by omega) hk
 have hl := Qij 9 (s.size : Int)
 have hts : t.size ≤ 10 := by rw [Qkc, hb]; omega
 refine ⟨t ++ s, ?_, by rw [Qkg, hb], by rw [ByteArray.size_append]; omega⟩
 unfold Qau.f
 rw [if_pos hs, ht, Option.bind_some, if_pos (by omega)]
theorem body_ref (k : Nat) (d : Bool) (s : Int) (key v : ByteArray) (hs0 : 0 ≤ s) (hs1 : s < 18446744073709551616) (hk1 : key.size ≤ 70368744177664) (hv1 : v.size ≤ 70368744177664) (hk : 10 ≤ k) :
  ∃ t, Qbb.f k d s key v = some t ∧ bytesOf t = Qip d s key v ∧ t.size ≤ key.size + v.size + 31 := by
 obtain ⟨t1, h1, b1⟩ := num2 k s hs0 hs1 hk
 obtain ⟨t2, h2, b2, z2⟩ := text2 k key hk1 hk
 obtain ⟨t3, h3, b3, z3⟩ := text2 k v hv1 hk
 have hl := Qij 9 s
 have hz1 : t1.size ≤ 10 := by rw [Qkc, b1]; omega
 cases d with
 | true =>
  have hc : (⟨#[3]⟩ : ByteArray).size = 1 := rfl
  refine ⟨((⟨#[3]⟩ : ByteArray) ++ t1) ++ t2, ?_, ?_, ?_⟩
  ·unfold Qbb.f
   rw [if_pos rfl, h1, Option.bind_some, if_pos (by omega), h2, Option.bind_some, if_pos (by rw [ByteArray.size_append, hc]; omega)]
  ·rw [Qkg, Qkg, b1, b2, show bytesOf (⟨#[3]⟩ : ByteArray) = [3] from rfl]
   simp [Qip]
  ·rw [ByteArray.size_append, ByteArray.size_append, hc]; omega
 | false =>
  have hc : (⟨#[2]⟩ : ByteArray).size = 1 := rfl
  refine ⟨(((⟨#[2]⟩ : ByteArray) ++ t1) ++ t2) ++ t3, ?_, ?_, ?_⟩
  ·unfold Qbb.f
   rw [if_neg (by decide), h1, Option.bind_some, if_pos (by omega), h2, Option.bind_some, if_pos (by rw [ByteArray.size_append, hc]; omega), h3, Option.bind_some, if_pos (by rw [ByteArray.size_append, ByteArray.size_append, hc]; omega)]
  ·rw [Qkg, Qkg, Qkg, b1, b2, b3, show bytesOf (⟨#[2]⟩ : ByteArray) = [2] from rfl]
   simp [Qip]
  ·rw [ByteArray.size_append, ByteArray.size_append, ByteArray.size_append, hc]; omega
theorem seal_ref (k : Nat) (s : ByteArray) (hs : s.size ≤ 562949953421312) (hk : 2 * s.size + 200 ≤ k) : ∃ t, Qbi.f k s = some t ∧ bytesOf t = Qiw (bytesOf s) := by
 have hr := Qiv 0 (bytesOf s)
 obtain ⟨t1, h1, b1⟩ := num1 k 8 (Qiu 0 (bytesOf s)) (by omega) hr.1 hr.2 (by omega)
 have hz1 : t1.size = 8 := by rw [Qkc, b1, Qhg]
 obtain ⟨t2, h2, b2⟩ := stuff_ref (s ++ t1) k qq_18 qq_18
 have hl := Qix _ (bytesOf (s ++ t1)) (Nat.le_refl _)
 have hz2 : t2.size ≤ 2 * s.size + 17 := by
  rw [Qkc t2, b2]
  rw [Qdh, ByteArray.size_append] at hl
  omega
 refine ⟨t2 ++ (⟨#[0]⟩ : ByteArray), ?_, ?_⟩
 ·unfold Qbi.f
  rw [hash_ref 0 s k ⟨by omega, by omega⟩ (by omega) (by omega), Option.bind_some, show (8 : Int) = ((8 : Nat) : Int) from rfl, h1, Option.bind_some, if_pos (by omega), h2, Option.bind_some, if_pos (by omega)]
 ·rw [Qkg, b2, Qkg, b1]
  rfl
theorem Qko (k : Nat) (d : Bool) (s : Int) (key v : ByteArray) (hs0 : 0 ≤ s) (hs1 : s < 18446744073709551616) (hk1 : key.size ≤ 35184372088832) (hv1 : v.size ≤ 35184372088832) (hk : 2 * (key.size + v.size) + 300 ≤ k) :
  ∃ t, Qbh.f k d s key v = some t ∧ bytesOf t = Qiw (Qip d s key v) := by
 obtain ⟨t1, h1, b1, z1⟩ := body_ref k d s key v hs0 hs1 (by omega) (by omega) (by omega)
 obtain ⟨t2, h2, b2⟩ := seal_ref k t1 (by omega) (by omega)
 refine ⟨t2, ?_, by rw [b2, b1]⟩
 unfold Qbh.f
 rw [h1, Option.bind_some, h2, Option.bind_some]
theorem head_ref (k : Nat) (e s n : Int) (he0 : 0 ≤ e) (he1 : e < 256) (hs0 : 0 ≤ s) (hs1 : s < 4294967296) (hn0 : 0 ≤ n) (hn1 : n < 18446744073709551616) (hk : 300 ≤ k) :
  ∃ t, Qbg.f k e s n = some t ∧ bytesOf t = headL e s n := by
 obtain ⟨t1, h1, b1⟩ := num2 k s hs0 (by omega) (by omega)
 obtain ⟨t2, h2, b2⟩ := num2 k n hn0 hn1 (by omega)
 have hl1 := Qij 9 s
 have hl2 := Qij 9 n
 have hz1 : t1.size ≤ 10 := by rw [Qkc, b1]; omega
 have hz2 : t2.size ≤ 10 := by rw [Qkc, b2]; omega
 have hy : (strOfNums [e]).size = 1 := by rw [strOfNums_size]; rfl
 have hc : (⟨#[1, 2]⟩ : ByteArray).size = 2 := rfl
 have hbs : bytesOf ((((⟨#[1, 2]⟩ : ByteArray) ++ strOfNums [e]) ++ t1) ++ t2) = [1, 2, e] ++ vput 9 s ++ vput 9 n := by
  rw [Qkg, Qkg, Qkg, b1, b2, Qkh (by intro y hy'; simp at hy'; omega)]
  rfl
 obtain ⟨t3, h3, b3⟩ := seal_ref k ((((⟨#[1, 2]⟩ : ByteArray) ++ strOfNums [e]) ++ t1) ++ t2) (by rw [ByteArray.size_append, ByteArray.size_append, ByteArray.size_append, hy, hc]; omega) (by rw [ByteArray.size_append, ByteArray.size_append, ByteArray.size_append, hy, hc]; omega)
 refine ⟨t3, ?_, by rw [b3, hbs]; rfl⟩
 unfold Qbg.f
 rw [Option.bind_some, hy, if_pos (by omega), IntWalk.u64_in s (by omega), h1, Option.bind_some, if_pos (by rw [ByteArray.size_append, hy, hc]; omega), h2, Option.bind_some, if_pos (by rw [ByteArray.size_append, ByteArray.size_append, hy, hc]; omega), h3, Option.bind_some]
theorem Qkp : ∀ (n : Nat) (b : List Int), b.length ≤ n → b.length < 254 → (Qid b).length = b.length + 1
 | n, b, hn, h => by
  rcases Int.lt_or_le (ixOf (b.take 254) 0) 0 with h0 | h0
  ·rw [Qii h0 (by omega)]
   simp
  ·obtain ⟨p, hp⟩ := Int.eq_ofNat_of_zero_le h0
   have h1 := (Qib (b.take 254) 0).2
   rw [List.length_take, hp] at h1
   rw [Qig hp]
   match n, hn with
   | 0, hn => omega
   | n + 1, hn =>
    have ih := Qkp n (b.drop (p + 1)) qq_15 qq_15
    rw [List.length_cons, List.length_append, ih, List.length_take, List.length_drop]
    omega
theorem vput_mono : ∀ (n : Nat) (x y : Int), 0 ≤ x → x ≤ y → (vput n x).length ≤ (vput n y).length
 | 0, _, _, _, _ => by simp [vput]
 | n + 1, x, y, h0, h => by
  have ih := vput_mono n (x / 128) (y / 128) (by omega) (by omega)
  unfold vput
  by_cases hy : y < 128
  ·rw [if_pos hy, if_pos (by omega)]
   simp
  ·rw [if_neg hy]
   by_cases hx : x < 128
   ·rw [if_pos hx]; simp
   ·rw [if_neg hx]; simp; omega
def Qkq (e s n : Int) : Int := ((headL e s n).length : Int)
theorem headN_eq (e s n : Int) : Qkq e s n = 3 + (vput 9 s).length + (vput 9 n).length + 10 := by
 unfold Qkq headL Qiw
 have h1 := Qij 9 s
 have h2 := Qij 9 n
 have hl : ([1, 2, e] ++ vput 9 s ++ vput 9 n ++ leb (Qiu 0 ([1, 2, e] ++ vput 9 s ++ vput 9 n)) 8).length = 3 + (vput 9 s).length + (vput 9 n).length + 8 := by
  rw [List.length_append, List.length_append, List.length_append, Qhg]
  rfl
 rw [List.length_append, Qkp _ _ (Nat.le_refl _) (by rw [hl]; omega), hl]
 simp
 omega
theorem Qkr (e s n : Int) : 0 ≤ Qkq e s n ∧ Qkq e s n ≤ 100 := by
 rw [headN_eq]
 have h1 := Qij 9 s
 have h2 := Qij 9 n
 omega
theorem headN_mono (e s : Int) {n m : Int} (h0 : 0 ≤ n) (h : n ≤ m) : Qkq e s n ≤ Qkq e s m := by
 rw [headN_eq, headN_eq]
 have := vput_mono 9 n m h0 h
 omega
def Qks (n : Int) : Int := 9 + 12 * n + 8 * ((n + 15) / 16) + 8 + 1 + (9 + 12 * n + 8 * ((n + 15) / 16) + 8 - 1) / 254 + 1
def szN (e : Int) : Int := 2 ^ e.toNat
def Good (e s : Int) : Prop := 12 ≤ e ∧ e ≤ 24 ∧ 1 ≤ s ∧ s ≤ 65536
theorem Qkt {e s : Int} (h : Good e s) : Qak.f e s = some 0 := by
 obtain ⟨h1, h2, h3, h4⟩ := h
 unfold Qak.f
 rw [if_neg (by omega), if_neg (by omega), if_neg (by omega), if_neg (by omega)]
theorem check_bad {e s : Int} (h : ¬ Good e s) : Qak.f e s = some 1 := by
 unfold Qak.f
 by_cases h1 : e < 12
 ·rw [if_pos h1]
 by_cases h2 : e > 24
 ·rw [if_neg h1, if_pos h2]
 by_cases h3 : s < 1
 ·rw [if_neg h1, if_neg h2, if_pos h3]
 by_cases h4 : s > 65536
 ·rw [if_neg h1, if_neg h2, if_neg h3, if_pos h4]
 ·exact absurd ⟨by omega, by omega, by omega, by omega⟩ h
theorem may_good {e s : Int} (h : Good e s) : Qbe.f e s = some true := by
 obtain ⟨h1, h2, h3, h4⟩ := h
 unfold Qbe.f
 rw [if_pos (by omega), if_pos (by omega), if_pos (by omega)]
 simp [h4]
theorem may_bad {e s : Int} (h : ¬ Good e s) : Qbe.f e s = some false := by
 unfold Qbe.f
 by_cases h1 : e ≥ 12
 ·rw [if_pos h1]
  by_cases h2 : e ≤ 24
  ·rw [if_pos h2]
   by_cases h3 : s ≥ 1
   ·rw [if_pos h3]
    have h4 : ¬ s ≤ 65536 := fun h4 => h ⟨h1, h2, h3, h4⟩
    simp [h4]
   ·rw [if_neg h3]
  ·rw [if_neg h2]
 ·rw [if_neg h1]
theorem Qku {e : Int} (h1 : 12 ≤ e) (h2 : e ≤ 24) : 4096 ≤ szN e ∧ szN e ≤ 16777216 := by
 unfold szN
 obtain ⟨n, rfl⟩ := Int.eq_ofNat_of_zero_le (show 0 ≤ e by omega)
 rw [Int.toNat_natCast]
 have h3 : (2 : Nat) ^ 12 ≤ 2 ^ n := Nat.pow_le_pow_right (by omega) (by omega)
 have h4 : (2 : Nat) ^ n ≤ 2 ^ 24 := Nat.pow_le_pow_right (by omega) (by omega)
 have h5 : ((2 ^ n : Nat) : Int) = (2 : Int) ^ n := by rw [Int.natCast_pow]; rfl
 rw [← h5]
 omega
theorem Qkv {e s : Int} (h : Good e s) : Qal.f e s = some (szN e) := by
 have hr := Qku h.1 h.2.1
 unfold Qal.f
 rw [Qkt h, Option.bind_some, if_pos rfl, if_pos (by have := h.1; omega)]
 congr 1
 unfold shl
 have hm : min e.toNat IntKind.i64.bits = e.toNat := by simp [IntKind.bits]; have := h.2.1; omega
 rw [hm, Int.one_mul]
 exact IntWalk.i64_in _ (by unfold szN at hr; omega)
theorem rsize_run : ∀ (d i k : Nat) (e : Int), (i : Int) + d = e → e ≤ 24 → d + 1 ≤ k → Qbf.l0 k (2 ^ i) e (i : Int) = some (szN e)
 | 0, i, k, e, h, he, hk => by
  obtain ⟨k, rfl⟩ : ∃ m, k = m + 1 := ⟨k - 1, by omega⟩
  unfold Qbf.l0
  rw [if_neg (by omega)]
  unfold szN
  rw [show e.toNat = i by omega]
 | d + 1, i, k, e, h, he, hk => by
  obtain ⟨k, rfl⟩ : ∃ m, k = m + 1 := ⟨k - 1, by omega⟩
  have ih := rsize_run d (i + 1) k e (by omega) he (by omega)
  have hp : (2 : Nat) ^ i ≤ 2 ^ 24 := Nat.pow_le_pow_right (by omega) (by omega)
  have hp0 := Nat.two_pow_pos i
  have h5 : ((2 ^ i : Nat) : Int) = (2 : Int) ^ i := by rw [Int.natCast_pow]; rfl
  unfold Qbf.l0
  rw [if_pos (by omega), ← h5, IntWalk.u64_in _ (by omega), show (((i : Nat) : Int) + 1) % 256 = ((i + 1 : Nat) : Int) by omega, h5, show 2 * (2 : Int) ^ i = 2 ^ (i + 1) by rw [Int.pow_succ]; omega]
  exact ih
theorem Qkw {e s : Int} (h : Good e s) (k : Nat) (hk : 30 ≤ k) : Qbf.f k e s = some (szN e) := by
 have := rsize_run e.toNat 0 k e (by have := h.1; omega) h.2.1 (by have := h.2.1; omega)
 exact this
theorem most_prog (c : Int) (h0 : 0 ≤ c) (h1 : c ≤ 16777216) : Qcc.f c = some (Qks c) := by
 have hm : mx 0 c = c := by unfold mx; split <;> omega
 have hf : Qcb.f c = some ((c + 15) / 16) := by
  unfold Qcb.f
  rw [hm]
  have e1 : wrap64 ((wrap64 (c + 16)) - 1) = c + 15 := by unfold wrap64; omega
  rw [e1, Int.tdiv_eq_ediv_of_nonneg (by omega)]
  congr 1
  unfold wrap64
  omega
 have ha : wrap64 ((wrap64 (9 + (wrap64 (12 * c)))) + (wrap64 (8 * ((c + 15) / 16)))) = 9 + 12 * c + 8 * ((c + 15) / 16) := by unfold wrap64; omega
 unfold Qcc.f
 rw [hm, hf, Option.bind_some, ha]
 obtain ⟨m, hmm⟩ : ∃ m, m = 9 + 12 * c + 8 * ((c + 15) / 16) := ⟨_, rfl⟩
 have hm0 : 0 ≤ m := by omega
 have hm1 : m ≤ 1000000000 := by omega
 unfold Qks
 rw [← hmm]
 clear hmm ha hf hm
 have hx : mx 0 m = m := by unfold mx; split <;> omega
 unfold Qcg.f Qaj.f
 rw [hx]
 have e1 : wrap64 (m + 8) = m + 8 := by unfold wrap64; omega
 rw [e1, if_neg (by omega)]
 have e2 : wrap64 (m + 8 - 1) = m + 8 - 1 := by unfold wrap64; omega
 rw [e2, Int.tdiv_eq_ediv_of_nonneg (by omega), Option.bind_some, Option.bind_some]
 congr 1
 unfold wrap64
 omega
theorem most_ref (c : Int) (h0 : 0 ≤ c) (h1 : c ≤ 16777216) : Qbp.f c = some (Qks c) := by
 have e0 : wrap64 (Int.tdiv (wrap64 (c + 15)) 16) = (c + 15) / 16 := by
  have e1 : wrap64 (c + 15) = c + 15 := by unfold wrap64; omega
  rw [e1, Int.tdiv_eq_ediv_of_nonneg (by omega)]
  unfold wrap64
  omega
 have ha : wrap64 ((wrap64 ((wrap64 (9 + (wrap64 (12 * c)))) + (wrap64 (8 * ((c + 15) / 16))))) + 8) = 9 + 12 * c + 8 * ((c + 15) / 16) + 8 := by unfold wrap64; omega
 unfold Qbp.f Qks
 rw [e0, ha]
 obtain ⟨m, hmm⟩ : ∃ m, m = 9 + 12 * c + 8 * ((c + 15) / 16) + 8 := ⟨_, rfl⟩
 have hm0 : 8 ≤ m := by omega
 have hm1 : m ≤ 1000000000 := by omega
 rw [← hmm]
 clear hmm ha e0
 have e2 : wrap64 (m - 1) = m - 1 := by unfold wrap64; omega
 rw [e2, Int.tdiv_eq_ediv_of_nonneg (by omega)]
 congr 1
 unfold wrap64
 omega
theorem Qkx (c : Int) (h0 : 0 ≤ c) (h1 : c ≤ 16777216) : 12 * c ≤ Qks c ∧ Qks c ≤ 1000000000 := by unfold Qks; omega
def Qky (e u c x : Int) : Bool := decide (1 ≤ x ∧ u + x + Qks (c + 1) ≤ szN e)
theorem Qkz {e s : Int} (h : Good e s) (n u c x : Int) (hu0 : 0 ≤ u) (hu1 : u ≤ 16777216) (hc0 : 0 ≤ c) (hc1 : c ≤ 8388608) (hx1 : x ≤ 1152921504606846976) : Qcm.f e s n u c x = some (Qky e u c x) := by
 have hz := Qku h.1 h.2.1
 have hm := Qkx (c + 1) (by omega) (by omega)
 unfold Qcm.f Qky
 by_cases hx : x ≥ 1
 ·rw [if_pos hx]
  unfold Qcn.f
  rw [Qkv h, Option.bind_some, show wrap64 (c + 1) = c + 1 by unfold wrap64; omega, most_prog (c + 1) (by omega) (by omega), Option.bind_some, Option.bind_some]
  congr 1
  have e1 : wrap64 (wrap64 (szN e - u) - Qks (c + 1)) = szN e - u - Qks (c + 1) := by unfold wrap64; omega
  rw [e1]
  unfold mx
  rw [decide_eq_decide]
  split <;> omega
 ·rw [if_neg hx]
  congr 1
  symm
  rw [decide_eq_false_iff_not]
  omega
theorem fits_ref {e s : Int} (h : Good e s) (k : Nat) (n u c x : Int) (hk : 40 ≤ k) (hu0 : 0 ≤ u) (hu1 : u ≤ 16777216) (hc0 : 0 ≤ c) (hc1 : c ≤ 8388608) (hx1 : x ≤ 1152921504606846976) : Qbs.f k e s n u c x = some (Qky e u c x) := by
 obtain ⟨k, rfl⟩ : ∃ m, k = m + 1 := ⟨k - 1, by omega⟩
 have hz := Qku h.1 h.2.1
 have hm := Qkx (c + 1) (by omega) (by omega)
 have hj : ∀ b, Qbs.j0 (k + 1) x b e s n u c = if b = true then some false else (Qbp.f (wrap64 (c + 1))).bind fun t => (Qbf.f k e s).bind fun z => some (decide ((IntKind.u64.wrap (wrap64 ((wrap64 (u + x)) + t))) ≤ z)) := fun _ => rfl
 unfold Qbs.f Qky
 by_cases hx : x < 1
 ·rw [if_pos hx, hj, if_pos rfl]
  congr 1
  symm
  rw [decide_eq_false_iff_not]
  omega
 ·rw [if_neg hx, Qkw h (k + 1) (by omega), Option.bind_some, hj]
  rw [show IntKind.u64.wrap x = x from IntWalk.u64_in _ (by omega)]
  by_cases hb : x > szN e
  ·rw [if_pos (by simpa using hb)]
   congr 1
   symm
   rw [decide_eq_false_iff_not]
   omega
  ·rw [if_neg (by simpa using hb), show wrap64 (c + 1) = c + 1 by unfold wrap64; omega, most_ref (c + 1) (by omega) (by omega), Option.bind_some, Qkw h k (by omega), Option.bind_some]
   congr 1
   have e1 : wrap64 (wrap64 (u + x) + Qks (c + 1)) = u + x + Qks (c + 1) := by unfold wrap64; omega
   rw [e1, IntWalk.u64_in _ (by omega), decide_eq_decide]
   omega
theorem Qla {e u c x : Int} (h : Qky e u c x = true) : 1 ≤ x ∧ u + x + Qks (c + 1) ≤ szN e := by simpa [Qky] using h
theorem Qlb {e s : Int} (h : Good e s) (n u c x : Int) (hu0 : 0 ≤ u) (hu1 : u ≤ 16777216) (hc0 : 0 ≤ c) (hc1 : c ≤ 8388608) (hx1 : x ≤ 1152921504606846976) (hf : Qky e u c x = true) : Qco.f e s n u c x = some (e, s, n, u + x, c + 1, 0) := by
 have hz := Qku h.1 h.2.1
 have hm := Qkx (c + 1) (by omega) (by omega)
 obtain ⟨f1, f2⟩ := Qla hf
 unfold Qco.f
 rw [Qkz h n u c x hu0 hu1 hc0 hc1 hx1, Option.bind_some, hf, if_pos rfl, show wrap64 (u + x) = u + x by unfold wrap64; omega, show wrap64 (c + 1) = c + 1 by unfold wrap64; omega]
theorem take_ref (e s n u c x : Int) (hu0 : 0 ≤ u) (hu1 : u ≤ 16777216) (hc0 : 0 ≤ c) (hc1 : c ≤ 8388608) (hx0 : 0 ≤ x) (hx1 : x ≤ 16777216) : Qbu.f e s n u c x = some (e, s, n, u + x, c + 1) := by
 unfold Qbu.f
 rw [show wrap64 (u + x) = u + x by unfold wrap64; omega, show wrap64 (c + 1) = c + 1 by unfold wrap64; omega]
theorem Qlc {e s : Int} (h : Good e s) (n : Int) (h0 : 0 ≤ n) (h1 : n < s) : Qcd.f e s n = some (headL e s n, 0) := by
 obtain ⟨a, b, c, d⟩ := h
 unfold Qcd.f Qch.f
 rw [Qkt ⟨a, b, c, d⟩, Option.bind_some, if_pos rfl, if_neg (by omega), Option.bind_some, if_pos rfl, if_pos ⟨by omega, by omega, by omega, by omega, by omega, by omega⟩]
theorem Qld {e s : Int} (h : Good e s) (n : Int) (h0 : 0 ≤ n) (h1 : n < s) : Qck.f e s n = some (e, s, n, Qkq e s n, 0, 0) := by
 unfold Qck.f
 rw [Qlc h n h0 h1, Option.bind_some, if_pos rfl]
 rfl
theorem empty_bad {e s : Int} (h : Good e s) (n : Int) (h1 : s ≤ n) : Qck.f e s n = some (0, 0, 0, 0, 0, 1) := by
 unfold Qck.f Qcd.f Qch.f
 rw [Qkt h, Option.bind_some, if_pos rfl, if_pos (by omega), Option.bind_some, if_neg (by decide), Option.bind_some, if_neg (by decide)]
theorem Qle {e s : Int} (h : Good e s) (k : Nat) (n : Int) (h0 : 0 ≤ n) (h1 : n < s) (hk : 300 ≤ k) : Qbr.f k e s n = some (e, s, n, Qkq e s n, 0) := by
 obtain ⟨a, b, c, d⟩ := h
 obtain ⟨t, ht, hb⟩ := head_ref k e s n (by omega) (by omega) (by omega) (by omega) h0 (by omega) hk
 unfold Qbr.f
 rw [ht, Option.bind_some, Qkc, hb]
 rfl
def Qlf (e s : Int) : List Int → List Int → Int → Int → Int → List Int × Int
 | [], out, _, _, _ => (out, 0)
 | x :: t, out, n, u, c =>
  if Qky e (Qkq e s (s - 1)) 0 x = false then ([], 6)
  else if Qky e u c x = true then Qlf e s t (out ++ [n]) n (u + x) (c + 1)
  else if n + 1 < s then Qlf e s t (out ++ [n + 1]) (n + 1) (Qkq e s (n + 1) + x) 1
  else ([], 7)
theorem Qlg {e s : Int} (h : Good e s) {n x : Int} (h0 : 0 ≤ n) (h1 : n ≤ s - 1) (hf : Qky e (Qkq e s (s - 1)) 0 x = true) : Qky e (Qkq e s n) 0 x = true := by
 obtain ⟨f1, f2⟩ := Qla hf
 have := headN_mono e s h0 h1
 simp only [Qky, decide_eq_true_eq]
 omega
theorem rd_drop {l : List Int} {i : Nat} (h : i < l.length) : l.drop i = rd l (i : Int) :: l.drop (i + 1) := by rw [List.drop_eq_getElem_cons h, Qka h]
theorem Qlh {e s : Int} (h : Good e s) {u c x : Int} (hc0 : 0 ≤ c) (hc1 : c ≤ 8388608) (hu0 : 0 ≤ u) (hf : Qky e u c x = true) : 0 ≤ u + x ∧ u + x ≤ 16777216 ∧ 0 ≤ c + 1 ∧ c + 1 ≤ 8388608 := by
 have hz := Qku h.1 h.2.1
 have hm := Qkx (c + 1) (by omega) (by omega)
 obtain ⟨f1, f2⟩ := Qla hf
 omega
theorem Qli {e s : Int} (h : Good e s) (l : List Int) (hl : l.length ≤ 1000000) (hx : ∀ x ∈ l, x ≤ 1152921504606846976) : ∀ (d i k : Nat) (out : List Int) (n u c : Int), i + d = l.length → out.length = i → 0 ≤ n → n < s → 0 ≤ u → u ≤ 16777216 → 0 ≤ c → c ≤ 8388608 → d + 1 ≤ k →
  Qcl.l0 k out l (l.length : Int) (i : Int) e s e s n u c e s (s - 1) (Qkq e s (s - 1)) 0 = some (Qlf e s (l.drop i) out n u c)
 | 0, i, k, out, n, u, c, hi, ho, hn0, hn1, hu0, hu1, hc0, hc1, hk => by
  obtain ⟨k, rfl⟩ : ∃ m, k = m + 1 := ⟨k - 1, by omega⟩
  rw [List.drop_of_length_le (by omega)]
  unfold Qcl.l0
  rw [if_neg (by omega)]
  rfl
 | d + 1, i, k, out, n, u, c, hi, ho, hn0, hn1, hu0, hu1, hc0, hc1, hk => by
  obtain ⟨k, rfl⟩ : ∃ m, k = m + 1 := ⟨k - 1, by omega⟩
  have hg := h
  obtain ⟨a1, a2, a3, a4⟩ := h
  have hil : i < l.length := by omega
  have hxi : rd l (i : Int) ≤ 1152921504606846976 := by rw [Qka hil]; exact hx _ (List.getElem_mem hil)
  have hH := Qkr e s (s - 1)
  rw [rd_drop hil]
  unfold Qcl.l0
  rw [if_pos (by omega), if_pos (by omega), if_pos (by omega), Qkl i (by omega)]
  generalize hxx : rd l (i : Int) = x at *
  rw [Qkz hg (s - 1) (Qkq e s (s - 1)) 0 x hH.1 (by omega) (by omega) (by omega) hxi, Option.bind_some]
  unfold Qlf
  by_cases hf : Qky e (Qkq e s (s - 1)) 0 x = false
  ·rw [hf, if_neg (by decide), if_pos rfl]
  ·have hft : Qky e (Qkq e s (s - 1)) 0 x = true := by simpa using hf
   rw [if_neg hf, if_pos hft, Qkz hg n u c x hu0 hu1 hc0 hc1 hxi, Option.bind_some]
   by_cases hq : Qky e u c x = true
   ·have haf := Qlh hg hc0 hc1 hu0 hq
    rw [if_pos hq, if_pos hq, Qlb hg n u c x hu0 hu1 hc0 hc1 hxi hq, Option.bind_some, if_pos (by omega)]
    exact Qli hg l hl hx d (i + 1) k (out ++ [n]) n (u + x) (c + 1) (by omega) (by rw [List.length_append, ho]; rfl) hn0 hn1 haf.1 haf.2.1 haf.2.2.1 haf.2.2.2 (by omega)
   ·rw [if_neg hq, if_neg hq, show (n + 1) % 4294967296 = n + 1 by omega]
    by_cases hs : n + 1 < s
    ·have hfn := Qlg hg (show 0 ≤ n + 1 by omega) (by omega) hft
     have hHn := Qkr e s (n + 1)
     have haf := Qlh hg (Int.le_refl 0) (by omega) hHn.1 hfn
     rw [if_pos hs, Qld hg (n + 1) (by omega) hs, Option.bind_some, if_pos rfl, Qlb hg (n + 1) (Qkq e s (n + 1)) 0 x hHn.1 (by omega) (by omega) (by omega) hxi hfn, Option.bind_some, if_pos (by omega)]
     exact Qli hg l hl hx d (i + 1) k (out ++ [n + 1]) (n + 1) (Qkq e s (n + 1) + x) 1 (by omega) (by rw [List.length_append, ho]; rfl) (by omega) hs haf.1 haf.2.1 (by omega) (by omega) (by omega)
    ·rw [if_neg hs, empty_bad hg (n + 1) (by omega), Option.bind_some, if_neg (by decide)]
theorem plan_prog {e s : Int} (h : Good e s) (l : List Int) (k : Nat) (hl : l.length ≤ 1000000) (hx : ∀ x ∈ l, x ≤ 1152921504606846976) (hk : l.length + 1 ≤ k) : Qcl.f k e s l = some (Qlf e s l [] 0 (Qkq e s 0) 0) := by
 have hg := h
 obtain ⟨a1, a2, a3, a4⟩ := h
 have hH := Qkr e s 0
 unfold Qcl.f
 rw [Qld hg 0 (by omega) (by omega), Option.bind_some, if_pos rfl, show (s - 1) % 4294967296 = s - 1 by omega, Qld hg (s - 1) (by omega) (by omega), Option.bind_some]
 exact Qli hg l hl hx l.length 0 k [] 0 (Qkq e s 0) 0 (by omega) rfl (by omega) (by omega) hH.1 (by omega) (by omega) (by omega) hk
theorem Qlj {e s : Int} (h : Good e s) (l : List Int) (hl : l.length ≤ 1000000) (hx : ∀ x ∈ l, x ≤ 1152921504606846976) : ∀ (d i k : Nat) (out : List Int) (n u c : Int), i + d = l.length → out.length = i → 0 ≤ n → n < s → 0 ≤ u → u ≤ 16777216 → 0 ≤ c → c ≤ 8388608 → d + 400 ≤ k →
  Qbt.l0 k out l (l.length : Int) (i : Int) e s e s n u c e s (s - 1) (Qkq e s (s - 1)) 0 = some (Qlf e s (l.drop i) out n u c)
 | 0, i, k, out, n, u, c, hi, ho, hn0, hn1, hu0, hu1, hc0, hc1, hk => by
  obtain ⟨k, rfl⟩ : ∃ m, k = m + 1 := ⟨k - 1, by omega⟩
  rw [List.drop_of_length_le (by omega)]
  unfold Qbt.l0
  rw [if_neg (by omega)]
  rfl
 | d + 1, i, k, out, n, u, c, hi, ho, hn0, hn1, hu0, hu1, hc0, hc1, hk => by
  obtain ⟨k, rfl⟩ : ∃ m, k = m + 1 := ⟨k - 1, by omega⟩
  have hg := h
  obtain ⟨a1, a2, a3, a4⟩ := h
  have hil : i < l.length := by omega
  have hxi : rd l (i : Int) ≤ 1152921504606846976 := by rw [Qka hil]; exact hx _ (List.getElem_mem hil)
  have hH := Qkr e s (s - 1)
  have hz := Qku a1 a2
  rw [rd_drop hil]
  unfold Qbt.l0
  rw [if_pos (by omega), if_pos (by omega), if_pos (by omega), Qkl i (by omega)]
  generalize hxx : rd l (i : Int) = x at *
  rw [fits_ref hg k (s - 1) (Qkq e s (s - 1)) 0 x (by omega) hH.1 (by omega) (by omega) (by omega) hxi, Option.bind_some]
  unfold Qlf
  by_cases hf : Qky e (Qkq e s (s - 1)) 0 x = false
  ·rw [hf, if_neg (by decide), if_pos rfl]
  ·have hft : Qky e (Qkq e s (s - 1)) 0 x = true := by simpa using hf
   have hx16 : 0 ≤ x ∧ x ≤ 16777216 := by
    have h1 := Qla hft
    have h2 := Qkx (0 + 1) (by omega) (by omega)
    omega
   rw [if_neg hf, if_pos hft, fits_ref hg k n u c x (by omega) hu0 hu1 hc0 hc1 hxi, Option.bind_some]
   by_cases hq : Qky e u c x = true
   ·have haf := Qlh hg hc0 hc1 hu0 hq
    rw [if_pos hq, if_pos hq, take_ref e s n u c x hu0 hu1 hc0 hc1 hx16.1 hx16.2, Option.bind_some, if_pos (by omega)]
    exact Qlj hg l hl hx d (i + 1) k (out ++ [n]) n (u + x) (c + 1) (by omega) (by rw [List.length_append, ho]; rfl) hn0 hn1 haf.1 haf.2.1 haf.2.2.1 haf.2.2.2 (by omega)
   ·rw [if_neg hq, if_neg hq, IntWalk.u64_in (n + 1) (by omega), IntWalk.u64_in s (by omega)]
    by_cases hs : n + 1 < s
    ·have hfn := Qlg hg (show 0 ≤ n + 1 by omega) (by omega) hft
     have hHn := Qkr e s (n + 1)
     have haf := Qlh hg (Int.le_refl 0) (by omega) hHn.1 hfn
     rw [if_pos hs, if_neg (by omega), Qle hg k (n + 1) (by omega) hs (by omega), Option.bind_some, take_ref e s (n + 1) (Qkq e s (n + 1)) 0 x hHn.1 (by omega) (by omega) (by omega) hx16.1 hx16.2, Option.bind_some, if_pos (by omega)]
     exact Qlj hg l hl hx d (i + 1) k (out ++ [n + 1]) (n + 1) (Qkq e s (n + 1) + x) 1 (by omega) (by rw [List.length_append, ho]; rfl) (by omega) hs haf.1 haf.2.1 (by omega) (by omega) (by omega)
    ·rw [if_neg hs, if_pos (by omega)]
theorem plan_ref {e s : Int} (h : Good e s) (l : List Int) (k : Nat) (hl : l.length ≤ 1000000) (hx : ∀ x ∈ l, x ≤ 1152921504606846976) (hk : l.length + 400 ≤ k) : Qbt.f k e s l = some (Qlf e s l [] 0 (Qkq e s 0) 0) := by
 have hg := h
 obtain ⟨a1, a2, a3, a4⟩ := h
 have hH := Qkr e s 0
 unfold Qbt.f
 rw [may_good hg, Option.bind_some, if_pos rfl, Qle hg k 0 (by omega) (by omega) (by omega), Option.bind_some, IntWalk.u64_in s (by omega), IntWalk.u64_in (s - 1) (by omega), Qle hg k (s - 1) (by omega) (by omega) (by omega), Option.bind_some]
 exact Qlj hg l hl hx l.length 0 k [] 0 (Qkq e s 0) 0 (by omega) rfl (by omega) (by omega) hH.1 (by omega) (by omega) (by omega) hk
end Go.Proofs.YtnnofopfbeklbaaGreat.CodecP
end
