/- Texts of this claim's author and of the print of its functions, merged by merge.py. -/
import Derived.Test.YtnnofopfbeklbaaGreatMG24
import Derived.Test.YtnnofopfbeklbaaGreatMG06
import Derived.Test.YtnnofopfbeklbaaGreatMG16
import Derived.Test.YtnnofopfbeklbaaGreatMG05
import Derived.Test.YtnnofopfbeklbaaGreatMG13
import Derived.Test.YtnnofopfbeklbaaGreatMG17
import Derived.Test.YtnnofopfbeklbaaGreatMG02
import Derived.Test.YtnnofopfbeklbaaGreatMG18
import Derived.Test.YtnnofopfbeklbaaGreatMG22
set_option linter.unusedVariables false
set_option linter.unusedSimpArgs false
set_option maxHeartbeats 8000000
set_option maxRecDepth 100000
section
namespace Go.Proofs.YtnnofopfbeklbaaGreat.CodecP
open Go.RowKit Go.Proofs.YtnnofopfbeklbaaGreat.C Go.Proofs.YtnnofopfbeklbaaGreatW.PrintWords Go.Proofs.YtnnofopfbeklbaaGreatW.PrintLast Go.Proofs.YtnnofopfbeklbaaGreatW.PrintMore
theorem Qjv (a b : ByteArray) : bytesOf (a ++ b) = bytesOf a ++ bytesOf b := by
 unfold bytesOf
 rw [← List.map_append]
 congr 1
theorem u8_back {x : Int} (h : 0 ≤ x ∧ x < 256) : ((UInt8.ofNat x.toNat).toNat : Int) = x := by
 obtain ⟨n, rfl⟩ := Int.eq_ofNat_of_zero_le h.1
 simp [UInt8.toNat_ofNat']
 omega
theorem Qjw {l : List Int} (h : Bytes l) : bytesOf (strOfNums l) = l := by
 unfold bytesOf
 rw [strOfNums_data, List.map_map]
 conv => rhs; rw [← List.map_id l]
 apply List.map_congr_left
 intro x hx
 exact u8_back (h x hx)
theorem bytesOf_inj {a b : ByteArray} (h : bytesOf a = bytesOf b) : a = b := by
 have h1 : a.data.toList = b.data.toList := by
  unfold bytesOf at h
  exact List.map_inj_right (f := fun b : UInt8 => (b.toNat : Int)) (fun x y hxy => UInt8.toNat_inj.1 (Int.ofNat.inj hxy)) |>.1 h
 have h2 : a.data = b.data := Array.toList_inj.1 h1
 cases a; cases b; simp_all
theorem Qjx (s : ByteArray) : strOfNums (bytesOf s) = s := bytesOf_inj (Qjw (Qjn s))
def Free (l : List Int) : Prop := ∀ x ∈ l, x ≠ 0
theorem u8_zero {c : Int} (h : 0 ≤ c ∧ c < 256) : (UInt8.ofNat c.toNat == (0 : Int).toNat.toUInt8) = decide (c = 0) := by
 rw [Bool.eq_iff_iff, beq_iff_eq, decide_eq_true_iff]
 constructor
 ·intro e
  have h1 := u8_back h
  rw [e] at h1
  simpa using h1.symm
 ·rintro rfl
  rfl
theorem ix_free : ∀ {l : List Int}, Bytes l → Free l → ixOf l 0 = -1
 | [], _, _ => rfl
 | c :: l, hb, hf => by
  have h1 := hb c (List.mem_cons_self ..)
  have h2 := hf c (List.mem_cons_self ..)
  have ih := ix_free (l := l) (fun x hx => hb x (List.mem_cons_of_mem _ hx)) (fun x hx => hf x (List.mem_cons_of_mem _ hx))
  unfold ixOf at ih ⊢
  simp only [Lib.bytesOf, List.map_cons, Lib.indexByte, u8_zero h1] at ih ⊢
  rw [ih]
  simp [h2]
theorem ix_app : ∀ {a b : List Int}, Bytes a → Free a → ixOf (a ++ 0 :: b) 0 = a.length
 | [], b, _, _ => by
  unfold ixOf
  simp [Lib.bytesOf, Lib.indexByte]
 | c :: a, b, hb, hf => by
  have h1 := hb c (List.mem_cons_self ..)
  have h2 := hf c (List.mem_cons_self ..)
  have ih := ix_app (a := a) (b := b) (fun x hx => hb x (List.mem_cons_of_mem _ hx)) (fun x hx => hf x (List.mem_cons_of_mem _ hx))
  unfold ixOf at ih ⊢
  simp only [Lib.bytesOf, List.cons_append, List.map_cons, Lib.indexByte, u8_zero h1] at ih ⊢
  rw [ih]
  have : ((a.length : Int) == -1) = false := by rw [beq_eq_false_iff_ne]; omega
  simp [h2, this]
theorem take_free {a : List Int} (hb : Bytes a) (hf : Free a) (n : Nat) : ixOf (a.take n) 0 = -1 := ix_free (hb.take n) (fun x hx => hf x (List.mem_of_mem_take hx))
theorem stuff_zero {now rest : List Int} (hb : Bytes now) (hf : Free now) (hl : now.length < 254) : Qhh (now ++ 0 :: rest) = (((now.length : Int) + 1) % 256) :: (now ++ Qhh rest) := by
 have e : ixOf ((now ++ 0 :: rest).take 254) 0 = (now.length : Int) := by
  obtain ⟨m, hm⟩ : ∃ m, 254 - now.length = m + 1 := ⟨253 - now.length, by omega⟩
  rw [List.take_append, List.take_of_length_le (by omega), hm, List.take_succ_cons]
  exact ix_app hb hf
 rw [Qhk e, List.take_left', List.drop_append, List.drop_of_length_le (by omega)]
 ·simp
 ·rfl
theorem Qjy {now : List Int} (hb : Bytes now) (hf : Free now) (hl : now.length ≤ 254) : Qhh now = (((now.length : Int) + 1) % 256) :: now :=
 Qhm (by rw [take_free hb hf]; omega) (by omega)
theorem stuff_full {now rest : List Int} (hb : Bytes now) (hf : Free now) (hl : now.length = 254) (hr : rest ≠ []) : Qhh (now ++ rest) = 255 :: (now ++ Qhh rest) := by
 have hr' : 0 < rest.length := List.length_pos_iff.2 hr
 have e1 : (now ++ rest).take 254 = now := by rw [← hl]; exact List.take_left' rfl
 have e2 : (now ++ rest).drop 254 = rest := by rw [← hl]; exact List.drop_left' rfl
 rw [Qhl (by rw [e1, ix_free hb hf]; omega) (by rw [List.length_append]; omega), e1, e2]
theorem Qjz (s : ByteArray) (i : Nat) : bt s (i : Int) = rd (bytesOf s) (i : Int) := (Qcz s (i : Int)).symm
theorem ext_one (s : ByteArray) (i : Nat) (h : i < s.size) : bytesOf (s.extract i (i + 1)) = [bt s (i : Int)] := by
 rw [Qjq, Qjz, Qjp (by rw [Qcy]; exact h), Nat.add_sub_cancel_left, List.drop_eq_getElem_cons (by rw [Qcy]; exact h)]
 rfl
theorem Qka (s : ByteArray) : s.toList = ([] : List UInt8) ↔ s.size = 0 := by
 constructor
 ·intro h
  have h1 : s.toList.length = s.size := by rw [Lib.toList_data, Qcx]
  rw [h] at h1
  simpa using h1.symm
 ·intro h
  have h1 : s.toList.length = s.size := by rw [Lib.toList_data, Qcx]
  exact List.eq_nil_of_length_eq_zero (by omega)
theorem Qkb (i : Nat) (h : i < 4611686018427387904) : wrap64 ((i : Int) + 1) = ((i + 1 : Nat) : Int) := by unfold wrap64; omega
def tailS (L now rest : List Int) (i : Nat) : List Int := if now = [] ∧ rest = [] ∧ 0 < i ∧ rd L ((i : Int) - 1) ≠ 0 then [] else Qhh (now ++ rest)
theorem j1_false (k : Nat) (all out now : ByteArray) (i : Nat) (hs : out.size + now.size + 1 ≤ 9223372036854775807) (hn : now.size < 254) (hi : i < 4611686018427387904) :
  ∃ o', bytesOf o' = bytesOf out ++ ((((bytesOf now).length : Int) + 1) % 256) :: bytesOf now ∧ Qaz.j1 (k + 1) all out now (i : Int) false = Qaz.l0 k all o' (⟨#[]⟩ : ByteArray) ((i + 1 : Nat) : Int) := by
 have hw : wrap64 ((now.size : Int) + 1) % 256 = (now.size : Int) + 1 := by unfold wrap64; omega
 have hsz : (strOfNums [(now.size : Int) + 1]).size = 1 := by rw [strOfNums_size]; rfl
 refine ⟨(out ++ strOfNums [(now.size : Int) + 1]) ++ now, ?_, ?_⟩
 ·rw [Qjv, Qjv, Qjw (by intro x hx; simp at hx; omega), Qcy, List.append_assoc]
  rw [show ((now.size : Int) + 1) % 256 = (now.size : Int) + 1 by omega]
  rfl
 ·unfold Qaz.j1
  rw [if_neg (by decide), Option.bind_some, hw, if_pos (by omega), if_pos (by rw [ByteArray.size_append]; omega), show wrap64 ((i : Int) + 1) = ((i + 1 : Nat) : Int) by unfold wrap64; omega]
theorem Qkc (s : ByteArray) (hs : s.size ≤ 1152921504606846976) : ∀ (d i k : Nat) (out now : ByteArray), i + d = s.size → Free (bytesOf now) → now.size < 254 → out.size + now.size ≤ 4 * i → 2 * d + 5 ≤ k →
  ∃ o', Qaz.l0 k (s ++ (⟨#[0]⟩ : ByteArray)) out now (i : Int) = some o' ∧ bytesOf o' = bytesOf out ++ tailS (bytesOf s) (bytesOf now) ((bytesOf s).drop i) i
 | 0, i, k, out, now, hi, hf, hn, ho, hk => by
  obtain ⟨k, rfl⟩ : ∃ m, k = m + 3 := ⟨k - 3, by omega⟩
  have hall : (s ++ (⟨#[0]⟩ : ByteArray)).size = s.size + 1 := by rw [ByteArray.size_append]; rfl
  have hbA : bytesOf (s ++ (⟨#[0]⟩ : ByteArray)) = bytesOf s ++ [0] := by rw [Qjv]; rfl
  have hlen := Qcy s
  have hbt : bt (s ++ (⟨#[0]⟩ : ByteArray)) (i : Int) = 0 := by
   rw [Qjz, Qjp (by rw [hbA, List.length_append, hlen]; simp; omega)]
   simp only [hbA]
   rw [List.getElem_append_right (by omega)]
   simp
  have hd : (bytesOf s).drop i = [] := List.drop_of_length_le (by omega)
  have hwl : wrap64 (((s ++ (⟨#[0]⟩ : ByteArray)).size : Int) - 1) = (i : Int) := by rw [hall]; unfold wrap64; omega
  have hnl := Qcy now
  have hend : ∀ (o : ByteArray) (m : Nat), Qaz.l0 (m + 1) (s ++ (⟨#[0]⟩ : ByteArray)) o (⟨#[]⟩ : ByteArray) ((i + 1 : Nat) : Int) = some o := by
   intro o m
   unfold Qaz.l0
   rw [if_neg (by rw [hall]; omega)]
  obtain ⟨oj, hj1, hj2⟩ := j1_false (k + 1) (s ++ (⟨#[0]⟩ : ByteArray)) out now i (by omega) hn (by omega)
  have hstf : Qhh (bytesOf now ++ []) = ((((bytesOf now).length : Int) + 1) % 256) :: bytesOf now := by
   rw [List.append_nil]
   exact Qjy (Qjn now) hf (by omega)
  unfold Qaz.l0
  rw [if_pos (by rw [hall]; omega), if_pos (by omega), hbt, if_pos rfl, hwl, if_pos rfl]
  by_cases hne : now.size = 0
  ·rw [if_pos ((Qka now).2 hne)]
   have hn0 : bytesOf now = [] := List.eq_nil_of_length_eq_zero (by omega)
   by_cases h0 : 0 < i
   ·have hw1 : wrap64 ((i : Int) - 1) = ((i - 1 : Nat) : Int) := by unfold wrap64; omega
    rw [if_pos (by omega), hw1, if_pos (by omega), if_pos (by rw [hall]; omega)]
    have hb1 : bt (s ++ (⟨#[0]⟩ : ByteArray)) ((i - 1 : Nat) : Int) = rd (bytesOf s) ((i : Int) - 1) := by
     rw [show (i : Int) - 1 = ((i - 1 : Nat) : Int) by omega, Qjz, Qjp (by rw [hbA, List.length_append, hlen]; simp; omega), Qjp (by omega)]
     simp only [hbA]
     rw [List.getElem_append_left (by omega)]
    rw [hb1]
    by_cases hz : rd (bytesOf s) ((i : Int) - 1) = 0
    ·rw [hz, show ((0 : Int) != 0) = false from rfl, hj2]
     refine ⟨oj, hend _ _, ?_⟩
     rw [hj1, hd]
     unfold tailS
     rw [if_neg (by intro h; exact h.2.2.2 hz), hstf]
    ·refine ⟨out, ?_, ?_⟩
     ·unfold Qaz.j1
      rw [if_pos (by simpa using hz)]
     ·rw [hd]
      unfold tailS
      rw [if_pos ⟨hn0, rfl, h0, hz⟩, List.append_nil]
   ·rw [if_neg (by omega), hj2]
    refine ⟨oj, hend _ _, ?_⟩
    rw [hj1, hd]
    unfold tailS
    rw [if_neg (by intro h; exact h0 h.2.2.1), hstf]
  ·rw [if_neg (by intro h; exact hne ((Qka now).1 h)), hj2]
   refine ⟨oj, hend _ _, ?_⟩
   rw [hj1, hd]
   unfold tailS
   rw [if_neg (by intro h; have := h.1; rw [this] at hnl; exact hne hnl.symm), hstf]
 | d + 1, i, k, out, now, hi, hf, hn, ho, hk => by
  obtain ⟨k, rfl⟩ : ∃ m, k = m + 2 := ⟨k - 2, by omega⟩
  have hall : (s ++ (⟨#[0]⟩ : ByteArray)).size = s.size + 1 := by rw [ByteArray.size_append]; rfl
  have hbA : bytesOf (s ++ (⟨#[0]⟩ : ByteArray)) = bytesOf s ++ [0] := by rw [Qjv]; rfl
  have hlen := Qcy s
  have hil : i < (bytesOf s).length := by omega
  obtain ⟨c, hc⟩ : ∃ c, c = (bytesOf s)[i] := ⟨_, rfl⟩
  have hbt : bt (s ++ (⟨#[0]⟩ : ByteArray)) (i : Int) = c := by
   rw [Qjz, Qjp (by rw [hbA, List.length_append]; omega), hc]
   simp only [hbA]
   rw [List.getElem_append_left hil]
  have hcb : 0 ≤ c ∧ c < 256 := by rw [hc]; exact Qjn s _ (List.getElem_mem hil)
  have hdrop : (bytesOf s).drop i = c :: (bytesOf s).drop (i + 1) := by rw [hc]; exact List.drop_eq_getElem_cons hil
  have hrd : rd (bytesOf s) (((i + 1 : Nat) : Int) - 1) = c := by rw [show (((i + 1 : Nat) : Int) - 1) = (i : Int) by omega, Qjp hil, hc]
  have hnl := Qcy now
  have hnot : ¬ (i : Int) = wrap64 (((s ++ (⟨#[0]⟩ : ByteArray)).size : Int) - 1) := by rw [hall]; unfold wrap64; omega
  have hnil : bytesOf (⟨#[]⟩ : ByteArray) = [] := rfl
  rw [hdrop]
  unfold Qaz.l0
  rw [if_pos (by rw [hall]; omega), if_pos (by omega), hbt]
  by_cases hz : c = 0
  ·subst hz
   rw [if_pos rfl, if_neg hnot]
   obtain ⟨oj, hj1, hj2⟩ := j1_false k (s ++ (⟨#[0]⟩ : ByteArray)) out now i (by omega) hn (by omega)
   have hjs : oj.size = out.size + now.size + 1 := by
    have := congrArg List.length hj1
    rw [Qcy, List.length_append, List.length_cons, Qcy, Qcy] at this
    omega
   rw [hj2]
   obtain ⟨o', h1, h2⟩ := Qkc s hs d (i + 1) k oj (⟨#[]⟩ : ByteArray) (by omega) (by intro x hx; rw [hnil] at hx; cases hx) (by decide) (by rw [hjs]; show _ + 0 ≤ _; omega) (by omega)
   refine ⟨o', h1, ?_⟩
   rw [h2, hj1, hnil]
   unfold tailS
   rw [if_neg (by intro h; exact h.2.2.2 hrd), if_neg (by intro h; cases h.2.1), List.nil_append, stuff_zero (Qjn now) hf (by omega)]
   simp
  ·rw [if_neg hz, Qkb i (by omega), if_pos (by omega), if_pos (by rw [hall]; omega)]
   obtain ⟨x1, hx1⟩ : ∃ x1, x1 = (s ++ (⟨#[0]⟩ : ByteArray)).extract (i : Int).toNat ((i + 1 : Nat) : Int).toNat := ⟨_, rfl⟩
   have hxb : bytesOf x1 = [c] := by
    rw [hx1, Int.toNat_natCast, Int.toNat_natCast, ext_one _ _ (by rw [hall]; omega), hbt]
   have hxs : x1.size = 1 := by rw [Qjr, hxb]; rfl
   rw [← hx1, if_pos (by omega)]
   have hnb : bytesOf (now ++ x1) = bytesOf now ++ [c] := by rw [Qjv, hxb]
   have hns : (now ++ x1).size = now.size + 1 := by rw [ByteArray.size_append, hxs]
   have hfree : Free (bytesOf now ++ [c]) := by
    intro x hx
    rcases List.mem_append.1 hx with h | h
    ·exact hf x h
    ·simp at h; rw [h]; exact hz
   by_cases hfull : ((now ++ x1).size : Int) = 254
   ·rw [if_pos hfull, if_pos (by omega)]
    have hos : (out ++ (⟨#[255]⟩ : ByteArray)).size = out.size + 1 := by rw [ByteArray.size_append]; rfl
    rw [if_pos (by rw [hos]; omega)]
    obtain ⟨o', h1, h2⟩ := Qkc s hs d (i + 1) (k + 1) ((out ++ (⟨#[255]⟩ : ByteArray)) ++ (now ++ x1)) (⟨#[]⟩ : ByteArray) (by omega) (by intro x hx; rw [hnil] at hx; cases hx) (by decide) (by rw [ByteArray.size_append, hos]; show _ + 0 ≤ _; omega) (by omega)
    refine ⟨o', h1, ?_⟩
    rw [h2, Qjv, Qjv, hnb, hnil, show bytesOf (⟨#[255]⟩ : ByteArray) = [255] from rfl]
    have hl254 : (bytesOf now ++ [c]).length = 254 := by rw [List.length_append, hnl]; simp; omega
    have hbb : Bytes (bytesOf now ++ [c]) := by rw [← hnb]; exact Qjn _
    unfold tailS
    by_cases hr : (bytesOf s).drop (i + 1) = []
    ·rw [if_pos ⟨rfl, hr, by omega, by rw [hrd]; exact hz⟩, if_neg (by intro h; cases h.2.1), hr, Qjy hbb hfree (by omega), hl254]
     simp
    ·rw [if_neg (by intro h; exact hr h.2.1), if_neg (by intro h; cases h.2.1), List.nil_append]
     have := stuff_full hbb hfree hl254 hr
     rw [List.append_assoc] at this
     rw [show bytesOf now ++ c :: (bytesOf s).drop (i + 1) = bytesOf now ++ ([c] ++ (bytesOf s).drop (i + 1)) from rfl, this]
     simp
   ·rw [if_neg hfull]
    obtain ⟨o', h1, h2⟩ := Qkc s hs d (i + 1) (k + 1) out (now ++ x1) (by omega) (by rw [hnb]; exact hfree) (by omega) (by omega) (by omega)
    refine ⟨o', h1, ?_⟩
    rw [h2, hnb]
    unfold tailS
    rw [if_neg (by intro h; have := h.1; simp at this), if_neg (by intro h; cases h.2.1)]
    simp
theorem stuff_ref (s : ByteArray) (k : Nat) (hs : s.size ≤ 1152921504606846976) (hk : 2 * s.size + 5 ≤ k) : ∃ o', Qaz.f k s = some o' ∧ bytesOf o' = Qhh (bytesOf s) := by
 have hnil : bytesOf (⟨#[]⟩ : ByteArray) = [] := rfl
 obtain ⟨o', h1, h2⟩ := Qkc s hs s.size 0 k (⟨#[]⟩ : ByteArray) (⟨#[]⟩ : ByteArray) (by omega) (by intro x hx; rw [hnil] at hx; cases hx) (by decide) (by decide) hk
 refine ⟨o', ?_, ?_⟩
 ·unfold Qaz.f
  rw [if_pos (by omega)]
  exact h1
 ·rw [h2, hnil]
  unfold tailS
  rw [if_neg (by intro h; exact absurd h.2.2.1 (by omega))]
  simp
theorem num2_ref : ∀ (n k : Nat) (x : Int), n ≤ 9 → 0 ≤ x → x < 128 ^ (n + 1) → x < 18446744073709551616 → n + 1 ≤ k → ∃ t, Qas.f k x = some t ∧ bytesOf t = vput n x
 | 0, k, x, hn, h0, h1, h2, hk => by
  obtain ⟨k, rfl⟩ : ∃ m, k = m + 1 := ⟨k - 1, by omega⟩
  have hx : x < 128 := by simpa using h1
  refine ⟨strOfNums [x % 256], ?_, ?_⟩
  ·unfold Qas.f
   rw [if_pos hx]
  ·rw [Qjw (by intro y hy; simp at hy; omega)]
   simp [vput]
   omega
 | n + 1, k, x, hn, h0, h1, h2, hk => by
  obtain ⟨k, rfl⟩ : ∃ m, k = m + 1 := ⟨k - 1, by omega⟩
  by_cases hx : x < 128
  ·refine ⟨strOfNums [x % 256], ?_, ?_⟩
   ·unfold Qas.f
    rw [if_pos hx]
   ·rw [Qjw (by intro y hy; simp at hy; omega)]
    simp [vput, hx]
    omega
  ·have hq : x / 128 < 128 ^ (n + 1) := by
    rw [Int.pow_succ] at h1
    exact Int.ediv_lt_of_lt_mul (by omega) h1
   obtain ⟨t, ht, hb⟩ := num2_ref n k (x / 128) (by omega) (by omega) hq (by omega) (by omega)
   have e1 : IntKind.u64.wrap (Int.tdiv x 128) = x / 128 := by rw [Int.tdiv_eq_ediv_of_nonneg h0, IntWalk.u64_in _ (by omega)]
   have e2 : IntKind.u64.wrap (128 + (Int.tmod x 128)) % 256 = x % 128 + 128 := by rw [Int.tmod_eq_emod_of_nonneg h0, IntWalk.u64_in _ (by omega)]; omega
   have hl := Qhn n (x / 128)
   have hts : t.size ≤ n + 1 := by rw [Qjr, hb]; exact hl
   have hy : (strOfNums [x % 128 + 128]).size = 1 := by rw [strOfNums_size]; rfl
   refine ⟨strOfNums [x % 128 + 128] ++ t, ?_, ?_⟩
   ·unfold Qas.f
    rw [if_neg hx, Option.bind_some, e1, e2, ht, Option.bind_some, hy]
    rw [if_pos (by omega)]
   ·rw [Qjv, Qjw (by intro y hy'; simp at hy'; omega), hb]
    simp [vput, hx]
theorem num2 (k : Nat) (x : Int) (h0 : 0 ≤ x) (h1 : x < 18446744073709551616) (hk : 10 ≤ k) : ∃ t, Qas.f k x = some t ∧ bytesOf t = vput 9 x :=
 num2_ref 9 k x (by omega) h0 (by omega) h1 hk
theorem num1_run : ∀ (d k : Nat) (n i : Nat) (x : Int) (out : ByteArray), i + d = n → n ≤ 1000 → 0 ≤ x → x < 18446744073709551616 → out.size ≤ i → d + 1 ≤ k →
  ∃ t, Qaq.l0 k x out (n : Int) (i : Int) = some t ∧ bytesOf t = bytesOf out ++ leb x d
 | 0, k, n, i, x, out, h, hn, h0, h1, ho, hk => by
  obtain ⟨k, rfl⟩ : ∃ m, k = m + 1 := ⟨k - 1, by omega⟩
  refine ⟨out, ?_, by simp [leb]⟩
  unfold Qaq.l0
  rw [if_neg (by omega)]
 | d + 1, k, n, i, x, out, h, hn, h0, h1, ho, hk => by
  obtain ⟨k, rfl⟩ : ∃ m, k = m + 1 := ⟨k - 1, by omega⟩
  have e1 : (Int.tmod x 256) % 256 = x % 256 := by rw [Int.tmod_eq_emod_of_nonneg h0]; omega
  have e2 : IntKind.u64.wrap (Int.tdiv x 256) = x / 256 := by rw [Int.tdiv_eq_ediv_of_nonneg h0, IntWalk.u64_in _ (by omega)]
  have hy : (strOfNums [x % 256]).size = 1 := by rw [strOfNums_size]; rfl
  obtain ⟨t, ht, hb⟩ := num1_run d k n (i + 1) (x / 256) (out ++ strOfNums [x % 256]) (by omega) hn (by omega) (by omega) (by rw [ByteArray.size_append, hy]; omega) (by omega)
  refine ⟨t, ?_, ?_⟩
  ·unfold Qaq.l0
   rw [if_pos (by omega), Option.bind_some, e1, e2, hy, if_pos (by omega), Qkb i (by omega)]
   exact ht
  ·rw [hb, Qjv, Qjw (by intro y hy'; simp at hy'; omega)]
   simp [leb]
theorem num1 (k n : Nat) (x : Int) (hn : n ≤ 1000) (h0 : 0 ≤ x) (h1 : x < 18446744073709551616) (hk : n + 1 ≤ k) : ∃ t, Qaq.f k x (n : Int) = some t ∧ bytesOf t = leb x n := by
 obtain ⟨t, ht, hb⟩ := num1_run n k n 0 x (⟨#[]⟩ : ByteArray) (by omega) hn h0 h1 (by decide) hk
 exact ⟨t, ht, by rw [hb]; rfl⟩
theorem text2 (k : Nat) (s : ByteArray) (hs : s.size ≤ 70368744177664) (hk : 10 ≤ k) : ∃ t, Qat.f k s = some t ∧ bytesOf t = vput 9 s.size ++ bytesOf s ∧ t.size ≤ s.size + 10 := by
 obtain ⟨t, ht, hb⟩ := num2 k (s.size : Int) (by omega) (by omega) hk
 have hl := Qhn 9 (s.size : Int)
 have hts : t.size ≤ 10 := by rw [Qjr, hb]; omega
 refine ⟨t ++ s, ?_, by rw [Qjv, hb], by rw [ByteArray.size_append]; omega⟩
 unfold Qat.f
 rw [if_pos hs, ht, Option.bind_some, if_pos (by omega)]
theorem body_ref (k : Nat) (d : Bool) (s : Int) (key v : ByteArray) (hs0 : 0 ≤ s) (hs1 : s < 18446744073709551616) (hk1 : key.size ≤ 70368744177664) (hv1 : v.size ≤ 70368744177664) (hk : 10 ≤ k) :
  ∃ t, Qba.f k d s key v = some t ∧ bytesOf t = Qhu d s key v ∧ t.size ≤ key.size + v.size + 31 := by
 obtain ⟨t1, h1, b1⟩ := num2 k s hs0 hs1 hk
 obtain ⟨t2, h2, b2, z2⟩ := text2 k key hk1 hk
 obtain ⟨t3, h3, b3, z3⟩ := text2 k v hv1 hk
 have hl := Qhn 9 s
 have hz1 : t1.size ≤ 10 := by rw [Qjr, b1]; omega
 cases d with
 | true =>
  have hc : (⟨#[3]⟩ : ByteArray).size = 1 := rfl
  refine ⟨((⟨#[3]⟩ : ByteArray) ++ t1) ++ t2, ?_, ?_, ?_⟩
  ·unfold Qba.f
   rw [if_pos rfl, h1, Option.bind_some, if_pos (by omega), h2, Option.bind_some, if_pos (by rw [ByteArray.size_append, hc]; omega)]
  ·rw [Qjv, Qjv, b1, b2, show bytesOf (⟨#[3]⟩ : ByteArray) = [3] from rfl]
   simp [Qhu]
  ·rw [ByteArray.size_append, ByteArray.size_append, hc]; omega
 | false =>
  have hc : (⟨#[2]⟩ : ByteArray).size = 1 := rfl
  refine ⟨(((⟨#[2]⟩ : ByteArray) ++ t1) ++ t2) ++ t3, ?_, ?_, ?_⟩
  ·unfold Qba.f
   rw [if_neg (by decide), h1, Option.bind_some, if_pos (by omega), h2, Option.bind_some, if_pos (by rw [ByteArray.size_append, hc]; omega), h3, Option.bind_some, if_pos (by rw [ByteArray.size_append, ByteArray.size_append, hc]; omega)]
  ·rw [Qjv, Qjv, Qjv, b1, b2, b3, show bytesOf (⟨#[2]⟩ : ByteArray) = [2] from rfl]
   simp [Qhu]
  ·rw [ByteArray.size_append, ByteArray.size_append, ByteArray.size_append, hc]; omega
theorem seal_ref (k : Nat) (s : ByteArray) (hs : s.size ≤ 562949953421312) (hk : 2 * s.size + 200 ≤ k) : ∃ t, Qbh.f k s = some t ∧ bytesOf t = Qib (bytesOf s) := by
 have hr := Qia 0 (bytesOf s)
 obtain ⟨t1, h1, b1⟩ := num1 k 8 (Qhz 0 (bytesOf s)) (by omega) hr.1 hr.2 (by omega)
 have hz1 : t1.size = 8 := by rw [Qjr, b1, Qgs]
 obtain ⟨t2, h2, b2⟩ := stuff_ref (s ++ t1) k (by rw [ByteArray.size_append]; omega) (by rw [ByteArray.size_append]; omega)
 have hl := Qic _ (bytesOf (s ++ t1)) (Nat.le_refl _)
 have hz2 : t2.size ≤ 2 * s.size + 17 := by
  rw [Qjr t2, b2]
  rw [Qcy, ByteArray.size_append] at hl
  omega
 refine ⟨t2 ++ (⟨#[0]⟩ : ByteArray), ?_, ?_⟩
 ·unfold Qbh.f
  rw [hash_ref 0 s k ⟨by omega, by omega⟩ (by omega) (by omega), Option.bind_some, show (8 : Int) = ((8 : Nat) : Int) from rfl, h1, Option.bind_some, if_pos (by omega), h2, Option.bind_some, if_pos (by omega)]
 ·rw [Qjv, b2, Qjv, b1]
  rfl
theorem Qkd (k : Nat) (d : Bool) (s : Int) (key v : ByteArray) (hs0 : 0 ≤ s) (hs1 : s < 18446744073709551616) (hk1 : key.size ≤ 35184372088832) (hv1 : v.size ≤ 35184372088832) (hk : 2 * (key.size + v.size) + 300 ≤ k) :
  ∃ t, Qbg.f k d s key v = some t ∧ bytesOf t = Qib (Qhu d s key v) := by
 obtain ⟨t1, h1, b1, z1⟩ := body_ref k d s key v hs0 hs1 (by omega) (by omega) (by omega)
 obtain ⟨t2, h2, b2⟩ := seal_ref k t1 (by omega) (by omega)
 refine ⟨t2, ?_, by rw [b2, b1]⟩
 unfold Qbg.f
 rw [h1, Option.bind_some, h2, Option.bind_some]
theorem head_ref (k : Nat) (e s n : Int) (he0 : 0 ≤ e) (he1 : e < 256) (hs0 : 0 ≤ s) (hs1 : s < 4294967296) (hn0 : 0 ≤ n) (hn1 : n < 18446744073709551616) (hk : 300 ≤ k) :
  ∃ t, Qbe.f k e s n = some t ∧ bytesOf t = headL e s n := by
 obtain ⟨t1, h1, b1⟩ := num2 k s hs0 (by omega) (by omega)
 obtain ⟨t2, h2, b2⟩ := num2 k n hn0 hn1 (by omega)
 have hl1 := Qhn 9 s
 have hl2 := Qhn 9 n
 have hz1 : t1.size ≤ 10 := by rw [Qjr, b1]; omega
 have hz2 : t2.size ≤ 10 := by rw [Qjr, b2]; omega
 have hy : (strOfNums [e]).size = 1 := by rw [strOfNums_size]; rfl
 have hc : (⟨#[1, 2]⟩ : ByteArray).size = 2 := rfl
 have hbs : bytesOf ((((⟨#[1, 2]⟩ : ByteArray) ++ strOfNums [e]) ++ t1) ++ t2) = [1, 2, e] ++ vput 9 s ++ vput 9 n := by
  rw [Qjv, Qjv, Qjv, b1, b2, Qjw (by intro y hy'; simp at hy'; omega)]
  rfl
 obtain ⟨t3, h3, b3⟩ := seal_ref k ((((⟨#[1, 2]⟩ : ByteArray) ++ strOfNums [e]) ++ t1) ++ t2) (by rw [ByteArray.size_append, ByteArray.size_append, ByteArray.size_append, hy, hc]; omega) (by rw [ByteArray.size_append, ByteArray.size_append, ByteArray.size_append, hy, hc]; omega)
 refine ⟨t3, ?_, by rw [b3, hbs]; rfl⟩
 unfold Qbe.f
 rw [Option.bind_some, hy, if_pos (by omega), IntWalk.u64_in s (by omega), h1, Option.bind_some, if_pos (by rw [ByteArray.size_append, hy, hc]; omega), h2, Option.bind_some, if_pos (by rw [ByteArray.size_append, ByteArray.size_append, hy, hc]; omega), h3, Option.bind_some]
theorem Qke : ∀ (n : Nat) (b : List Int), b.length ≤ n → b.length < 254 → (Qhh b).length = b.length + 1
 | n, b, hn, h => by
  rcases Int.lt_or_le (ixOf (b.take 254) 0) 0 with h0 | h0
  ·rw [Qhm h0 (by omega)]
   simp
  ·obtain ⟨p, hp⟩ := Int.eq_ofNat_of_zero_le h0
   have h1 := (Qhf (b.take 254) 0).2
   rw [List.length_take, hp] at h1
   rw [Qhk hp]
   match n, hn with
   | 0, hn => omega
   | n + 1, hn =>
    have ih := Qke n (b.drop (p + 1)) (by rw [List.length_drop]; omega) (by rw [List.length_drop]; omega)
    rw [List.length_cons, List.length_append, ih, List.length_take, List.length_drop]
    omega
def Qkf (e s n : Int) : Int := ((headL e s n).length : Int)
theorem headN_eq (e s n : Int) : Qkf e s n = 3 + (vput 9 s).length + (vput 9 n).length + 10 := by
 unfold Qkf headL Qib
 have h1 := Qhn 9 s
 have h2 := Qhn 9 n
 have hl : ([1, 2, e] ++ vput 9 s ++ vput 9 n ++ leb (Qhz 0 ([1, 2, e] ++ vput 9 s ++ vput 9 n)) 8).length = 3 + (vput 9 s).length + (vput 9 n).length + 8 := by
  rw [List.length_append, List.length_append, List.length_append, Qgs]
  rfl
 rw [List.length_append, Qke _ _ (Nat.le_refl _) (by rw [hl]; omega), hl]
 simp
 omega
theorem Qkg (e s n : Int) : 0 ≤ Qkf e s n ∧ Qkf e s n ≤ 100 := by
 rw [headN_eq]
 have h1 := Qhn 9 s
 have h2 := Qhn 9 n
 omega
def Qkh (n : Int) : Int := 9 + 12 * n + 8 * ((n + 15) / 16) + 8 + 1 + (9 + 12 * n + 8 * ((n + 15) / 16) + 8 - 1) / 254 + 1
def szN (e : Int) : Int := 2 ^ e.toNat
def Good (e s : Int) : Prop := 12 ≤ e ∧ e ≤ 24 ∧ 1 ≤ s ∧ s ≤ 65536
theorem Qki {e s : Int} (h : Good e s) : Qak.f e s = some 0 := by
 obtain ⟨h1, h2, h3, h4⟩ := h
 unfold Qak.f
 rw [if_neg (by omega), if_neg (by omega), if_neg (by omega), if_neg (by omega)]
theorem may_good {e s : Int} (h : Good e s) : Qbc.f e s = some true := by
 obtain ⟨h1, h2, h3, h4⟩ := h
 unfold Qbc.f
 rw [if_pos (by omega), if_pos (by omega), if_pos (by omega)]
 simp [h4]
theorem Qkj {e : Int} (h1 : 12 ≤ e) (h2 : e ≤ 24) : 4096 ≤ szN e ∧ szN e ≤ 16777216 := by
 unfold szN
 obtain ⟨n, rfl⟩ := Int.eq_ofNat_of_zero_le (show 0 ≤ e by omega)
 rw [Int.toNat_natCast]
 have h3 : (2 : Nat) ^ 12 ≤ 2 ^ n := Nat.pow_le_pow_right (by omega) (by omega)
 have h4 : (2 : Nat) ^ n ≤ 2 ^ 24 := Nat.pow_le_pow_right (by omega) (by omega)
 have h5 : ((2 ^ n : Nat) : Int) = (2 : Int) ^ n := by rw [Int.natCast_pow]; rfl
 rw [← h5]
 omega
theorem Qkk {e s : Int} (h : Good e s) : Qal.f e s = some (szN e) := by
 have hr := Qkj h.1 h.2.1
 unfold Qal.f
 rw [Qki h, Option.bind_some, if_pos rfl, if_pos (by have := h.1; omega)]
 congr 1
 unfold shl
 have hm : min e.toNat IntKind.i64.bits = e.toNat := by simp [IntKind.bits]; have := h.2.1; omega
 rw [hm, Int.one_mul]
 exact IntWalk.i64_in _ (by unfold szN at hr; omega)
theorem rsize_run : ∀ (d i k : Nat) (e : Int), (i : Int) + d = e → e ≤ 24 → d + 1 ≤ k → Qbd.l0 k (2 ^ i) e (i : Int) = some (szN e)
 | 0, i, k, e, h, he, hk => by
  obtain ⟨k, rfl⟩ : ∃ m, k = m + 1 := ⟨k - 1, by omega⟩
  unfold Qbd.l0
  rw [if_neg (by omega)]
  unfold szN
  rw [show e.toNat = i by omega]
 | d + 1, i, k, e, h, he, hk => by
  obtain ⟨k, rfl⟩ : ∃ m, k = m + 1 := ⟨k - 1, by omega⟩
  have ih := rsize_run d (i + 1) k e (by omega) he (by omega)
  have hp : (2 : Nat) ^ i ≤ 2 ^ 24 := Nat.pow_le_pow_right (by omega) (by omega)
  have hp0 := Nat.two_pow_pos i
  have h5 : ((2 ^ i : Nat) : Int) = (2 : Int) ^ i := by rw [Int.natCast_pow]; rfl
  unfold Qbd.l0
  rw [if_pos (by omega), ← h5, IntWalk.u64_in _ (by omega), show (((i : Nat) : Int) + 1) % 256 = ((i + 1 : Nat) : Int) by omega, h5, show 2 * (2 : Int) ^ i = 2 ^ (i + 1) by rw [Int.pow_succ]; omega]
  exact ih
theorem Qkl {e s : Int} (h : Good e s) (k : Nat) (hk : 30 ≤ k) : Qbd.f k e s = some (szN e) := by
 have := rsize_run e.toNat 0 k e (by have := h.1; omega) h.2.1 (by have := h.2.1; omega)
 exact this
theorem most_prog (c : Int) (h0 : 0 ≤ c) (h1 : c ≤ 16777216) : Qbx.f c = some (Qkh c) := by
 have hm : mx 0 c = c := by unfold mx; split <;> omega
 have hf : Qbw.f c = some ((c + 15) / 16) := by
  unfold Qbw.f
  rw [hm]
  have e1 : wrap64 ((wrap64 (c + 16)) - 1) = c + 15 := by unfold wrap64; omega
  rw [e1, Int.tdiv_eq_ediv_of_nonneg (by omega)]
  congr 1
  unfold wrap64
  omega
 have ha : wrap64 ((wrap64 (9 + (wrap64 (12 * c)))) + (wrap64 (8 * ((c + 15) / 16)))) = 9 + 12 * c + 8 * ((c + 15) / 16) := by unfold wrap64; omega
 unfold Qbx.f
 rw [hm, hf, Option.bind_some, ha]
 obtain ⟨m, hmm⟩ : ∃ m, m = 9 + 12 * c + 8 * ((c + 15) / 16) := ⟨_, rfl⟩
 have hm0 : 0 ≤ m := by omega
 have hm1 : m ≤ 1000000000 := by omega
 unfold Qkh
 rw [← hmm]
 clear hmm ha hf hm
 have hx : mx 0 m = m := by unfold mx; split <;> omega
 unfold Qcb.f Qaj.f
 rw [hx]
 have e1 : wrap64 (m + 8) = m + 8 := by unfold wrap64; omega
 rw [e1, if_neg (by omega)]
 have e2 : wrap64 (m + 8 - 1) = m + 8 - 1 := by unfold wrap64; omega
 rw [e2, Int.tdiv_eq_ediv_of_nonneg (by omega), Option.bind_some, Option.bind_some]
 congr 1
 unfold wrap64
 omega
theorem most_ref (c : Int) (h0 : 0 ≤ c) (h1 : c ≤ 16777216) : Qbo.f c = some (Qkh c) := by
 have e0 : wrap64 (Int.tdiv (wrap64 (c + 15)) 16) = (c + 15) / 16 := by
  have e1 : wrap64 (c + 15) = c + 15 := by unfold wrap64; omega
  rw [e1, Int.tdiv_eq_ediv_of_nonneg (by omega)]
  unfold wrap64
  omega
 have ha : wrap64 ((wrap64 ((wrap64 (9 + (wrap64 (12 * c)))) + (wrap64 (8 * ((c + 15) / 16))))) + 8) = 9 + 12 * c + 8 * ((c + 15) / 16) + 8 := by unfold wrap64; omega
 unfold Qbo.f Qkh
 rw [e0, ha]
 obtain ⟨m, hmm⟩ : ∃ m, m = 9 + 12 * c + 8 * ((c + 15) / 16) + 8 := ⟨_, rfl⟩
 have hm0 : 8 ≤ m := by omega
 have hm1 : m ≤ 1000000000 := by omega
 rw [← hmm]
 clear hmm ha e0
 have e2 : wrap64 (m - 1) = m - 1 := by unfold wrap64; omega
 rw [e2, Int.tdiv_eq_ediv_of_nonneg (by omega)]
 congr 1
 unfold wrap64
 omega
theorem Qkm (c : Int) (h0 : 0 ≤ c) (h1 : c ≤ 16777216) : 12 * c ≤ Qkh c ∧ Qkh c ≤ 1000000000 := by unfold Qkh; omega
def Qkn (e u c x : Int) : Bool := decide (1 ≤ x ∧ u + x + Qkh (c + 1) ≤ szN e)
theorem Qko {e s : Int} (h : Good e s) (n u c x : Int) (hu0 : 0 ≤ u) (hu1 : u ≤ 16777216) (hc0 : 0 ≤ c) (hc1 : c ≤ 8388608) (hx1 : x ≤ 1152921504606846976) : Qce.f e s n u c x = some (Qkn e u c x) := by
 have hz := Qkj h.1 h.2.1
 have hm := Qkm (c + 1) (by omega) (by omega)
 unfold Qce.f Qkn
 by_cases hx : x ≥ 1
 ·rw [if_pos hx]
  unfold Qcf.f
  rw [Qkk h, Option.bind_some, show wrap64 (c + 1) = c + 1 by unfold wrap64; omega, most_prog (c + 1) (by omega) (by omega), Option.bind_some, Option.bind_some]
  congr 1
  have e1 : wrap64 (wrap64 (szN e - u) - Qkh (c + 1)) = szN e - u - Qkh (c + 1) := by unfold wrap64; omega
  rw [e1]
  unfold mx
  rw [decide_eq_decide]
  split <;> omega
 ·rw [if_neg hx]
  congr 1
  symm
  rw [decide_eq_false_iff_not]
  omega
theorem fits_ref {e s : Int} (h : Good e s) (k : Nat) (n u c x : Int) (hk : 40 ≤ k) (hu0 : 0 ≤ u) (hu1 : u ≤ 16777216) (hc0 : 0 ≤ c) (hc1 : c ≤ 8388608) (hx1 : x ≤ 1152921504606846976) : Qbr.f k e s n u c x = some (Qkn e u c x) := by
 obtain ⟨k, rfl⟩ : ∃ m, k = m + 1 := ⟨k - 1, by omega⟩
 have hz := Qkj h.1 h.2.1
 have hm := Qkm (c + 1) (by omega) (by omega)
 have hj : ∀ b, Qbr.j0 (k + 1) x b e s n u c = if b = true then some false else (Qbo.f (wrap64 (c + 1))).bind fun t => (Qbd.f k e s).bind fun z => some (decide ((IntKind.u64.wrap (wrap64 ((wrap64 (u + x)) + t))) ≤ z)) := fun _ => rfl
 unfold Qbr.f Qkn
 by_cases hx : x < 1
 ·rw [if_pos hx, hj, if_pos rfl]
  congr 1
  symm
  rw [decide_eq_false_iff_not]
  omega
 ·rw [if_neg hx, Qkl h (k + 1) (by omega), Option.bind_some, hj]
  rw [show IntKind.u64.wrap x = x from IntWalk.u64_in _ (by omega)]
  by_cases hb : x > szN e
  ·rw [if_pos (by simpa using hb)]
   congr 1
   symm
   rw [decide_eq_false_iff_not]
   omega
  ·rw [if_neg (by simpa using hb), show wrap64 (c + 1) = c + 1 by unfold wrap64; omega, most_ref (c + 1) (by omega) (by omega), Option.bind_some, Qkl h k (by omega), Option.bind_some]
   congr 1
   have e1 : wrap64 (wrap64 (u + x) + Qkh (c + 1)) = u + x + Qkh (c + 1) := by unfold wrap64; omega
   rw [e1, IntWalk.u64_in _ (by omega), decide_eq_decide]
   omega
theorem Qkp {e u c x : Int} (h : Qkn e u c x = true) : 1 ≤ x ∧ u + x + Qkh (c + 1) ≤ szN e := by simpa [Qkn] using h
theorem take_prog {e s : Int} (h : Good e s) (n u c x : Int) (hu0 : 0 ≤ u) (hu1 : u ≤ 16777216) (hc0 : 0 ≤ c) (hc1 : c ≤ 8388608) (hx1 : x ≤ 1152921504606846976) (hf : Qkn e u c x = true) : Qcg.f e s n u c x = some (e, s, n, u + x, c + 1, 0) := by
 have hz := Qkj h.1 h.2.1
 have hm := Qkm (c + 1) (by omega) (by omega)
 obtain ⟨f1, f2⟩ := Qkp hf
 unfold Qcg.f
 rw [Qko h n u c x hu0 hu1 hc0 hc1 hx1, Option.bind_some, hf, if_pos rfl, show wrap64 (u + x) = u + x by unfold wrap64; omega, show wrap64 (c + 1) = c + 1 by unfold wrap64; omega]
theorem take_ref (e s n u c x : Int) (hu0 : 0 ≤ u) (hu1 : u ≤ 16777216) (hc0 : 0 ≤ c) (hc1 : c ≤ 8388608) (hx0 : 0 ≤ x) (hx1 : x ≤ 16777216) : Qbs.f e s n u c x = some (e, s, n, u + x, c + 1) := by
 unfold Qbs.f
 rw [show wrap64 (u + x) = u + x by unfold wrap64; omega, show wrap64 (c + 1) = c + 1 by unfold wrap64; omega]
theorem Qkq {e s : Int} (h : Good e s) (n : Int) (h0 : 0 ≤ n) (h1 : n < s) : Qby.f e s n = some (headL e s n, 0) := by
 obtain ⟨a, b, c, d⟩ := h
 unfold Qby.f Qcc.f
 rw [Qki ⟨a, b, c, d⟩, Option.bind_some, if_pos rfl, if_neg (by omega), Option.bind_some, if_pos rfl, if_pos ⟨by omega, by omega, by omega, by omega, by omega, by omega⟩]
theorem Qkr {e s : Int} (h : Good e s) (n : Int) (h0 : 0 ≤ n) (h1 : n < s) : Qcd.f e s n = some (e, s, n, Qkf e s n, 0, 0) := by
 unfold Qcd.f
 rw [Qkq h n h0 h1, Option.bind_some, if_pos rfl]
 rfl
theorem empty_bad {e s : Int} (h : Good e s) (n : Int) (h1 : s ≤ n) : Qcd.f e s n = some (0, 0, 0, 0, 0, 1) := by
 unfold Qcd.f Qby.f Qcc.f
 rw [Qki h, Option.bind_some, if_pos rfl, if_pos (by omega), Option.bind_some, if_neg (by decide), Option.bind_some, if_neg (by decide)]
theorem empty_ref {e s : Int} (h : Good e s) (k : Nat) (n : Int) (h0 : 0 ≤ n) (h1 : n < s) (hk : 300 ≤ k) : Qbq.f k e s n = some (e, s, n, Qkf e s n, 0) := by
 obtain ⟨a, b, c, d⟩ := h
 obtain ⟨t, ht, hb⟩ := head_ref k e s n (by omega) (by omega) (by omega) (by omega) h0 (by omega) hk
 unfold Qbq.f
 rw [ht, Option.bind_some, Qjr, hb]
 rfl
theorem rdR (l : List Rec) (i : Nat) (h : i < l.length) : Qgm l (i : Int) = l[i] := by simp [Qgm, List.getElem?_eq_getElem h]
def chkR (r : Rec) : Int := chk r.f0 r.f2 r.f3
def chkL : List Rec → Int
 | [] => 0
 | r :: t => if chkR r = 0 then chkL t else chkR r
theorem chkL_all {l : List Rec} (h : chkL l = 0) : ∀ r ∈ l, chkR r = 0 := by
 induction l with
 | nil => intro r hr; cases hr
 | cons a t ih =>
  unfold chkL at h
  by_cases ha : chkR a = 0
  ·rw [if_pos ha] at h
   intro r hr
   rcases List.mem_cons.1 hr with rfl | hr
   ·exact ha
   ·exact ih h r hr
  ·rw [if_neg ha] at h; exact absurd h ha
theorem nil_ne (v : ByteArray) : (v.toList != ([] : List UInt8)) = decide ((v.size : Int) > 0) := by
 rw [Bool.eq_iff_iff, bne_iff_ne, decide_eq_true_iff, Ne, Qka]
 omega
theorem rcheck_k (k : Nat) (d : Bool) (s : Int) (key v : ByteArray) (hk : 1 ≤ k) : Qbb.f k d s key v = some (chk d key v) := by
 obtain ⟨k, rfl⟩ : ∃ m, k = m + 1 := ⟨k - 1, by omega⟩
 unfold Qbb.f chk
 by_cases h0 : key.toList = ([] : List UInt8)
 ·rw [if_pos h0, if_pos (by have := (Qka key).1 h0; omega)]
 ·rw [if_neg h0, if_neg (by intro h; exact h0 ((Qka key).2 (by omega)))]
  by_cases h1 : (key.size : Int) > 4096
  ·rw [if_pos h1, if_pos h1]
  ·rw [if_neg h1, if_neg h1, nil_ne]
   cases d
   ·simp only [Bool.false_eq_true, if_false, Bool.false_and, Qbb.j0]
    split <;> rfl
   ·simp only [if_true, Bool.true_and, Qbb.j0]
    split
    ·rfl
    ·split <;> rfl
def Qks (r : Rec) : List Int := Qib (Qhu r.f0 r.f1 r.f2 r.f3)
def fsz (r : Rec) : Int := ((Qks r).length : Int)
def Wf (l : List Rec) : Prop := ∀ r ∈ l, 0 ≤ r.f1 ∧ r.f1 < 18446744073709551616
theorem bodyL_len (d : Bool) (s : Int) (key v : ByteArray) : (Qhu d s key v).length ≤ key.size + v.size + 31 := by
 have h1 := Qhn 9 s
 have h2 := Qhn 9 (key.size : Int)
 have h3 := Qhn 9 (v.size : Int)
 have h4 := Qcy key
 have h5 := Qcy v
 cases d
 ·simp only [Qhu, List.length_append, List.length_cons, List.length_nil, Bool.false_eq_true, if_false]; omega
 ·simp only [Qhu, List.length_append, List.length_cons, List.length_nil, if_true]; omega
theorem sealL_len (b : List Int) : 0 < (Qib b).length ∧ (Qib b).length ≤ 2 * b.length + 18 := by
 have h := Qic _ (b ++ leb (Qhz 0 b) 8) (Nat.le_refl _)
 rw [List.length_append, Qgs] at h
 unfold Qib
 rw [List.length_append]
 simp
 omega
theorem Qkt (r : Rec) (hc : chkR r = 0) : 1 ≤ fsz r ∧ fsz r ≤ 8388608 := by
 have h1 := Qht hc
 have h2 := bodyL_len r.f0 r.f1 r.f2 r.f3
 have h3 := sealL_len (Qhu r.f0 r.f1 r.f2 r.f3)
 unfold fsz Qks
 omega
theorem put_good (r : Rec) (hc : chkR r = 0) (h0 : 0 ≤ r.f1) (h1 : r.f1 < 18446744073709551616) : Qbz.f r.f0 r.f1 r.f2 r.f3 = some (Qks r, 0) := by
 have h2 := Qht hc
 have h3 := bodyL_len r.f0 r.f1 r.f2 r.f3
 unfold Qbz.f Qci.f
 rw [if_pos h0, if_pos h1, if_pos (show chk r.f0 r.f2 r.f3 = 0 from hc), Option.bind_some, if_pos rfl]
 unfold Qca.f
 rw [if_pos (by dsimp only; omega), Option.bind_some]
 rfl
abbrev Plc := S69
def few (l : List Rec) (m b : Int) : Bool := l.all (fun r => decide ((r.f2.size : Int) ≤ b) && decide ((r.f3.size : Int) ≤ b)) && decide ((l.length : Int) ≤ m)
theorem few_run (l : List Rec) (m b : Int) (hl : l.length ≤ 4611686018427387903) : ∀ (d i k : Nat), i + d = l.length → d + 1 ≤ k → Qam.l0 k l m b l (l.length : Int) (i : Int) = some ((l.drop i).all (fun r => decide ((r.f2.size : Int) ≤ b) && decide ((r.f3.size : Int) ≤ b)) && decide ((l.length : Int) ≤ m))
 | 0, i, k, h, hk => by
  obtain ⟨k, rfl⟩ : ∃ m, k = m + 1 := ⟨k - 1, by omega⟩
  unfold Qam.l0
  rw [if_neg (by omega), List.drop_of_length_le (by omega)]
  simp
 | d + 1, i, k, h, hk => by
  obtain ⟨k, rfl⟩ : ∃ m, k = m + 1 := ⟨k - 1, by omega⟩
  have hi : i < l.length := by omega
  unfold Qam.l0
  rw [if_pos (by omega), if_pos (by omega), if_pos (by omega), rdR l i hi, List.drop_eq_getElem_cons hi, Qkb i (by omega), few_run l m b hl d (i + 1) k (by omega) (by omega)]
  rw [List.all_cons]
  generalize (l.drop (i + 1)).all (fun r => decide ((r.f2.size : Int) ≤ b) && decide ((r.f3.size : Int) ≤ b)) = q
  generalize l[i] = r
  by_cases h1 : (r.f2.size : Int) > b
  ·rw [if_pos h1]
   simp [show ¬ ((r.f2.size : Int) ≤ b) by omega]
  ·rw [if_neg h1]
   by_cases h2 : (r.f3.size : Int) > b
   ·rw [if_pos h2]
    simp [show ¬ ((r.f3.size : Int) ≤ b) by omega]
   ·rw [if_neg h2]
    simp [show ((r.f2.size : Int) ≤ b) by omega, show ((r.f3.size : Int) ≤ b) by omega]
theorem few_is (l : List Rec) (m b : Int) (k : Nat) (hl : l.length ≤ 4611686018427387903) (hk : l.length + 1 ≤ k) : Qam.f k l m b = some (few l m b) := few_run l m b hl l.length 0 k (by omega) (by omega)
theorem few_len {l : List Rec} {m b : Int} (h : few l m b = true) : (l.length : Int) ≤ m ∧ ∀ r ∈ l, (r.f2.size : Int) ≤ b ∧ (r.f3.size : Int) ≤ b := by
 unfold few at h
 simp only [Bool.and_eq_true, List.all_eq_true, decide_eq_true_eq] at h
 exact ⟨h.2, fun r hr => h.1 r hr⟩
end Go.Proofs.YtnnofopfbeklbaaGreat.CodecP
end
