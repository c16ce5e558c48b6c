/- Texts of this claim's author and of the print of its functions, merged by merge.py. -/
import Derived.Test.YtnnofopfbeklbaaGreatMC25
import Derived.Test.YtnnofopfbeklbaaGreatMC10
import Derived.Test.YtnnofopfbeklbaaGreatMC07
import Derived.Test.YtnnofopfbeklbaaGreatMC02
import Derived.Test.YtnnofopfbeklbaaGreatMC03
import Derived.Test.YtnnofopfbeklbaaGreatMC09
import Derived.Test.YtnnofopfbeklbaaGreatMC13
import Derived.Test.YtnnofopfbeklbaaGreatMC15
set_option linter.unusedVariables false
set_option linter.unusedSimpArgs false
section
namespace Go.Proofs.YtnnofopfbeklbaaGreat.CodecP
open Go.RowKit Go.Proofs.YtnnofopfbeklbaaGreat.C Go.Proofs.YtnnofopfbeklbaaGreatW.PrintWords Go.Proofs.YtnnofopfbeklbaaGreatW.PrintLast Go.Proofs.YtnnofopfbeklbaaGreatW.PrintMore
set_option maxRecDepth 20000
theorem Qiy (a b : ByteArray) : bytesOf (a ++ b) = bytesOf a ++ bytesOf b := by
 unfold bytesOf
 rw [← List.map_append]
 congr 1
theorem u8_back {x : Int} (h : 0 ≤ x ∧ x < 256) : ((UInt8.ofNat x.toNat).toNat : Int) = x := by
 obtain ⟨n, rfl⟩ := Int.eq_ofNat_of_zero_le h.1
 simp [UInt8.toNat_ofNat']
 omega
theorem Qiz {l : List Int} (h : Bytes l) : bytesOf (strOfNums l) = l := by
 unfold bytesOf
 rw [strOfNums_data, List.map_map]
 conv => rhs; rw [← List.map_id l]
 apply List.map_congr_left
 intro x hx
 exact u8_back (h x hx)
theorem bytesOf_inj {a b : ByteArray} (h : bytesOf a = bytesOf b) : a = b := by
 have h1 : a.data.toList = b.data.toList := by
  unfold bytesOf at h
  exact List.map_inj_right (f := fun b : UInt8 => (b.toNat : Int)) (fun x y hxy => UInt8.toNat_inj.1 (Int.ofNat.inj hxy)) |>.1 h
 have h2 : a.data = b.data := Array.toList_inj.1 h1
 cases a; cases b; simp_all
theorem nums_bytesOf (s : ByteArray) : strOfNums (bytesOf s) = s := bytesOf_inj (Qiz (Qiq s))
def Free (l : List Int) : Prop := ∀ x ∈ l, x ≠ 0
theorem u8_zero {c : Int} (h : 0 ≤ c ∧ c < 256) : (UInt8.ofNat c.toNat == (0 : Int).toNat.toUInt8) = decide (c = 0) := by
 rw [Bool.eq_iff_iff, beq_iff_eq, decide_eq_true_iff]
 constructor
 ·intro e
  have h1 := u8_back h
  rw [e] at h1
  simpa using h1.symm
 ·rintro rfl
  rfl
theorem ix_free : ∀ {l : List Int}, Bytes l → Free l → ixOf l 0 = -1
 | [], _, _ => rfl
 | c :: l, hb, hf => by
  have h1 := hb c (List.mem_cons_self ..)
  have h2 := hf c (List.mem_cons_self ..)
  have ih := ix_free (l := l) (fun x hx => hb x (List.mem_cons_of_mem _ hx)) (fun x hx => hf x (List.mem_cons_of_mem _ hx))
  unfold ixOf at ih ⊢
  simp only [Lib.bytesOf, List.map_cons, Lib.indexByte, u8_zero h1] at ih ⊢
  rw [ih]
  simp [h2]
theorem ix_app : ∀ {a b : List Int}, Bytes a → Free a → ixOf (a ++ 0 :: b) 0 = a.length
 | [], b, _, _ => by
  unfold ixOf
  simp [Lib.bytesOf, Lib.indexByte]
 | c :: a, b, hb, hf => by
  have h1 := hb c (List.mem_cons_self ..)
  have h2 := hf c (List.mem_cons_self ..)
  have ih := ix_app (a := a) (b := b) (fun x hx => hb x (List.mem_cons_of_mem _ hx)) (fun x hx => hf x (List.mem_cons_of_mem _ hx))
  unfold ixOf at ih ⊢
  simp only [Lib.bytesOf, List.cons_append, List.map_cons, Lib.indexByte, u8_zero h1] at ih ⊢
  rw [ih]
  have : ((a.length : Int) == -1) = false := by rw [beq_eq_false_iff_ne]; omega
  simp [h2, this]
theorem take_free {a : List Int} (hb : Bytes a) (hf : Free a) (n : Nat) : ixOf (a.take n) 0 = -1 := ix_free (hb.take n) (fun x hx => hf x (List.mem_of_mem_take hx))
theorem stuff_zero {now rest : List Int} (hb : Bytes now) (hf : Free now) (hl : now.length < 254) : Qgw (now ++ 0 :: rest) = (((now.length : Int) + 1) % 256) :: (now ++ Qgw rest) := by
 have e : ixOf ((now ++ 0 :: rest).take 254) 0 = (now.length : Int) := by
  obtain ⟨m, hm⟩ : ∃ m, 254 - now.length = m + 1 := ⟨253 - now.length, by omega⟩
  rw [List.take_append, List.take_of_length_le (by omega), hm, List.take_succ_cons]
  exact ix_app hb hf
 rw [Qgz e, List.take_left', List.drop_append, List.drop_of_length_le (by omega)]
 ·simp
 ·rfl
theorem Qja {now : List Int} (hb : Bytes now) (hf : Free now) (hl : now.length ≤ 254) : Qgw now = (((now.length : Int) + 1) % 256) :: now :=
 Qhb (by rw [take_free hb hf]; omega) (by omega)
theorem stuff_full {now rest : List Int} (hb : Bytes now) (hf : Free now) (hl : now.length = 254) (hr : rest ≠ []) : Qgw (now ++ rest) = 255 :: (now ++ Qgw rest) := by
 have hr' : 0 < rest.length := List.length_pos_iff.2 hr
 have e1 : (now ++ rest).take 254 = now := by rw [← hl]; exact List.take_left' rfl
 have e2 : (now ++ rest).drop 254 = rest := by rw [← hl]; exact List.drop_left' rfl
 rw [Qha (by rw [e1, ix_free hb hf]; omega) (by rw [List.length_append]; omega), e1, e2]
theorem Qjb (s : ByteArray) (i : Nat) : bt s (i : Int) = rd (bytesOf s) (i : Int) := (Qcn s (i : Int)).symm
theorem ext_one (s : ByteArray) (i : Nat) (h : i < s.size) : bytesOf (s.extract i (i + 1)) = [bt s (i : Int)] := by
 rw [Qit, Qjb, Qis (by rw [Qcm]; exact h), Nat.add_sub_cancel_left, List.drop_eq_getElem_cons (by rw [Qcm]; exact h)]
 rfl
theorem Qjc (s : ByteArray) : s.toList = ([] : List UInt8) ↔ s.size = 0 := by
 constructor
 ·intro h
  have h1 : s.toList.length = s.size := by rw [Lib.toList_data, Qcl]
  rw [h] at h1
  simpa using h1.symm
 ·intro h
  have h1 : s.toList.length = s.size := by rw [Lib.toList_data, Qcl]
  exact List.eq_nil_of_length_eq_zero (by omega)
theorem Qjd (i : Nat) (h : i < 4611686018427387904) : wrap64 ((i : Int) + 1) = ((i + 1 : Nat) : Int) := by unfold wrap64; omega
theorem wrap_pred (i : Nat) (h0 : 0 < i) (h : i < 4611686018427387904) : wrap64 ((i : Int) - 1) = ((i - 1 : Nat) : Int) := by unfold wrap64; omega
def tailS (L now rest : List Int) (i : Nat) : List Int := if now = [] ∧ rest = [] ∧ 0 < i ∧ rd L ((i : Int) - 1) ≠ 0 then [] else Qgw (now ++ rest)
theorem j1_false (k : Nat) (all out now : ByteArray) (i : Nat) (hs : out.size + now.size + 1 ≤ 9223372036854775807) (hn : now.size < 254) (hi : i < 4611686018427387904) :
  ∃ o', bytesOf o' = bytesOf out ++ ((((bytesOf now).length : Int) + 1) % 256) :: bytesOf now ∧ Qba.j1 (k + 1) all out now (i : Int) false = Qba.l0 k all o' (⟨#[]⟩ : ByteArray) ((i + 1 : Nat) : Int) := by
 have hw : wrap64 ((now.size : Int) + 1) % 256 = (now.size : Int) + 1 := by unfold wrap64; omega
 have hsz : (strOfNums [(now.size : Int) + 1]).size = 1 := by rw [strOfNums_size]; rfl
 refine ⟨(out ++ strOfNums [(now.size : Int) + 1]) ++ now, ?_, ?_⟩
 ·rw [Qiy, Qiy, Qiz (by intro x hx; simp at hx; omega), Qcm, List.append_assoc]
  rw [show ((now.size : Int) + 1) % 256 = (now.size : Int) + 1 by omega]
  rfl
 ·unfold Qba.j1
  rw [if_neg (by decide), Option.bind_some, hw, if_pos (by omega), if_pos (by rw [ByteArray.size_append]; omega), show wrap64 ((i : Int) + 1) = ((i + 1 : Nat) : Int) by unfold wrap64; omega]
theorem Qje (s : ByteArray) (hs : s.size ≤ 1152921504606846976) : ∀ (d i k : Nat) (out now : ByteArray), i + d = s.size → Free (bytesOf now) → now.size < 254 → out.size + now.size ≤ 4 * i → 2 * d + 5 ≤ k →
  ∃ o', Qba.l0 k (s ++ (⟨#[0]⟩ : ByteArray)) out now (i : Int) = some o' ∧ bytesOf o' = bytesOf out ++ tailS (bytesOf s) (bytesOf now) ((bytesOf s).drop i) i
 | 0, i, k, out, now, hi, hf, hn, ho, hk => by
  obtain ⟨k, rfl⟩ : ∃ m, k = m + 3 := ⟨k - 3, by omega⟩
  have hall : (s ++ (⟨#[0]⟩ : ByteArray)).size = s.size + 1 := by rw [ByteArray.size_append]; rfl
  have hbA : bytesOf (s ++ (⟨#[0]⟩ : ByteArray)) = bytesOf s ++ [0] := by rw [Qiy]; rfl
  have hlen := Qcm s
  have hbt : bt (s ++ (⟨#[0]⟩ : ByteArray)) (i : Int) = 0 := by
   rw [Qjb, Qis (by rw [hbA, List.length_append, hlen]; simp; omega)]
   simp only [hbA]
   rw [List.getElem_append_right (by omega)]
   simp
  have hd : (bytesOf s).drop i = [] := List.drop_of_length_le (by omega)
  have hwl : wrap64 (((s ++ (⟨#[0]⟩ : ByteArray)).size : Int) - 1) = (i : Int) := by rw [hall]; unfold wrap64; omega
  have hnl := Qcm now
  have hend : ∀ (o : ByteArray) (m : Nat), Qba.l0 (m + 1) (s ++ (⟨#[0]⟩ : ByteArray)) o (⟨#[]⟩ : ByteArray) ((i + 1 : Nat) : Int) = some o := by
   intro o m
   unfold Qba.l0
   rw [if_neg (by rw [hall]; omega)]
  obtain ⟨oj, hj1, hj2⟩ := j1_false (k + 1) (s ++ (⟨#[0]⟩ : ByteArray)) out now i (by omega) hn (by omega)
  have hstf : Qgw (bytesOf now ++ []) = ((((bytesOf now).length : Int) + 1) % 256) :: bytesOf now := by
   rw [List.append_nil]
   exact Qja (Qiq now) hf (by omega)
  unfold Qba.l0
  rw [if_pos (by rw [hall]; omega), if_pos (by omega), hbt, if_pos rfl, hwl, if_pos rfl]
  by_cases hne : now.size = 0
  ·rw [if_pos ((Qjc now).2 hne)]
   have hn0 : bytesOf now = [] := List.eq_nil_of_length_eq_zero (by omega)
   by_cases h0 : 0 < i
   ·have hw1 : wrap64 ((i : Int) - 1) = ((i - 1 : Nat) : Int) := by unfold wrap64; omega
    rw [if_pos (by omega), hw1, if_pos (by omega), if_pos (by rw [hall]; omega)]
    have hb1 : bt (s ++ (⟨#[0]⟩ : ByteArray)) ((i - 1 : Nat) : Int) = rd (bytesOf s) ((i : Int) - 1) := by
     rw [show (i : Int) - 1 = ((i - 1 : Nat) : Int) by omega, Qjb, Qis (by rw [hbA, List.length_append, hlen]; simp; omega), Qis (by omega)]
     simp only [hbA]
     rw [List.getElem_append_left (by omega)]
    rw [hb1]
    by_cases hz : rd (bytesOf s) ((i : Int) - 1) = 0
    ·rw [hz, show ((0 : Int) != 0) = false from rfl, hj2]
     refine ⟨oj, hend _ _, ?_⟩
     rw [hj1, hd]
     unfold tailS
     rw [if_neg (by intro h; exact h.2.2.2 hz), hstf]
    ·refine ⟨out, ?_, ?_⟩
     ·unfold Qba.j1
      rw [if_pos (by simpa using hz)]
     ·rw [hd]
      unfold tailS
      rw [if_pos ⟨hn0, rfl, h0, hz⟩, List.append_nil]
   ·rw [if_neg (by omega), hj2]
    refine ⟨oj, hend _ _, ?_⟩
    rw [hj1, hd]
    unfold tailS
    rw [if_neg (by intro h; exact h0 h.2.2.1), hstf]
  ·rw [if_neg (by intro h; exact hne ((Qjc now).1 h)), hj2]
   refine ⟨oj, hend _ _, ?_⟩
   rw [hj1, hd]
   unfold tailS
   rw [if_neg (by intro h; have := h.1; rw [this] at hnl; exact hne hnl.symm), hstf]
 | d + 1, i, k, out, now, hi, hf, hn, ho, hk => by
  obtain ⟨k, rfl⟩ : ∃ m, k = m + 2 := ⟨k - 2, by omega⟩
  have hall : (s ++ (⟨#[0]⟩ : ByteArray)).size = s.size + 1 := by rw [ByteArray.size_append]; rfl
  have hbA : bytesOf (s ++ (⟨#[0]⟩ : ByteArray)) = bytesOf s ++ [0] := by rw [Qiy]; rfl
  have hlen := Qcm s
  have hil : i < (bytesOf s).length := by omega
  obtain ⟨c, hc⟩ : ∃ c, c = (bytesOf s)[i] := ⟨_, rfl⟩
  have hbt : bt (s ++ (⟨#[0]⟩ : ByteArray)) (i : Int) = c := by
   rw [Qjb, Qis (by rw [hbA, List.length_append]; omega), hc]
   simp only [hbA]
   rw [List.getElem_append_left hil]
  have hcb : 0 ≤ c ∧ c < 256 := by rw [hc]; exact Qiq s _ (List.getElem_mem hil)
  have hdrop : (bytesOf s).drop i = c :: (bytesOf s).drop (i + 1) := by rw [hc]; exact List.drop_eq_getElem_cons hil
  have hrd : rd (bytesOf s) (((i + 1 : Nat) : Int) - 1) = c := by rw [show (((i + 1 : Nat) : Int) - 1) = (i : Int) by omega, Qis hil, hc]
  have hnl := Qcm now
  have hnot : ¬ (i : Int) = wrap64 (((s ++ (⟨#[0]⟩ : ByteArray)).size : Int) - 1) := by rw [hall]; unfold wrap64; omega
  have hnil : bytesOf (⟨#[]⟩ : ByteArray) = [] := rfl
  rw [hdrop]
  unfold Qba.l0
  rw [if_pos (by rw [hall]; omega), if_pos (by omega), hbt]
  by_cases hz : c = 0
  ·subst hz
   rw [if_pos rfl, if_neg hnot]
   obtain ⟨oj, hj1, hj2⟩ := j1_false k (s ++ (⟨#[0]⟩ : ByteArray)) out now i (by omega) hn (by omega)
   have hjs : oj.size = out.size + now.size + 1 := by
    have := congrArg List.length hj1
    rw [Qcm, List.length_append, List.length_cons, Qcm, Qcm] at this
    omega
   rw [hj2]
   obtain ⟨o', h1, h2⟩ := Qje s hs d (i + 1) k oj (⟨#[]⟩ : ByteArray) (by omega) (by intro x hx; rw [hnil] at hx; cases hx) (by decide) (by rw [hjs]; show _ + 0 ≤ _; omega) (by omega)
   refine ⟨o', h1, ?_⟩
   rw [h2, hj1, hnil]
   unfold tailS
   rw [if_neg (by intro h; exact h.2.2.2 hrd), if_neg (by intro h; cases h.2.1), List.nil_append, stuff_zero (Qiq now) hf (by omega)]
   simp
  ·rw [if_neg hz, Qjd i (by omega), if_pos (by omega), if_pos (by rw [hall]; omega)]
   obtain ⟨x1, hx1⟩ : ∃ x1, x1 = (s ++ (⟨#[0]⟩ : ByteArray)).extract (i : Int).toNat ((i + 1 : Nat) : Int).toNat := ⟨_, rfl⟩
   have hxb : bytesOf x1 = [c] := by
    rw [hx1, Int.toNat_natCast, Int.toNat_natCast, ext_one _ _ (by rw [hall]; omega), hbt]
   have hxs : x1.size = 1 := by rw [Qiu, hxb]; rfl
   rw [← hx1, if_pos (by omega)]
   have hnb : bytesOf (now ++ x1) = bytesOf now ++ [c] := by rw [Qiy, hxb]
   have hns : (now ++ x1).size = now.size + 1 := by rw [ByteArray.size_append, hxs]
   have hfree : Free (bytesOf now ++ [c]) := by
    intro x hx
    rcases List.mem_append.1 hx with h | h
    ·exact hf x h
    ·simp at h; rw [h]; exact hz
   by_cases hfull : ((now ++ x1).size : Int) = 254
   ·rw [if_pos hfull, if_pos (by omega)]
    have hos : (out ++ (⟨#[255]⟩ : ByteArray)).size = out.size + 1 := by rw [ByteArray.size_append]; rfl
    rw [if_pos (by rw [hos]; omega)]
    obtain ⟨o', h1, h2⟩ := Qje s hs d (i + 1) (k + 1) ((out ++ (⟨#[255]⟩ : ByteArray)) ++ (now ++ x1)) (⟨#[]⟩ : ByteArray) (by omega) (by intro x hx; rw [hnil] at hx; cases hx) (by decide) (by rw [ByteArray.size_append, hos]; show _ + 0 ≤ _; omega) (by omega)
    refine ⟨o', h1, ?_⟩
    rw [h2, Qiy, Qiy, hnb, hnil, show bytesOf (⟨#[255]⟩ : ByteArray) = [255] from rfl]
    have hl254 : (bytesOf now ++ [c]).length = 254 := by rw [List.length_append, hnl]; simp; omega
    have hbb : Bytes (bytesOf now ++ [c]) := by rw [← hnb]; exact Qiq _
    unfold tailS
    by_cases hr : (bytesOf s).drop (i + 1) = []
    ·rw [if_pos ⟨rfl, hr, by omega, by rw [hrd]; exact hz⟩, if_neg (by intro h; cases h.2.1), hr, Qja hbb hfree (by omega), hl254]
     simp
    ·rw [if_neg (by intro h; exact hr h.2.1), if_neg (by intro h; cases h.2.1), List.nil_append]
     have := stuff_full hbb hfree hl254 hr
     rw [List.append_assoc] at this
     rw [show bytesOf now ++ c :: (bytesOf s).drop (i + 1) = bytesOf now ++ ([c] ++ (bytesOf s).drop (i + 1)) from rfl, this]
     simp
   ·rw [if_neg hfull]
    obtain ⟨o', h1, h2⟩ := Qje s hs d (i + 1) (k + 1) out (now ++ x1) (by omega) (by rw [hnb]; exact hfree) (by omega) (by omega) (by omega)
    refine ⟨o', h1, ?_⟩
    rw [h2, hnb]
    unfold tailS
    rw [if_neg (by intro h; have := h.1; simp at this), if_neg (by intro h; cases h.2.1)]
    simp
theorem stuff_ref (s : ByteArray) (k : Nat) (hs : s.size ≤ 1152921504606846976) (hk : 2 * s.size + 5 ≤ k) : ∃ o', Qba.f k s = some o' ∧ bytesOf o' = Qgw (bytesOf s) := by
 have hnil : bytesOf (⟨#[]⟩ : ByteArray) = [] := rfl
 obtain ⟨o', h1, h2⟩ := Qje s hs s.size 0 k (⟨#[]⟩ : ByteArray) (⟨#[]⟩ : ByteArray) (by omega) (by intro x hx; rw [hnil] at hx; cases hx) (by decide) (by decide) hk
 refine ⟨o', ?_, ?_⟩
 ·unfold Qba.f
  rw [if_pos (by omega)]
  exact h1
 ·rw [h2, hnil]
  unfold tailS
  rw [if_neg (by intro h; exact absurd h.2.2.1 (by omega))]
  simp
end Go.Proofs.YtnnofopfbeklbaaGreat.CodecP
end
section
namespace Go.Proofs.YtnnofopfbeklbaaGreat.C
open Go.RowKit Go.Proofs.YtnnofopfbeklbaaGreatW.PrintWords Go.Proofs.YtnnofopfbeklbaaGreatW.PrintLast Go.Proofs.YtnnofopfbeklbaaGreatW.PrintMore
attribute [local go_sem] Qfg Qfh Qfi Qfj Qfk Qfl Qfm Qfn
def fascicleref09_Head.T1 : Bool × List (List Nat × List Nat) := (true, [([], []), ([0], [0]), ([1], [1]), ([2], [2]), ([3], [3]), ([], []), ([5], [5]), ([6], [6]), ([7], [7]), ([4, 8], [4, 8]), ([], []), ([10, 8], [10]), ([9, 11], [9, 11]), ([12, 11], [12]), ([13, 13, 0, 1, 2, 3, 4, 5, 6, 7, 8, 9, 10, 11, 12, 13], [13])])
def fascicleref09_Head.B1 : List Nat := [0, 1, 3, 7, 15, 0, 32, 96, 224, 511, 0, 1504, 4095, 8191, 16383]
theorem fascicleref09_Head.tab1 : rtab .any (opsOf Tryz.f55 1) = fascicleref09_Head.T1 := by kernel_rfl
theorem fascicleref09_Head.bits1 : Qey fascicleref09_Head.T1.2 fascicleref09_Head.B1 = true := by kernel_rfl
end Go.Proofs.YtnnofopfbeklbaaGreat.C
end
section
namespace Go.Proofs.YtnnofopfbeklbaaGreat.CodecP
open Go.RowKit Go.Proofs.YtnnofopfbeklbaaGreat.C Go.Proofs.YtnnofopfbeklbaaGreatW.PrintWords Go.Proofs.YtnnofopfbeklbaaGreatW.PrintLast Go.Proofs.YtnnofopfbeklbaaGreatW.PrintMore
set_option maxRecDepth 20000
theorem num2_ref : ∀ (n k : Nat) (x : Int), n ≤ 9 → 0 ≤ x → x < 128 ^ (n + 1) → x < 18446744073709551616 → n + 1 ≤ k → ∃ t, Qat.f k x = some t ∧ bytesOf t = vput n x
 | 0, k, x, hn, h0, h1, h2, hk => by
  obtain ⟨k, rfl⟩ : ∃ m, k = m + 1 := ⟨k - 1, by omega⟩
  have hx : x < 128 := by simpa using h1
  refine ⟨strOfNums [x % 256], ?_, ?_⟩
  ·unfold Qat.f
   rw [if_pos hx]
  ·rw [Qiz (by intro y hy; simp at hy; omega)]
   simp [vput]
   omega
 | n + 1, k, x, hn, h0, h1, h2, hk => by
  obtain ⟨k, rfl⟩ : ∃ m, k = m + 1 := ⟨k - 1, by omega⟩
  by_cases hx : x < 128
  ·refine ⟨strOfNums [x % 256], ?_, ?_⟩
   ·unfold Qat.f
    rw [if_pos hx]
   ·rw [Qiz (by intro y hy; simp at hy; omega)]
    simp [vput, hx]
    omega
  ·have hq : x / 128 < 128 ^ (n + 1) := by
    rw [Int.pow_succ] at h1
    exact Int.ediv_lt_of_lt_mul (by omega) h1
   obtain ⟨t, ht, hb⟩ := num2_ref n k (x / 128) (by omega) (by omega) hq (by omega) (by omega)
   have e1 : IntKind.u64.wrap (Int.tdiv x 128) = x / 128 := by rw [Int.tdiv_eq_ediv_of_nonneg h0, IntWalk.u64_in _ (by omega)]
   have e2 : IntKind.u64.wrap (128 + (Int.tmod x 128)) % 256 = x % 128 + 128 := by rw [Int.tmod_eq_emod_of_nonneg h0, IntWalk.u64_in _ (by omega)]; omega
   have hl := Qhc n (x / 128)
   have hts : t.size ≤ n + 1 := by rw [Qiu, hb]; exact hl
   have hy : (strOfNums [x % 128 + 128]).size = 1 := by rw [strOfNums_size]; rfl
   refine ⟨strOfNums [x % 128 + 128] ++ t, ?_, ?_⟩
   ·unfold Qat.f
    rw [if_neg hx, Option.bind_some, e1, e2, ht, Option.bind_some, hy]
    rw [if_pos (by omega)]
   ·rw [Qiy, Qiz (by intro y hy'; simp at hy'; omega), hb]
    simp [vput, hx]
theorem num2 (k : Nat) (x : Int) (h0 : 0 ≤ x) (h1 : x < 18446744073709551616) (hk : 10 ≤ k) : ∃ t, Qat.f k x = some t ∧ bytesOf t = vput 9 x :=
 num2_ref 9 k x (by omega) h0 (by omega) h1 hk
theorem num1_run : ∀ (d k : Nat) (n i : Nat) (x : Int) (out : ByteArray), i + d = n → n ≤ 1000 → 0 ≤ x → x < 18446744073709551616 → out.size ≤ i → d + 1 ≤ k →
  ∃ t, Qar.l0 k x out (n : Int) (i : Int) = some t ∧ bytesOf t = bytesOf out ++ leb x d
 | 0, k, n, i, x, out, h, hn, h0, h1, ho, hk => by
  obtain ⟨k, rfl⟩ : ∃ m, k = m + 1 := ⟨k - 1, by omega⟩
  refine ⟨out, ?_, by simp [leb]⟩
  unfold Qar.l0
  rw [if_neg (by omega)]
 | d + 1, k, n, i, x, out, h, hn, h0, h1, ho, hk => by
  obtain ⟨k, rfl⟩ : ∃ m, k = m + 1 := ⟨k - 1, by omega⟩
  have e1 : (Int.tmod x 256) % 256 = x % 256 := by rw [Int.tmod_eq_emod_of_nonneg h0]; omega
  have e2 : IntKind.u64.wrap (Int.tdiv x 256) = x / 256 := by rw [Int.tdiv_eq_ediv_of_nonneg h0, IntWalk.u64_in _ (by omega)]
  have hy : (strOfNums [x % 256]).size = 1 := by rw [strOfNums_size]; rfl
  obtain ⟨t, ht, hb⟩ := num1_run d k n (i + 1) (x / 256) (out ++ strOfNums [x % 256]) (by omega) hn (by omega) (by omega) (by rw [ByteArray.size_append, hy]; omega) (by omega)
  refine ⟨t, ?_, ?_⟩
  ·unfold Qar.l0
   rw [if_pos (by omega), Option.bind_some, e1, e2, hy, if_pos (by omega), Qjd i (by omega)]
   exact ht
  ·rw [hb, Qiy, Qiz (by intro y hy'; simp at hy'; omega)]
   simp [leb]
theorem num1 (k n : Nat) (x : Int) (hn : n ≤ 1000) (h0 : 0 ≤ x) (h1 : x < 18446744073709551616) (hk : n + 1 ≤ k) : ∃ t, Qar.f k x (n : Int) = some t ∧ bytesOf t = leb x n := by
 obtain ⟨t, ht, hb⟩ := num1_run n k n 0 x (⟨#[]⟩ : ByteArray) (by omega) hn h0 h1 (by decide) hk
 exact ⟨t, ht, by rw [hb]; rfl⟩
theorem text2 (k : Nat) (s : ByteArray) (hs : s.size ≤ 70368744177664) (hk : 10 ≤ k) : ∃ t, Qau.f k s = some t ∧ bytesOf t = vput 9 s.size ++ bytesOf s ∧ t.size ≤ s.size + 10 := by
 obtain ⟨t, ht, hb⟩ := num2 k (s.size : Int) (by omega) (by omega) hk
 have hl := Qhc 9 (s.size : Int)
 have hts : t.size ≤ 10 := by rw [Qiu, hb]; omega
 refine ⟨t ++ s, ?_, by rw [Qiy, hb], by rw [ByteArray.size_append]; omega⟩
 unfold Qau.f
 rw [if_pos hs, ht, Option.bind_some, if_pos (by omega)]
theorem body_ref (k : Nat) (d : Bool) (s : Int) (key v : ByteArray) (hs0 : 0 ≤ s) (hs1 : s < 18446744073709551616) (hk1 : key.size ≤ 70368744177664) (hv1 : v.size ≤ 70368744177664) (hk : 10 ≤ k) :
  ∃ t, Qbb.f k d s key v = some t ∧ bytesOf t = Qhi d s key v ∧ t.size ≤ key.size + v.size + 31 := by
 obtain ⟨t1, h1, b1⟩ := num2 k s hs0 hs1 hk
 obtain ⟨t2, h2, b2, z2⟩ := text2 k key hk1 hk
 obtain ⟨t3, h3, b3, z3⟩ := text2 k v hv1 hk
 have hl := Qhc 9 s
 have hz1 : t1.size ≤ 10 := by rw [Qiu, b1]; omega
 cases d with
 | true =>
  have hc : (⟨#[3]⟩ : ByteArray).size = 1 := rfl
  refine ⟨((⟨#[3]⟩ : ByteArray) ++ t1) ++ t2, ?_, ?_, ?_⟩
  ·unfold Qbb.f
   rw [if_pos rfl, h1, Option.bind_some, if_pos (by omega), h2, Option.bind_some, if_pos (by rw [ByteArray.size_append, hc]; omega)]
  ·rw [Qiy, Qiy, b1, b2, show bytesOf (⟨#[3]⟩ : ByteArray) = [3] from rfl]
   simp [Qhi]
  ·rw [ByteArray.size_append, ByteArray.size_append, hc]; omega
 | false =>
  have hc : (⟨#[2]⟩ : ByteArray).size = 1 := rfl
  refine ⟨(((⟨#[2]⟩ : ByteArray) ++ t1) ++ t2) ++ t3, ?_, ?_, ?_⟩
  ·unfold Qbb.f
   rw [if_neg (by decide), h1, Option.bind_some, if_pos (by omega), h2, Option.bind_some, if_pos (by rw [ByteArray.size_append, hc]; omega), h3, Option.bind_some, if_pos (by rw [ByteArray.size_append, ByteArray.size_append, hc]; omega)]
  ·rw [Qiy, Qiy, Qiy, b1, b2, b3, show bytesOf (⟨#[2]⟩ : ByteArray) = [2] from rfl]
   simp [Qhi]
  ·rw [ByteArray.size_append, ByteArray.size_append, ByteArray.size_append, hc]; omega
theorem seal_ref (k : Nat) (s : ByteArray) (hs : s.size ≤ 562949953421312) (hk : 2 * s.size + 200 ≤ k) : ∃ t, Qbd.f k s = some t ∧ bytesOf t = Qhp (bytesOf s) := by
 have hr := Qho 0 (bytesOf s)
 obtain ⟨t1, h1, b1⟩ := num1 k 8 (Qhn 0 (bytesOf s)) (by omega) hr.1 hr.2 (by omega)
 have hz1 : t1.size = 8 := by rw [Qiu, b1, Qfz]
 obtain ⟨t2, h2, b2⟩ := stuff_ref (s ++ t1) k (by rw [ByteArray.size_append]; omega) (by rw [ByteArray.size_append]; omega)
 have hl := Qhq _ (bytesOf (s ++ t1)) (Nat.le_refl _)
 have hz2 : t2.size ≤ 2 * s.size + 17 := by
  rw [Qiu t2, b2]
  rw [Qcm, ByteArray.size_append] at hl
  omega
 refine ⟨t2 ++ (⟨#[0]⟩ : ByteArray), ?_, ?_⟩
 ·unfold Qbd.f
  rw [hash_ref 0 s k ⟨by omega, by omega⟩ (by omega) (by omega), Option.bind_some, show (8 : Int) = ((8 : Nat) : Int) from rfl, h1, Option.bind_some, if_pos (by omega), h2, Option.bind_some, if_pos (by omega)]
 ·rw [Qiy, b2, Qiy, b1]
  rfl
theorem record_ref (k : Nat) (d : Bool) (s : Int) (key v : ByteArray) (hs0 : 0 ≤ s) (hs1 : s < 18446744073709551616) (hk1 : key.size ≤ 35184372088832) (hv1 : v.size ≤ 35184372088832) (hk : 2 * (key.size + v.size) + 300 ≤ k) :
  ∃ t, Qbc.f k d s key v = some t ∧ bytesOf t = Qhp (Qhi d s key v) := by
 obtain ⟨t1, h1, b1, z1⟩ := body_ref k d s key v hs0 hs1 (by omega) (by omega) (by omega)
 obtain ⟨t2, h2, b2⟩ := seal_ref k t1 (by omega) (by omega)
 refine ⟨t2, ?_, by rw [b2, b1]⟩
 unfold Qbc.f
 rw [h1, Option.bind_some, h2, Option.bind_some]
end Go.Proofs.YtnnofopfbeklbaaGreat.CodecP
end
section
namespace Go.Proofs.YtnnofopfbeklbaaGreat.C
open Go.RowKit Go.Proofs.YtnnofopfbeklbaaGreatW.PrintWords Go.Proofs.YtnnofopfbeklbaaGreatW.PrintLast Go.Proofs.YtnnofopfbeklbaaGreatW.PrintMore
attribute [local go_sem] Qfg Qfh Qfi Qfj Qfk Qfl Qfm Qfn
def fascicleref14_Empty.T1 : Bool × List (List Nat × List Nat) := (true, [([], []), ([], []), ([], []), ([], []), ([2, 3], [2, 3]), ([4], [4]), ([0, 1, 5], [0, 1, 5]), ([6, 4, 0, 1, 2, 3, 4, 5, 6], [6])])
def fascicleref14_Empty.B1 : List Nat := [0, 0, 0, 0, 12, 28, 63, 127]
theorem fascicleref14_Empty.tab1 : rtab .any (opsOf Tryz.f20 1) = fascicleref14_Empty.T1 := by kernel_rfl
theorem fascicleref14_Empty.bits1 : Qey fascicleref14_Empty.T1.2 fascicleref14_Empty.B1 = true := by kernel_rfl
def fascicleref14_Fits.T3 : Bool × List (List Nat × List Nat) := (true, [([], []), ([0], [0]), ([], []), ([1, 2], [1, 2]), ([], []), ([4], [4]), ([5], [5]), ([6], [6]), ([3, 7], [3, 7]), ([8], [8]), ([], []), ([10], [10]), ([11, 7], [11]), ([9, 12], [9, 12]), ([13, 12, 0, 1, 2, 3, 4, 5, 6, 7, 8, 9, 10, 11, 12, 13], [13])])
def fascicleref14_Fits.B3 : List Nat := [0, 1, 0, 7, 0, 16, 48, 112, 255, 511, 0, 1024, 3312, 8191, 16383]
theorem fascicleref14_Fits.tab3 : rtab .any (opsOf Tryz.f24 3) = fascicleref14_Fits.T3 := by kernel_rfl
theorem fascicleref14_Fits.bits3 : Qey fascicleref14_Fits.T3.2 fascicleref14_Fits.B3 = true := by kernel_rfl
end Go.Proofs.YtnnofopfbeklbaaGreat.C
end
section
namespace Go.Proofs.YtnnofopfbeklbaaGreat.CodecP
open Go.RowKit Go.Proofs.YtnnofopfbeklbaaGreat.C Go.Proofs.YtnnofopfbeklbaaGreatW.PrintWords Go.Proofs.YtnnofopfbeklbaaGreatW.PrintLast Go.Proofs.YtnnofopfbeklbaaGreatW.PrintMore
set_option maxRecDepth 20000
theorem Qjf : ∀ (n : Nat) (b : List Int), b.length ≤ n → b.length < 254 → (Qgw b).length = b.length + 1
 | n, b, hn, h => by
  rcases Int.lt_or_le (ixOf (b.take 254) 0) 0 with h0 | h0
  ·rw [Qhb h0 (by omega)]
   simp
  ·obtain ⟨p, hp⟩ := Int.eq_ofNat_of_zero_le h0
   have h1 := (Qgu (b.take 254) 0).2
   rw [List.length_take, hp] at h1
   rw [Qgz hp]
   match n, hn with
   | 0, hn => omega
   | n + 1, hn =>
    have ih := Qjf n (b.drop (p + 1)) (by rw [List.length_drop]; omega) (by rw [List.length_drop]; omega)
    rw [List.length_cons, List.length_append, ih, List.length_take, List.length_drop]
    omega
theorem vput_mono : ∀ (n : Nat) (x y : Int), 0 ≤ x → x ≤ y → (vput n x).length ≤ (vput n y).length
 | 0, _, _, _, _ => by simp [vput]
 | n + 1, x, y, h0, h => by
  have ih := vput_mono n (x / 128) (y / 128) (by omega) (by omega)
  unfold vput
  by_cases hy : y < 128
  ·rw [if_pos hy, if_pos (by omega)]
   simp
  ·rw [if_neg hy]
   by_cases hx : x < 128
   ·rw [if_pos hx]; simp
   ·rw [if_neg hx]; simp; omega
def Qjg (e s n : Int) : Int := ((Qhr e s n).length : Int)
theorem headN_eq (e s n : Int) : Qjg e s n = 3 + (vput 9 s).length + (vput 9 n).length + 10 := by
 unfold Qjg Qhr Qhp
 have h1 := Qhc 9 s
 have h2 := Qhc 9 n
 have hl : ([1, 2, e] ++ vput 9 s ++ vput 9 n ++ leb (Qhn 0 ([1, 2, e] ++ vput 9 s ++ vput 9 n)) 8).length = 3 + (vput 9 s).length + (vput 9 n).length + 8 := by
  rw [List.length_append, List.length_append, List.length_append, Qfz]
  rfl
 rw [List.length_append, Qjf _ _ (Nat.le_refl _) (by rw [hl]; omega), hl]
 simp
 omega
theorem Qjh (e s n : Int) : 0 ≤ Qjg e s n ∧ Qjg e s n ≤ 100 := by
 rw [headN_eq]
 have h1 := Qhc 9 s
 have h2 := Qhc 9 n
 omega
theorem headN_mono (e s : Int) {n m : Int} (h0 : 0 ≤ n) (h : n ≤ m) : Qjg e s n ≤ Qjg e s m := by
 rw [headN_eq, headN_eq]
 have := vput_mono 9 n m h0 h
 omega
def Qji (n : Int) : Int := 9 + 12 * n + 8 * ((n + 15) / 16) + 8 + 1 + (9 + 12 * n + 8 * ((n + 15) / 16) + 8 - 1) / 254 + 1
def szN (e : Int) : Int := 2 ^ e.toNat
def Good (e s : Int) : Prop := 12 ≤ e ∧ e ≤ 24 ∧ 1 ≤ s ∧ s ≤ 65536
theorem Qjj {e s : Int} (h : Good e s) : Qak.f e s = some 0 := by
 obtain ⟨h1, h2, h3, h4⟩ := h
 unfold Qak.f
 rw [if_neg (by omega), if_neg (by omega), if_neg (by omega), if_neg (by omega)]
theorem check_bad {e s : Int} (h : ¬ Good e s) : Qak.f e s = some 1 := by
 unfold Qak.f
 by_cases h1 : e < 12
 ·rw [if_pos h1]
 by_cases h2 : e > 24
 ·rw [if_neg h1, if_pos h2]
 by_cases h3 : s < 1
 ·rw [if_neg h1, if_neg h2, if_pos h3]
 by_cases h4 : s > 65536
 ·rw [if_neg h1, if_neg h2, if_neg h3, if_pos h4]
 ·exact absurd ⟨by omega, by omega, by omega, by omega⟩ h
theorem Qjk {e : Int} (h1 : 12 ≤ e) (h2 : e ≤ 24) : 4096 ≤ szN e ∧ szN e ≤ 16777216 := by
 unfold szN
 obtain ⟨n, rfl⟩ := Int.eq_ofNat_of_zero_le (show 0 ≤ e by omega)
 rw [Int.toNat_natCast]
 have h3 : (2 : Nat) ^ 12 ≤ 2 ^ n := Nat.pow_le_pow_right (by omega) (by omega)
 have h4 : (2 : Nat) ^ n ≤ 2 ^ 24 := Nat.pow_le_pow_right (by omega) (by omega)
 have h5 : ((2 ^ n : Nat) : Int) = (2 : Int) ^ n := by rw [Int.natCast_pow]; rfl
 rw [← h5]
 omega
theorem Qjl {e s : Int} (h : Good e s) : Qal.f e s = some (szN e) := by
 have hr := Qjk h.1 h.2.1
 unfold Qal.f
 rw [Qjj h, Option.bind_some, if_pos rfl, if_pos (by have := h.1; omega)]
 congr 1
 unfold shl
 have hm : min e.toNat IntKind.i64.bits = e.toNat := by simp [IntKind.bits]; have := h.2.1; omega
 rw [hm, Int.one_mul]
 exact IntWalk.i64_in _ (by unfold szN at hr; omega)
theorem most_prog (c : Int) (h0 : 0 ≤ c) (h1 : c ≤ 16777216) : Qbf.f c = some (Qji c) := by
 have hm : mx 0 c = c := by unfold mx; split <;> omega
 have hf : Qbe.f c = some ((c + 15) / 16) := by
  unfold Qbe.f
  rw [hm]
  have e1 : wrap64 ((wrap64 (c + 16)) - 1) = c + 15 := by unfold wrap64; omega
  rw [e1, Int.tdiv_eq_ediv_of_nonneg (by omega)]
  congr 1
  unfold wrap64
  omega
 have ha : wrap64 ((wrap64 (9 + (wrap64 (12 * c)))) + (wrap64 (8 * ((c + 15) / 16)))) = 9 + 12 * c + 8 * ((c + 15) / 16) := by unfold wrap64; omega
 unfold Qbf.f
 rw [hm, hf, Option.bind_some, ha]
 obtain ⟨m, hmm⟩ : ∃ m, m = 9 + 12 * c + 8 * ((c + 15) / 16) := ⟨_, rfl⟩
 have hm0 : 0 ≤ m := by omega
 have hm1 : m ≤ 1000000000 := by omega
 unfold Qji
 rw [← hmm]
 clear hmm ha hf hm
 have hx : mx 0 m = m := by unfold mx; split <;> omega
 unfold Qbj.f Qaj.f
 rw [hx]
 have e1 : wrap64 (m + 8) = m + 8 := by unfold wrap64; omega
 rw [e1, if_neg (by omega)]
 have e2 : wrap64 (m + 8 - 1) = m + 8 - 1 := by unfold wrap64; omega
 rw [e2, Int.tdiv_eq_ediv_of_nonneg (by omega), Option.bind_some, Option.bind_some]
 congr 1
 unfold wrap64
 omega
theorem Qjm (c : Int) (h0 : 0 ≤ c) (h1 : c ≤ 16777216) : 12 * c ≤ Qji c ∧ Qji c ≤ 1000000000 := by unfold Qji; omega
def Qjn (e u c x : Int) : Bool := decide (1 ≤ x ∧ u + x + Qji (c + 1) ≤ szN e)
theorem Qjo {e s : Int} (h : Good e s) (n u c x : Int) (hu0 : 0 ≤ u) (hu1 : u ≤ 16777216) (hc0 : 0 ≤ c) (hc1 : c ≤ 8388608) (hx1 : x ≤ 1152921504606846976) : Qbr.f e s n u c x = some (Qjn e u c x) := by
 have hz := Qjk h.1 h.2.1
 have hm := Qjm (c + 1) (by omega) (by omega)
 unfold Qbr.f Qjn
 by_cases hx : x ≥ 1
 ·rw [if_pos hx]
  unfold Qbs.f
  rw [Qjl h, Option.bind_some, show wrap64 (c + 1) = c + 1 by unfold wrap64; omega, most_prog (c + 1) (by omega) (by omega), Option.bind_some, Option.bind_some]
  congr 1
  have e1 : wrap64 (wrap64 (szN e - u) - Qji (c + 1)) = szN e - u - Qji (c + 1) := by unfold wrap64; omega
  rw [e1]
  unfold mx
  rw [decide_eq_decide]
  split <;> omega
 ·rw [if_neg hx]
  congr 1
  symm
  rw [decide_eq_false_iff_not]
  omega
theorem Qjp {e u c x : Int} (h : Qjn e u c x = true) : 1 ≤ x ∧ u + x + Qji (c + 1) ≤ szN e := by simpa [Qjn] using h
theorem Qjq {e s : Int} (h : Good e s) (n u c x : Int) (hu0 : 0 ≤ u) (hu1 : u ≤ 16777216) (hc0 : 0 ≤ c) (hc1 : c ≤ 8388608) (hx1 : x ≤ 1152921504606846976) (hf : Qjn e u c x = true) : Qbt.f e s n u c x = some (e, s, n, u + x, c + 1, 0) := by
 have hz := Qjk h.1 h.2.1
 have hm := Qjm (c + 1) (by omega) (by omega)
 obtain ⟨f1, f2⟩ := Qjp hf
 unfold Qbt.f
 rw [Qjo h n u c x hu0 hu1 hc0 hc1 hx1, Option.bind_some, hf, if_pos rfl, show wrap64 (u + x) = u + x by unfold wrap64; omega, show wrap64 (c + 1) = c + 1 by unfold wrap64; omega]
theorem Qjr {e s : Int} (h : Good e s) (n : Int) (h0 : 0 ≤ n) (h1 : n < s) : Qbg.f e s n = some (Qhr e s n, 0) := by
 obtain ⟨a, b, c, d⟩ := h
 unfold Qbg.f Qbk.f
 rw [Qjj ⟨a, b, c, d⟩, Option.bind_some, if_pos rfl, if_neg (by omega), Option.bind_some, if_pos rfl, if_pos ⟨by omega, by omega, by omega, by omega, by omega, by omega⟩]
theorem Qjs {e s : Int} (h : Good e s) (n : Int) (h0 : 0 ≤ n) (h1 : n < s) : Qbp.f e s n = some (e, s, n, Qjg e s n, 0, 0) := by
 unfold Qbp.f
 rw [Qjr h n h0 h1, Option.bind_some, if_pos rfl]
 rfl
theorem empty_bad {e s : Int} (h : Good e s) (n : Int) (h1 : s ≤ n) : Qbp.f e s n = some (0, 0, 0, 0, 0, 1) := by
 unfold Qbp.f Qbg.f Qbk.f
 rw [Qjj h, Option.bind_some, if_pos rfl, if_pos (by omega), Option.bind_some, if_neg (by decide), Option.bind_some, if_neg (by decide)]
def Qjt (e s : Int) : List Int → List Int → Int → Int → Int → List Int × Int
 | [], out, _, _, _ => (out, 0)
 | x :: t, out, n, u, c =>
  if Qjn e (Qjg e s (s - 1)) 0 x = false then ([], 6)
  else if Qjn e u c x = true then Qjt e s t (out ++ [n]) n (u + x) (c + 1)
  else if n + 1 < s then Qjt e s t (out ++ [n + 1]) (n + 1) (Qjg e s (n + 1) + x) 1
  else ([], 7)
theorem fits_any {e s : Int} (h : Good e s) {n x : Int} (h0 : 0 ≤ n) (h1 : n ≤ s - 1) (hf : Qjn e (Qjg e s (s - 1)) 0 x = true) : Qjn e (Qjg e s n) 0 x = true := by
 obtain ⟨f1, f2⟩ := Qjp hf
 have := headN_mono e s h0 h1
 simp only [Qjn, decide_eq_true_eq]
 omega
theorem Qju {l : List Int} {i : Nat} (h : i < l.length) : l.drop i = rd l (i : Int) :: l.drop (i + 1) := by rw [List.drop_eq_getElem_cons h, Qis h]
theorem after_fit {e s : Int} (h : Good e s) {u c x : Int} (hc0 : 0 ≤ c) (hc1 : c ≤ 8388608) (hu0 : 0 ≤ u) (hf : Qjn e u c x = true) : 0 ≤ u + x ∧ u + x ≤ 16777216 ∧ 0 ≤ c + 1 ∧ c + 1 ≤ 8388608 := by
 have hz := Qjk h.1 h.2.1
 have hm := Qjm (c + 1) (by omega) (by omega)
 obtain ⟨f1, f2⟩ := Qjp hf
 omega
theorem Qjv {e s : Int} (h : Good e s) (l : List Int) (hl : l.length ≤ 1000000) (hx : ∀ x ∈ l, x ≤ 1152921504606846976) : ∀ (d i k : Nat) (out : List Int) (n u c : Int), i + d = l.length → out.length = i → 0 ≤ n → n < s → 0 ≤ u → u ≤ 16777216 → 0 ≤ c → c ≤ 8388608 → d + 1 ≤ k →
  Qbq.l0 k out l (l.length : Int) (i : Int) e s e s n u c e s (s - 1) (Qjg e s (s - 1)) 0 = some (Qjt e s (l.drop i) out n u c)
 | 0, i, k, out, n, u, c, hi, ho, hn0, hn1, hu0, hu1, hc0, hc1, hk => by
  obtain ⟨k, rfl⟩ : ∃ m, k = m + 1 := ⟨k - 1, by omega⟩
  rw [List.drop_of_length_le (by omega)]
  unfold Qbq.l0
  rw [if_neg (by omega)]
  rfl
 | d + 1, i, k, out, n, u, c, hi, ho, hn0, hn1, hu0, hu1, hc0, hc1, hk => by
  obtain ⟨k, rfl⟩ : ∃ m, k = m + 1 := ⟨k - 1, by omega⟩
  have hg := h
  obtain ⟨a1, a2, a3, a4⟩ := h
  have hil : i < l.length := by omega
  have hxi : rd l (i : Int) ≤ 1152921504606846976 := by rw [Qis hil]; exact hx _ (List.getElem_mem hil)
  have hH := Qjh e s (s - 1)
  rw [Qju hil]
  unfold Qbq.l0
  rw [if_pos (by omega), if_pos (by omega), if_pos (by omega), Qjd i (by omega)]
  generalize hxx : rd l (i : Int) = x at *
  rw [Qjo hg (s - 1) (Qjg e s (s - 1)) 0 x hH.1 (by omega) (by omega) (by omega) hxi, Option.bind_some]
  unfold Qjt
  by_cases hf : Qjn e (Qjg e s (s - 1)) 0 x = false
  ·rw [hf, if_neg (by decide), if_pos rfl]
  ·have hft : Qjn e (Qjg e s (s - 1)) 0 x = true := by simpa using hf
   rw [if_neg hf, if_pos hft, Qjo hg n u c x hu0 hu1 hc0 hc1 hxi, Option.bind_some]
   by_cases hq : Qjn e u c x = true
   ·have haf := after_fit hg hc0 hc1 hu0 hq
    rw [if_pos hq, if_pos hq, Qjq hg n u c x hu0 hu1 hc0 hc1 hxi hq, Option.bind_some, if_pos (by omega)]
    exact Qjv hg l hl hx d (i + 1) k (out ++ [n]) n (u + x) (c + 1) (by omega) (by rw [List.length_append, ho]; rfl) hn0 hn1 haf.1 haf.2.1 haf.2.2.1 haf.2.2.2 (by omega)
   ·rw [if_neg hq, if_neg hq, show (n + 1) % 4294967296 = n + 1 by omega]
    by_cases hs : n + 1 < s
    ·have hfn := fits_any hg (show 0 ≤ n + 1 by omega) (by omega) hft
     have hHn := Qjh e s (n + 1)
     have haf := after_fit hg (Int.le_refl 0) (by omega) hHn.1 hfn
     rw [if_pos hs, Qjs hg (n + 1) (by omega) hs, Option.bind_some, if_pos rfl, Qjq hg (n + 1) (Qjg e s (n + 1)) 0 x hHn.1 (by omega) (by omega) (by omega) hxi hfn, Option.bind_some, if_pos (by omega)]
     exact Qjv hg l hl hx d (i + 1) k (out ++ [n + 1]) (n + 1) (Qjg e s (n + 1) + x) 1 (by omega) (by rw [List.length_append, ho]; rfl) (by omega) hs haf.1 haf.2.1 (by omega) (by omega) (by omega)
    ·rw [if_neg hs, empty_bad hg (n + 1) (by omega), Option.bind_some, if_neg (by decide)]
theorem plan_prog {e s : Int} (h : Good e s) (l : List Int) (k : Nat) (hl : l.length ≤ 1000000) (hx : ∀ x ∈ l, x ≤ 1152921504606846976) (hk : l.length + 1 ≤ k) : Qbq.f k e s l = some (Qjt e s l [] 0 (Qjg e s 0) 0) := by
 have hg := h
 obtain ⟨a1, a2, a3, a4⟩ := h
 have hH := Qjh e s 0
 unfold Qbq.f
 rw [Qjs hg 0 (by omega) (by omega), Option.bind_some, if_pos rfl, show (s - 1) % 4294967296 = s - 1 by omega, Qjs hg (s - 1) (by omega) (by omega), Option.bind_some]
 exact Qjv hg l hl hx l.length 0 k [] 0 (Qjg e s 0) 0 (by omega) rfl (by omega) (by omega) hH.1 (by omega) (by omega) (by omega) hk
end Go.Proofs.YtnnofopfbeklbaaGreat.CodecP
end
