/- Texts of this claim's author and of the print of its functions, merged by merge.py. -/
import Derived.Test.YtnnofopfbeklbaaGreatMG25
import Derived.Test.YtnnofopfbeklbaaGreatMG22
import Derived.Test.YtnnofopfbeklbaaGreatMG12
set_option linter.unusedVariables false
set_option linter.unusedSimpArgs false
set_option maxHeartbeats 8000000
set_option maxRecDepth 100000
section
namespace Go.Proofs.YtnnofopfbeklbaaGreat.CodecP
open Go.RowKit Go.Proofs.YtnnofopfbeklbaaGreat.C Go.Proofs.YtnnofopfbeklbaaGreatW.PrintWords Go.Proofs.YtnnofopfbeklbaaGreatW.PrintLast Go.Proofs.YtnnofopfbeklbaaGreatW.PrintMore
theorem Qku : ∀ (n : Nat) (b : List Int), b.length ≤ n → (Qhh b).length ≤ b.length + 1 + (b.length - 1) / 254
 | n, b, hn => by
  rcases Int.lt_or_le (ixOf (b.take 254) 0) 0 with h0 | h0
  ·by_cases hl : 254 < b.length
   ·rw [Qhl h0 hl]
    match n, hn with
    | 0, hn => omega
    | n + 1, hn =>
     have ih := Qku n (b.drop 254) (by rw [List.length_drop]; omega)
     rw [List.length_drop] at ih
     rw [List.length_cons, List.length_append, List.length_take]
     omega
   ·rw [Qhm h0 hl, List.length_cons]
    omega
  ·obtain ⟨p, hp⟩ := Int.eq_ofNat_of_zero_le h0
   have h1 := (Qhf (b.take 254) 0).2
   rw [List.length_take, hp] at h1
   rw [Qhk hp]
   match n, hn with
   | 0, hn => omega
   | n + 1, hn =>
    have ih := Qku n (b.drop (p + 1)) (by rw [List.length_drop]; omega)
    rw [List.length_drop] at ih
    rw [List.length_cons, List.length_append, List.length_take]
    omega
theorem sealL_most (b : List Int) : (Qib b).length ≤ b.length + 8 + 1 + (b.length + 8 - 1) / 254 + 1 := by
 have h := Qku _ (b ++ leb (Qhz 0 b) 8) (Nat.le_refl _)
 rw [List.length_append, Qgs] at h
 unfold Qib
 rw [List.length_append]
 simp
 omega
theorem fence_len (l : List Ent) : (Qii l).length = (l.length + 15) / 16 := by simp [Qii, chN]
theorem foot_len (u : Int) (l : List Ent) : ((Qiv u l).length : Int) ≤ Qkh (l.length : Int) := by
 have h := sealL_most ([4] ++ leb l.length 4 ++ leb u 4 ++ l.flatMap ent ++ (Qii l).flatMap (fun x => leb x 8))
 have h2 := Qix (l.length : Int) u l
 rw [List.nil_append] at h2
 rw [h2, fence_len] at h
 unfold Qiv Qkh
 obtain ⟨c, hc⟩ : ∃ c, c = (l.length + 15) / 16 := ⟨_, rfl⟩
 have hcI : ((l.length : Int) + 15) / 16 = (c : Int) := by omega
 rw [hcI]
 rw [← hc] at h
 clear hc hcI h2
 obtain ⟨g, hg⟩ : ∃ g, g = (9 + 12 * l.length + 8 * c + 8 - 1) / 254 := ⟨_, rfl⟩
 have hgI : (9 + 12 * (l.length : Int) + 8 * (c : Int) + 8 - 1) / 254 = (g : Int) := by omega
 rw [hgI]
 rw [← hg] at h
 clear hg hgI
 omega
theorem le_trans_E (x y z : Ent) (h1 : (!(ltOf cfE) y x) = true) (h2 : (!(ltOf cfE) z y) = true) : (!(ltOf cfE) z x) = true := by
 rw [Qip] at *
 simp at *
 omega
theorem le_total_E (x y : Ent) : ((!(ltOf cfE) y x) || (!(ltOf cfE) x y)) = true := by
 rw [Qip, Qip]
 simp
 omega
theorem Qkv (l : List Ent) : (Qin l).Pairwise (fun x y => (!(ltOf cfE) y x) = true) := List.pairwise_mergeSort le_trans_E le_total_E l
theorem rising_of : ∀ (l : List Ent), l.Pairwise (fun x y => (!(ltOf cfE) y x) = true) → l.Nodup → Qis l = true
 | [], _, _ => rfl
 | [_], _, _ => rfl
 | a :: b :: t, hp, hn => by
  have hp2 := List.pairwise_cons.1 hp
  have hn2 := List.pairwise_cons.1 hn
  have ih := rising_of (b :: t) hp2.2 hn2.2
  have h1 := hp2.1 b (by simp)
  have h2 := hn2.1 b (by simp)
  have h3 : ltOf cfE a b = true := by
   cases h : ltOf cfE a b with
   | true => rfl
   | false => exact absurd (totE a b h (by simpa using h1)) h2
  unfold Qis ltE
  rw [ih]
  simpa [ltOf] using h3
theorem sort_rising {l : List Ent} (h : l.Nodup) : Qis (Qin l) = true := rising_of _ (Qkv l) ((Qir l).nodup_iff.2 h)
def okB (e s n : Int) (i : Nat) (B : Bd) : Prop :=
 B.1 = (e, s, n, (B.2.1.length : Int), (B.2.2.length : Int)) ∧ B.2.2.length ≤ i ∧ (∀ x ∈ B.2.2, wfE x ∧ x.f1 < (B.2.1.length : Int)) ∧ B.2.2.Pairwise (fun x y => x.f1 < y.f1) ∧ (B.2.1.length : Int) ≤ 16777216
def putB (e s n : Int) (B : Bd) (r : Rec) : Bd :=
 ((e, s, n, ((B.2.1 ++ Qks r).length : Int), ((B.2.2.length + 1 : Nat) : Int)), B.2.1 ++ Qks r, B.2.2 ++ [⟨Qhz 0 (bytesOf r.f2), (B.2.1.length : Int) % 4294967296⟩])
def freshB (e s n : Int) : Bd := ((e, s, n, Qkf e s n, 0), headL e s n, [])
theorem new_good {e s : Int} (h : Good e s) (n : Int) (h0 : 0 ≤ n) (h1 : n < s) : newB e s n = some (freshB e s n) := by
 unfold newB
 rw [Qkr h n h0 h1, Option.bind_some, Qkq h n h0 h1, Option.bind_some]
 simp [freshB]
theorem fresh_ok (e s n : Int) (i : Nat) : okB e s n i (freshB e s n) := by
 have := Qkg e s n
 refine ⟨by simp [freshB, Qkf], by simp [freshB], by simp [freshB], by simp [freshB], ?_⟩
 unfold Qkf at this
 simp only [freshB]
 omega
theorem large_no {e s : Int} (h : Good e s) {x : Int} (hx1 : x ≤ 1152921504606846976) (hf : Qkn e (Qkf e s (s - 1)) 0 x = true) : Qch.f e s x = some false := by
 have hr := Qkg e s (s - 1)
 have hg := h
 obtain ⟨g1, g2, g3, g4⟩ := hg
 unfold Qch.f
 rw [show (s - 1) % 4294967296 = s - 1 by omega, Qkr h (s - 1) (by omega) (by omega), Option.bind_some]
 dsimp only
 rw [if_pos rfl, Qko h _ _ _ _ (by omega) (by omega) (by omega) (by omega) hx1, hf]
 rfl
theorem add_good {e s n : Int} (h : Good e s) {i : Nat} {B : Bd} {r : Rec} (hB : okB e s n i B) (hi : i ≤ 1000000) (hc : chkR r = 0) (hw : 0 ≤ r.f1 ∧ r.f1 < 18446744073709551616)
  (hl : Qkn e (Qkf e s (s - 1)) 0 (fsz r) = true) (hf : Qkn e (B.2.1.length : Int) (B.2.2.length : Int) (fsz r) = true) :
  addB B r = some (putB e s n B r) ∧ okB e s n (i + 1) (putB e s n B r) ∧ ((putB e s n B r).2.1.length : Int) + Qkh ((putB e s n B r).2.2.length : Int) ≤ szN e ∧ (putB e s n B r).2.2 ≠ [] := by
 obtain ⟨b1, b2, b3, b4, b5⟩ := hB
 have hx := Qkt r hc
 have hft := Qkp hf
 have hsz := Qkj h.1 h.2.1
 have hm := Qkm ((B.2.2.length : Int) + 1) (by omega) (by omega)
 have hlen : ((B.2.1 ++ Qks r).length : Int) = (B.2.1.length : Int) + fsz r := by rw [List.length_append]; unfold fsz; omega
 have hh := Qia 0 (bytesOf r.f2)
 have hmod : (B.2.1.length : Int) % 4294967296 = (B.2.1.length : Int) := by omega
 refine ⟨?_, ⟨?_, ?_, ?_, ?_, ?_⟩, ?_, ?_⟩
 ·unfold addB
  rw [if_pos (show chk r.f0 r.f2 r.f3 = 0 from hc), put_good r hc hw.1 hw.2, Option.bind_some, b1]
  dsimp only
  rw [show ((Qks r).length : Int) = fsz r from rfl, large_no h (by omega) hl, Option.bind_some, take_prog h n _ _ _ (by omega) (by omega) (by omega) (by omega) (by omega) hf, Option.bind_some]
  dsimp only
  rw [if_pos ⟨rfl, rfl, rfl, by have hfz : ((Qks r).length : Int) = fsz r := rfl; omega, by omega⟩]
  unfold putB
  rw [hlen]
  simp
 ·simp [putB]
 ·simp only [putB, List.length_append, List.length_cons, List.length_nil]
  omega
 ·intro x hxm
  simp only [putB] at hxm ⊢
  rw [hlen]
  rcases List.mem_append.1 hxm with hm' | hm'
  ·have := b3 x hm'
   exact ⟨this.1, by omega⟩
  ·simp only [List.mem_singleton] at hm'
   subst hm'
   rw [hmod]
   exact ⟨⟨hh, (show (0 : Int) ≤ (B.2.1.length : Int) by omega), (show (B.2.1.length : Int) < 4294967296 by omega)⟩, by dsimp only; omega⟩
 ·simp only [putB]
  rw [List.pairwise_append]
  refine ⟨b4, by simp, ?_⟩
  intro x hx y hy
  simp only [List.mem_singleton] at hy
  subst hy
  rw [hmod]
  exact (b3 x hx).2
 ·simp only [putB]
  rw [hlen]
  omega
 ·simp only [putB]
  rw [hlen, List.length_append]
  simp only [List.length_cons, List.length_nil]
  have : (((B.2.2.length + (0 + 1) : Nat)) : Int) = (B.2.2.length : Int) + 1 := by omega
  rw [this]
  omega
 ·simp [putB]
theorem any_sort (u : Int) {l : List Ent} (h : ∀ x ∈ l, x.f1 < u) : (Qin l).any (fun x => decide (u ≤ x.f1)) = false := by
 rw [List.any_eq_false]
 intro x hx
 have := h x ((Qir l).mem_iff.1 hx)
 simp
 omega
theorem Qkw {l : List Ent} (h : l.Pairwise (fun x y => x.f1 < y.f1)) : l.Nodup := h.imp (fun {a b} hab he => by subst he; omega)
theorem seal_good {e s n : Int} (h : Good e s) {i : Nat} {B : Bd} (hB : okB e s n i B) (hi : i ≤ 1000000) (hne : B.2.2 ≠ []) (hr : (B.2.1.length : Int) + Qkh (B.2.2.length : Int) ≤ szN e) :
  ∃ o, sealB B = some o ∧ o.length = (szN e).toNat ∧ B.2.1 <+: o := by
 obtain ⟨b1, b2, b3, b4, b5⟩ := hB
 have hsz := Qkj h.1 h.2.1
 have hu : Qiy B = (B.2.1.length : Int) := by unfold Qiy; omega
 have hfl := foot_len (Qiy B) (Qin B.2.2)
 rw [Qio] at hfl
 have hn0 : B.2.2.length ≠ 0 := fun he => hne (List.eq_nil_of_length_eq_zero he)
 have hck : Qit (Qiy B) (Qin B.2.2) = 0 := by
  unfold Qit
  rw [Qio, if_neg hn0, if_neg (by omega), sort_rising (Qkw b4), if_neg (by simp), any_sort _ (fun x hx => by rw [hu]; exact (b3 x hx).2), if_neg (by simp)]
 unfold sealB
 rw [b1]
 dsimp only
 rw [Qkk h, Option.bind_some, if_pos ⟨hn0, by omega, fun x hx => (b3 x hx).1, hck, by omega, by omega⟩]
 refine ⟨_, rfl, ?_, ?_⟩
 ·rw [List.length_append, List.length_replicate, List.length_append]
  omega
 ·rw [List.append_assoc]
  exact List.prefix_append _ _
theorem open_good {e s n : Int} (h : Good e s) {i : Nat} {B : Bd} (hB : okB e s n i B) (hr : (B.2.1.length : Int) ≤ szN e) :
  ∃ o, openB B = some o ∧ o.length = (szN e).toNat ∧ B.2.1 <+: o := by
 obtain ⟨b1, b2, b3, b4, b5⟩ := hB
 have hsz := Qkj h.1 h.2.1
 unfold openB
 rw [b1]
 dsimp only
 rw [Qkk h, Option.bind_some, if_pos ⟨by omega, by omega⟩]
 refine ⟨_, rfl, ?_, List.prefix_append _ _⟩
 rw [List.length_append, List.length_replicate]
 omega
def Placed (P : Plc → Rec → Prop) : List Plc → List Rec → Prop
 | [], [] => True
 | p :: ps, r :: rs => P p r ∧ Placed P ps rs
 | _, _ => False
theorem Placed.at {P : Plc → Rec → Prop} : ∀ {ps : List Plc} {rs : List Rec}, Placed P ps rs → ps.length = rs.length ∧ ∀ j (h1 : j < ps.length) (h2 : j < rs.length), P ps[j] rs[j]
 | [], [], _ => ⟨rfl, fun j h1 => absurd h1 (by simp)⟩
 | p :: ps, r :: rs, h => by
  have ih := Placed.at h.2
  refine ⟨by simp [ih.1], fun j h1 h2 => ?_⟩
  match j with
  | 0 => exact h.1
  | j + 1 => exact ih.2 j (by simpa using h1) (by simpa using h2)
 | [], _ :: _, h => h.elim
 | _ :: _, [], h => h.elim
abbrev REnt := S122
def toR (x : Ent) : REnt := ⟨x.f0, x.f1⟩
def ltR (x y : REnt) : Bool := decide (x.f0 < y.f0) || (decide (x.f0 = y.f0) && decide (x.f1 < y.f1))
def insR (x : REnt) : List REnt → List REnt
 | [] => [x]
 | y :: t => if ltR x y = true then x :: y :: t else y :: insR x t
theorem rdRE (l : List REnt) (i : Nat) (h : i < l.length) : Qgq l (i : Int) = l[i] := by simp [Qgq, List.getElem?_eq_getElem h]
theorem less_is (a b : REnt) : Qbl.f a.f0 a.f1 b.f0 b.f1 = some (ltR a b) := by
 unfold Qbl.f ltR
 by_cases h1 : a.f0 < b.f0
 ·simp [h1]
 ·by_cases h2 : a.f0 = b.f0
  ·simp [h1, h2]
  ·simp [h1, h2]
theorem put_run (x : REnt) (l : List REnt) (hl : l.length ≤ 1000000) (hx : x ∉ l) : ∀ (d i k : Nat) (out : List REnt) (b : Bool), i + d = l.length → out.length ≤ i + b.toNat → d + 2 ≤ k →
  Qbi.l0 k out b l (l.length : Int) (i : Int) x.f0 x.f1 = some (out ++ (if b = true then l.drop i else insR x (l.drop i))) := by
 intro d
 induction d with
 | zero =>
  intro i k out b hd ho hk
  obtain ⟨k, rfl⟩ : ∃ m, k = m + 1 := ⟨k - 1, by omega⟩
  rw [Qbi.l0, if_neg (by omega), List.drop_of_length_le (by omega)]
  cases b with
  | true => simp
  | false =>
   have ho' : out.length ≤ i := ho
   rw [if_neg (by simp), if_pos (by omega)]
   simp [insR]
 | succ d ihd =>
  intro i k out b hd ho hk
  obtain ⟨k, rfl⟩ : ∃ m, k = m + 1 := ⟨k - 1, by omega⟩
  have hi : i < l.length := by omega
  have hne : l[i] ≠ x := fun e => hx (e ▸ List.getElem_mem hi)
  have hcmp : (l[i].f0 == x.f0 && l[i].f1 == x.f1) = false := by
   cases h : (l[i].f0 == x.f0 && l[i].f1 == x.f1) with
   | false => rfl
   | true =>
    exfalso
    simp only [Bool.and_eq_true, beq_iff_eq] at h
    refine hne ?_
    generalize l[i] = y at *
    cases y; cases x; simp_all
  have heta : (⟨l[i].f0, l[i].f1⟩ : REnt) = l[i] := rfl
  rw [Qbi.l0, if_pos (by omega), if_pos (by omega), if_pos (by omega), rdRE l i hi, hcmp, if_neg (by simp), Qkb i (by omega), heta, List.drop_eq_getElem_cons hi]
  cases b with
  | true =>
   have ho' : out.length ≤ i + 1 := ho
   rw [if_pos rfl, if_pos (by omega), ihd (i + 1) k (out ++ [l[i]]) true (by omega) (by rw [List.length_append]; simp; omega) (by omega)]
   simp
  | false =>
   have ho' : out.length ≤ i := ho
   rw [if_neg (by simp), less_is x l[i], Option.bind_some]
   by_cases hlt : ltR x l[i] = true
   ·rw [if_pos hlt, if_pos (by omega), Option.bind_some, if_pos (by rw [List.length_append]; simp; omega)]
    have ih := ihd (i + 1) k (out ++ [x] ++ [l[i]]) true (by omega) (by rw [List.length_append, List.length_append]; simp; omega) (by omega)
    rw [ih]
    simp [insR, hlt]
   ·rw [if_neg hlt, if_pos (by omega), ihd (i + 1) k (out ++ [l[i]]) false (by omega) (by rw [List.length_append]; simp; omega) (by omega)]
    simp [insR, hlt]
theorem insR_mem (x y : REnt) : ∀ (l : List REnt), y ∈ insR x l ↔ y = x ∨ y ∈ l
 | [] => by simp [insR]
 | z :: t => by
  unfold insR
  split
  ·simp
  ·rw [List.mem_cons, insR_mem x y t, List.mem_cons]
   constructor
   ·rintro (h | h | h)
    ·exact .inr (.inl h)
    ·exact .inl h
    ·exact .inr (.inr h)
   ·rintro (h | h | h)
    ·exact .inr (.inl h)
    ·exact .inl h
    ·exact .inr (.inr h)
theorem Qkx (x : REnt) : ∀ (l : List REnt), (insR x l).length = l.length + 1
 | [] => rfl
 | z :: t => by
  unfold insR
  split
  ·simp
  ·rw [List.length_cons, Qkx x t, List.length_cons]
theorem ltR_trans {a b c : REnt} (h1 : ltR a b = true) (h2 : ltR b c = true) : ltR a c = true := by
 unfold ltR at *
 simp at *
 omega
theorem ltR_tri {a b : REnt} (h : ltR a b = false) (hne : a ≠ b) : ltR b a = true := by
 unfold ltR at *
 simp at *
 have : a.f0 ≠ b.f0 ∨ a.f1 ≠ b.f1 := by
  by_cases h0 : a.f0 = b.f0
  ·by_cases h1 : a.f1 = b.f1
   ·exfalso
    refine hne ?_
    cases a; cases b; simp_all
   ·exact .inr h1
  ·exact .inl h0
 omega
theorem Qky (a : REnt) : ltR a a = false := by
 unfold ltR
 simp
theorem Qkz (x : REnt) : ∀ (l : List REnt), x ∉ l → l.Pairwise (fun a b => ltR a b = true) → (insR x l).Pairwise (fun a b => ltR a b = true)
 | [], _, _ => by simp [insR]
 | z :: t, hx, hp => by
  have hp2 := List.pairwise_cons.1 hp
  unfold insR
  split
  ·rename_i h
   refine List.pairwise_cons.2 ⟨?_, hp⟩
   intro y hy
   rcases List.mem_cons.1 hy with rfl | hy
   ·exact h
   ·exact ltR_trans h (hp2.1 y hy)
  ·rename_i h
   refine List.pairwise_cons.2 ⟨?_, Qkz x t (fun h' => hx (List.mem_cons_of_mem _ h')) hp2.2⟩
   intro y hy
   rcases (insR_mem x y t).1 hy with rfl | hy
   ·exact ltR_tri (by simpa using h) (fun e => hx (e ▸ List.mem_cons_self))
   ·exact hp2.1 y hy
theorem Qla : ∀ (a b : List REnt), a.Pairwise (fun x y => ltR x y = true) → b.Pairwise (fun x y => ltR x y = true) → (∀ x, x ∈ a ↔ x ∈ b) → a = b
 | [], [], _, _, _ => rfl
 | [], y :: b, _, _, h => absurd ((h y).2 List.mem_cons_self) (by simp)
 | x :: a, [], _, _, h => absurd ((h x).1 List.mem_cons_self) (by simp)
 | x :: a, y :: b, ha, hb, h => by
  have ha2 := List.pairwise_cons.1 ha
  have hb2 := List.pairwise_cons.1 hb
  have hxy : x = y := by
   rcases List.mem_cons.1 ((h x).1 List.mem_cons_self) with e | h1
   ·exact e
   ·rcases List.mem_cons.1 ((h y).2 List.mem_cons_self) with e | h2
    ·exact e.symm
    ·have h3 := ltR_trans (hb2.1 x h1) (ha2.1 y h2)
     rw [Qky] at h3
     cases h3
  subst hxy
  have hxa : x ∉ a := fun hm => by have := ha2.1 x hm; rw [Qky] at this; cases this
  have hxb : x ∉ b := fun hm => by have := hb2.1 x hm; rw [Qky] at this; cases this
  rw [Qla a b ha2.2 hb2.2 (fun z => by
   constructor
   ·intro hz
    rcases List.mem_cons.1 ((h z).1 (List.mem_cons_of_mem _ hz)) with rfl | h1
    ·exact absurd hz hxa
    ·exact h1
   ·intro hz
    rcases List.mem_cons.1 ((h z).2 (List.mem_cons_of_mem _ hz)) with rfl | h1
    ·exact absurd hz hxb
    ·exact h1)]
theorem sorted_run (l : List REnt) (hl : l.length ≤ 1000000) (hn : l.Nodup) : ∀ (d i k : Nat) (acc : List REnt), i + d = l.length → acc.length = i → (∀ x, x ∈ acc ↔ x ∈ l.take i) → acc.Pairwise (fun a b => ltR a b = true) → d + l.length + 5 ≤ k →
  ∃ r, Qbj.l0 k acc l (l.length : Int) (i : Int) = some r ∧ (∀ x, x ∈ r ↔ x ∈ l) ∧ r.Pairwise (fun a b => ltR a b = true) := by
 intro d
 induction d with
 | zero =>
  intro i k acc hd ha hm hp hk
  obtain ⟨k, rfl⟩ : ∃ m, k = m + 1 := ⟨k - 1, by omega⟩
  refine ⟨acc, ?_, ?_, hp⟩
  ·rw [Qbj.l0, if_neg (by omega)]
  ·rw [List.take_of_length_le (by omega)] at hm
   exact hm
 | succ d ihd =>
  intro i k acc hd ha hm hp hk
  obtain ⟨k, rfl⟩ : ∃ m, k = m + 1 := ⟨k - 1, by omega⟩
  have hi : i < l.length := by omega
  have hna : l[i] ∉ acc := by
   intro hc
   have h1 := (hm _).1 hc
   obtain ⟨j, hj, he⟩ := List.getElem_of_mem h1
   rw [List.length_take] at hj
   rw [List.getElem_take] at he
   exact List.pairwise_iff_getElem.1 hn j i (by omega) hi (by omega) he
  have hput := put_run l[i] acc (by omega) hna acc.length 0 k [] false (by omega) (by simp) (by omega)
  rw [Qbj.l0, if_pos (by omega), if_pos (by omega), if_pos (by omega), rdRE l i hi]
  have hf : Qbi.f k acc l[i].f0 l[i].f1 = some (insR l[i] acc) := by
   unfold Qbi.f
   exact hput
  rw [hf, Option.bind_some, Qkb i (by omega)]
  refine ihd (i + 1) k _ (by omega) (by rw [Qkx, ha]) ?_ (Qkz _ _ hna hp) (by omega)
  intro x
  rw [insR_mem, hm, List.take_succ_eq_append_getElem hi, List.mem_append, List.mem_singleton]
  exact Or.comm
theorem toR_inj {a b : Ent} (h : toR a = toR b) : a = b := by
 cases a; cases b
 unfold toR at h
 simp at h
 simp [h]
theorem ltR_toR (a b : Ent) : ltR (toR a) (toR b) = ltOf cfE a b := (Qip a b).symm
theorem map_nodup {l : List Ent} (h : l.Nodup) : (l.map toR).Nodup := by
 rw [List.Nodup, List.pairwise_map]
 exact h.imp (fun hab he => hab (toR_inj he))
theorem sortE_strict {l : List Ent} (h : l.Nodup) : ((Qin l).map toR).Pairwise (fun a b => ltR a b = true) := by
 rw [List.pairwise_map]
 have h1 := Qkv l
 have h2 : (Qin l).Nodup := (Qir l).nodup_iff.2 h
 refine (List.pairwise_and_iff.2 ⟨h1, h2⟩).imp ?_
 intro a b hab
 rw [ltR_toR]
 cases hq : ltOf cfE a b with
 | true => rfl
 | false => exact absurd (totE a b hq (by simpa using hab.1)) hab.2
theorem sort_ref (l : List Ent) (k : Nat) (hl : l.length ≤ 1000000) (hn : l.Nodup) (hk : 2 * l.length + 5 ≤ k) : Qbj.f k (l.map toR) = some ((Qin l).map toR) := by
 obtain ⟨r, h1, h2, h3⟩ := sorted_run (l.map toR) (by rw [List.length_map]; exact hl) (map_nodup hn) l.length 0 k [] (by rw [List.length_map]; omega) rfl (by simp) (by simp) (by rw [List.length_map]; omega)
 unfold Qbj.f
 have h4 : r = (Qin l).map toR := Qla _ _ h3 (sortE_strict hn) (fun x => by
  rw [h2, List.mem_map, List.mem_map]
  constructor
  ·rintro ⟨y, hy, e⟩; exact ⟨y, (Qir l).mem_iff.2 hy, e⟩
  ·rintro ⟨y, hy, e⟩; exact ⟨y, (Qir l).mem_iff.1 hy, e⟩)
 rw [← h4]
 exact h1
def entR (x : REnt) : List Int := leb x.f0 8 ++ leb x.f1 4
def wfR (x : REnt) : Prop := (0 ≤ x.f0 ∧ x.f0 < 18446744073709551616) ∧ 0 ≤ x.f1 ∧ x.f1 < 4294967296
theorem text_run (l : List REnt) (hl : l.length ≤ 1000000) (hw : ∀ x ∈ l, wfR x) : ∀ (d i k : Nat) (out : ByteArray), i + d = l.length → out.size ≤ 12 * i → d + 20 ≤ k →
  ∃ t, Qbk.l0 k out l (l.length : Int) (i : Int) = some t ∧ bytesOf t = bytesOf out ++ (l.drop i).flatMap entR := by
 intro d
 induction d with
 | zero =>
  intro i k out hd ho hk
  obtain ⟨k, rfl⟩ : ∃ m, k = m + 1 := ⟨k - 1, by omega⟩
  refine ⟨out, ?_, ?_⟩
  ·rw [Qbk.l0, if_neg (by omega)]
  ·rw [List.drop_of_length_le (by omega)]
   simp
 | succ d ihd =>
  intro i k out hd ho hk
  obtain ⟨k, rfl⟩ : ∃ m, k = m + 1 := ⟨k - 1, by omega⟩
  have hi : i < l.length := by omega
  obtain ⟨h1, h2⟩ := hw l[i] (List.getElem_mem hi)
  obtain ⟨t1, e1, b1⟩ := num1 k 8 l[i].f0 (by omega) h1.1 h1.2 (by omega)
  obtain ⟨t2, e2, b2⟩ := num1 k 4 l[i].f1 (by omega) h2.1 (by omega) (by omega)
  have z1 : t1.size = 8 := by rw [Qjr, b1, Qgs]
  have z2 : t2.size = 4 := by rw [Qjr, b2, Qgs]
  obtain ⟨t, e3, b3⟩ := ihd (i + 1) k ((out ++ t1) ++ t2) (by omega) (by rw [ByteArray.size_append, ByteArray.size_append]; omega) (by omega)
  refine ⟨t, ?_, ?_⟩
  ·rw [Qbk.l0, if_pos (by omega), if_pos (by omega), if_pos (by omega), rdRE l i hi, show (8 : Int) = ((8 : Nat) : Int) from rfl, e1, Option.bind_some, if_pos (by omega), IntWalk.u64_in _ (by omega), show (4 : Int) = ((4 : Nat) : Int) from rfl, e2, Option.bind_some, if_pos (by rw [ByteArray.size_append]; omega), Qkb i (by omega)]
   exact e3
  ·rw [b3, Qjv, Qjv, b1, b2, List.drop_eq_getElem_cons hi, List.flatMap_cons]
   simp [entR]
theorem ftext_run (l : List Int) (hl : l.length ≤ 1000000) (hw : ∀ x ∈ l, 0 ≤ x ∧ x < 18446744073709551616) : ∀ (d i k : Nat) (out : ByteArray), i + d = l.length → out.size ≤ 8 * i → d + 20 ≤ k →
  ∃ t, Qbn.l0 k out l (l.length : Int) (i : Int) = some t ∧ bytesOf t = bytesOf out ++ (l.drop i).flatMap (fun x => leb x 8) := by
 intro d
 induction d with
 | zero =>
  intro i k out hd ho hk
  obtain ⟨k, rfl⟩ : ∃ m, k = m + 1 := ⟨k - 1, by omega⟩
  refine ⟨out, ?_, ?_⟩
  ·rw [Qbn.l0, if_neg (by omega)]
  ·rw [List.drop_of_length_le (by omega)]
   simp
 | succ d ihd =>
  intro i k out hd ho hk
  obtain ⟨k, rfl⟩ : ∃ m, k = m + 1 := ⟨k - 1, by omega⟩
  have hi : i < l.length := by omega
  obtain ⟨h1, h2⟩ := hw l[i] (List.getElem_mem hi)
  obtain ⟨t1, e1, b1⟩ := num1 k 8 l[i] (by omega) h1 h2 (by omega)
  have z1 : t1.size = 8 := by rw [Qjr, b1, Qgs]
  obtain ⟨t, e3, b3⟩ := ihd (i + 1) k (out ++ t1) (by omega) (by rw [ByteArray.size_append]; omega) (by omega)
  refine ⟨t, ?_, ?_⟩
  ·rw [Qbn.l0, if_pos (by omega), if_pos (by omega), if_pos (by omega), Qjp hi, show (8 : Int) = ((8 : Nat) : Int) from rfl, e1, Option.bind_some, if_pos (by omega), Qkb i (by omega)]
   exact e3
  ·rw [b3, Qjv, b1, List.drop_eq_getElem_cons hi, List.flatMap_cons]
   simp
def fenR (l : List REnt) (m : Nat) : List Int := (List.range m).map (fun j => (Qgq l ((j * 16 : Nat) : Int)).f0)
theorem of_run (l : List REnt) (hl : l.length ≤ 1000000) : ∀ (d i k : Nat), i + d = l.length → d + 2 ≤ k →
  Qbm.l0 k (fenR l ((i + 15) / 16)) l (l.length : Int) (i : Int) = some (fenR l ((l.length + 15) / 16)) := by
 intro d
 induction d with
 | zero =>
  intro i k hd hk
  obtain ⟨k, rfl⟩ : ∃ m, k = m + 1 := ⟨k - 1, by omega⟩
  rw [Qbm.l0, if_neg (by omega), show i = l.length by omega]
 | succ d ihd =>
  intro i k hd hk
  obtain ⟨k, rfl⟩ : ∃ m, k = m + 1 := ⟨k - 1, by omega⟩
  have hi : i < l.length := by omega
  have htm : Int.tmod (i : Int) 16 = ((i % 16 : Nat) : Int) := by rw [Int.tmod_eq_emod_of_nonneg (by omega)]; rfl
  have ih := ihd (i + 1) k (by omega) (by omega)
  rw [Qbm.l0, if_pos (by omega), if_pos (by omega), if_pos (by omega), htm, Qkb i (by omega)]
  by_cases h0 : i % 16 = 0
  ·rw [if_pos (by omega), if_pos (by simp [fenR]; omega)]
   have hs : (i + 1 + 15) / 16 = (i + 15) / 16 + 1 := by omega
   rw [hs] at ih
   have hf : fenR l ((i + 15) / 16 + 1) = fenR l ((i + 15) / 16) ++ [(Qgq l (i : Int)).f0] := by
    unfold fenR
    rw [List.range_succ, List.map_append]
    simp only [List.map_cons, List.map_nil]
    rw [show (i + 15) / 16 * 16 = i by omega]
   rw [hf] at ih
   exact ih
  ·rw [if_neg (by omega)]
   have hs : (i + 1 + 15) / 16 = (i + 15) / 16 := by omega
   rw [hs] at ih
   exact ih
theorem fen_is (l : List Ent) : fenR (l.map toR) ((l.length + 15) / 16) = Qii l := by
 unfold fenR Qii chN
 refine List.map_congr_left fun j hj => ?_
 rw [List.mem_range] at hj
 have h1 : j * 16 < l.length := by omega
 unfold Qih
 rw [rdRE _ _ (by rw [List.length_map]; exact h1), rdE l _ h1, List.getElem_map]
 rfl
theorem ent_is : ∀ (l : List Ent), (l.map toR).flatMap entR = l.flatMap ent
 | [] => rfl
 | x :: t => by rw [List.map_cons, List.flatMap_cons, List.flatMap_cons, ent_is t]; rfl
theorem wf_fence (l : List Ent) (hw : ∀ x ∈ l, wfE x) : ∀ x ∈ Qii l, 0 ≤ x ∧ x < 18446744073709551616 := by
 intro x hx
 unfold Qii chN at hx
 obtain ⟨j, hj, rfl⟩ := List.mem_map.1 hx
 rw [List.mem_range] at hj
 have h1 : j * 16 < l.length := by omega
 unfold Qih
 rw [rdE l _ h1]
 exact (hw _ (List.getElem_mem h1)).1
theorem foot_ref (used : Int) (l : List Ent) (k : Nat) (h0 : 0 ≤ used) (h1 : used < 4294967296) (hl : l.length ≤ 1000000) (hw : ∀ x ∈ l, wfE x) (hk : 50 * l.length + 2000 ≤ k) :
  ∃ t, Qbp.f k used (l.map toR) = some t ∧ bytesOf t = Qiv used l := by
 obtain ⟨t1, e1, b1⟩ := num1 k 4 (l.length : Int) (by omega) (by omega) (by omega) (by omega)
 obtain ⟨t2, e2, b2⟩ := num1 k 4 used (by omega) (by omega) (by omega) (by omega)
 obtain ⟨t3, e3, b3⟩ := text_run (l.map toR) (by rw [List.length_map]; exact hl) (fun x hx => by
  obtain ⟨y, hy, rfl⟩ := List.mem_map.1 hx
  exact hw y hy) l.length 0 k (⟨#[]⟩ : ByteArray) (by rw [List.length_map]; omega) (by decide) (by omega)
 have hof := of_run (l.map toR) (by rw [List.length_map]; exact hl) l.length 0 k (by rw [List.length_map]; omega) (by omega)
 have hfl := fence_len l
 obtain ⟨t4, e4, b4⟩ := ftext_run (Qii l) (by omega) (wf_fence l hw) (Qii l).length 0 k (⟨#[]⟩ : ByteArray) (by omega) (by decide) (by omega)
 have z1 : t1.size = 4 := by rw [Qjr, b1, Qgs]
 have z2 : t2.size = 4 := by rw [Qjr, b2, Qgs]
 have b3' : bytesOf t3 = l.flatMap ent := by rw [b3, List.drop_zero, ent_is]; rfl
 have b4' : bytesOf t4 = (Qii l).flatMap (fun x => leb x 8) := by rw [b4, List.drop_zero]; rfl
 have hp := Qix (l.length : Int) used l
 rw [List.nil_append] at hp
 have hb : bytesOf ((((((⟨#[4]⟩ : ByteArray) ++ t1) ++ t2) ++ t3) ++ t4)) = [4] ++ leb l.length 4 ++ leb used 4 ++ l.flatMap ent ++ (Qii l).flatMap (fun x => leb x 8) := by
  rw [Qjv, Qjv, Qjv, Qjv, b1, b2, b3', b4']
  rfl
 have hsz : (((((⟨#[4]⟩ : ByteArray) ++ t1) ++ t2) ++ t3) ++ t4).size = 9 + 12 * l.length + 8 * (Qii l).length := by
  rw [Qjr, hb]
  exact hp
 obtain ⟨t, e5, b5⟩ := seal_ref k ((((((⟨#[4]⟩ : ByteArray) ++ t1) ++ t2) ++ t3) ++ t4)) (by omega) (by omega)
 refine ⟨t, ?_, by rw [b5, hb]; rfl⟩
 have hc : (⟨#[4]⟩ : ByteArray).size = 1 := rfl
 have hs4 : (((((⟨#[4]⟩ : ByteArray) ++ t1) ++ t2) ++ t3) ++ t4).size = 1 + t1.size + t2.size + t3.size + t4.size := by
  rw [ByteArray.size_append, ByteArray.size_append, ByteArray.size_append, ByteArray.size_append, hc]
 have hT : Qbk.f k (l.map toR) = some t3 := e3
 have hO : Qbm.f k (l.map toR) = some (Qii l) := by
  rw [← fen_is]
  have : fenR (l.map toR) ((0 + 15) / 16) = [] := rfl
  rw [this, List.length_map] at hof
  unfold Qbm.f
  rw [List.length_map]
  exact hof
 have hF : Qbn.f k (Qii l) = some t4 := e4
 unfold Qbp.f
 rw [List.length_map, IntWalk.u64_in _ (by omega), show (4 : Int) = ((4 : Nat) : Int) from rfl, e1, Option.bind_some, if_pos (by omega), IntWalk.u64_in _ (by omega), e2, Option.bind_some, if_pos (by rw [ByteArray.size_append]; omega), hT, Option.bind_some, if_pos (by rw [ByteArray.size_append, ByteArray.size_append]; omega), hO, Option.bind_some, hF, Option.bind_some, if_pos (by rw [ByteArray.size_append, ByteArray.size_append, ByteArray.size_append]; omega), e5, Option.bind_some]
theorem Qlb {x : Int} (h0 : 0 ≤ x) (h1 : x ≤ 4611686018427387903) : wrap64 x = x := by unfold wrap64; omega
theorem erased_run : ∀ (d i k : Nat) (n : Nat), i + d = n → n ≤ 1000000000 → d + 1 ≤ k →
  Qbt.l0 k (List.replicate i 255 ++ List.replicate d 0) (n : Int) (i : Int) = some (strOfNums (List.replicate n 255)) := by
 intro d
 induction d with
 | zero =>
  intro i k n hd hn hk
  obtain ⟨k, rfl⟩ : ∃ m, k = m + 1 := ⟨k - 1, by omega⟩
  rw [Qbt.l0, if_neg (by omega), show i = n by omega]
  simp
 | succ d ihd =>
  intro i k n hd hn hk
  obtain ⟨k, rfl⟩ : ∃ m, k = m + 1 := ⟨k - 1, by omega⟩
  have ih := ihd (i + 1) k n (by omega) hn (by omega)
  rw [Qbt.l0, if_pos (by omega), if_pos (by omega), if_pos (by rw [List.length_append, List.length_replicate, List.length_replicate]; omega), Qkb i (by omega), Int.toNat_natCast]
  have hs : (List.replicate i (255 : Int) ++ List.replicate (d + 1) 0).set i 255 = List.replicate (i + 1) 255 ++ List.replicate d 0 := by
   rw [List.set_append_right _ _ (by simp), List.length_replicate, Nat.sub_self, List.replicate_succ, List.set_cons_zero, List.replicate_succ', List.append_assoc]
   rfl
  rw [hs]
  exact ih
theorem Qlc (a : Int) (k : Nat) (h : a ≤ 1000000000) (hk : a.toNat + 2 ≤ k) : Qbt.f k a = some (strOfNums (List.replicate a.toNat 255)) := by
 have hm : mx 0 a = (a.toNat : Int) := by unfold mx; split <;> omega
 have h1 := erased_run a.toNat 0 k a.toNat (by omega) (by omega) (by omega)
 unfold Qbt.f
 rw [hm, if_pos (by omega), Int.toNat_natCast, if_pos (by omega), Option.bind_some, List.length_replicate]
 simpa using h1
def Qld (e s n : Int) : Bd → List Rec → Bd
 | B, [] => B
 | B, r :: t => Qld e s n (putB e s n B r) t
theorem Qle (e s n : Int) (l : List Rec) (hl : l.length ≤ 1000000) (hw : Wf l) (hc : chkL l = 0) (K : Nat) (hK : ∀ r ∈ l, 2 * (r.f2.size + r.f3.size) + 300 ≤ K) : ∀ (d i k : Nat) (B : Bd) (out : ByteArray), i + d = l.length → bytesOf out = B.2.1 → B.2.2.length ≤ i → out.size ≤ 1000 + i * 8388608 → d + K + 1 ≤ k →
  ∃ t k', k' + d + 1 = k ∧ bytesOf t = (Qld e s n B (l.drop i)).2.1 ∧
   Qbu.l0 k out (B.2.2.map toR) l (l.length : Int) (i : Int) = (Qbj.f k' ((Qld e s n B (l.drop i)).2.2.map toR)).bind fun q => some (t, q) := by
 intro d
 induction d with
 | zero =>
  intro i k B out hd ho hb hz hk
  obtain ⟨k, rfl⟩ : ∃ m, k = m + 1 := ⟨k - 1, by omega⟩
  refine ⟨out, k, by omega, ?_, ?_⟩
  ·rw [List.drop_of_length_le (by omega)]
   exact ho
  ·rw [Qbu.l0, if_neg (by omega), List.drop_of_length_le (by omega)]
   rfl
 | succ d ihd =>
  intro i k B out hd ho hb hz hk
  obtain ⟨k, rfl⟩ : ∃ m, k = m + 1 := ⟨k - 1, by omega⟩
  have hi : i < l.length := by omega
  have hcr : chkR l[i] = 0 := chkL_all hc _ (List.getElem_mem hi)
  have hwr := hw l[i] (List.getElem_mem hi)
  have hx := Qkt l[i] hcr
  have hch := Qht hcr
  have hkk := hK l[i] (List.getElem_mem hi)
  obtain ⟨t, e1, b1⟩ := Qkd k l[i].f0 l[i].f1 l[i].f2 l[i].f3 hwr.1 hwr.2 (by omega) (by omega) (by omega)
  have hts : (t.size : Int) = fsz l[i] := by rw [Qjr, b1]; rfl
  have hh := hash_ref 0 l[i].f2 k ⟨by omega, by omega⟩ (by omega) (by omega)
  have hos : (out.size : Int) = (B.2.1.length : Int) := by rw [Qjr, ho]
  obtain ⟨r, k', hk', b2, e2⟩ := ihd (i + 1) k (putB e s n B l[i]) (out ++ t) (by omega) (by rw [Qjv, ho, b1]; rfl) (by simp [putB]; omega) (by rw [ByteArray.size_append]; omega) (by omega)
  refine ⟨r, k', by omega, ?_, ?_⟩
  ·rw [b2, List.drop_eq_getElem_cons hi]
   rfl
  ·rw [Qbu.l0, if_pos (by omega), if_pos (by omega), if_pos (by omega), rdR l i hi, hh, Option.bind_some, if_pos (by rw [List.length_map]; omega), e1, Option.bind_some, if_pos (by omega), Qkb i (by omega), List.drop_eq_getElem_cons hi]
   have hm : (putB e s n B l[i]).2.2.map toR = B.2.2.map toR ++ [(⟨Qhz 0 (bytesOf l[i].f2), (out.size : Int) % 4294967296⟩ : REnt)] := by
    simp only [putB, List.map_append, List.map_cons, List.map_nil]
    rw [hos]
    rfl
   rw [hm] at e2
   exact e2
def Qlf (B : Bd) (b : Bool) : List Int := B.2.1 ++ (if b = true then Qiv (Qiy B) (Qin B.2.2) else [])
theorem seg_ref {e s n : Int} (hG : Good e s) (h0 : 0 ≤ n) (h1 : n < s) (l : List Rec) (b : Bool) (k K : Nat) (hl : l.length ≤ 1000000) (hw : Wf l) (hc : chkL l = 0) (hK : ∀ r ∈ l, 2 * (r.f2.size + r.f3.size) + 300 ≤ K)
  (hnd : (Qld e s n (freshB e s n) l).2.2.Nodup) (hwe : ∀ x ∈ (Qld e s n (freshB e s n) l).2.2, wfE x) (hlen : (Qld e s n (freshB e s n) l).2.2.length ≤ l.length)
  (hfit : ((Qlf (Qld e s n (freshB e s n) l) b).length : Int) ≤ szN e) (hk : K + 60 * l.length + 20000000 ≤ k) :
  ∃ t, Qbv.f k e s n l b = some t ∧ bytesOf t = Qlf (Qld e s n (freshB e s n) l) b ++ List.replicate ((szN e).toNat - (Qlf (Qld e s n (freshB e s n) l) b).length) 255 := by
 have hsz := Qkj hG.1 hG.2.1
 have hg := hG
 obtain ⟨g1, g2, g3, g4⟩ := hg
 obtain ⟨B, hB⟩ : ∃ B, B = Qld e s n (freshB e s n) l := ⟨_, rfl⟩
 rw [← hB] at hnd hwe hlen hfit ⊢
 obtain ⟨th, e1, b1⟩ := head_ref k e s n (by omega) (by omega) (by omega) (by omega) (by omega) (by omega) (by omega)
 have hhd := Qkg e s n
 have hth : (th.size : Int) = Qkf e s n := by rw [Qjr, b1]; rfl
 obtain ⟨t, k', hk', b2, e2⟩ := Qle e s n l hl hw hc K hK l.length 0 k (freshB e s n) th (by omega) b1 (by simp [freshB]) (by omega) (by omega)
 rw [List.drop_zero, ← hB] at b2 e2
 have hso := sort_ref B.2.2 k' (by omega) hnd (by omega)
 rw [hso, Option.bind_some] at e2
 have hF : Qbu.f k e s n l = some (t, (Qin B.2.2).map toR) := by
  unfold Qbu.f
  rw [e1, Option.bind_some]
  exact e2
 have hts : t.size = B.2.1.length := by rw [Qjr, b2]
 have hszk := Qkl hG k (by omega)
 have hb255 : ∀ m : Nat, bytesOf (strOfNums (List.replicate m 255)) = List.replicate m 255 := fun m => Qjw (fun x hx => by have := List.eq_of_mem_replicate hx; omega)
 unfold Qbv.f
 rw [hF, Option.bind_some]
 dsimp only
 cases b with
 | true =>
  unfold Qlf at hfit ⊢
  rw [if_pos rfl] at hfit ⊢
  have hu : (t.size : Int) % 4294967296 = Qiy B := by unfold Qiy; rw [hts]
  have hur : 0 ≤ Qiy B ∧ Qiy B < 4294967296 := by unfold Qiy; omega
  obtain ⟨tf, e3, b3⟩ := foot_ref (Qiy B) (Qin B.2.2) k hur.1 hur.2 (by rw [Qio]; omega) (fun x hx => hwe x ((Qir _).mem_iff.1 hx)) (by rw [Qio]; omega)
  have htf : tf.size = (Qiv (Qiy B) (Qin B.2.2)).length := by rw [Qjr, b3]
  rw [List.length_append] at hfit ⊢
  rw [if_pos rfl, hu, e3, Option.bind_some, if_pos (by omega), hszk, Option.bind_some]
  have hz : (t ++ tf).size = t.size + tf.size := ByteArray.size_append
  rw [Qlb (show 0 ≤ szN e by omega) (by omega), Qlb (show 0 ≤ szN e - ((t ++ tf).size : Int) by omega) (by omega), Qlc _ k (by omega) (by omega), Option.bind_some]
  have hr : (szN e - ((t ++ tf).size : Int)).toNat = (szN e).toNat - (B.2.1.length + (Qiv (Qiy B) (Qin B.2.2)).length) := by omega
  rw [hr]
  have hq := congrArg List.length (hb255 ((szN e).toNat - (B.2.1.length + (Qiv (Qiy B) (Qin B.2.2)).length)))
  rw [← Qjr, List.length_replicate] at hq
  rw [if_pos (by omega)]
  refine ⟨_, rfl, ?_⟩
  rw [Qjv, Qjv, hb255, b2, b3]
 | false =>
  have ht0 : Qlf B false = B.2.1 := by simp [Qlf]
  rw [ht0] at hfit ⊢
  rw [if_neg (by simp), hszk, Option.bind_some]
  rw [Qlb (show 0 ≤ szN e by omega) (by omega), Qlb (show 0 ≤ szN e - (t.size : Int) by omega) (by omega), Qlc _ k (by omega) (by omega), Option.bind_some]
  have hr : (szN e - (t.size : Int)).toNat = (szN e).toNat - B.2.1.length := by omega
  rw [hr]
  have hq := congrArg List.length (hb255 ((szN e).toNat - B.2.1.length))
  rw [← Qjr, List.length_replicate] at hq
  rw [if_pos (by omega)]
  refine ⟨_, rfl, ?_⟩
  rw [Qjv, hb255, b2]
theorem Bytes.left {a b : List Int} (h : Bytes (a ++ b)) : Bytes a := fun x hx => h x (List.mem_append_left _ hx)
theorem Bytes.cons {a : Int} {b : List Int} (h1 : 0 ≤ a ∧ a < 256) (h2 : Bytes b) : Bytes (a :: b) := fun x hx => by
 rcases List.mem_cons.1 hx with rfl | hx
 ·exact h1
 ·exact h2 x hx
theorem Free.cons {a : Int} {b : List Int} (h1 : a ≠ 0) (h2 : Free b) : Free (a :: b) := fun x hx => by
 rcases List.mem_cons.1 hx with rfl | hx
 ·exact h1
 ·exact h2 x hx
def okR (r : Rec) : Prop := chkR r = 0 ∧ 0 ≤ r.f1 ∧ r.f1 < 18446744073709551616
def Qlg (e s n : Int) (g : List Rec) : Bd := Qld e s n (freshB e s n) g
theorem Qlh (e s n : Int) : ∀ (g : List Rec) (B : Bd) (r : Rec), Qld e s n B (g ++ [r]) = putB e s n (Qld e s n B g) r
 | [], _, _ => rfl
 | x :: g, B, r => by
  show Qld e s n (putB e s n B x) (g ++ [r]) = _
  rw [Qlh e s n g]
  rfl
theorem Qli (e s n : Int) : ∀ (g : List Rec) (B : Bd), (Qld e s n B g).2.2.length = B.2.2.length + g.length
 | [], B => by simp [Qld]
 | x :: g, B => by
  show (Qld e s n (putB e s n B x) g).2.2.length = _
  rw [Qli e s n g]
  simp [putB]
  omega
def GoodG (e s n : Int) (g : List Rec) : Prop := 0 ≤ n ∧ n < s ∧ okB e s n 1000000 (Qlg e s n g) ∧ g ≠ [] ∧ ((Qlg e s n g).2.1.length : Int) + Qkh ((Qlg e s n g).2.2.length : Int) ≤ szN e
theorem sealB_val {B : Bd} {o : List Int} {sz : Int} (h : sealB B = some o) (hs : Qal.f B.1.1 B.1.2.1 = some sz) : o = Qlf B true ++ List.replicate (sz.toNat - (Qlf B true).length) 255 := by
 unfold sealB at h
 rw [hs, Option.bind_some] at h
 split at h
 ·cases h
  rfl
 ·cases h
theorem openB_val {B : Bd} {o : List Int} {sz : Int} (h : openB B = some o) (hs : Qal.f B.1.1 B.1.2.1 = some sz) : o = Qlf B false ++ List.replicate (sz.toNat - (Qlf B false).length) 255 := by
 unfold openB at h
 rw [hs, Option.bind_some] at h
 split at h
 ·cases h
  simp [Qlf]
 ·cases h
theorem okB_more {e s n : Int} {i j : Nat} {B : Bd} (h : okB e s n i B) (hij : i ≤ j) : okB e s n j B := ⟨h.1, by have := h.2.1; omega, h.2.2⟩
theorem part_ne {e s n : Int} {g : List Rec} : (Qlg e s n g).2.2 ≠ [] ↔ g ≠ [] := by
 have h := Qli e s n g (freshB e s n)
 have h0 : (freshB e s n).2.2.length = 0 := rfl
 unfold Qlg
 rw [← List.length_pos_iff, ← List.length_pos_iff, h, h0]
 omega
theorem tail_fit {e s n : Int} (hG : Good e s) {g : List Rec} (h : GoodG e s n g) (b : Bool) : ((Qlf (Qlg e s n g) b).length : Int) ≤ szN e := by
 obtain ⟨h0, h1, h2, h3, h4⟩ := h
 have hfl := foot_len (Qiy (Qlg e s n g)) (Qin (Qlg e s n g).2.2)
 rw [Qio] at hfl
 have hmm := Qkm ((Qlg e s n g).2.2.length : Int) (by omega) (by have := h2.2.1; omega)
 unfold Qlf
 rw [List.length_append]
 cases b with
 | true => rw [if_pos rfl]; omega
 | false => rw [if_neg (by simp)]; simp; omega
end Go.Proofs.YtnnofopfbeklbaaGreat.CodecP
end
