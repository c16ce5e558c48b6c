/- Texts of this claim's author and of the print of its functions, merged by merge.py. -/
import Derived.Test.YtnnofopfbeklbaaGreatMD34
import Derived.Test.YtnnofopfbeklbaaGreatMD12
import Derived.Test.YtnnofopfbeklbaaGreatMD29
set_option linter.unusedVariables false
set_option linter.unusedSimpArgs false
set_option maxHeartbeats 8000000
set_option maxRecDepth 100000
section
namespace Go.Proofs.YtnnofopfbeklbaaGreat.CodecP
open Go.RowKit Go.Proofs.YtnnofopfbeklbaaGreat.C Go.Proofs.YtnnofopfbeklbaaGreatW.PrintWords Go.Proofs.YtnnofopfbeklbaaGreatW.PrintLast Go.Proofs.YtnnofopfbeklbaaGreatW.PrintMore
abbrev REnt := S122
def toR (x : Ent) : REnt := ⟨x.f0, x.f1⟩
def ltR (x y : REnt) : Bool := decide (x.f0 < y.f0) || (decide (x.f0 = y.f0) && decide (x.f1 < y.f1))
def insR (x : REnt) : List REnt → List REnt
 | [] => [x]
 | y :: t => if ltR x y = true then x :: y :: t else y :: insR x t
theorem rdRE (l : List REnt) (i : Nat) (h : i < l.length) : Qhe l (i : Int) = l[i] := by simp [Qhe, List.getElem?_eq_getElem h]
theorem less_is (a b : REnt) : Qbm.f a.f0 a.f1 b.f0 b.f1 = some (ltR a b) := by
 unfold Qbm.f ltR
 by_cases h1 : a.f0 < b.f0
 ·simp [h1]
 ·by_cases h2 : a.f0 = b.f0
  ·simp [h1, h2]
  ·simp [h1, h2]
theorem put_run (x : REnt) (l : List REnt) (hl : l.length ≤ 1000000) (hx : x ∉ l) : ∀ (d i k : Nat) (out : List REnt) (b : Bool), i + d = l.length → out.length ≤ i + b.toNat → d + 2 ≤ k →
  Qbj.l0 k out b l (l.length : Int) (i : Int) x.f0 x.f1 = some (out ++ (if b = true then l.drop i else insR x (l.drop i))) := by
 intro d
 induction d with
 | zero =>
  intro i k out b hd ho hk
  obtain ⟨k, rfl⟩ : ∃ m, k = m + 1 := ⟨k - 1, by omega⟩
  rw [Qbj.l0, if_neg (by omega), List.drop_of_length_le (by omega)]
  cases b with
  | true => simp
  | false =>
   have ho' : out.length ≤ i := ho
   rw [if_neg (by simp), if_pos (by omega)]
   simp [insR]
 | succ d ihd =>
  intro i k out b hd ho hk
  obtain ⟨k, rfl⟩ : ∃ m, k = m + 1 := ⟨k - 1, by omega⟩
  have hi : i < l.length := by omega
  have hne : l[i] ≠ x := fun e => hx (e ▸ List.getElem_mem hi)
  have hcmp : (l[i].f0 == x.f0 && l[i].f1 == x.f1) = false := by
   cases h : (l[i].f0 == x.f0 && l[i].f1 == x.f1) with
   | false => rfl
   | true =>
    exfalso
    simp only [Bool.and_eq_true, beq_iff_eq] at h
    refine hne ?_
    generalize l[i] = y at *
    cases y; cases x; simp_all
  have heta : (⟨l[i].f0, l[i].f1⟩ : REnt) = l[i] := rfl
  rw [Qbj.l0, if_pos (by omega), if_pos (by omega), if_pos (by omega), rdRE l i hi, hcmp, if_neg (by simp), Qkl i (by omega), heta, List.drop_eq_getElem_cons hi]
  cases b with
  | true =>
   have ho' : out.length ≤ i + 1 := ho
   rw [if_pos rfl, if_pos (by omega), ihd (i + 1) k (out ++ [l[i]]) true (by omega) (by rw [List.length_append]; simp; omega) (by omega)]
   simp
  | false =>
   have ho' : out.length ≤ i := ho
   rw [if_neg (by simp), less_is x l[i], Option.bind_some]
   by_cases hlt : ltR x l[i] = true
   ·rw [if_pos hlt, if_pos (by omega), Option.bind_some, if_pos (by rw [List.length_append]; simp; omega)]
    have ih := ihd (i + 1) k (out ++ [x] ++ [l[i]]) true (by omega) (by rw [List.length_append, List.length_append]; simp; omega) (by omega)
    rw [ih]
    simp [insR, hlt]
   ·rw [if_neg hlt, if_pos (by omega), ihd (i + 1) k (out ++ [l[i]]) false (by omega) (by rw [List.length_append]; simp; omega) (by omega)]
    simp [insR, hlt]
theorem insR_mem (x y : REnt) : ∀ (l : List REnt), y ∈ insR x l ↔ y = x ∨ y ∈ l
 | [] => by simp [insR]
 | z :: t => by
  unfold insR
  split
  ·simp
  ·rw [List.mem_cons, insR_mem x y t, List.mem_cons]
   constructor
   ·rintro (h | h | h)
    ·exact .inr (.inl h)
    ·exact .inl h
    ·exact .inr (.inr h)
   ·rintro (h | h | h)
    ·exact .inr (.inl h)
    ·exact .inl h
    ·exact .inr (.inr h)
theorem Qlw (x : REnt) : ∀ (l : List REnt), (insR x l).length = l.length + 1
 | [] => rfl
 | z :: t => by
  unfold insR
  split
  ·simp
  ·rw [List.length_cons, Qlw x t, List.length_cons]
theorem ltR_trans {a b c : REnt} (h1 : ltR a b = true) (h2 : ltR b c = true) : ltR a c = true := by
 unfold ltR at *
 simp at *
 omega
theorem ltR_tri {a b : REnt} (h : ltR a b = false) (hne : a ≠ b) : ltR b a = true := by
 unfold ltR at *
 simp at *
 have : a.f0 ≠ b.f0 ∨ a.f1 ≠ b.f1 := by
  by_cases h0 : a.f0 = b.f0
  ·by_cases h1 : a.f1 = b.f1
   ·exfalso
    refine hne ?_
    cases a; cases b; simp_all
   ·exact .inr h1
  ·exact .inl h0
 omega
theorem Qlx (a : REnt) : ltR a a = false := by
 unfold ltR
 simp
theorem Qly (x : REnt) : ∀ (l : List REnt), x ∉ l → l.Pairwise (fun a b => ltR a b = true) → (insR x l).Pairwise (fun a b => ltR a b = true)
 | [], _, _ => by simp [insR]
 | z :: t, hx, hp => by
  have hp2 := List.pairwise_cons.1 hp
  unfold insR
  split
  ·rename_i h
   refine List.pairwise_cons.2 ⟨?_, hp⟩
   intro y hy
   rcases List.mem_cons.1 hy with rfl | hy
   ·exact h
   ·exact ltR_trans h (hp2.1 y hy)
  ·rename_i h
   refine List.pairwise_cons.2 ⟨?_, Qly x t (fun h' => hx (List.mem_cons_of_mem _ h')) hp2.2⟩
   intro y hy
   rcases (insR_mem x y t).1 hy with rfl | hy
   ·exact ltR_tri (by simpa using h) (fun e => hx (e ▸ List.mem_cons_self))
   ·exact hp2.1 y hy
theorem Qlz : ∀ (a b : List REnt), a.Pairwise (fun x y => ltR x y = true) → b.Pairwise (fun x y => ltR x y = true) → (∀ x, x ∈ a ↔ x ∈ b) → a = b
 | [], [], _, _, _ => rfl
 | [], y :: b, _, _, h => absurd ((h y).2 List.mem_cons_self) (by simp)
 | x :: a, [], _, _, h => absurd ((h x).1 List.mem_cons_self) (by simp)
 | x :: a, y :: b, ha, hb, h => by
  have ha2 := List.pairwise_cons.1 ha
  have hb2 := List.pairwise_cons.1 hb
  have hxy : x = y := by
   rcases List.mem_cons.1 ((h x).1 List.mem_cons_self) with e | h1
   ·exact e
   ·rcases List.mem_cons.1 ((h y).2 List.mem_cons_self) with e | h2
    ·exact e.symm
    ·have h3 := ltR_trans (hb2.1 x h1) (ha2.1 y h2)
     rw [Qlx] at h3
     cases h3
  subst hxy
  have hxa : x ∉ a := fun hm => by have := ha2.1 x hm; rw [Qlx] at this; cases this
  have hxb : x ∉ b := fun hm => by have := hb2.1 x hm; rw [Qlx] at this; cases this
  rw [Qlz a b ha2.2 hb2.2 (fun z => by
   constructor
   ·intro hz
    rcases List.mem_cons.1 ((h z).1 (List.mem_cons_of_mem _ hz)) with rfl | h1
    ·exact absurd hz hxa
    ·exact h1
   ·intro hz
    rcases List.mem_cons.1 ((h z).2 (List.mem_cons_of_mem _ hz)) with rfl | h1
    ·exact absurd hz hxb
    ·exact h1)]
theorem sorted_run (l : List REnt) (hl : l.length ≤ 1000000) (hn : l.Nodup) : ∀ (d i k : Nat) (acc : List REnt), i + d = l.length → acc.length = i → (∀ x, x ∈ acc ↔ x ∈ l.take i) → acc.Pairwise (fun a b => ltR a b = true) → d + l.length + 5 ≤ k →
  ∃ r, Qbk.l0 k acc l (l.length : Int) (i : Int) = some r ∧ (∀ x, x ∈ r ↔ x ∈ l) ∧ r.Pairwise (fun a b => ltR a b = true) := by
 intro d
 induction d with
 | zero =>
  intro i k acc hd ha hm hp hk
  obtain ⟨k, rfl⟩ : ∃ m, k = m + 1 := ⟨k - 1, by omega⟩
  refine ⟨acc, ?_, ?_, hp⟩
  ·rw [Qbk.l0, if_neg (by omega)]
  ·rw [List.take_of_length_le (by omega)] at hm
   exact hm
 | succ d ihd =>
  intro i k acc hd ha hm hp hk
  obtain ⟨k, rfl⟩ : ∃ m, k = m + 1 := ⟨k - 1, by omega⟩
  have hi : i < l.length := by omega
  have hna : l[i] ∉ acc := by
   intro hc
   have h1 := (hm _).1 hc
   obtain ⟨j, hj, he⟩ := List.getElem_of_mem h1
   rw [List.length_take] at hj
   rw [List.getElem_take] at he
   exact List.pairwise_iff_getElem.1 hn j i (by omega) hi (by omega) he
  have hput := put_run l[i] acc (by omega) hna acc.length 0 k [] false (by omega) (by simp) (by omega)
  rw [Qbk.l0, if_pos (by omega), if_pos (by omega), if_pos (by omega), rdRE l i hi]
  have hf : Qbj.f k acc l[i].f0 l[i].f1 = some (insR l[i] acc) := by
   unfold Qbj.f
   exact hput
  rw [hf, Option.bind_some, Qkl i (by omega)]
  refine ihd (i + 1) k _ (by omega) (by rw [Qlw, ha]) ?_ (Qly _ _ hna hp) (by omega)
  intro x
  rw [insR_mem, hm, List.take_succ_eq_append_getElem hi, List.mem_append, List.mem_singleton]
  exact Or.comm
theorem toR_inj {a b : Ent} (h : toR a = toR b) : a = b := by
 cases a; cases b
 unfold toR at h
 simp at h
 simp [h]
theorem ltR_toR (a b : Ent) : ltR (toR a) (toR b) = ltOf cfE a b := (Qjj a b).symm
theorem map_nodup {l : List Ent} (h : l.Nodup) : (l.map toR).Nodup := by
 rw [List.Nodup, List.pairwise_map]
 exact h.imp (fun hab he => hab (toR_inj he))
theorem sortE_strict {l : List Ent} (h : l.Nodup) : ((Qjh l).map toR).Pairwise (fun a b => ltR a b = true) := by
 rw [List.pairwise_map]
 have h1 := Qlt l
 have h2 : (Qjh l).Nodup := (Qjl l).nodup_iff.2 h
 refine (List.pairwise_and_iff.2 ⟨h1, h2⟩).imp ?_
 intro a b hab
 rw [ltR_toR]
 cases hq : ltOf cfE a b with
 | true => rfl
 | false => exact absurd (totE a b hq (by simpa using hab.1)) hab.2
theorem sort_ref (l : List Ent) (k : Nat) (hl : l.length ≤ 1000000) (hn : l.Nodup) (hk : 2 * l.length + 5 ≤ k) : Qbk.f k (l.map toR) = some ((Qjh l).map toR) := by
 obtain ⟨r, h1, h2, h3⟩ := sorted_run (l.map toR) (by rw [List.length_map]; exact hl) (map_nodup hn) l.length 0 k [] (by rw [List.length_map]; omega) rfl (by simp) (by simp) (by rw [List.length_map]; omega)
 unfold Qbk.f
 have h4 : r = (Qjh l).map toR := Qlz _ _ h3 (sortE_strict hn) (fun x => by
  rw [h2, List.mem_map, List.mem_map]
  constructor
  ·rintro ⟨y, hy, e⟩; exact ⟨y, (Qjl l).mem_iff.2 hy, e⟩
  ·rintro ⟨y, hy, e⟩; exact ⟨y, (Qjl l).mem_iff.1 hy, e⟩)
 rw [← h4]
 exact h1
def entR (x : REnt) : List Int := leb x.f0 8 ++ leb x.f1 4
def wfR (x : REnt) : Prop := (0 ≤ x.f0 ∧ x.f0 < 18446744073709551616) ∧ 0 ≤ x.f1 ∧ x.f1 < 4294967296
theorem text_run (l : List REnt) (hl : l.length ≤ 1000000) (hw : ∀ x ∈ l, wfR x) : ∀ (d i k : Nat) (out : ByteArray), i + d = l.length → out.size ≤ 12 * i → d + 20 ≤ k →
  ∃ t, Qbl.l0 k out l (l.length : Int) (i : Int) = some t ∧ bytesOf t = bytesOf out ++ (l.drop i).flatMap entR := by
 intro d
 induction d with
 | zero =>
  intro i k out hd ho hk
  obtain ⟨k, rfl⟩ : ∃ m, k = m + 1 := ⟨k - 1, by omega⟩
  refine ⟨out, ?_, ?_⟩
  ·rw [Qbl.l0, if_neg (by omega)]
  ·rw [List.drop_of_length_le (by omega)]
   simp
 | succ d ihd =>
  intro i k out hd ho hk
  obtain ⟨k, rfl⟩ : ∃ m, k = m + 1 := ⟨k - 1, by omega⟩
  have hi : i < l.length := by omega
  obtain ⟨h1, h2⟩ := hw l[i] (List.getElem_mem hi)
  obtain ⟨t1, e1, b1⟩ := num1 k 8 l[i].f0 (by omega) h1.1 h1.2 (by omega)
  obtain ⟨t2, e2, b2⟩ := num1 k 4 l[i].f1 (by omega) h2.1 (by omega) (by omega)
  have z1 : t1.size = 8 := by rw [Qkc, b1, Qhg]
  have z2 : t2.size = 4 := by rw [Qkc, b2, Qhg]
  obtain ⟨t, e3, b3⟩ := ihd (i + 1) k ((out ++ t1) ++ t2) (by omega) (by rw [ByteArray.size_append, ByteArray.size_append]; omega) (by omega)
  refine ⟨t, ?_, ?_⟩
  ·rw [Qbl.l0, if_pos (by omega), if_pos (by omega), if_pos (by omega), rdRE l i hi, show (8 : Int) = ((8 : Nat) : Int) from rfl, e1, Option.bind_some, if_pos (by omega), IntWalk.u64_in _ (by omega), show (4 : Int) = ((4 : Nat) : Int) from rfl, e2, Option.bind_some, if_pos qq_18, Qkl i (by omega)]
   exact e3
  ·rw [b3, Qkg, Qkg, b1, b2, List.drop_eq_getElem_cons hi, List.flatMap_cons]
   simp [entR]
theorem ftext_run (l : List Int) (hl : l.length ≤ 1000000) (hw : ∀ x ∈ l, 0 ≤ x ∧ x < 18446744073709551616) : ∀ (d i k : Nat) (out : ByteArray), i + d = l.length → out.size ≤ 8 * i → d + 20 ≤ k →
  ∃ t, Qbo.l0 k out l (l.length : Int) (i : Int) = some t ∧ bytesOf t = bytesOf out ++ (l.drop i).flatMap (fun x => leb x 8) := by
 intro d
 induction d with
 | zero =>
  intro i k out hd ho hk
  obtain ⟨k, rfl⟩ : ∃ m, k = m + 1 := ⟨k - 1, by omega⟩
  refine ⟨out, ?_, ?_⟩
  ·rw [Qbo.l0, if_neg (by omega)]
  ·rw [List.drop_of_length_le (by omega)]
   simp
 | succ d ihd =>
  intro i k out hd ho hk
  obtain ⟨k, rfl⟩ : ∃ m, k = m + 1 := ⟨k - 1, by omega⟩
  have hi : i < l.length := by omega
  obtain ⟨h1, h2⟩ := hw l[i] (List.getElem_mem hi)
  obtain ⟨t1, e1, b1⟩ := num1 k 8 l[i] (by omega) h1 h2 (by omega)
  have z1 : t1.size = 8 := by rw [Qkc, b1, Qhg]
  obtain ⟨t, e3, b3⟩ := ihd (i + 1) k (out ++ t1) (by omega) qq_18 (by omega)
  refine ⟨t, ?_, ?_⟩
  ·rw [Qbo.l0, if_pos (by omega), if_pos (by omega), if_pos (by omega), Qka hi, show (8 : Int) = ((8 : Nat) : Int) from rfl, e1, Option.bind_some, if_pos (by omega), Qkl i (by omega)]
   exact e3
  ·rw [b3, Qkg, b1, List.drop_eq_getElem_cons hi, List.flatMap_cons]
   simp
def fenR (l : List REnt) (m : Nat) : List Int := (List.range m).map (fun j => (Qhe l ((j * 16 : Nat) : Int)).f0)
theorem of_run (l : List REnt) (hl : l.length ≤ 1000000) : ∀ (d i k : Nat), i + d = l.length → d + 2 ≤ k →
  Qbn.l0 k (fenR l ((i + 15) / 16)) l (l.length : Int) (i : Int) = some (fenR l ((l.length + 15) / 16)) := by
 intro d
 induction d with
 | zero =>
  intro i k hd hk
  obtain ⟨k, rfl⟩ : ∃ m, k = m + 1 := ⟨k - 1, by omega⟩
  rw [Qbn.l0, if_neg (by omega), show i = l.length by omega]
 | succ d ihd =>
  intro i k hd hk
  obtain ⟨k, rfl⟩ : ∃ m, k = m + 1 := ⟨k - 1, by omega⟩
  have hi : i < l.length := by omega
  have htm : Int.tmod (i : Int) 16 = ((i % 16 : Nat) : Int) := by rw [Int.tmod_eq_emod_of_nonneg (by omega)]; rfl
  have ih := ihd (i + 1) k (by omega) (by omega)
  rw [Qbn.l0, if_pos (by omega), if_pos (by omega), if_pos (by omega), htm, Qkl i (by omega)]
  by_cases h0 : i % 16 = 0
  ·rw [if_pos (by omega), if_pos (by simp [fenR]; omega)]
   have hs : (i + 1 + 15) / 16 = (i + 15) / 16 + 1 := by omega
   rw [hs] at ih
   have hf : fenR l ((i + 15) / 16 + 1) = fenR l ((i + 15) / 16) ++ [(Qhe l (i : Int)).f0] := by
    unfold fenR
    rw [List.range_succ, List.map_append]
    simp only [List.map_cons, List.map_nil]
    rw [show (i + 15) / 16 * 16 = i by omega]
   rw [hf] at ih
   exact ih
  ·rw [if_neg (by omega)]
   have hs : (i + 1 + 15) / 16 = (i + 15) / 16 := by omega
   rw [hs] at ih
   exact ih
theorem fen_is (l : List Ent) : fenR (l.map toR) ((l.length + 15) / 16) = Qjc l := by
 unfold fenR Qjc chN
 refine List.map_congr_left fun j hj => ?_
 rw [List.mem_range] at hj
 have h1 : j * 16 < l.length := by omega
 unfold Qjb
 rw [rdRE _ _ (by rw [List.length_map]; exact h1), rdE l _ h1, List.getElem_map]
 rfl
theorem ent_is : ∀ (l : List Ent), (l.map toR).flatMap entR = l.flatMap ent
 | [] => rfl
 | x :: t => by rw [List.map_cons, List.flatMap_cons, List.flatMap_cons, ent_is t]; rfl
theorem wf_fence (l : List Ent) (hw : ∀ x ∈ l, wfE x) : ∀ x ∈ Qjc l, 0 ≤ x ∧ x < 18446744073709551616 := by
 intro x hx
 unfold Qjc chN at hx
 obtain ⟨j, hj, rfl⟩ := List.mem_map.1 hx
 rw [List.mem_range] at hj
 have h1 : j * 16 < l.length := by omega
 unfold Qjb
 rw [rdE l _ h1]
 exact (hw _ (List.getElem_mem h1)).1
theorem foot_ref (used : Int) (l : List Ent) (k : Nat) (h0 : 0 ≤ used) (h1 : used < 4294967296) (hl : l.length ≤ 1000000) (hw : ∀ x ∈ l, wfE x) (hk : 50 * l.length + 2000 ≤ k) :
  ∃ t, Qbq.f k used (l.map toR) = some t ∧ bytesOf t = Qjp used l := by
 obtain ⟨t1, e1, b1⟩ := num1 k 4 (l.length : Int) (by omega) (by omega) (by omega) (by omega)
 obtain ⟨t2, e2, b2⟩ := num1 k 4 used (by omega) (by omega) (by omega) (by omega)
 obtain ⟨t3, e3, b3⟩ := text_run (l.map toR) (by rw [List.length_map]; exact hl) (fun x hx => by
  obtain ⟨y, hy, rfl⟩ := List.mem_map.1 hx
  exact hw y hy) l.length 0 k (⟨#[]⟩ : ByteArray) (by rw [List.length_map]; omega) (by decide) (by omega)
 have hof := of_run (l.map toR) (by rw [List.length_map]; exact hl) l.length 0 k (by rw [List.length_map]; omega) (by omega)
 have hfl := fence_len l
 obtain ⟨t4, e4, b4⟩ := ftext_run (Qjc l) (by omega) (wf_fence l hw) (Qjc l).length 0 k (⟨#[]⟩ : ByteArray) (by omega) (by decide) (by omega)
 have z1 : t1.size = 4 := by rw [Qkc, b1, Qhg]
 have z2 : t2.size = 4 := by rw [Qkc, b2, Qhg]
 have b3' : bytesOf t3 = l.flatMap ent := by rw [b3, List.drop_zero, ent_is]; rfl
 have b4' : bytesOf t4 = (Qjc l).flatMap (fun x => leb x 8) := by rw [b4, List.drop_zero]; rfl
 have hp := Qjr (l.length : Int) used l
 rw [List.nil_append] at hp
 have hb : bytesOf ((((((⟨#[4]⟩ : ByteArray) ++ t1) ++ t2) ++ t3) ++ t4)) = [4] ++ leb l.length 4 ++ leb used 4 ++ l.flatMap ent ++ (Qjc l).flatMap (fun x => leb x 8) := by
  rw [Qkg, Qkg, Qkg, Qkg, b1, b2, b3', b4']
  rfl
 have hsz : (((((⟨#[4]⟩ : ByteArray) ++ t1) ++ t2) ++ t3) ++ t4).size = 9 + 12 * l.length + 8 * (Qjc l).length := by
  rw [Qkc, hb]
  exact hp
 obtain ⟨t, e5, b5⟩ := seal_ref k ((((((⟨#[4]⟩ : ByteArray) ++ t1) ++ t2) ++ t3) ++ t4)) (by omega) (by omega)
 refine ⟨t, ?_, by rw [b5, hb]; rfl⟩
 have hc : (⟨#[4]⟩ : ByteArray).size = 1 := rfl
 have hs4 : (((((⟨#[4]⟩ : ByteArray) ++ t1) ++ t2) ++ t3) ++ t4).size = 1 + t1.size + t2.size + t3.size + t4.size := by
  rw [ByteArray.size_append, ByteArray.size_append, ByteArray.size_append, ByteArray.size_append, hc]
 have hT : Qbl.f k (l.map toR) = some t3 := e3
 have hO : Qbn.f k (l.map toR) = some (Qjc l) := by
  rw [← fen_is]
  have : fenR (l.map toR) ((0 + 15) / 16) = [] := rfl
  rw [this, List.length_map] at hof
  unfold Qbn.f
  rw [List.length_map]
  exact hof
 have hF : Qbo.f k (Qjc l) = some t4 := e4
 unfold Qbq.f
 rw [List.length_map, IntWalk.u64_in _ (by omega), show (4 : Int) = ((4 : Nat) : Int) from rfl, e1, Option.bind_some, if_pos (by omega), IntWalk.u64_in _ (by omega), e2, Option.bind_some, if_pos qq_18, hT, Option.bind_some, if_pos (by rw [ByteArray.size_append, ByteArray.size_append]; omega), hO, Option.bind_some, hF, Option.bind_some, if_pos (by rw [ByteArray.size_append, ByteArray.size_append, ByteArray.size_append]; omega), e5, Option.bind_some]
theorem Qma {x : Int} (h0 : 0 ≤ x) (h1 : x ≤ 4611686018427387903) : wrap64 x = x := by unfold wrap64; omega
theorem erased_run : ∀ (d i k : Nat) (n : Nat), i + d = n → n ≤ 1000000000 → d + 1 ≤ k →
  Qbv.l0 k (List.replicate i 255 ++ List.replicate d 0) (n : Int) (i : Int) = some (strOfNums (List.replicate n 255)) := by
 intro d
 induction d with
 | zero =>
  intro i k n hd hn hk
  obtain ⟨k, rfl⟩ : ∃ m, k = m + 1 := ⟨k - 1, by omega⟩
  rw [Qbv.l0, if_neg (by omega), show i = n by omega]
  simp
 | succ d ihd =>
  intro i k n hd hn hk
  obtain ⟨k, rfl⟩ : ∃ m, k = m + 1 := ⟨k - 1, by omega⟩
  have ih := ihd (i + 1) k n (by omega) hn (by omega)
  rw [Qbv.l0, if_pos (by omega), if_pos (by omega), if_pos (by rw [List.length_append, List.length_replicate, List.length_replicate]; omega), Qkl i (by omega), Int.toNat_natCast]
  have hs : (List.replicate i (255 : Int) ++ List.replicate (d + 1) 0).set i 255 = List.replicate (i + 1) 255 ++ List.replicate d 0 := by
   rw [List.set_append_right _ _ (by simp), List.length_replicate, Nat.sub_self, List.replicate_succ, List.set_cons_zero, List.replicate_succ', List.append_assoc]
   rfl
  rw [hs]
  exact ih
theorem Qmb (a : Int) (k : Nat) (h : a ≤ 1000000000) (hk : a.toNat + 2 ≤ k) : Qbv.f k a = some (strOfNums (List.replicate a.toNat 255)) := by
 have hm : mx 0 a = (a.toNat : Int) := by unfold mx; split <;> omega
 have h1 := erased_run a.toNat 0 k a.toNat (by omega) (by omega) (by omega)
 unfold Qbv.f
 rw [hm, if_pos (by omega), Int.toNat_natCast, if_pos (by omega), Option.bind_some, List.length_replicate]
 simpa using h1
def Qmc (e s n : Int) : Bd → List Rec → Bd
 | B, [] => B
 | B, r :: t => Qmc e s n (putB e s n B r) t
theorem frames_run (e s n : Int) (l : List Rec) (hl : l.length ≤ 1000000) (hw : Wf l) (hc : chkL l = 0) (K : Nat) (hK : ∀ r ∈ l, 2 * (r.f2.size + r.f3.size) + 300 ≤ K) : ∀ (d i k : Nat) (B : Bd) (out : ByteArray), i + d = l.length → bytesOf out = B.2.1 → B.2.2.length ≤ i → out.size ≤ 1000 + i * 8388608 → d + K + 1 ≤ k →
  ∃ t k', k' + d + 1 = k ∧ bytesOf t = (Qmc e s n B (l.drop i)).2.1 ∧
   Qbw.l0 k out (B.2.2.map toR) l (l.length : Int) (i : Int) = (Qbk.f k' ((Qmc e s n B (l.drop i)).2.2.map toR)).bind fun q => some (t, q) := by
 intro d
 induction d with
 | zero =>
  intro i k B out hd ho hb hz hk
  obtain ⟨k, rfl⟩ : ∃ m, k = m + 1 := ⟨k - 1, by omega⟩
  refine ⟨out, k, by omega, ?_, ?_⟩
  ·rw [List.drop_of_length_le (by omega)]
   exact ho
  ·rw [Qbw.l0, if_neg (by omega), List.drop_of_length_le (by omega)]
   rfl
 | succ d ihd =>
  intro i k B out hd ho hb hz hk
  obtain ⟨k, rfl⟩ : ∃ m, k = m + 1 := ⟨k - 1, by omega⟩
  have hi : i < l.length := by omega
  have hcr : chkR l[i] = 0 := Qlk hc _ (List.getElem_mem hi)
  have hwr := hw l[i] (List.getElem_mem hi)
  have hx := Qln l[i] hcr
  have hch := Qio hcr
  have hkk := hK l[i] (List.getElem_mem hi)
  obtain ⟨t, e1, b1⟩ := Qko k l[i].f0 l[i].f1 l[i].f2 l[i].f3 hwr.1 hwr.2 (by omega) (by omega) (by omega)
  have hts : (t.size : Int) = fsz l[i] := by rw [Qkc, b1]; rfl
  have hh := hash_ref 0 l[i].f2 k ⟨by omega, by omega⟩ (by omega) (by omega)
  have hos : (out.size : Int) = (B.2.1.length : Int) := by rw [Qkc, ho]
  obtain ⟨r, k', hk', b2, e2⟩ := ihd (i + 1) k (putB e s n B l[i]) (out ++ t) (by omega) (by rw [Qkg, ho, b1]; rfl) (by simp [putB]; omega) qq_18 (by omega)
  refine ⟨r, k', by omega, ?_, ?_⟩
  ·rw [b2, List.drop_eq_getElem_cons hi]
   rfl
  ·rw [Qbw.l0, if_pos (by omega), if_pos (by omega), if_pos (by omega), rdR l i hi, hh, Option.bind_some, if_pos (by rw [List.length_map]; omega), e1, Option.bind_some, if_pos (by omega), Qkl i (by omega), List.drop_eq_getElem_cons hi]
   have hm : (putB e s n B l[i]).2.2.map toR = B.2.2.map toR ++ [(⟨Qiu 0 (bytesOf l[i].f2), (out.size : Int) % 4294967296⟩ : REnt)] := by
    simp only [putB, List.map_append, List.map_cons, List.map_nil]
    rw [hos]
    rfl
   rw [hm] at e2
   exact e2
def Qmd (B : Bd) (b : Bool) : List Int := B.2.1 ++ (if b = true then Qjp (Qjs B) (Qjh B.2.2) else [])
theorem seg_ref {e s n : Int} (hG : Good e s) (h0 : 0 ≤ n) (h1 : n < s) (l : List Rec) (b : Bool) (k K : Nat) (hl : l.length ≤ 1000000) (hw : Wf l) (hc : chkL l = 0) (hK : ∀ r ∈ l, 2 * (r.f2.size + r.f3.size) + 300 ≤ K)
  (hnd : (Qmc e s n (freshB e s n) l).2.2.Nodup) (hwe : ∀ x ∈ (Qmc e s n (freshB e s n) l).2.2, wfE x) (hlen : (Qmc e s n (freshB e s n) l).2.2.length ≤ l.length)
  (hfit : ((Qmd (Qmc e s n (freshB e s n) l) b).length : Int) ≤ szN e) (hk : K + 60 * l.length + 20000000 ≤ k) :
  ∃ t, Qbx.f k e s n l b = some t ∧ bytesOf t = Qmd (Qmc e s n (freshB e s n) l) b ++ List.replicate ((szN e).toNat - (Qmd (Qmc e s n (freshB e s n) l) b).length) 255 := by
 have hsz := Qku hG.1 hG.2.1
 have hg := hG
 obtain ⟨g1, g2, g3, g4⟩ := hg
 obtain ⟨B, hB⟩ : ∃ B, B = Qmc e s n (freshB e s n) l := ⟨_, rfl⟩
 rw [← hB] at hnd hwe hlen hfit ⊢
 obtain ⟨th, e1, b1⟩ := head_ref k e s n (by omega) (by omega) (by omega) (by omega) (by omega) (by omega) (by omega)
 have hhd := Qkr e s n
 have hth : (th.size : Int) = Qkq e s n := by rw [Qkc, b1]; rfl
 obtain ⟨t, k', hk', b2, e2⟩ := frames_run e s n l hl hw hc K hK l.length 0 k (freshB e s n) th (by omega) b1 (by simp [freshB]) (by omega) (by omega)
 rw [List.drop_zero, ← hB] at b2 e2
 have hso := sort_ref B.2.2 k' (by omega) hnd (by omega)
 rw [hso, Option.bind_some] at e2
 have hF : Qbw.f k e s n l = some (t, (Qjh B.2.2).map toR) := by
  unfold Qbw.f
  rw [e1, Option.bind_some]
  exact e2
 have hts : t.size = B.2.1.length := by rw [Qkc, b2]
 have hszk := Qkw hG k (by omega)
 have hb255 : ∀ m : Nat, bytesOf (strOfNums (List.replicate m 255)) = List.replicate m 255 := fun m => Qkh (fun x hx => by have := List.eq_of_mem_replicate hx; omega)
 unfold Qbx.f
 rw [hF, Option.bind_some]
 dsimp only
 cases b with
 | true =>
  unfold Qmd at hfit ⊢
  rw [if_pos rfl] at hfit ⊢
  have hu : (t.size : Int) % 4294967296 = Qjs B := by unfold Qjs; rw [hts]
  have hur : 0 ≤ Qjs B ∧ Qjs B < 4294967296 := by unfold Qjs; omega
  obtain ⟨tf, e3, b3⟩ := foot_ref (Qjs B) (Qjh B.2.2) k hur.1 hur.2 (by rw [Qji]; omega) (fun x hx => hwe x ((Qjl _).mem_iff.1 hx)) (by rw [Qji]; omega)
  have htf : tf.size = (Qjp (Qjs B) (Qjh B.2.2)).length := by rw [Qkc, b3]
  rw [List.length_append] at hfit ⊢
  rw [if_pos rfl, hu, e3, Option.bind_some, if_pos (by omega), hszk, Option.bind_some]
  have hz : (t ++ tf).size = t.size + tf.size := ByteArray.size_append
  rw [Qma (show 0 ≤ szN e by omega) (by omega), Qma (show 0 ≤ szN e - ((t ++ tf).size : Int) by omega) (by omega), Qmb _ k (by omega) (by omega), Option.bind_some]
  have hr : (szN e - ((t ++ tf).size : Int)).toNat = (szN e).toNat - (B.2.1.length + (Qjp (Qjs B) (Qjh B.2.2)).length) := by omega
  rw [hr]
  have hq := congrArg List.length (hb255 ((szN e).toNat - (B.2.1.length + (Qjp (Qjs B) (Qjh B.2.2)).length)))
  rw [← Qkc, List.length_replicate] at hq
  rw [if_pos (by omega)]
  refine ⟨_, rfl, ?_⟩
  rw [Qkg, Qkg, hb255, b2, b3]
 | false =>
  have ht0 : Qmd B false = B.2.1 := by simp [Qmd]
  rw [ht0] at hfit ⊢
  rw [if_neg (by simp), hszk, Option.bind_some]
  rw [Qma (show 0 ≤ szN e by omega) (by omega), Qma (show 0 ≤ szN e - (t.size : Int) by omega) (by omega), Qmb _ k (by omega) (by omega), Option.bind_some]
  have hr : (szN e - (t.size : Int)).toNat = (szN e).toNat - B.2.1.length := by omega
  rw [hr]
  have hq := congrArg List.length (hb255 ((szN e).toNat - B.2.1.length))
  rw [← Qkc, List.length_replicate] at hq
  rw [if_pos (by omega)]
  refine ⟨_, rfl, ?_⟩
  rw [Qkg, hb255, b2]
theorem Bytes.cons {a : Int} {b : List Int} (h1 : 0 ≤ a ∧ a < 256) (h2 : Bytes b) : Bytes (a :: b) := fun x hx => by
 rcases List.mem_cons.1 hx with rfl | hx
 ·exact h1
 ·exact h2 x hx
theorem Free.cons {a : Int} {b : List Int} (h1 : a ≠ 0) (h2 : Free b) : Free (a :: b) := fun x hx => by
 rcases List.mem_cons.1 hx with rfl | hx
 ·exact h1
 ·exact h2 x hx
def okR (r : Rec) : Prop := chkR r = 0 ∧ 0 ≤ r.f1 ∧ r.f1 < 18446744073709551616
def Qme (e s n : Int) (g : List Rec) : Bd := Qmc e s n (freshB e s n) g
def segB (e s n : Int) (g : List Rec) (b : Bool) : List Int := Qmd (Qme e s n g) b ++ List.replicate ((szN e).toNat - (Qmd (Qme e s n g) b).length) 255
def imgP (e s : Int) : Int → List (List Rec) → List Int
 | _, [] => []
 | n, [g] => segB e s n g false
 | n, g :: h :: t => segB e s n g true ++ imgP e s (n + 1) (h :: t)
def Qmf (into : List Int) : Nat → List Rec → List Rec → List (List Rec)
 | _, [], cur => [cur]
 | i, r :: rs, cur => if rd into (i : Int) = rd into ((i : Int) - 1) then Qmf into (i + 1) rs (cur ++ [r]) else cur :: Qmf into (i + 1) rs [r]
theorem partsS_ne (into : List Int) : ∀ (rs : List Rec) (i : Nat) (cur : List Rec), ∃ g t, Qmf into i rs cur = g :: t
 | [], i, cur => ⟨cur, [], rfl⟩
 | r :: rs, i, cur => by
  unfold Qmf
  split
  ·exact partsS_ne into rs (i + 1) _
  ·exact ⟨_, _, rfl⟩
theorem Qmg (into : List Int) : ∀ (rs : List Rec) (i : Nat) (cur : List Rec), (Qmf into i rs cur).flatten = cur ++ rs
 | [], i, cur => by simp [Qmf]
 | r :: rs, i, cur => by
  unfold Qmf
  split
  ·rw [Qmg into rs]; simp
  ·rw [List.flatten_cons, Qmg into rs]; simp
theorem Qmh (e s n : Int) : ∀ (g : List Rec) (B : Bd) (r : Rec), Qmc e s n B (g ++ [r]) = putB e s n (Qmc e s n B g) r
 | [], _, _ => rfl
 | x :: g, B, r => by
  show Qmc e s n (putB e s n B x) (g ++ [r]) = _
  rw [Qmh e s n g]
  rfl
theorem Qmi (e s n : Int) : ∀ (g : List Rec) (B : Bd), (Qmc e s n B g).2.2.length = B.2.2.length + g.length
 | [], B => by simp [Qmc]
 | x :: g, B => by
  show (Qmc e s n (putB e s n B x) g).2.2.length = _
  rw [Qmi e s n g]
  simp [putB]
  omega
def GoodG (e s n : Int) (g : List Rec) : Prop := 0 ≤ n ∧ n < s ∧ okB e s n 1000000 (Qme e s n g) ∧ g ≠ [] ∧ ((Qme e s n g).2.1.length : Int) + Qks ((Qme e s n g).2.2.length : Int) ≤ szN e
def AllG (e s : Int) : Int → List (List Rec) → Prop
 | _, [] => True
 | n, g :: t => GoodG e s n g ∧ AllG e s (n + 1) t
def Qmj (into : List Int) : Nat → Nat → Int → Prop
 | 0, i, _ => i = into.length
 | d + 1, i, n => i < into.length ∧ ((rd into (i : Int) = n ∧ Qmj into d (i + 1) n) ∨ (rd into (i : Int) = n + 1 ∧ Qmj into d (i + 1) (n + 1)))
theorem sealB_val {B : Bd} {o : List Int} {sz : Int} (h : sealB B = some o) (hs : Qal.f B.1.1 B.1.2.1 = some sz) : o = Qmd B true ++ List.replicate (sz.toNat - (Qmd B true).length) 255 := by
 unfold sealB at h
 rw [hs, Option.bind_some] at h
 split at h
 ·cases h
  rfl
 ·cases h
theorem openB_val {B : Bd} {o : List Int} {sz : Int} (h : openB B = some o) (hs : Qal.f B.1.1 B.1.2.1 = some sz) : o = Qmd B false ++ List.replicate (sz.toNat - (Qmd B false).length) 255 := by
 unfold openB at h
 rw [hs, Option.bind_some] at h
 split at h
 ·cases h
  simp [Qmd]
 ·cases h
theorem okB_more {e s n : Int} {i j : Nat} {B : Bd} (h : okB e s n i B) (hij : i ≤ j) : okB e s n j B := ⟨h.1, by have := h.2.1; omega, h.2.2⟩
theorem part_ne {e s n : Int} {g : List Rec} : (Qme e s n g).2.2 ≠ [] ↔ g ≠ [] := by
 have h := Qmi e s n g (freshB e s n)
 have h0 : (freshB e s n).2.2.length = 0 := rfl
 unfold Qme
 rw [← List.length_pos_iff, ← List.length_pos_iff, h, h0]
 omega
theorem enc_img {e s : Int} (hG : Good e s) (l : List Rec) (into : List Int) (hl : l.length ≤ 1000000) (hw : Wf l) (hc : chkL l = 0) (hil : into.length = l.length) :
  ∀ (d i : Nat) (out : List Int) (n : Int) (cur : List Rec), i + d = l.length → 1 ≤ i → okB e s n i (Qme e s n cur) → cur ≠ [] → ((Qme e s n cur).2.1.length : Int) + Qks ((Qme e s n cur).2.2.length : Int) ≤ szN e → 0 ≤ n → n < s → out.length = n.toNat * (szN e).toNat → rd into ((i : Int) - 1) = n →
  Qlf e s ((l.drop i).map fsz) (into.take i) n ((Qme e s n cur).2.1.length : Int) ((Qme e s n cur).2.2.length : Int) = (into, 0) →
  encG e s into i (l.drop i) out (some (Qme e s n cur)) = some (out ++ imgP e s n (Qmf into i (l.drop i) cur)) ∧ AllG e s n (Qmf into i (l.drop i) cur) ∧ Qmj into d i n := by
 have hsz := Qku hG.1 hG.2.1
 have hsize : ∀ {m : Int} {i : Nat} {B : Bd}, okB e s m i B → Qal.f B.1.1 B.1.2.1 = some (szN e) := fun h => by rw [h.1]; exact Qkv hG
 intro d
 induction d with
 | zero =>
  intro i out n cur hd hi hB hne hr h0 h1 ho hprev hp
  have hi' : i = into.length := by omega
  have hmm := Qkx ((Qme e s n cur).2.2.length : Int) (by omega) (by have := hB.2.1; omega)
  obtain ⟨o, e1, e2, t, e3⟩ := open_good hG hB (by omega)
  have hlim := room_lim hG h1
  have hv := openB_val e1 (hsize hB)
  rw [List.drop_of_length_le (by omega)]
  refine ⟨?_, ⟨⟨h0, h1, okB_more hB (by omega), hne, hr⟩, trivial⟩, hi'⟩
  unfold encG
  rw [e1, Option.bind_some, if_pos (by omega), hv]
  rfl
 | succ d ihd =>
  intro i out n cur hd hi hB hne hr h0 h1 ho hprev hp
  have hlt : i < l.length := by omega
  have hlt2 : i < into.length := by omega
  have hcr : chkR l[i] = 0 := Qlk hc _ (List.getElem_mem hlt)
  have hwr := hw l[i] (List.getElem_mem hlt)
  have hx := Qln l[i] hcr
  have hlen : ∀ q : List Int, ((q ++ Qlm l[i]).length : Int) = (q.length : Int) + fsz l[i] := fun q => by rw [List.length_append]; unfold fsz; omega
  have hiB := hB.2.1
  have hb5 := hB.2.2.2.2
  have hne2 : (Qme e s n cur).2.2 ≠ [] := part_ne.2 hne
  rw [List.drop_eq_getElem_cons hlt] at hp ⊢
  rw [List.map_cons] at hp
  unfold Qlf at hp
  by_cases hf : Qky e (Qkq e s (s - 1)) 0 (fsz l[i]) = false
  ·rw [if_pos hf] at hp; cases hp
  ·rw [if_neg hf] at hp
   have hft : Qky e (Qkq e s (s - 1)) 0 (fsz l[i]) = true := by simpa using hf
   by_cases hq : Qky e ((Qme e s n cur).2.1.length : Int) ((Qme e s n cur).2.2.length : Int) (fsz l[i]) = true
   ·rw [if_pos hq] at hp
    obtain ⟨q1, q2⟩ := pre_at (by have := Qlv e s _ _ _ _ _ (congrArg Prod.snd hp); rw [hp] at this; exact this) hlt2
    obtain ⟨a1, a2, a3, a4⟩ := add_good hG hB (by omega) hcr hwr hft hq
    have hpb : putB e s n (Qme e s n cur) l[i] = Qme e s n (cur ++ [l[i]]) := (Qmh e s n cur _ _).symm
    have hlB : ((Qme e s n (cur ++ [l[i]])).2.1.length : Int) = ((Qme e s n cur).2.1.length : Int) + fsz l[i] := by rw [← hpb]; exact hlen _
    have hlT : ((Qme e s n (cur ++ [l[i]])).2.2.length : Int) = ((Qme e s n cur).2.2.length : Int) + 1 := by rw [← hpb]; simp [putB]
    rw [hpb] at a1 a2 a3
    rw [← q2, ← hlB, ← hlT] at hp
    obtain ⟨f1, f2, f3⟩ := ihd (i + 1) out n (cur ++ [l[i]]) (by omega) (by omega) a2 (by simp) a3 h0 h1 ho (by rw [show ((i + 1 : Nat) : Int) - 1 = (i : Int) by omega]; exact q1) hp
    have hps : Qmf into i (l[i] :: l.drop (i + 1)) cur = Qmf into (i + 1) (l.drop (i + 1)) (cur ++ [l[i]]) := by
     rw [Qmf, if_pos (q1.trans hprev.symm)]
    rw [hps]
    refine ⟨?_, f2, hlt2, .inl ⟨q1, f3⟩⟩
    rw [encG, if_pos hlt2]
    rw [if_neg (by omega), if_pos (q1.trans hprev.symm), a1, Option.bind_some]
    exact f1
   ·rw [if_neg hq] at hp
    by_cases hs : n + 1 < s
    ·rw [if_pos hs] at hp
     obtain ⟨q1, q2⟩ := pre_at (by have := Qlv e s _ _ _ _ _ (congrArg Prod.snd hp); rw [hp] at this; exact this) hlt2
     obtain ⟨o, e1, e2, t, e3⟩ := seal_good hG hB (by omega) hne2 hr
     have hv := sealB_val e1 (hsize hB)
     have hhd := Qkr e s (n + 1)
     have hfit : Qky e ((freshB e s (n + 1)).2.1.length : Int) ((freshB e s (n + 1)).2.2.length : Int) (fsz l[i]) = true := Qlg hG (by omega) (by omega) hft
     obtain ⟨a1, a2, a3, a4⟩ := add_good hG (fresh_ok e s (n + 1) i) (by omega) hcr hwr hft hfit
     have hpb : putB e s (n + 1) (freshB e s (n + 1)) l[i] = Qme e s (n + 1) [l[i]] := rfl
     rw [hpb] at a1 a2 a3
     have hlB : ((Qme e s (n + 1) [l[i]]).2.1.length : Int) = Qkq e s (n + 1) + fsz l[i] := by rw [← hpb]; exact hlen _
     have hlT : ((Qme e s (n + 1) [l[i]]).2.2.length : Int) = 1 := by rw [← hpb]; simp [putB, freshB]
     rw [← q2, ← hlB, ← hlT] at hp
     have hlim := room_lim hG h1
     have hoo : (out ++ o).length = (n + 1).toNat * (szN e).toNat := by
      rw [List.length_append, ho, e2, show (n + 1).toNat = n.toNat + 1 by omega, Nat.add_mul, Nat.one_mul]
     obtain ⟨f1, f2, f3⟩ := ihd (i + 1) (out ++ o) (n + 1) [l[i]] (by omega) (by omega) a2 (by simp) a3 (by omega) hs hoo (by rw [show ((i + 1 : Nat) : Int) - 1 = (i : Int) by omega]; exact q1) hp
     have hps : Qmf into i (l[i] :: l.drop (i + 1)) cur = cur :: Qmf into (i + 1) (l.drop (i + 1)) [l[i]] := by
      rw [Qmf, if_neg (by rw [q1, hprev]; omega)]
     rw [hps]
     refine ⟨?_, ⟨⟨h0, h1, okB_more hB (by omega), hne, hr⟩, f2⟩, hlt2, .inr ⟨q1, f3⟩⟩
     rw [encG, if_pos hlt2]
     rw [if_neg (by omega), if_neg (by rw [q1, hprev]; omega), e1, Option.bind_some, if_pos (by omega), q1, new_good hG (n + 1) (by omega) hs, Option.bind_some, a1, Option.bind_some]
     rw [f1, hv]
     obtain ⟨g2, t2, hgt⟩ := partsS_ne into (l.drop (i + 1)) (i + 1) [l[i]]
     rw [hgt]
     show _ = some (out ++ (segB e s n cur true ++ imgP e s (n + 1) (g2 :: t2)))
     rw [List.append_assoc]
     rfl
    ·rw [if_neg hs] at hp; cases hp
def Qmk (into : List Int) : List Rec → List (List Rec)
 | [] => []
 | r :: rs => Qmf into 1 rs [r]
theorem Qml (into : List Int) (l : List Rec) : (Qmk into l).flatten = l := by
 cases l with
 | nil => rfl
 | cons r rs => unfold Qmk; rw [Qmg]; rfl
theorem enc_parts {e s : Int} (hG : Good e s) (l : List Rec) (into : List Int) (hl : l.length ≤ 1000000) (hw : Wf l) (hc : chkL l = 0) (hil : into.length = l.length)
  (hp : Qlf e s (l.map fsz) [] 0 (Qkq e s 0) 0 = (into, 0)) :
  encG e s into 0 l [] none = some (imgP e s 0 (Qmk into l)) ∧ AllG e s 0 (Qmk into l) ∧ (l ≠ [] → rd into 0 = 0 ∧ Qmj into (l.length - 1) 1 0) := by
 have hs0 := hG.2.2.1
 cases l with
 | nil => exact ⟨rfl, trivial, fun h => absurd rfl h⟩
 | cons r t =>
  have hlt2 : 0 < into.length := by rw [hil]; simp
  have hcr : chkR r = 0 := Qlk hc _ (by simp)
  have hwr := hw r (by simp)
  have hx := Qln r hcr
  have hlen : ∀ q : List Int, ((q ++ Qlm r).length : Int) = (q.length : Int) + fsz r := fun q => by rw [List.length_append]; unfold fsz; omega
  rw [List.map_cons] at hp
  unfold Qlf at hp
  by_cases hf : Qky e (Qkq e s (s - 1)) 0 (fsz r) = false
  ·rw [if_pos hf] at hp; cases hp
  ·rw [if_neg hf] at hp
   have hft : Qky e (Qkq e s (s - 1)) 0 (fsz r) = true := by simpa using hf
   have hfit0 := Qlg hG (n := 0) (by omega) (by omega) hft
   rw [if_pos hfit0] at hp
   obtain ⟨q1, q2⟩ := pre_at (i := 0) (x := 0) (by have := Qlv e s _ _ _ _ _ (congrArg Prod.snd hp); rw [hp] at this; exact this) hlt2
   have q1' : rd into 0 = 0 := q1
   have hhd := Qkr e s 0
   obtain ⟨a1, a2, a3, a4⟩ := add_good hG (fresh_ok e s 0 0) (by omega) hcr hwr hft hfit0
   have hpb : putB e s 0 (freshB e s 0) r = Qme e s 0 [r] := rfl
   rw [hpb] at a1 a2 a3
   have hlB : ((Qme e s 0 [r]).2.1.length : Int) = Qkq e s 0 + fsz r := by rw [← hpb]; exact hlen _
   have hlT : ((Qme e s 0 [r]).2.2.length : Int) = 1 := by rw [← hpb]; simp [putB, freshB]
   have hp' : Qlf e s (((r :: t).drop 1).map fsz) (into.take 1) 0 ((Qme e s 0 [r]).2.1.length : Int) ((Qme e s 0 [r]).2.2.length : Int) = (into, 0) := by
    rw [hlB, hlT, q2]
    exact hp
   obtain ⟨f1, f2, f3⟩ := enc_img hG (r :: t) into hl hw hc hil t.length 1 [] 0 [r] (by simp; omega) (by omega) a2 (by simp) a3 (by omega) (by omega) (by simp) q1' hp'
   refine ⟨?_, f2, fun _ => ⟨q1', by simpa using f3⟩⟩
   rw [encG, if_pos hlt2]
   rw [if_pos rfl, q1, new_good hG 0 (by omega) (by omega), Option.bind_some, a1, Option.bind_some]
   exact f1
theorem encode_img (e s : Int) (l : List Rec) (k : Nat) (hl : l.length ≤ 1000000) (hw : Wf l) (hk : 2 * l.length + 10 ≤ k) (h : (Qlp e s l).2.2 = 0) :
  Good e s ∧ chkL l = 0 ∧ (Qlo e s l).1.length = l.length ∧ Qci.f k e s l = some (imgP e s 0 (Qmk (Qlo e s l).1 l), 0) ∧ AllG e s 0 (Qmk (Qlo e s l).1 l) ∧ (l ≠ [] → rd (Qlo e s l).1 0 = 0 ∧ Qmj (Qlo e s l).1 (l.length - 1) 1 0) := by
 obtain ⟨hg, hr, h2, h3, h4, h5⟩ := Qlr h hl
 have hp := enc_parts hg l (Qlo e s l).1 hl hw (Qlq hr) h4 (by
  have : Qlf e s (l.map fsz) [] 0 (Qkq e s 0) 0 = Qlo e s l := rfl
  rw [this, ← h2])
 refine ⟨hg, Qlq hr, h4, ?_, hp.2.1, hp.2.2⟩
 unfold Qci.f
 rw [plan_is e s l k hl hw hk, Option.bind_some, if_pos h, if_pos (by omega), h3, hp.1, Option.bind_some]
theorem tail_fit {e s n : Int} (hG : Good e s) {g : List Rec} (h : GoodG e s n g) (b : Bool) : ((Qmd (Qme e s n g) b).length : Int) ≤ szN e := by
 obtain ⟨h0, h1, h2, h3, h4⟩ := h
 have hfl := foot_len (Qjs (Qme e s n g)) (Qjh (Qme e s n g).2.2)
 rw [Qji] at hfl
 have hmm := Qkx ((Qme e s n g).2.2.length : Int) (by omega) (by have := h2.2.1; omega)
 unfold Qmd
 rw [List.length_append]
 cases b with
 | true => rw [if_pos rfl]; omega
 | false => rw [if_neg (by simp)]; simp; omega
theorem seg_len {e s n : Int} (hG : Good e s) {g : List Rec} (h : GoodG e s n g) (b : Bool) : (segB e s n g b).length = (szN e).toNat := by
 have h1 := tail_fit hG h b
 unfold segB
 rw [List.length_append, List.length_replicate]
 omega
end Go.Proofs.YtnnofopfbeklbaaGreat.CodecP
end
