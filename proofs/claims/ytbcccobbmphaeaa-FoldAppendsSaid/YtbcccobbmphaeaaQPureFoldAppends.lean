/- FoldAppends over lists alone: one record more decides its own key and no other one. -/
import Derived.Test.YtbcccobbmphaeaaQSFoldAppends
namespace Go.Proofs.Ytbcccobbmphaeaa.Pure
open Go.RowKit Go.Proofs.Ytbcccobbmphaeaa.Q Go.Proofs.YtbcccobbmphaeaaW.PrintWords Go.Proofs.YtbcccobbmphaeaaW.PrintLast Go.Proofs.YtbcccobbmphaeaaW.PrintMore Go.Proofs.Ytbcccobbmphaeaa.Open

/-- What a key is: 0 absent, 1 deleted, 2 a value. -/
def atOf (l : List S25) (key : ByteArray) : Int × ByteArray :=
  match lastRec l key with
  | none => (0, ⟨#[]⟩)
  | some r => if r.f0 = true then (1, ⟨#[]⟩) else (2, r.f3)
theorem at_eq (l : List S25) (key : ByteArray) : fold_At.f l key = some (atOf l key) := by
  unfold fold_At.f fold_Last.f atOf
  cases h : lastRec l key with
  | none => simp
  | some r =>
    simp only [Option.bind_some]
    by_cases hd : r.f0 = true <;> simp [hd]
theorem lives_eq : fasciclelaw18_lives.f = some true := by
  unfold fasciclelaw18_lives.f
  simp only [Option.bind_some, at_eq]
  decide +kernel
theorem lastRec_snoc (l : List S25) (r : S25) (key : ByteArray) : lastRec (l ++ [r]) key = if (r.f2.toList == key.toList) = true then some r else lastRec l key := by
  unfold lastRec
  rw [List.reverse_append]
  simp only [List.reverse_cons, List.reverse_nil, List.nil_append, List.singleton_append, List.find?_cons]
  cases r.f2.toList == key.toList <;> simp

theorem few_total (n m : Int) (l : List S25) (hl : l.length * 48 ≤ 140737488351400) (d : Nat) : ∀ (k : Nat) (i : Int), 0 ≤ i → i ≤ l.length → (l.length : Int) - i = d → d < k → ∃ b, fasciclelaw07_Few.l0 k l n m l (l.length : Int) i = some b := by
  induction d with
  | zero =>
    intro k i h0 h1 hd hk
    obtain ⟨k, rfl⟩ : ∃ m, k = m + 1 := ⟨k - 1, by omega⟩
    exact ⟨_, by simp only [fasciclelaw07_Few.l0]; rw [if_neg (by omega)]⟩
  | succ d ih =>
    intro k i h0 h1 hd hk
    obtain ⟨k, rfl⟩ : ∃ m, k = m + 1 := ⟨k - 1, by omega⟩
    obtain ⟨b, hb⟩ := ih k (i + 1) (by omega) (by omega) (by omega) (by omega)
    have hw : wrap64 (i + 1) = i + 1 := by unfold wrap64; omega
    simp only [fasciclelaw07_Few.l0]
    rw [if_pos (by omega), if_pos h0, if_pos (by omega), hw, hb]
    split
    · exact ⟨_, rfl⟩
    · split <;> exact ⟨_, rfl⟩

theorem loop_true (x0 : List S25) (r : S25) (hl : x0.length * 48 ≤ 140737488351232) (d : Nat) : ∀ (k : Nat) (i : Int), 0 ≤ i → i ≤ x0.length → (x0.length : Int) - i = d → d < k →
    fasciclelaw18_FoldAppends.l0 k x0 (x0 ++ [r]) x0 (x0.length : Int) i r.f0 r.f1 r.f2 r.f3 = some true := by
  induction d with
  | zero =>
    intro k i h0 h1 hd hk
    obtain ⟨k, rfl⟩ : ∃ m, k = m + 1 := ⟨k - 1, by omega⟩
    simp only [fasciclelaw18_FoldAppends.l0]
    rw [if_neg (by omega)]
  | succ d ih =>
    intro k i h0 h1 hd hk
    obtain ⟨k, rfl⟩ : ∃ m, k = m + 1 := ⟨k - 1, by omega⟩
    have hb := ih k (i + 1) (by omega) (by omega) (by omega) (by omega)
    have hw : wrap64 (i + 1) = i + 1 := by unfold wrap64; omega
    simp only [fasciclelaw18_FoldAppends.l0]
    rw [if_pos (by omega), if_pos h0, if_pos (by omega), hw, hb]
    simp only [at_eq, Option.bind_some]
    by_cases he : (rd_T25 x0 i).f2.toList = r.f2.toList
    · rw [if_pos he]
    · have e : atOf (x0 ++ [r]) (rd_T25 x0 i).f2 = atOf x0 (rd_T25 x0 i).f2 := by
        unfold atOf
        rw [lastRec_snoc, if_neg (by simp; exact fun h => he h.symm)]
      rw [if_neg he, e, if_pos rfl, if_pos rfl]

theorem FoldAppends : fasciclelaw18_FoldAppends.Pure := by
  intro x0 r hG _
  have hl := hG.1
  refine ⟨x0.length + 5, ?_⟩
  unfold fasciclelaw18_FoldAppends.f
  rw [lives_eq]
  simp only [Option.bind_some]
  rw [if_pos trivial, if_pos (by simp; omega)]
  have hc : ([(⟨r.f0, r.f1, r.f2, r.f3⟩ : S25)] ++ x0).length = x0.length + 1 := by simp
  obtain ⟨b, hb⟩ := few_total 61 300 ([(⟨r.f0, r.f1, r.f2, r.f3⟩ : S25)] ++ x0) (by rw [hc]; omega) (x0.length + 1) (x0.length + 5) 0 (by omega) (by omega) (by rw [hc]; omega) (by omega)
  unfold fasciclelaw07_Few.f
  rw [hb]
  simp only [Option.bind_some]
  simp only [fasciclelaw18_FoldAppends.j0]
  cases b with
  | false => simp [lives_eq]
  | true =>
    rw [if_neg (by simp)]
    simp only [Option.bind_some, List.nil_append, List.length_nil, Nat.zero_add, List.length_singleton]
    rw [if_pos (by omega), if_pos (by omega)]
    have hat : atOf (x0 ++ [(⟨r.f0, r.f1, r.f2, r.f3⟩ : S25)]) r.f2 = if r.f0 = true then (1, ⟨#[]⟩) else (2, r.f3) := by
      unfold atOf
      rw [lastRec_snoc]
      simp
    simp only [at_eq, Option.bind_some, hat]
    have hj : fasciclelaw18_FoldAppends.j1 (x0.length + 4) x0 (x0 ++ [r]) false r.f0 r.f1 r.f2 r.f3 = some true := by
      simp only [fasciclelaw18_FoldAppends.j1]
      rw [if_neg (by simp)]
      exact loop_true x0 r hl x0.length _ 0 (by omega) (by omega) (by omega) (by omega)
    have he : (⟨#[]⟩ : ByteArray).toList = [] := by decide +kernel
    cases r with
    | mk b0 s1 k2 v3 =>
      simp only at hj ⊢
      cases b0 with
      | true => simpa [he] using hj
      | false => simpa using hj

end Go.Proofs.Ytbcccobbmphaeaa.Pure
