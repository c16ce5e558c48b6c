/- FoldSame over lists alone: rows are the same just if each key is; a row and what is left of it are; so are values and what is live. -/
import Derived.Test.YtbcccobbmphaeaaQSFoldSame
import Derived.Test.YtbcccobbmphaeaaQFold
namespace Go.Proofs.Ytbcccobbmphaeaa.Pure
open Go.RowKit Go.Proofs.Ytbcccobbmphaeaa.Q Go.Proofs.Ytbcccobbmphaeaa.FoldP Go.Proofs.Ytbcccobbmphaeaa.Plain Go.Proofs.YtbcccobbmphaeaaW.PrintWords Go.Proofs.YtbcccobbmphaeaaW.PrintLast Go.Proofs.YtbcccobbmphaeaaW.PrintMore Go.Proofs.Ytbcccobbmphaeaa.Open
set_option linter.unusedVariables false
set_option linter.unusedSimpArgs false

theorem rdOf_nat' (xs : List ByteArray) (i : Nat) (h : i < xs.length) : rdOf ByteArray.empty xs (i : Int) = xs[i] := by
  simp [rdOf, List.getElem?_eq_getElem h]
theorem keysOk_of' {l : List Rec} (h : ∀ x ∈ l, OG25 x) : keysOk l = true := by
  unfold keysOk
  refine List.all_eq_true.2 fun x hx => decide_eq_true ?_
  have := (h x hx).2.2.1
  unfold maxLen
  omega
/-- Are they the same at a key? -/
def sameAt (l m : List Rec) (key : ByteArray) : Bool := decide ((atOf l key).1 = (atOf m key).1) && decide ((atOf l key).2.toList = (atOf m key).2.toList)
theorem sameAt_comm (l m : List Rec) (key : ByteArray) : sameAt l m key = sameAt m l key := by
  simp [sameAt, eq_comm]
theorem atOf_text (l : List Rec) {a b : ByteArray} (h : a.toList = b.toList) : atOf l a = atOf l b := by
  unfold atOf lastRec
  rw [h]
theorem sameAt_text (l m : List Rec) {a b : ByteArray} (h : a.toList = b.toList) : sameAt l m a = sameAt l m b := by
  unfold sameAt
  rw [atOf_text l h, atOf_text m h]

theorem same_ev (l m : List Rec) (kl : keysOk l = true) (km : keysOk m = true) (hl : l.length < 2932031007402) (hm : m.length < 2932031007402) (hkl : (keysL l).length ≤ l.length) (hkm : (keysL m).length ≤ m.length) :
    Ev (fun k => fold_Same.f k l m) ((keysL l ++ keysL m).all (sameAt l m)) := by
  refine Ev.bindc (a := keysL l) (by unfold fold_Keys.f; rw [if_pos kl, if_pos hl]) (Ev.bindc (a := keysL m) (by unfold fold_Keys.f; rw [if_pos km, if_pos hm]) (Ev.pos (by omega) (Ev.bindc rfl ?_)))
  generalize hys : keysL l ++ keysL m = ys
  have hyl : ys.length ≤ 9223372036854775807 := by rw [← hys]; simp; omega
  have := idx_loop0 ys (fun k (_ : Unit) i => fold_Same.l0 k l m ys (ys.length : Int) i) (fun s x => if sameAt l m x = true then .inr s else .inl false) (fun _ => true) (fun _ _ => True) (by
      intro s _
      refine Ev.step (fun k => by rw [fold_Same.l0]) ?_
      exact Ev.neg (by omega) (Ev.some _)) (by
      intro i s h _
      have e := rdOf_nat' ys i h
      constructor
      · intro r hr
        refine Ev.step (fun k => by rw [fold_Same.l0]) ?_
        refine Ev.pos (by omega) (Ev.pos (by omega) (Ev.pos (by omega) (Ev.bindc (at_eq _ _) (Ev.bindc (at_eq _ _) ?_))))
        rw [e]
        by_cases c : sameAt l m ys[i] = true
        · rw [if_pos c] at hr; cases hr
        · rw [if_neg c] at hr; cases hr
          unfold sameAt at c
          refine Ev.ite (fun c1 => Ev.ite (fun c2 => ?_) (fun _ => Ev.some _)) (fun _ => Ev.some _)
          exact absurd (by rw [decide_eq_true c1, decide_eq_true c2]; rfl) c
      · intro s' hs
        refine ⟨trivial, fun r hr => ?_⟩
        refine Ev.step (fun k => by rw [fold_Same.l0]) ?_
        refine Ev.pos (by omega) (Ev.pos (by omega) (Ev.pos (by omega) (Ev.bindc (at_eq _ _) (Ev.bindc (at_eq _ _) ?_))))
        rw [e, wrap_nat h hyl]
        by_cases c : sameAt l m ys[i] = true
        · unfold sameAt at c
          simp only [Bool.and_eq_true, decide_eq_true_eq] at c
          exact Ev.pos c.1 (Ev.pos c.2 hr)
        · rw [if_neg c] at hs; cases hs) () trivial
  rw [run_all] at this
  exact this

theorem keysL_mem (l : List Rec) : ∀ t : List UInt8, t ∈ (keysL l).map (·.toList) ↔ t ∈ l.map K := by
  intro t
  rw [keysL_is]
  exact (byK_keys l).2 t
theorem keysL_len (l : List Rec) : (keysL l).length ≤ l.length := by
  have h1 : (keysL l).length = (byK l).length := by have := congrArg List.length (keysL_is l); simpa using this
  rw [h1]
  unfold byK
  have : ∀ (cs out : List Rec), (cs.foldl (fun out r => insK r out) out).length = cs.length + out.length := by
    intro cs
    induction cs with
    | nil => intro out; simp
    | cons r t ih => intro out; rw [List.foldl_cons, ih, insK_length, List.length_cons]; omega
  rw [this]
  have := comp_length l
  simp
  omega
/-- By the keys of both, or by the records of both. -/
theorem all_keys (l m l' m' : List Rec) (hk : ∀ t, t ∈ l.map K ∨ t ∈ m.map K ↔ t ∈ l'.map K ∨ t ∈ m'.map K) (f : ByteArray → Bool) (hf : ∀ a b : ByteArray, a.toList = b.toList → f a = f b) :
    (keysL l' ++ keysL m').all f = (l ++ m).all (fun r => f r.f2) := by
  rw [Bool.eq_iff_iff, List.all_eq_true, List.all_eq_true]
  constructor
  · intro h r hr
    have : r.f2.toList ∈ l'.map K ∨ r.f2.toList ∈ m'.map K := (hk _).1 ((List.mem_append.1 hr).imp (fun h => List.mem_map.2 ⟨r, h, rfl⟩) (fun h => List.mem_map.2 ⟨r, h, rfl⟩))
    rcases this with h1 | h1
    · obtain ⟨x, hx, e⟩ := List.mem_map.1 ((keysL_mem l' _).2 h1)
      rw [← hf x r.f2 e]
      exact h x (List.mem_append_left _ hx)
    · obtain ⟨x, hx, e⟩ := List.mem_map.1 ((keysL_mem m' _).2 h1)
      rw [← hf x r.f2 e]
      exact h x (List.mem_append_right _ hx)
  · intro h x hx
    have : x.toList ∈ l'.map K ∨ x.toList ∈ m'.map K := (List.mem_append.1 hx).imp (fun h => (keysL_mem l' _).1 (List.mem_map.2 ⟨x, h, rfl⟩)) (fun h => (keysL_mem m' _).1 (List.mem_map.2 ⟨x, h, rfl⟩))
    rcases (hk _).2 this with h1 | h1
    · obtain ⟨r, hr, e⟩ := List.mem_map.1 h1
      rw [← hf r.f2 x e]
      exact h r (List.mem_append_left _ hr)
    · obtain ⟨r, hr, e⟩ := List.mem_map.1 h1
      rw [← hf r.f2 x e]
      exact h r (List.mem_append_right _ hr)

/-! ### what is left of a row -/
theorem lastIx_is (l : List Rec) (key : ByteArray) (n : Nat) (hn : n ≤ l.length) (i : Nat) (hi : i < n) (he : K l[i] = key.toList) : (lastIx l key n = (i : Int)) ↔ ∀ j (h : j < l.length), i < j → j < n → K l[j] ≠ key.toList := by
  induction n with
  | zero => omega
  | succ n ih =>
    have hnl : n < l.length := by omega
    unfold lastIx
    rw [rd_nat l n hnl]
    by_cases c : l[n].f2.data.toList = key.data.toList
    · rw [if_pos c]
      constructor
      · intro h j hj h1 h2
        omega
      · intro h
        rcases Nat.lt_succ_iff_lt_or_eq.1 hi with h1 | rfl
        · exact absurd (by show l[n].f2.toList = key.toList; rw [ByteArray.toList_eq, ByteArray.toList_eq]; exact c) (h n hnl h1 (by omega))
        · rfl
    · rw [if_neg c]
      have c' : K l[n] ≠ key.toList := fun h => c (by have : l[n].f2.toList = key.toList := h; rwa [ByteArray.toList_eq, ByteArray.toList_eq] at this)
      have hin : i < n := by
        rcases Nat.lt_succ_iff_lt_or_eq.1 hi with h1 | rfl
        · exact h1
        · exact absurd he c'
      rw [ih (by omega) hin he]
      constructor
      · intro h j hj h1 h2
        rcases Nat.lt_succ_iff_lt_or_eq.1 h2 with h3 | rfl
        · exact h j hj h1 h3
        · exact c'
      · intro h j hj h1 h2
        exact h j hj h1 (by omega)
theorem compact_is (l : List Rec) : compactTo l l.length = comp l := by
  have key : ∀ i, i ≤ l.length → compactTo l i ++ comp (l.drop i) = comp l := by
    intro i
    induction i with
    | zero => intro _; simp [compactTo]
    | succ i ih =>
      intro hi
      have h : i < l.length := by omega
      rw [← ih (by omega), List.drop_eq_getElem_cons h]
      have hcs : compactTo l (i + 1) = if lastIx l (rd_T25 l (i : Int)).f2 l.length = (i : Int) then compactTo l i ++ [rd_T25 l (i : Int)] else compactTo l i := rfl
      have hcm : comp (l[i] :: l.drop (i + 1)) = if ((l.drop (i + 1)).any fun x => decide (K x = K l[i])) = true then comp (l.drop (i + 1)) else l[i] :: comp (l.drop (i + 1)) := by rw [comp]
      rw [hcs, hcm, rd_nat l i h]
      have hx := lastIx_is l l[i].f2 l.length (Nat.le_refl _) i h rfl
      have e : ((l.drop (i + 1)).any fun x => decide (K x = K l[i])) = true ↔ ¬ ∀ j (h : j < l.length), i < j → j < l.length → K l[j] ≠ l[i].f2.toList := by
        rw [List.any_eq_true]
        constructor
        · rintro ⟨x, hx, he⟩ hall
          obtain ⟨j, hj, rfl⟩ := List.getElem_of_mem hx
          rw [List.getElem_drop] at he
          rw [List.length_drop] at hj
          exact hall (i + 1 + j) (by omega) (by omega) (by omega) (of_decide_eq_true he)
        · intro hn
          apply Classical.byContradiction
          intro hno
          apply hn
          intro j hj h1 _ he
          apply hno
          refine ⟨l[j], ?_, decide_eq_true he⟩
          have : l[j] = (l.drop (i + 1))[j - (i + 1)]'(by rw [List.length_drop]; omega) := by rw [List.getElem_drop]; congr 1; omega
          rw [this]
          exact List.getElem_mem _
      by_cases c : lastIx l l[i].f2 l.length = (i : Int)
      · rw [if_pos c, if_neg (fun h => (e.1 h) (hx.1 c)), List.append_assoc]
        rfl
      · rw [if_neg c, if_pos (e.2 (fun h => c (hx.2 h)))]
  have := key l.length (Nat.le_refl _)
  rwa [List.drop_length, comp, List.append_nil] at this
theorem lastRec_none_iff (l : List Rec) (key : ByteArray) : lastRec l key = none ↔ ∀ r ∈ l, K r ≠ key.toList := by
  unfold lastRec
  rw [List.find?_eq_none]
  simp
theorem comp_last (l : List Rec) (key : ByteArray) : lastRec (comp l) key = lastRec l key := by
  induction l with
  | nil => rfl
  | cons r t ih =>
    unfold comp
    rw [lastRec_cons r t key]
    split
    · rename_i c
      rw [ih]
      cases hl : lastRec t key with
      | some x => rfl
      | none =>
        have hno := (lastRec_none_iff t key).1 hl
        obtain ⟨y, hy, he⟩ := List.any_eq_true.1 c
        have hne : ¬ (K r == key.toList) = true := by
          intro h
          have h' : K r = key.toList := by simpa using h
          exact hno y hy ((of_decide_eq_true he).trans h')
        rw [if_neg hne]
    · rw [lastRec_cons, ih]

/-! ### what is live -/
theorem lastRec_take (l : List Rec) (key : ByteArray) (n : Nat) (h : n < l.length) : lastRec (l.take (n + 1)) key = if (K l[n] == key.toList) = true then some l[n] else lastRec (l.take n) key := by
  rw [← List.take_append_getElem h]
  unfold lastRec
  rw [List.reverse_append]
  simp only [List.reverse_cons, List.reverse_nil, List.nil_append, List.singleton_append, List.find?_cons]
  cases (l[n].f2.toList == key.toList) <;> simp
theorem lastIx_rec (l : List Rec) (key : ByteArray) : ∀ n, n ≤ l.length → ∀ r, lastRec (l.take n) key = some r → rd_T25 l (lastIx l key n) = r
  | 0, _, r, h => by simp [lastRec] at h
  | n + 1, hn, r, h => by
    have hlt : n < l.length := by omega
    rw [lastRec_take l key n hlt] at h
    unfold lastIx
    rw [rd_nat l n hlt]
    by_cases c : (K l[n] == key.toList) = true
    · rw [if_pos c] at h
      have c' : l[n].f2.data.toList = key.data.toList := by
        have : l[n].f2.toList = key.toList := by simpa using c
        rwa [ByteArray.toList_eq, ByteArray.toList_eq] at this
      rw [if_pos c', rd_nat l n hlt]
      injection h
    · rw [if_neg c] at h
      have c' : ¬ l[n].f2.data.toList = key.data.toList := fun e => c (by
        have : l[n].f2.toList = key.toList := by rw [ByteArray.toList_eq, ByteArray.toList_eq]; exact e
        simpa using this)
      rw [if_neg c']
      exact lastIx_rec l key n (by omega) r h
/-- The record by which a key is told. -/
theorem live_rec (l : List Rec) (key : ByteArray) (h : key.toList ∈ l.map K) : ∃ r, lastRec l key = some r ∧ rd_T25 l (lastIx l key l.length) = r ∧ K r = key.toList := by
  cases hl : lastRec l key with
  | none =>
    obtain ⟨r, hr, e⟩ := List.mem_map.1 h
    exact absurd e ((lastRec_none_iff l key).1 hl r hr)
  | some r =>
    refine ⟨r, rfl, lastIx_rec l key l.length (Nat.le_refl _) r (by rw [List.take_length]; exact hl), ?_⟩
    have := List.find?_some hl
    simpa using this
theorem live_mem (l : List Rec) (ks : List ByteArray) (hks : ∀ x ∈ ks, x.toList ∈ l.map K) : ∀ k, k ≤ ks.length → ∀ r, r ∈ liveTo l ks k ↔ ∃ j, j < k ∧ lastRec l (ks.getD j ByteArray.empty) = some r ∧ r.f0 = false
  | 0, _, r => by simp [liveTo]
  | k + 1, hk, r => by
    have hlt : k < ks.length := by omega
    have hm : ks.getD k ByteArray.empty ∈ ks := by rw [List.getD_eq_getElem?_getD, List.getElem?_eq_getElem hlt]; exact List.getElem_mem _
    obtain ⟨q, h1, h2, h3⟩ := live_rec l _ (hks _ hm)
    have ih := live_mem l ks hks k (by omega) r
    unfold liveTo
    rw [h2]
    constructor
    · intro h
      split at h
      · obtain ⟨j, hj, h4⟩ := ih.1 h
        exact ⟨j, by omega, h4⟩
      · rename_i c
        rcases List.mem_append.1 h with h | h
        · obtain ⟨j, hj, h4⟩ := ih.1 h
          exact ⟨j, by omega, h4⟩
        · have : r = q := by simpa using h
          subst this
          exact ⟨k, by omega, h1, by simpa using c⟩
    · rintro ⟨j, hj, h4, h5⟩
      rcases Nat.lt_succ_iff_lt_or_eq.1 hj with h6 | rfl
      · have := ih.2 ⟨j, h6, h4, h5⟩
        split
        · exact this
        · exact List.mem_append_left _ this
      · rw [h1] at h4
        injection h4 with h4
        subst h4
        rw [if_neg (by simp [h5])]
        simp
/-- By what is live a key is what it is, but for what was deleted. -/
theorem live_at (l : List Rec) (key : ByteArray) (hkey : key.toList ∈ l.map K) (r : Rec) (hr : lastRec l key = some r) :
    lastRec (liveTo l (keysL l) (keysL l).length) key = if r.f0 = true then none else some r := by
  have hks : ∀ x ∈ keysL l, x.toList ∈ l.map K := fun x hx => (keysL_mem l _).1 (List.mem_map.2 ⟨x, hx, rfl⟩)
  have hm := live_mem l (keysL l) hks (keysL l).length (Nat.le_refl _)
  have hk : ∀ q, q ∈ liveTo l (keysL l) (keysL l).length → K q = key.toList → q = r := by
    intro q hq he
    obtain ⟨j, hj, h1, h2⟩ := (hm q).1 hq
    have e1 : K q = ((keysL l).getD j ByteArray.empty).toList := by
      have := List.find?_some h1
      simpa using this
    have : lastRec l ((keysL l).getD j ByteArray.empty) = lastRec l key := by unfold lastRec; rw [← e1, he]
    rw [this, hr] at h1
    injection h1 with h1
    exact h1.symm
  by_cases c : r.f0 = true
  · rw [if_pos c, lastRec_none_iff]
    intro q hq he
    have := hk q hq he
    subst this
    obtain ⟨j, hj, h1, h2⟩ := (hm q).1 hq
    rw [c] at h2
    cases h2
  · rw [if_neg c]
    cases hl : lastRec (liveTo l (keysL l) (keysL l).length) key with
    | some q =>
      have hq : q ∈ liveTo l (keysL l) (keysL l).length := List.mem_reverse.1 (List.mem_of_find?_eq_some hl)
      have := hk q hq (by have := List.find?_some hl; simpa using this)
      rw [this]
    | none =>
      have hno := (lastRec_none_iff _ _).1 hl
      have hkr : K r = key.toList := by have := List.find?_some hr; simpa using this
      refine absurd hkr (hno r ((hm r).2 ?_))
      obtain ⟨x, hx, e⟩ := List.mem_map.1 ((keysL_mem l _).2 hkey)
      obtain ⟨j, hj, rfl⟩ := List.getElem_of_mem hx
      refine ⟨j, hj, ?_, by simpa using c⟩
      rw [List.getD_eq_getElem?_getD, List.getElem?_eq_getElem hj]
      show lastRec l (keysL l)[j] = some r
      rw [← hr]
      unfold lastRec
      rw [e]

theorem FoldSame : fasciclelaw18_FoldSame.Pure := by
  intro l m hG hGm
  have hl : l.length < 2932031007400 := by have := hG.1; omega
  have hm : m.length < 2932031007400 := by have := hGm.1; omega
  have kl := keysOk_of' hG.2
  have km := keysOk_of' hGm.2
  refine Ev.rounds ?_
  refine Ev.bindc lives_eq (Ev.pos rfl ?_)
  obtain ⟨b, hb, hbl⟩ := few_ev 60 300 l (by omega)
  obtain ⟨b2, hb2, hbm⟩ := few_ev 60 300 m (by omega)
  refine Ev.bind hb ?_
  have j2 : Ev (fun k => fasciclelaw18_FoldSame.j2 k l false) true := by
    refine Ev.step (fun k => by rw [fasciclelaw18_FoldSame.j2]) ?_
    refine Ev.neg (by simp) (Ev.bindc (a := liveTo l (keysL l) (keysL l).length) (by unfold fold_Live.f; rw [if_pos kl, if_pos (by omega)]) ?_)
    have loop := idx_loop0 l (fun k (_ : Unit) i => fasciclelaw18_FoldSame.l1 k l (liveTo l (keysL l) (keysL l).length) l (l.length : Int) i) (fun s _ => .inr s) (fun _ => true) (fun _ _ => True) (by
        intro s _
        refine Ev.step (fun k => by rw [fasciclelaw18_FoldSame.l1]) ?_
        exact Ev.neg (by omega) (Ev.some _)) (by
        intro i s h _
        refine ⟨(by intro r hr; cases hr), fun s' hs => ⟨trivial, fun r hr => ?_⟩⟩
        refine Ev.step (fun k => by rw [fasciclelaw18_FoldSame.l1]) ?_
        refine Ev.pos (by omega) (Ev.pos (by omega) (Ev.pos (by omega) (Ev.bindc (at_eq _ _) (Ev.bindc (at_eq _ _) ?_))))
        rw [rd_nat l i h, wrap_nat h (by omega)]
        have hmem : l[i].f2.toList ∈ l.map K := List.mem_map.2 ⟨l[i], List.getElem_mem h, rfl⟩
        obtain ⟨q, h1, _, _⟩ := live_rec l l[i].f2 hmem
        have h2 := live_at l l[i].f2 hmem q h1
        unfold atOf
        rw [h1, h2]
        by_cases c : q.f0 = true
        · rw [if_pos c]
          simp only [ofLast, c, if_true]
          exact Ev.neg (by simp) (Ev.neg (by simp) hr)
        · rw [if_neg c]
          simp only [ofLast, c]
          exact Ev.pos trivial (Ev.neg (by simp) (Ev.neg (by simp) hr))) () trivial
    rw [run_fold] at loop
    exact loop
  have j0 : ∀ c, (c = false → l.length ≤ 60 ∧ m.length ≤ 60) → Ev (fun k => fasciclelaw18_FoldSame.j0 k l m c) true := by
    intro c hc
    refine Ev.step (fun k => by rw [fasciclelaw18_FoldSame.j0]) ?_
    refine Ev.ite (fun _ => Ev.bindc lives_eq (Ev.some _)) (fun hcf => Ev.bindc rfl (Ev.pos (by simp; omega) (Ev.bindc rfl ?_)))
    have hcb := hc (by simpa using hcf)
    have loop : ∀ (ys : List Rec), ys.length ≤ 9223372036854775807 → (∀ b, b = ys.all (fun r => sameAt l m r.f2) → Ev (fun k => (fold_Same.f k l m).bind fun t217 => (if (t217 != b) = true then (fasciclelaw18_FoldSame.j2 k l true) else ((fold_Same.f k m l).bind fun t218 => (if (t218 != b) = true then (fasciclelaw18_FoldSame.j2 k l true) else ((fold_Compact.f l).bind fun t219 => ((fold_Same.f k l t219).bind fun t222 => (fasciclelaw18_FoldSame.j2 k l (!t222)))))))) true) →
        Ev (fun k => fasciclelaw18_FoldSame.l0 k l m true ys (ys.length : Int) 0) true := by
      intro ys hyl hend
      have := idx_loop0 ys (fun k (s : Bool) i => fasciclelaw18_FoldSame.l0 k l m s ys (ys.length : Int) i) (fun s x => .inr (s && sameAt l m x.f2)) (fun _ => true) (fun i s => s = (ys.take i).all (fun r => sameAt l m r.f2)) (by
          intro s hs
          refine Ev.step (fun k => by rw [fasciclelaw18_FoldSame.l0]) ?_
          rw [List.take_length] at hs
          exact Ev.neg (by omega) (hend s hs)) (by
          intro i s h hs
          refine ⟨(by intro r hr; cases hr), fun s' hs' => ?_⟩
          injection hs' with hs'
          subst hs'
          refine ⟨by rw [← List.take_append_getElem h, List.all_append, hs]; simp, fun r hr => ?_⟩
          refine Ev.step (fun k => by rw [fasciclelaw18_FoldSame.l0]) ?_
          refine Ev.pos (by omega) (Ev.pos (by omega) (Ev.pos (by omega) (Ev.bind (refAt_ev l _ (by omega)) (Ev.bind (refAt_ev m _ (by omega)) ?_))))
          rw [rd_nat ys i h, wrap_nat h hyl]
          unfold sameAt at hr
          cases s with
          | false => refine Ev.neg (by simp) ?_; simpa using hr
          | true =>
            refine Ev.pos rfl (Ev.ite (fun c1 => ?_) (fun c1 => ?_))
            · rw [decide_eq_true c1] at hr
              have e : ((atOf l ys[i].f2).2.toList == (atOf m ys[i].f2).2.toList) = (true && (true && decide ((atOf l ys[i].f2).2.toList = (atOf m ys[i].f2).2.toList))) := by
                rw [Bool.true_and, Bool.true_and, Bool.eq_iff_iff]; simp
              rw [e]
              exact hr
            · rw [decide_eq_false c1] at hr
              exact hr) true rfl
      rw [run_fold] at this
      exact this
    have hfin : ∀ b, b = (l ++ m).all (fun r => sameAt l m r.f2) → Ev (fun k => (fold_Same.f k l m).bind fun t217 => (if (t217 != b) = true then (fasciclelaw18_FoldSame.j2 k l true) else ((fold_Same.f k m l).bind fun t218 => (if (t218 != b) = true then (fasciclelaw18_FoldSame.j2 k l true) else ((fold_Compact.f l).bind fun t219 => ((fold_Same.f k l t219).bind fun t222 => (fasciclelaw18_FoldSame.j2 k l (!t222)))))))) true := by
      intro b hb'
      have e1 : (keysL l ++ keysL m).all (sameAt l m) = b := by rw [hb']; exact all_keys l m l m (fun _ => Iff.rfl) (sameAt l m) (fun a b h => sameAt_text l m h)
      have e2 : (keysL m ++ keysL l).all (sameAt m l) = b := by
        rw [hb', all_keys l m m l (fun _ => or_comm) (sameAt m l) (fun a b h => sameAt_text m l h)]
        congr 1
        funext r
        exact sameAt_comm m l r.f2
      have hcl := comp_length l
      have kc : keysOk (comp l) = true := by
        unfold keysOk
        refine List.all_eq_true.2 fun x hx => decide_eq_true ?_
        have : K x ∈ l.map K := (comp_keys l _).1 (List.mem_map.2 ⟨x, hx, rfl⟩)
        obtain ⟨y, hy, e⟩ := List.mem_map.1 this
        have h1 := (hG.2 y hy).2.2.1
        have h2 : x.f2.size = y.f2.size := by
          have : x.f2.toList.length = y.f2.toList.length := by rw [show x.f2.toList = y.f2.toList from e.symm]
          rw [ByteArray.toList_eq, ByteArray.toList_eq, Array.length_toList, Array.length_toList] at this
          exact this
        rw [h2]
        unfold maxLen
        omega
      have e3 : (keysL l ++ keysL (comp l)).all (sameAt l (comp l)) = true := by
        refine List.all_eq_true.2 fun x _ => ?_
        unfold sameAt atOf
        rw [comp_last]
        simp
      refine Ev.bind (same_ev l m kl km (by omega) (by omega) (keysL_len l) (keysL_len m)) ?_
      rw [e1]
      refine Ev.neg (by simp) (Ev.bind (same_ev m l km kl (by omega) (by omega) (keysL_len m) (keysL_len l)) ?_)
      rw [e2]
      refine Ev.neg (by simp) (Ev.bindc (a := comp l) (by unfold fold_Compact.f; rw [if_pos kl, if_pos (by omega), compact_is]) (Ev.bind (same_ev l (comp l) kl kc (by omega) (by omega) (keysL_len l) (keysL_len (comp l))) ?_))
      rw [e3]
      exact j2
    refine Ev.pos (by simp; omega) (Ev.bindc rfl ?_)
    have e : ([] ++ l ++ m : List Rec) = l ++ m := by simp
    rw [e]
    exact loop (l ++ m) (by simp; omega) hfin
  exact Ev.ite (fun c => Ev.bind hb2 (j0 _ (fun h => ⟨by have := hbl c; omega, by have := hbm (by simpa using h); omega⟩))) (fun _ => j0 _ (fun h => by cases h))

end Go.Proofs.Ytbcccobbmphaeaa.Pure
