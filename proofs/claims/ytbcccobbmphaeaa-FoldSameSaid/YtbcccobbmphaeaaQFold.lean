/- What the printed functions of fold and of its reference come to, over lists. -/
import Derived.Test.YtbcccobbmphaeaaPlain
import Derived.Test.YtbcccobbmphaeaaQSFoldAt
import Derived.Sort.Walk0
namespace Go.Proofs.Ytbcccobbmphaeaa.FoldP
open Go.RowKit Go.Proofs.Ytbcccobbmphaeaa.Q Go.Proofs.Ytbcccobbmphaeaa.Plain Go.Proofs.YtbcccobbmphaeaaW.PrintWords Go.Proofs.YtbcccobbmphaeaaW.PrintLast Go.Proofs.YtbcccobbmphaeaaW.PrintMore Go.Proofs.Ytbcccobbmphaeaa.Open Go.Maps Go.Sort
set_option linter.unusedVariables false
set_option linter.unusedSimpArgs false
abbrev Rec := S25
abbrev K (r : Rec) : List UInt8 := r.f2.toList
theorem rd_nat (xs : List Rec) (i : Nat) (h : i < xs.length) : rd_T25 xs (i : Int) = xs[i] := by
  simp [rd_T25, List.getElem?_eq_getElem h]
theorem rec_eta (r : Rec) : (⟨r.f0, r.f1, r.f2, r.f3⟩ : Rec) = r := rfl

/-- What a key is: 0 absent, 1 deleted, 2 a value. -/
def ofLast : Option Rec → Int × ByteArray
  | none => (0, ⟨#[]⟩)
  | some r => if r.f0 = true then (1, ⟨#[]⟩) else (2, r.f3)
def atOf (l : List Rec) (key : ByteArray) : Int × ByteArray := ofLast (lastRec l key)
theorem at_eq (l : List Rec) (key : ByteArray) : fold_At.f l key = some (atOf l key) := by
  unfold fold_At.f fold_Last.f atOf ofLast
  cases h : lastRec l key with
  | none => simp
  | some r =>
    simp only [Option.bind_some]
    by_cases hd : r.f0 = true <;> simp [hd]
theorem lives_eq : fasciclelaw18_lives.f = some true := by
  unfold fasciclelaw18_lives.f
  simp only [Option.bind_some, at_eq]
  decide +kernel
theorem lastRec_cons (r : Rec) (l : List Rec) (key : ByteArray) : lastRec (r :: l) key = match lastRec l key with | some x => some x | none => if (K r == key.toList) = true then some r else none := by
  unfold lastRec
  rw [List.reverse_cons, List.find?_append]
  cases h : l.reverse.find? (fun r => r.f2.toList == key.toList) with
  | some x => simp
  | none => simp only [Option.none_or, List.find?_cons, List.find?_nil]; cases r.f2.toList == key.toList <;> simp

theorem few_run (m : Int) (q : Bool) (l : List Rec) (s : Unit) (h : run (fun s x => if (x.f2.size : Int) > m then .inl false else if (x.f3.size : Int) > m then .inl false else .inr s) (fun _ => q) l s = true) : q = true := by
  induction l with
  | nil => exact h
  | cons x t ih =>
    by_cases c : (x.f2.size : Int) > m
    · simp [run, c] at h
    · by_cases c' : (x.f3.size : Int) > m
      · simp [run, c, c'] at h
      · simp only [run, if_neg c, if_neg c'] at h
        exact ih h
theorem few_ev (n m : Int) (l : List Rec) (hl : l.length ≤ 9223372036854775807) : ∃ b, Ev (fun k => fasciclelaw07_Few.f k l n m) b ∧ (b = true → (l.length : Int) ≤ n) := by
  refine ⟨_, ?_, fun h => of_decide_eq_true (few_run m _ l () h)⟩
  refine (idx_loop0 l (fun k (_ : Unit) i => fasciclelaw07_Few.l0 k l n m l (l.length : Int) i) (fun s x => if (x.f2.size : Int) > m then .inl false else if (x.f3.size : Int) > m then .inl false else .inr s) (fun _ => decide ((l.length : Int) ≤ n)) (fun _ _ => True) ?_ ?_ () trivial)
  · intro s _
    refine Ev.step (fun k => by rw [fasciclelaw07_Few.l0]) ?_
    exact Ev.neg (by omega) (Ev.some _)
  · intro i s h _
    have e := rd_nat l i h
    constructor
    · intro r hr
      refine Ev.step (fun k => by rw [fasciclelaw07_Few.l0]) ?_
      refine Ev.pos (by omega) (Ev.pos (by omega) (Ev.pos (by omega) ?_))
      rw [e]
      refine Ev.ite (fun c => ?_) (fun c => Ev.ite (fun c' => ?_) (fun c' => ?_))
      · rw [if_pos c] at hr; cases hr; exact Ev.some _
      · rw [if_neg c, if_pos c'] at hr; cases hr; exact Ev.some _
      · rw [if_neg c, if_neg c'] at hr; cases hr
    · intro s' hr
      refine ⟨trivial, fun r hk => ?_⟩
      refine Ev.step (fun k => by rw [fasciclelaw07_Few.l0]) ?_
      refine Ev.pos (by omega) (Ev.pos (by omega) (Ev.pos (by omega) ?_))
      rw [e, wrap_nat h hl]
      refine Ev.ite (fun c => ?_) (fun c => Ev.ite (fun c' => ?_) (fun c' => ?_))
      · rw [if_pos c] at hr; cases hr
      · rw [if_neg c, if_pos c'] at hr; cases hr
      · exact hk

/-- One record more, for what a key is. -/
def atStep (key : List UInt8) (s : Int × ByteArray) (r : Rec) : Int × ByteArray := if K r = key then (if r.f0 = true then (1, ⟨#[]⟩) else (2, r.f3)) else s
theorem foldl_at (key : ByteArray) : ∀ (l : List Rec) (s : Int × ByteArray), l.foldl (atStep key.toList) s = match lastRec l key with | none => s | some r => ofLast (some r)
  | [], s => rfl
  | r :: l, s => by
    rw [List.foldl_cons, foldl_at key l, lastRec_cons]
    cases h : lastRec l key with
    | some x => rfl
    | none =>
      simp only [atStep]
      by_cases c : K r = key.toList
      · rw [if_pos c, if_pos (show (K r == key.toList) = true by simpa using c)]; rfl
      · rw [if_neg c, if_neg (show ¬ (K r == key.toList) = true by simpa using c)]
theorem refAt_ev (l : List Rec) (key : ByteArray) (hl : l.length ≤ 9223372036854775807) : Ev (fun k => fascicleref18_At.f k l key) (atOf l key) := by
  have := idx_loop0 l (fun k (s : Int × ByteArray) i => fascicleref18_At.l0 k key s.1 s.2 l (l.length : Int) i) (fun s x => .inr (atStep key.toList s x)) id (fun _ _ => True) (by
      intro s _
      refine Ev.step (fun k => by rw [fascicleref18_At.l0]) ?_
      exact Ev.neg (by omega) (Ev.some _)) (by
      intro i s h _
      have e := rd_nat l i h
      refine ⟨(by intro r hr; cases hr), ?_⟩
      intro s' hr
      injection hr with hr
      subst hr
      refine ⟨trivial, fun r hk => ?_⟩
      refine Ev.step (fun k => by rw [fascicleref18_At.l0]) ?_
      refine Ev.pos (by omega) (Ev.pos (by omega) (Ev.pos (by omega) ?_))
      rw [e, wrap_nat h hl]
      unfold atStep at hk
      refine Ev.ite (fun c => Ev.ite (fun c' => ?_) (fun c' => ?_)) (fun c => ?_)
      · rw [if_pos c, if_pos c'] at hk; exact hk
      · rw [if_pos c, if_neg c'] at hk; exact hk
      · rw [if_neg c] at hk; exact hk) ((0, ⟨#[]⟩) : Int × ByteArray) trivial
  rw [run_fold] at this
  have e2 : l.foldl (atStep key.toList) (0, ⟨#[]⟩) = atOf l key := by
    rw [foldl_at]
    unfold atOf
    cases lastRec l key <;> rfl
  rw [e2] at this
  exact this

theorem later_ev (l : List Rec) (i : Nat) (hi : i < l.length) (hl : l.length ≤ 9223372036854775806) : Ev (fun k => fascicleref18_later.f k l (i : Int)) ((l.drop (i + 1)).any fun r => decide (K r = K l[i])) := by
  unfold fascicleref18_later.f
  have hw : wrap64 ((i : Int) + 1) = (i : Int) + 1 := wrap_nat hi (by omega)
  rw [hw]
  refine Ev.pos (by omega) (Ev.pos (by omega) (Ev.bindc rfl ?_))
  rw [show ((i : Int) + 1).toNat = i + 1 by omega]
  have := idx_loop0 (l.drop (i + 1)) (fun k (_ : Unit) j => fascicleref18_later.l0 k l (i : Int) (l.drop (i + 1)) ((l.drop (i + 1)).length : Int) j) (fun s x => if K x = K l[i] then .inl true else .inr s) (fun _ => false) (fun _ _ => True) (by
      intro s _
      refine Ev.step (fun k => by rw [fascicleref18_later.l0]) ?_
      exact Ev.neg (by omega) (Ev.some _)) (by
      intro j s h _
      have e := rd_nat (l.drop (i + 1)) j h
      have e2 := rd_nat l i hi
      constructor
      · intro r hr
        refine Ev.step (fun k => by rw [fascicleref18_later.l0]) ?_
        refine Ev.pos (by omega) (Ev.pos (by omega) (Ev.pos (by omega) (Ev.pos (by omega) (Ev.pos (by omega) ?_))))
        rw [e, e2]
        refine Ev.ite (fun c => ?_) (fun c => ?_)
        · rw [if_pos c] at hr; cases hr; exact Ev.some _
        · rw [if_neg c] at hr; cases hr
      · intro s' hr
        refine ⟨trivial, fun r hk => ?_⟩
        refine Ev.step (fun k => by rw [fascicleref18_later.l0]) ?_
        refine Ev.pos (by omega) (Ev.pos (by omega) (Ev.pos (by omega) (Ev.pos (by omega) (Ev.pos (by omega) ?_))))
        rw [e, e2, wrap_nat h (by simp; omega)]
        refine Ev.ite (fun c => ?_) (fun c => ?_)
        · rw [if_pos c] at hr; cases hr
        · exact hk) () trivial
  have e : ∀ (m : List Rec), run (σ := Unit) (ρ := Bool) (fun s x => if K x = K l[i] then .inl true else .inr s) (fun _ => false) m () = m.any fun r => decide (K r = K l[i]) := by
    intro m
    induction m with
    | nil => rfl
    | cons x t ih =>
      by_cases c : K x = K l[i]
      · simp [run, c]
      · simp only [run, if_neg c, ih, List.any_cons, decide_eq_false c, Bool.false_or]
  rw [e] at this
  exact this

/-- Of each key its last record. -/
def comp : List Rec → List Rec
  | [] => []
  | r :: t => if (t.any fun x => decide (K x = K r)) = true then comp t else r :: comp t
theorem refCompact_ev (l : List Rec) (hl : l.length < 2932031007402) : Ev (fun k => fascicleref18_Compact.f k l) (comp l) := by
  have key : ∀ (d i : Nat) (acc : List Rec), i + d = l.length → acc.length ≤ i → Ev (fun k => fascicleref18_Compact.l0 k l acc l (l.length : Int) (i : Int)) (acc ++ comp (l.drop i)) := by
    intro d
    induction d with
    | zero =>
      intro i acc hd ha
      obtain rfl : i = l.length := by omega
      rw [List.drop_length]
      simp only [comp, List.append_nil]
      refine Ev.step (fun k => by rw [fascicleref18_Compact.l0]) ?_
      exact Ev.neg (by omega) (Ev.some _)
    | succ d ih =>
      intro i acc hd ha
      have h : i < l.length := by omega
      have e := rd_nat l i h
      rw [List.drop_eq_getElem_cons h]
      refine Ev.step (fun k => by rw [fascicleref18_Compact.l0]) ?_
      refine Ev.pos (by omega) (Ev.pos (by omega) (Ev.pos (by omega) (Ev.bind (later_ev l i h (by omega)) ?_)))
      rw [e, wrap_nat h (by omega), show ((i : Int) + 1) = ((i + 1 : Nat) : Int) by omega]
      unfold comp
      refine Ev.ite (fun c => ?_) (fun c => Ev.pos (by omega) ?_)
      · rw [if_pos c]; exact ih (i + 1) acc (by omega) (by omega)
      · rw [if_neg c]
        have := ih (i + 1) (acc ++ [l[i]]) (by omega) (by simp; omega)
        rw [List.append_assoc] at this
        exact this
  have := key l.length 0 [] (by omega) (by simp)
  rw [List.drop_zero, List.nil_append] at this
  exact this
theorem comp_length (l : List Rec) : (comp l).length ≤ l.length := by
  induction l with
  | nil => simp [comp]
  | cons r t ih => unfold comp; split <;> simp <;> omega
theorem comp_keys (l : List Rec) (x : List UInt8) : x ∈ (comp l).map K ↔ x ∈ l.map K := by
  induction l with
  | nil => simp [comp]
  | cons r t ih =>
    unfold comp
    split
    · rename_i c
      rw [ih, List.map_cons, List.mem_cons]
      constructor
      · exact .inr
      · rintro (rfl | h)
        · obtain ⟨y, hy, he⟩ := List.any_eq_true.1 c
          exact List.mem_map.2 ⟨y, hy, of_decide_eq_true he⟩
        · exact h
    · rw [List.map_cons, List.mem_cons, ih, List.map_cons, List.mem_cons]
theorem comp_nodup (l : List Rec) : (comp l).Pairwise (fun a b => K a ≠ K b) := by
  induction l with
  | nil => simp [comp]
  | cons r t ih =>
    unfold comp
    split
    · exact ih
    · rename_i c
      refine List.pairwise_cons.2 ⟨fun y hy e => c ?_, ih⟩
      have : K y ∈ t.map K := (comp_keys t (K y)).1 (List.mem_map.2 ⟨y, hy, rfl⟩)
      obtain ⟨z, hz, hze⟩ := List.mem_map.1 this
      exact List.any_eq_true.2 ⟨z, hz, by simp only [decide_eq_true_eq]; rw [hze, e]⟩

/-- A record among others, by its key. -/
def insK (r : Rec) : List Rec → List Rec
  | [] => [r]
  | x :: t => if K r < K x then r :: x :: t else x :: insK r t
theorem insK_length (r : Rec) (l : List Rec) : (insK r l).length = l.length + 1 := by
  induction l with
  | nil => rfl
  | cons x t ih => unfold insK; split <;> simp [ih]
theorem insK_mem (r : Rec) (l : List Rec) (y : Rec) : y ∈ insK r l ↔ y = r ∨ y ∈ l := by
  induction l with
  | nil => simp [insK]
  | cons x t ih =>
    unfold insK
    split
    · simp
    · simp only [List.mem_cons, ih]
      constructor
      · rintro (h | h | h) <;> simp [h]
      · rintro (h | h | h) <;> simp [h]
theorem insK_rises (r : Rec) (l : List Rec) (hl : l.Pairwise (fun a b => K a < K b)) (hr : ∀ y ∈ l, K y ≠ K r) : (insK r l).Pairwise (fun a b => K a < K b) := by
  induction l with
  | nil => simp [insK]
  | cons x t ih =>
    obtain ⟨h1, h2⟩ := List.pairwise_cons.1 hl
    unfold insK
    split
    · rename_i c
      refine List.pairwise_cons.2 ⟨fun y hy => ?_, hl⟩
      rcases List.mem_cons.1 hy with rfl | hy
      · exact c
      · exact List.lt_trans c (h1 y hy)
    · rename_i c
      refine List.pairwise_cons.2 ⟨fun y hy => ?_, ih h2 (fun y hy => hr y (List.mem_cons_of_mem _ hy))⟩
      rcases (insK_mem r t y).1 hy with rfl | hy
      · exact Std.lt_of_le_of_ne (List.not_lt.1 c) (hr x (by simp))
      · exact h1 y hy
def byK (l : List Rec) : List Rec := (comp l).foldl (fun out r => insK r out) []

/-- The inner loop: one record is put in its place. -/
theorem ins_ev (r : Rec) (cs : List Rec) (i : Nat) (out : List Rec) (ho : out.length < 2932031007400) (q : List Rec) (hk : Ev (fun k => fascicleref18_ByKey.l0 k (insK r out) cs (cs.length : Int) (wrap64 ((i : Int) + 1))) q) :
    Ev (fun k => fascicleref18_ByKey.l1 k [] false cs (cs.length : Int) (i : Int) out (out.length : Int) 0 r.f0 r.f1 r.f2 r.f3) q := by
  have key : ∀ (d j : Nat) (next : List Rec) (done : Bool), j + d = out.length → next.length ≤ j + 1 → (done = false → next.length ≤ j) →
      (next ++ (if done = true then out.drop j else insK r (out.drop j)) = insK r out) → Ev (fun k => fascicleref18_ByKey.l1 k next done cs (cs.length : Int) (i : Int) out (out.length : Int) (j : Int) r.f0 r.f1 r.f2 r.f3) q := by
    intro d
    induction d with
    | zero =>
      intro j next done hd hn hn' he
      obtain rfl : j = out.length := by omega
      rw [List.drop_length] at he
      refine Ev.step (fun k => by rw [fascicleref18_ByKey.l1]) ?_
      refine Ev.neg (by omega) ?_
      refine Ev.ite (fun c => ?_) (fun c => Ev.pos (by omega) ?_)
      · rw [if_pos c, List.append_nil] at he
        rw [he]; exact hk
      · rw [if_neg c] at he
        rw [rec_eta, show next ++ [r] = insK r out from he]
        exact hk
    | succ d ih =>
      intro j next done hd hn hn' he
      have h : j < out.length := by omega
      have e := rd_nat out j h
      have hw : wrap64 ((j : Int) + 1) = ((j + 1 : Nat) : Int) := by rw [wrap_nat h (by omega)]; omega
      rw [List.drop_eq_getElem_cons h] at he
      refine Ev.step (fun k => by rw [fascicleref18_ByKey.l1]) ?_
      refine Ev.pos (by omega) (Ev.pos (by omega) (Ev.pos (by omega) ?_))
      rw [e, hw, rec_eta, rec_eta]
      refine Ev.ite (fun c => Ev.pos (by omega) ?_) (fun c => Ev.ite (fun c' => Ev.pos (by omega) (Ev.bindc rfl (Ev.pos (by simp; omega) ?_))) (fun c' => Ev.pos (by omega) ?_))
      · refine ih (j + 1) _ _ (by omega) (by simp; omega) (fun f => by rw [c] at f; cases f) ?_
        rw [if_pos c] at he ⊢
        rw [List.append_assoc]; exact he
      · have c2 : done = false := by simpa using c
        have hn2 := hn' c2
        rw [bytesLess_eq, decide_eq_true_eq] at c'
        refine ih (j + 1) _ _ (by omega) (by simp; omega) (fun f => by cases f) ?_
        rw [if_neg c] at he
        simp only [insK, if_pos c'] at he
        rw [if_pos rfl, List.append_assoc, List.append_assoc]
        exact he
      · have c2 : done = false := by simpa using c
        have hn2 := hn' c2
        rw [bytesLess_eq, decide_eq_true_eq] at c'
        refine ih (j + 1) _ _ (by omega) (by simp; omega) (fun f => by simp; omega) ?_
        rw [if_neg c] at he ⊢
        simp only [insK, if_neg c'] at he
        rw [List.append_assoc]
        exact he
  refine key out.length 0 [] false (by omega) (by simp) (by simp) ?_
  simp
theorem byKey_ev (l : List Rec) (hl : l.length < 2932031007400) : Ev (fun k => fascicleref18_ByKey.f k l) (byK l) := by
  refine Ev.bind (refCompact_ev l (by omega)) ?_
  have hc := comp_length l
  unfold byK
  generalize comp l = cs at hc
  have key : ∀ (d i : Nat) (out : List Rec), i + d = cs.length → out.length = i → Ev (fun k => fascicleref18_ByKey.l0 k out cs (cs.length : Int) (i : Int)) ((cs.drop i).foldl (fun out r => insK r out) out) := by
    intro d
    induction d with
    | zero =>
      intro i out hd ho
      obtain rfl : i = cs.length := by omega
      rw [List.drop_length]
      refine Ev.step (fun k => by rw [fascicleref18_ByKey.l0]) ?_
      exact Ev.neg (by omega) (Ev.some _)
    | succ d ih =>
      intro i out hd ho
      have h : i < cs.length := by omega
      have e := rd_nat cs i h
      rw [List.drop_eq_getElem_cons h, List.foldl_cons]
      refine Ev.step (fun k => by rw [fascicleref18_ByKey.l0]) ?_
      refine Ev.pos (by omega) (Ev.pos (by omega) (Ev.pos (by omega) ?_))
      rw [e]
      refine ins_ev cs[i] cs i out (by omega) _ ?_
      have := ih (i + 1) (insK cs[i] out) (by omega) (by rw [insK_length, ho])
      rw [wrap_nat h (by omega), show ((i : Int) + 1) = ((i + 1 : Nat) : Int) by omega]
      exact this
  have := key cs.length 0 [] (by omega) rfl
  rw [List.drop_zero] at this
  exact this
theorem byK_keys (l : List Rec) : ((byK l).map K).Pairwise (· < ·) ∧ ∀ x, x ∈ (byK l).map K ↔ x ∈ l.map K := by
  have key : ∀ (cs out : List Rec), cs.Pairwise (fun a b => K a ≠ K b) → out.Pairwise (fun a b => K a < K b) → (∀ y ∈ out, ∀ x ∈ cs, K y ≠ K x) →
      (cs.foldl (fun out r => insK r out) out).Pairwise (fun a b => K a < K b) ∧ ∀ y, y ∈ cs.foldl (fun out r => insK r out) out ↔ y ∈ cs ∨ y ∈ out := by
    intro cs
    induction cs with
    | nil => intro out _ ho _; exact ⟨ho, fun y => by simp⟩
    | cons r t ih =>
      intro out hc ho hd
      obtain ⟨h1, h2⟩ := List.pairwise_cons.1 hc
      obtain ⟨a, b⟩ := ih (insK r out) h2 (insK_rises r out ho (fun y hy => hd y hy r (by simp))) (fun y hy x hx => by
        rcases (insK_mem r out y).1 hy with rfl | hy
        · exact h1 x hx
        · exact hd y hy x (List.mem_cons_of_mem _ hx))
      refine ⟨a, fun y => ?_⟩
      rw [List.foldl_cons, b, insK_mem, List.mem_cons]
      constructor
      · rintro (h | h | h) <;> simp [h]
      · rintro ((h | h) | h) <;> simp [h]
  obtain ⟨a, b⟩ := key (comp l) [] (comp_nodup l) List.Pairwise.nil (by simp)
  refine ⟨List.pairwise_map.2 a, fun x => ?_⟩
  rw [← comp_keys l x]
  simp only [List.mem_map]
  constructor
  · rintro ⟨y, hy, e⟩; exact ⟨y, by simpa using (b y).1 hy, e⟩
  · rintro ⟨y, hy, e⟩; exact ⟨y, (b y).2 (.inl hy), e⟩

/-! ### the keys of the map -/
theorem lastsD_tidy (l : List Rec) : ∀ k, Tidy (lastsD (H := Unit) l k)
  | 0 => tidy_empty
  | k + 1 => Tidy.put (lastsD_tidy l k) (isKey_str _) _
theorem lastsD_mem (l : List Rec) : ∀ k, ∃ es, lastsD (H := Unit) l k = .map es ∧ ∀ q : Lit, q ∈ es.map (·.1) ↔ ∃ i, i < k ∧ q = keyL (rd_T25 l (i : Nat)).f2
  | 0 => ⟨[], rfl, by simp⟩
  | k + 1 => by
    obtain ⟨es, he, hm⟩ := lastsD_mem l k
    refine ⟨DataW.insert (keyL (rd_T25 l k).f2, i64L k) (es.filter fun p => !p.1.sameKey (keyL (rd_T25 l k).f2)), ?_, fun q => ?_⟩
    · unfold lastsD
      rw [he]
      rfl
    · simp only [List.mem_map, Go.ChangeMaps.mem_insert_iff, List.mem_filter]
      constructor
      · rintro ⟨p, rfl | ⟨hp, _⟩, rfl⟩
        · exact ⟨k, by omega, rfl⟩
        · obtain ⟨i, hi, e⟩ := (hm p.1).1 (List.mem_map.2 ⟨p, hp, rfl⟩)
          exact ⟨i, by omega, e⟩
      · rintro ⟨i, hi, rfl⟩
        by_cases e : keyL (rd_T25 l (i : Nat)).f2 = keyL (rd_T25 l (k : Nat)).f2
        · exact ⟨_, .inl rfl, e.symm⟩
        · have : i < k := by
            rcases Nat.lt_succ_iff_lt_or_eq.1 hi with h | rfl
            · exact h
            · exact absurd rfl e
          obtain ⟨p, hp, hpe⟩ := List.mem_map.1 ((hm _).2 ⟨i, this, rfl⟩)
          refine ⟨p, .inr ⟨hp, ?_⟩, hpe⟩
          rw [hpe, sameKey_ne e]
          rfl
theorem keysL_is (l : List Rec) : (keysL l).map (·.toList) = (byK l).map K := by
  obtain ⟨hr, hm⟩ := byK_keys l
  obtain ⟨es, he, hes⟩ := lastsD_mem l l.length
  obtain ⟨es', he', hp⟩ := lastsD_tidy l l.length
  rw [he] at he'
  injection he' with he'
  subst he'
  have e0 : (keysL l).map (·.toList) = (strKeys (lastsD (H := Unit) l l.length)).mergeSort leB := by
    unfold keysL
    rw [List.map_map]
    have : (fun x : ByteArray => x.toList) ∘ (fun b : List UInt8 => (⟨b.toArray⟩ : ByteArray)) = id := by
      funext b
      simp [ByteArray.toList_eq]
    rw [this, List.map_id]
  have hstr : ∀ x : List UInt8, x ∈ strKeys (lastsD (H := Unit) l l.length) ↔ x ∈ l.map K := by
    intro x
    rw [he]
    simp only [strKeys, List.mem_map]
    constructor
    · rintro ⟨p, hp, rfl⟩
      obtain ⟨i, hi, e⟩ := (hes p.1).1 (List.mem_map.2 ⟨p, hp, rfl⟩)
      rw [rd_nat l i hi] at e
      exact ⟨l[i], List.getElem_mem hi, by rw [e]; simp [strOf, K, ByteArray.toList_eq]⟩
    · rintro ⟨r, hr, rfl⟩
      obtain ⟨i, hi, e⟩ := List.getElem_of_mem hr
      obtain ⟨p, hp, hpe⟩ := List.mem_map.1 ((hes (keyL r.f2)).2 ⟨i, hi, by rw [rd_nat l i hi, e]⟩)
      exact ⟨p, hp, by rw [hpe]; simp [strOf, K, ByteArray.toList_eq]⟩
  have hnd : (strKeys (lastsD (H := Unit) l l.length)).Nodup := by
    rw [he]
    simp only [strKeys]
    refine List.pairwise_map.2 (List.Pairwise.imp_of_mem ?_ hp)
    intro p q hp' hq' hne e
    obtain ⟨i, hi, e1⟩ := (hes p.1).1 (List.mem_map.2 ⟨p, hp', rfl⟩)
    obtain ⟨j, hj, e2⟩ := (hes q.1).1 (List.mem_map.2 ⟨q, hq', rfl⟩)
    rw [e1, e2] at e
    apply hne
    rw [e1, e2]
    simp only [strOf] at e
    rw [keyL, keyL, e]
  have tr : ∀ a b c : List UInt8, leB a b = true → leB b c = true → leB a c = true := fun a b c h1 h2 => by simp only [leB, decide_eq_true_eq] at *; exact List.le_trans h1 h2
  have tot : ∀ a b : List UInt8, (leB a b || leB b a) = true := fun a b => by simp only [leB, Bool.or_eq_true, decide_eq_true_eq]; exact List.le_total a b
  rw [e0]
  refine rise_ext ?_ hr (fun x => by rw [List.mem_mergeSort, hstr, hm])
  have h1 := List.pairwise_mergeSort tr tot (strKeys (lastsD (H := Unit) l l.length))
  have h2 : ((strKeys (lastsD (H := Unit) l l.length)).mergeSort leB).Nodup := (List.mergeSort_perm _ leB).nodup_iff.2 hnd
  exact List.Pairwise.imp₂ (fun a b h n => Std.lt_of_le_of_ne (by simpa [leB] using h) n) h1 h2
end Go.Proofs.Ytbcccobbmphaeaa.FoldP
