/- Plain tools for printed functions with a number of rounds: from some number of rounds on; a loop over a list by its index. No Go in it. -/
import Derived.Test.YtbcccobbmphaeaaWWords
namespace Go.Proofs.Ytbcccobbmphaeaa.Plain
open Go.RowKit Go.Proofs.YtbcccobbmphaeaaW.PrintWords
set_option linter.unusedVariables false
set_option linter.unusedSimpArgs false

theorem Ev.pos {α : Type} {c : Prop} [Decidable c] {A B : Nat → Option α} {r : α} (h : c) (e : Ev A r) : Ev (fun k => if c then A k else B k) r := by
  simp only [if_pos h]; exact e
theorem Ev.neg {α : Type} {c : Prop} [Decidable c] {A B : Nat → Option α} {r : α} (h : ¬ c) (e : Ev B r) : Ev (fun k => if c then A k else B k) r := by
  simp only [if_neg h]; exact e
theorem Ev.ite {α : Type} {c : Prop} [Decidable c] {A B : Nat → Option α} {r : α} (h : c → Ev A r) (h' : ¬ c → Ev B r) : Ev (fun k => if c then A k else B k) r := by
  by_cases e : c
  · exact Ev.pos e (h e)
  · exact Ev.neg e (h' e)
/-- A call without rounds. -/
theorem Ev.bindc {α β : Type} {o : Option α} {a : α} {f : Nat → α → Option β} {r : β} (h : o = some a) (e : Ev (fun k => f k a) r) : Ev (fun k => o.bind (f k)) r := by
  subst h
  exact e
theorem Ev.some {α : Type} (r : α) : Ev (fun _ => Option.some r) r := Ev.now r
theorem Ev.eq {α : Type} {g : Nat → Option α} {r r' : α} (h : Ev g r) (e : r = r') : Ev g r' := e ▸ h

/-- A loop over a list: at each element it answers, or goes on with another state. -/
def run {α σ ρ : Type} (step : σ → α → ρ ⊕ σ) (fin : σ → ρ) : List α → σ → ρ
  | [], s => fin s
  | x :: t, s => match step s x with
    | .inl r => r
    | .inr s' => run step fin t s'
theorem run_cons_l {α σ ρ : Type} {step : σ → α → ρ ⊕ σ} {fin : σ → ρ} {x : α} {t : List α} {s : σ} {r : ρ} (h : step s x = .inl r) : run step fin (x :: t) s = r := by
  simp [run, h]
theorem run_cons_r {α σ ρ : Type} {step : σ → α → ρ ⊕ σ} {fin : σ → ρ} {x : α} {t : List α} {s s' : σ} (h : step s x = .inr s') : run step fin (x :: t) s = run step fin t s' := by
  simp [run, h]

theorem idx_loop {α σ ρ : Type} (xs : List α) (g : Nat → σ → Int → Option ρ) (step : σ → α → ρ ⊕ σ) (fin : σ → ρ) (Inv : Nat → σ → Prop)
    (hend : ∀ s, Inv xs.length s → Ev (fun k => g k s (xs.length : Int)) (fin s))
    (hstep : ∀ (i : Nat) (s : σ) (h : i < xs.length), Inv i s → (∀ r, step s xs[i] = .inl r → Ev (fun k => g k s (i : Int)) r) ∧
      (∀ s', step s xs[i] = .inr s' → Inv (i + 1) s' ∧ ∀ r, Ev (fun k => g k s' ((i : Int) + 1)) r → Ev (fun k => g k s (i : Int)) r)) :
    ∀ (d i : Nat) (s : σ), i + d = xs.length → Inv i s → Ev (fun k => g k s (i : Int)) (run step fin (xs.drop i) s) := by
  intro d
  induction d with
  | zero =>
    intro i s hd hi
    obtain rfl : i = xs.length := by omega
    rw [List.drop_length]
    exact hend s hi
  | succ d ih =>
    intro i s hd hi
    have hlt : i < xs.length := by omega
    rw [List.drop_eq_getElem_cons hlt]
    obtain ⟨h1, h2⟩ := hstep i s hlt hi
    cases hs : step s xs[i] with
    | inl r => rw [run_cons_l hs]; exact h1 r hs
    | inr s' =>
      rw [run_cons_r hs]
      obtain ⟨h3, h4⟩ := h2 s' hs
      refine h4 _ ?_
      have := ih (i + 1) s' (by omega) h3
      rw [show ((i + 1 : Nat) : Int) = (i : Int) + 1 by omega] at this
      exact this
/-- The whole list, from its begin on. -/
theorem idx_loop0 {α σ ρ : Type} (xs : List α) (g : Nat → σ → Int → Option ρ) (step : σ → α → ρ ⊕ σ) (fin : σ → ρ) (Inv : Nat → σ → Prop)
    (hend : ∀ s, Inv xs.length s → Ev (fun k => g k s (xs.length : Int)) (fin s))
    (hstep : ∀ (i : Nat) (s : σ) (h : i < xs.length), Inv i s → (∀ r, step s xs[i] = .inl r → Ev (fun k => g k s (i : Int)) r) ∧
      (∀ s', step s xs[i] = .inr s' → Inv (i + 1) s' ∧ ∀ r, Ev (fun k => g k s' ((i : Int) + 1)) r → Ev (fun k => g k s (i : Int)) r))
    (s : σ) (h0 : Inv 0 s) : Ev (fun k => g k s 0) (run step fin xs s) := by
  have := idx_loop xs g step fin Inv hend hstep xs.length 0 s (by omega) h0
  rwa [List.drop_zero] at this
/-- Without an early answer it is a fold. -/
theorem run_fold {α σ ρ : Type} (f : σ → α → σ) (fin : σ → ρ) : ∀ (l : List α) (s : σ), run (fun s x => .inr (f s x)) fin l s = fin (l.foldl f s)
  | [], _ => rfl
  | x :: t, s => by simp only [run, List.foldl_cons]; exact run_fold f fin t (f s x)
/-- A test of each element. -/
theorem run_all {α : Type} (p : α → Bool) : ∀ (l : List α), run (σ := Unit) (ρ := Bool) (fun s x => if p x = true then .inr s else .inl false) (fun _ => true) l () = l.all p
  | [] => rfl
  | x :: t => by
    cases h : p x
    · simp [run, h]
    · simp [run, h, run_all p t]
theorem wrap_nat {i n : Nat} (h : i < n) (hn : n ≤ 9223372036854775807) : wrap64 ((i : Int) + 1) = (i : Int) + 1 := by
  unfold wrap64
  omega
theorem empty_toList : (⟨#[]⟩ : ByteArray).toList = [] := by decide +kernel
/-- Two rows that rise strictly and have the same members are the same. -/
theorem rise_ext {l l' : List (List UInt8)} (h : l.Pairwise (· < ·)) (h' : l'.Pairwise (· < ·)) (hm : ∀ x, x ∈ l ↔ x ∈ l') : l = l' := by
  have n : ∀ {m : List (List UInt8)}, m.Pairwise (· < ·) → m.Nodup := fun h => h.imp (fun {a b} hab e => by subst e; exact List.lt_irrefl _ hab)
  exact List.Perm.eq_of_pairwise (le := (· < ·)) (fun a b _ _ h1 h2 => absurd h2 (List.lt_asymm h1)) h h' ((List.perm_ext_iff_of_nodup (n h) (n h')).2 hm)
end Go.Proofs.Ytbcccobbmphaeaa.Plain
