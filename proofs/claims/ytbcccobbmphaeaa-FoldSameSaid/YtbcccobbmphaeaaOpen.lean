/- Readings of a call's arguments (whole numbers, bools, strings, structs, slices of any of these) as the print's kinds: cells that read as data hold a value of the kind. No Go in it. -/
import Derived.Test.YtbcccobbmphaeaaWWords
import Derived.SizedLaws
import Derived.Deep.Slices
import Derived.Lib.SmallJoins
import Derived.ChangeArms
namespace Go.Proofs.Ytbcccobbmphaeaa.Open
open Go.RowKit Go.Proofs.YtbcccobbmphaeaaW.PrintWords Go.ChangeShapes Go.WideShapes Go.Deep
set_option linter.unusedVariables false
set_option linter.unusedSimpArgs false

/-- Readings of type t are of the kind d; G: what is known of the value besides. -/
structure Opens (P : Program) (t : TypeId) {α : Type} (d : Kd α) (G : α → Prop) : Prop where
  sz : P.cellsOf t = d.sz
  out : ∀ {H : Type} {enc : TypeId × Value → H} {w : World} {base : Nat} {spare : Nat → Bool} {held : Bool} {fuel : Nat} {cs : List Value} {x : DataW H × List MemPlace},
    DataW.trod enc P w base spare held fuel t cs = some x → (∀ n ∈ DataW.weights P t x.1, n ≤ reachBytes) → ∃ v, d.K w v cs ∧ G v

theorem opens_bool {P : Program} {t : TypeId} (ht : P.underlying t = some .bool) (hc : P.cellsOf t = 1) : Opens P t Kd.bool (fun _ => True) :=
  ⟨hc, fun h _ => by
    obtain ⟨b, rfl, _⟩ := DataW.trod_bool ht h
    exact ⟨b, rfl, trivial⟩⟩
theorem opens_int {P : Program} {t : TypeId} {k : IntKind} (ht : P.underlying t = some (.int k)) (hc : P.cellsOf t = 1) : Opens P t (Kd.int k) (fun n => (Lit.int k n).wf = true) :=
  ⟨hc, fun h _ => by
    obtain ⟨b, rfl, _, hw⟩ := DataW.trod_int ht h
    exact ⟨b, rfl, hw⟩⟩
theorem opens_string {P : Program} {t : TypeId} (ht : P.underlying t = some .string) (hc : P.cellsOf t = 1) : Opens P t Kd.string (fun s => s.size ≤ 140737488351232) :=
  ⟨hc, fun h hs => by
    obtain ⟨b, rfl, rfl, hw⟩ := DataW.trod_string ht h
    refine ⟨b, rfl, ?_⟩
    have := hs b.data.toList.length (by simp [DataW.weights])
    simpa [reachBytes] using this⟩

theorem weightsAll_mem {H : Type} {P : Program} {e : TypeId} {n : Nat} : ∀ {ds : List (DataW H)} {d : DataW H}, d ∈ ds → n ∈ DataW.weights P e d → n ∈ DataW.weightsAll P e ds
  | [], _, h, _ => by simp at h
  | a :: r, d, h, hn => by
    simp only [DataW.weightsAll]
    rcases List.mem_cons.1 h with rfl | h
    · exact List.mem_append_left _ hn
    · exact List.mem_append_right _ (weightsAll_mem h hn)

theorem opens_slice {P : Program} {t e : TypeId} {α : Type} {d : Kd α} {G : α → Prop} {B : Nat} (ht : P.underlying t = some (.slice e)) (hc : P.cellsOf t = 1) (hB : P.bytesOf e = B) (he : Opens P e d G) :
    Opens P t (Kd.slice e d) (fun xs => xs.length * B ≤ 140737488351232 ∧ ∀ x ∈ xs, G x) :=
  ⟨hc, fun {H enc w base spare held fuel cs x} h hs => by
    rcases open_slice ht h with ⟨rfl, rfl⟩ | ⟨a, len, cap, m, n, D, Pl, rfl, hb, hl, hm, hmm, rfl, hx⟩
    · exact ⟨[], ⟨none, 0, rfl, Nat.zero_le _, rfl, by simp, fun hp => absurd hp (by simp)⟩, by simp, by simp⟩
    have hlm : len ≤ m := by rw [hmm]; split <;> omega
    have hw : ∀ i, i < len → ∃ v, (∃ cs', w.cells? base (a.add (i * P.cellsOf e)) (P.cellsOf e) = some cs' ∧ d.K w v cs') ∧ G v := by
      intro i hi
      obtain ⟨cs', h1, h2⟩ := hx i (by omega)
      obtain ⟨v, hv, hg⟩ := he.out h2 (fun q hq => hs q (by
        simp only [DataW.weights, ht]
        refine List.mem_cons_of_mem _ (List.mem_append_left _ (weightsAll_mem (d := D i) ?_ hq))
        exact List.mem_map.2 ⟨i, List.mem_range.2 hi, rfl⟩))
      exact ⟨v, ⟨cs', h1, hv⟩, hg⟩
    have hw' : ∃ xs : List α, xs.length = len ∧ ∀ i p, xs[i]? = some p → (∃ cs', w.cells? base (a.add (i * P.cellsOf e)) (P.cellsOf e) = some cs' ∧ d.K w p cs') ∧ G p := by
      clear hs hx hmm hlm hm hl h
      induction len with
      | zero => exact ⟨[], rfl, by simp⟩
      | succ q ih =>
        obtain ⟨xs, hxl, hxs⟩ := ih (fun i hi => hw i (by omega))
        obtain ⟨v, hv⟩ := hw q (by omega)
        refine ⟨xs ++ [v], by simp [hxl], fun i p hp => ?_⟩
        rcases Nat.lt_or_ge i xs.length with hi | hi
        · rw [List.getElem?_append_left hi] at hp
          exact hxs i p hp
        · have : i = q := by
            have := (List.getElem?_eq_some_iff.1 hp).1
            simp at this
            omega
          subst this
          rw [← hxl] at hp
          have : v = p := by simpa using hp
          subst this
          exact hv
    obtain ⟨xs, hxl, hxs⟩ := hw'
    have hlen : len * B ≤ 140737488351232 := by
      have := hs ((((List.range len).map D).length + ((List.range (m - len)).map fun j => D (len + j)).length) * P.bytesOf e) (by simp [DataW.weights, ht])
      rw [hB] at this
      have h2 : (((List.range len).map D).length + ((List.range (m - len)).map fun j => D (len + j)).length) = m := by simp; omega
      rw [h2] at this
      have h3 : m * B ≤ 140737488351232 := by simpa [reachBytes] using this
      exact Nat.le_trans (Nat.mul_le_mul_right _ hlm) h3
    refine ⟨xs, ⟨some a, cap, by rw [hxl], by rw [hxl]; exact hl, rfl, ?_, fun hp => ⟨a, rfl, fun j p hj => ?_⟩⟩, by rw [hxl]; exact hlen, fun x hx => ?_⟩
    · rw [hxl]
      exact Nat.le_trans hl (by simpa [maxLen] using hm)
    · obtain ⟨⟨cs', h1, h2⟩, _⟩ := hxs j p hj
      obtain ⟨_, hcl, hcc⟩ := World.cells?_some h1
      refine ⟨cs', by rw [hcl, he.sz], h2, fun i u hu => ?_⟩
      have hi : i < P.cellsOf e := by rw [← hcl]; exact (List.getElem?_eq_some_iff.1 hu).1
      rw [he.sz] at hcc hi
      have := hcc i hi
      rw [Go.Deep.add_add] at this
      rw [this, hu]
    · obtain ⟨i, hi⟩ := List.getElem?_of_mem hx
      exact (hxs i x hi).2⟩

/-- Fields in line: each one's cells behind the other's. -/
structure OpensFs (P : Program) (ts : List TypeId) {α : Type} (d : Kd α) (G : α → Prop) : Prop where
  sz : (ts.map P.cellsOf).sum = d.sz
  out : ∀ {H : Type} {enc : TypeId × Value → H} {w : World} {base : Nat} {spare : Nat → Bool} {held : Bool} {fuel : Nat} {cs : List Value} {xs : List (DataW H × List MemPlace)},
    cs.length = (ts.map P.cellsOf).sum → xs.length = ts.length →
    (∀ i t, ts[i]? = some t → DataW.trod enc P w base spare held fuel t ((cs.drop ((ts.take i).map P.cellsOf).sum).take (P.cellsOf t)) = xs[i]?) →
    (∀ n ∈ DataW.weightsEach P ts (xs.map (·.1)), n ≤ reachBytes) → ∃ v, d.K w v cs ∧ G v
theorem OpensFs.one {P : Program} {t : TypeId} {α : Type} {d : Kd α} {G : α → Prop} (h : Opens P t d G) : OpensFs P [t] d G :=
  ⟨by simp [h.sz], fun {H enc w base spare held fuel cs xs} hl hx ht hs => by
    match xs, hx with
    | [x], _ =>
      have h0 := ht 0 t rfl
      simp at hl h0
      rw [List.take_of_length_le (by omega)] at h0
      exact h.out h0 (fun n hn => hs n (by simp [DataW.weightsEach, hn]))⟩
theorem OpensFs.cons {P : Program} {t : TypeId} {ts : List TypeId} {α β : Type} {d : Kd α} {G : α → Prop} {d' : Kd β} {G' : β → Prop} (h : Opens P t d G) (r : OpensFs P ts d' G') : OpensFs P (t :: ts) (Kd.pair d d') (fun x => G x.1 ∧ G' x.2) :=
  ⟨by simp [h.sz, r.sz, Kd.pair], fun {H enc w base spare held fuel cs xs} hl hx ht hs => by
    match xs, hx with
    | x :: xs, hx =>
      have h0 := ht 0 t rfl
      simp at hl h0 hx
      obtain ⟨a, ha, hga⟩ := h.out h0 (fun n hn => hs n (by simp [DataW.weightsEach, hn]))
      obtain ⟨b, hb, hgb⟩ := r.out (enc := enc) (w := w) (base := base) (spare := spare) (held := held) (fuel := fuel) (cs := cs.drop (P.cellsOf t)) (xs := xs) (by rw [List.length_drop]; omega) hx
        (fun i t' hi => by
          have := ht (i + 1) t' (by simpa using hi)
          simp only [List.take_succ_cons, List.map_cons, List.sum_cons, List.getElem?_cons_succ] at this
          rw [List.drop_drop]
          exact this)
        (fun n hn => hs n (by simp only [List.map_cons, DataW.weightsEach]; exact List.mem_append_right _ hn))
      exact ⟨(a, b), ⟨cs.take (P.cellsOf t), cs.drop (P.cellsOf t), by simp, ha, hb⟩, hga, hgb⟩⟩

/-- Are the fields laid one behind the other? -/
def inLine (P : Program) : Nat → List Field → Bool
  | _, [] => true
  | o, f :: r => (f.offset == o) && inLine P (o + P.cellsOf f.type) r
theorem inLine_at {P : Program} : ∀ {fs : List Field} {o : Nat}, inLine P o fs = true → ∀ i f, fs[i]? = some f → f.offset = o + (((fs.map (·.type)).take i).map P.cellsOf).sum
  | [], _, _, i, f, h => by simp at h
  | g :: r, o, h, 0, f, hf => by
    simp [inLine] at h
    simp at hf
    subst hf
    simp [h.1]
  | g :: r, o, h, i + 1, f, hf => by
    simp [inLine] at h
    have := inLine_at h.2 i f (by simpa using hf)
    simp [this]
    omega
theorem opens_struct {P : Program} {t : TypeId} {fs : Array Field} {α β : Type} {d : Kd α} {G : α → Prop} (ht : P.underlying t = some (.struct fs)) (hl : inLine P 0 fs.toList = true) (hc : P.cellsOf t = d.sz)
    (r : OpensFs P (fs.toList.map (·.type)) d G) (f : β → α) (g : α → β) (hfg : ∀ a, f (g a) = a) : Opens P t (Kd.iso d f) (fun x => G (f x)) :=
  ⟨hc, fun {H enc w base spare held fuel cs x} h hs => by
    obtain ⟨xs, n, rfl, rfl, hcl, hxl, hx⟩ := DataW.trod_struct ht h
    obtain ⟨v, hv, hg⟩ := r.out (enc := enc) (w := w) (base := base) (spare := spare) (held := held) (fuel := n) (cs := cs) (xs := xs) (by rw [hcl, hc, r.sz]) (by simp [hxl])
      (fun i t' hi => by
        rw [List.getElem?_map] at hi
        cases hf : fs.toList[i]? with
        | none => simp [hf] at hi
        | some fd =>
          simp [hf] at hi
          subst hi
          have := hx i fd (by simpa using hf)
          rw [inLine_at hl i fd hf, Nat.zero_add] at this
          exact this)
      (fun q hq => hs q (by simp only [DataW.weights, ht]; exact hq))
    exact ⟨g v, by show d.K w (f (g v)) cs; rw [hfg]; exact hv, by show G (f (g v)); rw [hfg]; exact hg⟩⟩

/-- The weights of one argument, out of a row's. -/
theorem weights_each {H : Type} {P : Program} : ∀ {ts : List TypeId} {ds : List (DataW H)} {j : Nat} {t : TypeId} {d : DataW H}, (DataW.weightsEach P ts ds).all (· ≤ reachBytes) = true → ts[j]? = some t → ds[j]? = some d → ∀ n ∈ DataW.weights P t d, n ≤ reachBytes
  | [], _, _, _, _, _, h, _ => by simp at h
  | _ :: _, [], _, _, _, _, _, h => by simp at h
  | t0 :: ts, d0 :: ds, 0, t, d, hz, h1, h2 => by
    simp at h1 h2
    subst h1 h2
    intro n hn
    simp only [DataW.weightsEach] at hz
    exact of_decide_eq_true (List.all_eq_true.1 hz n (List.mem_append_left _ hn))
  | t0 :: ts, d0 :: ds, j + 1, t, d, hz, h1, h2 => by
    simp only [DataW.weightsEach] at hz
    refine weights_each (ts := ts) (ds := ds) (j := j) ?_ (by simpa using h1) (by simpa using h2)
    rw [List.all_append] at hz
    exact (Bool.and_eq_true _ _ ▸ hz).2

/-- A slice that came in. -/
theorem arg_slice {H : Type} {enc : TypeId × Value → H} {P : Program} {w : World} {base : Nat} {spare : Nat → Bool} {held : Bool} {t e : TypeId} {α : Type} {d : Kd α} {G : List α → Prop} (op : Opens P t (Kd.slice e d) G) {a : Option Addr} {len cap : Nat} {x : DataW H} {ps : List MemPlace}
    (h : DataW.Trod enc P w base spare held t (.slice a len cap) x ps) (hs : ∀ n ∈ DataW.weights P t x, n ≤ reachBytes) : ∃ l : List α, len = l.length ∧ l.length ≤ cap ∧ d.C w a l.length l ∧ G l := by
  obtain ⟨fuel, hf⟩ := h
  obtain ⟨l, ⟨A, c, he, hc, hr⟩, hg⟩ := op.out hf hs
  have he' : [Value.slice a len cap] = [.slice A l.length c] := by simpa [Value.cells] using he
  simp only [List.cons.injEq, Value.slice.injEq, and_true] at he'
  obtain ⟨rfl, rfl, rfl⟩ := he'
  exact ⟨l, rfl, hc, hr, hg⟩
/-- A struct that came in by value. -/
theorem arg_agg {H : Type} {enc : TypeId × Value → H} {P : Program} {w : World} {base : Nat} {spare : Nat → Bool} {held : Bool} {t : TypeId} {α : Type} {d : Kd α} {G : α → Prop} (op : Opens P t d G) {cs : Array Value} {x : DataW H} {ps : List MemPlace}
    (h : DataW.Trod enc P w base spare held t (.agg cs) x ps) (hs : ∀ n ∈ DataW.weights P t x, n ≤ reachBytes) : ∃ v, d.K w v cs.toList ∧ G v := by
  obtain ⟨fuel, hf⟩ := h
  have hf' : DataW.trod enc P w base spare held fuel t cs.toList = some (x, ps) := by simpa [Value.cells] using hf
  exact op.out hf' hs
theorem toList_eq_agg {cs : Array Value} {l : List Value} (h : cs.toList = l) : cs = l.toArray := by rw [← h]

end Go.Proofs.Ytbcccobbmphaeaa.Open
