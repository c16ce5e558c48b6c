/- Texts of this claim's author and of the print of its functions, merged by merge.py. -/
import Derived.Test.YtnnofopfbeklbaaGreatME00
import Derived.SizedLaws
import Derived.Deep.Slices
import Derived.Lib.SmallJoins
import Derived.ChangeArms
import Derived.Test.YtnnofopfbeklbaaGreatME02
import Derived.Test.YtnnofopfbeklbaaGreatME16
import Derived.Test.YtnnofopfbeklbaaGreatME03
import Derived.Test.YtnnofopfbeklbaaGreatME04
import Derived.Test.YtnnofopfbeklbaaGreatME06
import Derived.Laws.Bits64b
import Derived.Test.YtnnofopfbeklbaaGreatME15
import Derived.Test.YtnnofopfbeklbaaGreatME05
import Derived.Test.YtnnofopfbeklbaaGreatME08
import Derived.Test.YtnnofopfbeklbaaGreatME09
set_option linter.unusedVariables false
set_option linter.unusedSimpArgs false
set_option maxHeartbeats 8000000
set_option maxRecDepth 100000
section
namespace Go.Proofs.YtnnofopfbeklbaaGreat.Open
open Go.RowKit Go.Proofs.YtnnofopfbeklbaaGreatW.PrintWords Go.ChangeShapes Go.WideShapes Go.Deep
structure Opens (P : Program) (t : TypeId) {α : Type} (d : Kd α) (G : α → Prop) : Prop where
  sz : P.cellsOf t = d.sz
  out : ∀ {H : Type} {enc : TypeId × Value → H} {w : World} {base : Nat} {spare : Nat → Bool} {held : Bool} {fuel : Nat} {cs : List Value} {x : DataW H × List MemPlace},
    DataW.trod enc P w base spare held fuel t cs = some x → (∀ n ∈ DataW.weights P t x.1, n ≤ reachBytes) → ∃ v, d.K w v cs ∧ G v
theorem opens_bool {P : Program} {t : TypeId} (ht : P.underlying t = some .bool) (hc : P.cellsOf t = 1) : Opens P t Kd.bool (fun _ => True) :=
 ⟨hc, fun h _ => by
  obtain ⟨b, rfl, _⟩ := DataW.trod_bool ht h
  exact ⟨b, rfl, trivial⟩⟩
theorem opens_int {P : Program} {t : TypeId} {k : IntKind} (ht : P.underlying t = some (.int k)) (hc : P.cellsOf t = 1) : Opens P t (Kd.int k) (fun n => (Lit.int k n).wf = true) :=
 ⟨hc, fun h _ => by
  obtain ⟨b, rfl, _, hw⟩ := DataW.trod_int ht h
  exact ⟨b, rfl, hw⟩⟩
theorem opens_string {P : Program} {t : TypeId} (ht : P.underlying t = some .string) (hc : P.cellsOf t = 1) : Opens P t Kd.string (fun s => s.size ≤ 140737488351232) :=
 ⟨hc, fun h hs => by
  obtain ⟨b, rfl, rfl, hw⟩ := DataW.trod_string ht h
  refine ⟨b, rfl, ?_⟩
  have := hs b.data.toList.length (by simp [DataW.weights])
  simpa [reachBytes] using this⟩
theorem Qhe {H : Type} {P : Program} {e : TypeId} {n : Nat} : ∀ {ds : List (DataW H)} {d : DataW H}, d ∈ ds → n ∈ DataW.weights P e d → n ∈ DataW.weightsAll P e ds
 | [], _, h, _ => by simp at h
 | a :: r, d, h, hn => by
  simp only [DataW.weightsAll]
  rcases List.mem_cons.1 h with rfl | h
  ·exact List.mem_append_left _ hn
  ·exact List.mem_append_right _ (Qhe h hn)
theorem opens_slice {P : Program} {t e : TypeId} {α : Type} {d : Kd α} {G : α → Prop} {B : Nat} (ht : P.underlying t = some (.slice e)) (hc : P.cellsOf t = 1) (hB : P.bytesOf e = B) (he : Opens P e d G) :
  Opens P t (Kd.slice e d) (fun xs => xs.length * B ≤ 140737488351232 ∧ ∀ x ∈ xs, G x) :=
 ⟨hc, fun {H enc w base spare held fuel cs x} h hs => by
  rcases open_slice ht h with ⟨rfl, rfl⟩ | ⟨a, len, cap, m, n, D, Pl, rfl, hb, hl, hm, hmm, rfl, hx⟩
  ·exact ⟨[], ⟨none, 0, rfl, Nat.zero_le _, rfl, by simp, fun hp => absurd hp (by simp)⟩, by simp, by simp⟩
  have hlm : len ≤ m := by rw [hmm]; split <;> omega
  have hw : ∀ i, i < len → ∃ v, (∃ cs', w.cells? base (a.add (i * P.cellsOf e)) (P.cellsOf e) = some cs' ∧ d.K w v cs') ∧ G v := by
   intro i hi
   obtain ⟨cs', h1, h2⟩ := hx i (by omega)
   obtain ⟨v, hv, hg⟩ := he.out h2 (fun q hq => hs q (by
    simp only [DataW.weights, ht]
    refine List.mem_cons_of_mem _ (List.mem_append_left _ (Qhe (d := D i) ?_ hq))
    exact List.mem_map.2 ⟨i, List.mem_range.2 hi, rfl⟩))
   exact ⟨v, ⟨cs', h1, hv⟩, hg⟩
  have hw' : ∃ xs : List α, xs.length = len ∧ ∀ i p, xs[i]? = some p → (∃ cs', w.cells? base (a.add (i * P.cellsOf e)) (P.cellsOf e) = some cs' ∧ d.K w p cs') ∧ G p := by
   clear hs hx hmm hlm hm hl h
   induction len with
   | zero => exact ⟨[], rfl, by simp⟩
   | succ q ih =>
    obtain ⟨xs, hxl, hxs⟩ := ih (fun i hi => hw i (by omega))
    obtain ⟨v, hv⟩ := hw q (by omega)
    refine ⟨xs ++ [v], by simp [hxl], fun i p hp => ?_⟩
    rcases Nat.lt_or_ge i xs.length with hi | hi
    ·rw [List.getElem?_append_left hi] at hp
     exact hxs i p hp
    ·have : i = q := by
      have := (List.getElem?_eq_some_iff.1 hp).1
      simp at this
      omega
     subst this
     rw [← hxl] at hp
     have : v = p := by simpa using hp
     subst this
     exact hv
  obtain ⟨xs, hxl, hxs⟩ := hw'
  have hlen : len * B ≤ 140737488351232 := by
   have := hs ((((List.range len).map D).length + ((List.range (m - len)).map fun j => D (len + j)).length) * P.bytesOf e) (by simp [DataW.weights, ht])
   rw [hB] at this
   have h2 : (((List.range len).map D).length + ((List.range (m - len)).map fun j => D (len + j)).length) = m := by simp; omega
   rw [h2] at this
   have h3 : m * B ≤ 140737488351232 := by simpa [reachBytes] using this
   exact Nat.le_trans (Nat.mul_le_mul_right _ hlm) h3
  refine ⟨xs, ⟨some a, cap, by rw [hxl], by rw [hxl]; exact hl, rfl, ?_, fun hp => ⟨a, rfl, fun j p hj => ?_⟩⟩, by rw [hxl]; exact hlen, fun x hx => ?_⟩
  ·rw [hxl]
   exact Nat.le_trans hl (by simpa [maxLen] using hm)
  ·obtain ⟨⟨cs', h1, h2⟩, _⟩ := hxs j p hj
   obtain ⟨_, hcl, hcc⟩ := World.cells?_some h1
   refine ⟨cs', by rw [hcl, he.sz], h2, fun i u hu => ?_⟩
   have hi : i < P.cellsOf e := by rw [← hcl]; exact (List.getElem?_eq_some_iff.1 hu).1
   rw [he.sz] at hcc hi
   have := hcc i hi
   rw [Go.Deep.add_add] at this
   rw [this, hu]
  ·obtain ⟨i, hi⟩ := List.getElem?_of_mem hx
   exact (hxs i x hi).2⟩
structure OpensFs (P : Program) (ts : List TypeId) {α : Type} (d : Kd α) (G : α → Prop) : Prop where
  sz : (ts.map P.cellsOf).sum = d.sz
  out : ∀ {H : Type} {enc : TypeId × Value → H} {w : World} {base : Nat} {spare : Nat → Bool} {held : Bool} {fuel : Nat} {cs : List Value} {xs : List (DataW H × List MemPlace)},
    cs.length = (ts.map P.cellsOf).sum → xs.length = ts.length →
    (∀ i t, ts[i]? = some t → DataW.trod enc P w base spare held fuel t ((cs.drop ((ts.take i).map P.cellsOf).sum).take (P.cellsOf t)) = xs[i]?) →
    (∀ n ∈ DataW.weightsEach P ts (xs.map (·.1)), n ≤ reachBytes) → ∃ v, d.K w v cs ∧ G v
theorem OpensFs.one {P : Program} {t : TypeId} {α : Type} {d : Kd α} {G : α → Prop} (h : Opens P t d G) : OpensFs P [t] d G :=
 ⟨by simp [h.sz], fun {H enc w base spare held fuel cs xs} hl hx ht hs => by
  match xs, hx with
  | [x], _ =>
   have h0 := ht 0 t rfl
   simp at hl h0
   rw [List.take_of_length_le (by omega)] at h0
   exact h.out h0 (fun n hn => hs n (by simp [DataW.weightsEach, hn]))⟩
theorem OpensFs.cons {P : Program} {t : TypeId} {ts : List TypeId} {α β : Type} {d : Kd α} {G : α → Prop} {d' : Kd β} {G' : β → Prop} (h : Opens P t d G) (r : OpensFs P ts d' G') : OpensFs P (t :: ts) (Kd.pair d d') (fun x => G x.1 ∧ G' x.2) :=
 ⟨by simp [h.sz, r.sz, Kd.pair], fun {H enc w base spare held fuel cs xs} hl hx ht hs => by
  match xs, hx with
  | x :: xs, hx =>
   have h0 := ht 0 t rfl
   simp at hl h0 hx
   obtain ⟨a, ha, hga⟩ := h.out h0 (fun n hn => hs n (by simp [DataW.weightsEach, hn]))
   obtain ⟨b, hb, hgb⟩ := r.out (enc := enc) (w := w) (base := base) (spare := spare) (held := held) (fuel := fuel) (cs := cs.drop (P.cellsOf t)) (xs := xs) (by rw [List.length_drop]; omega) hx
    (fun i t' hi => by
     have := ht (i + 1) t' (by simpa using hi)
     simp only [List.take_succ_cons, List.map_cons, List.sum_cons, List.getElem?_cons_succ] at this
     rw [List.drop_drop]
     exact this)
    (fun n hn => hs n (by simp only [List.map_cons, DataW.weightsEach]; exact List.mem_append_right _ hn))
   exact ⟨(a, b), ⟨cs.take (P.cellsOf t), cs.drop (P.cellsOf t), by simp, ha, hb⟩, hga, hgb⟩⟩
def inLine (P : Program) : Nat → List Field → Bool
 | _, [] => true
 | o, f :: r => (f.offset == o) && inLine P (o + P.cellsOf f.type) r
theorem inLine_at {P : Program} : ∀ {fs : List Field} {o : Nat}, inLine P o fs = true → ∀ i f, fs[i]? = some f → f.offset = o + (((fs.map (·.type)).take i).map P.cellsOf).sum
 | [], _, _, i, f, h => by simp at h
 | g :: r, o, h, 0, f, hf => by
  simp [inLine] at h
  simp at hf
  subst hf
  simp [h.1]
 | g :: r, o, h, i + 1, f, hf => by
  simp [inLine] at h
  have := inLine_at h.2 i f (by simpa using hf)
  simp [this]
  omega
theorem opens_struct {P : Program} {t : TypeId} {fs : Array Field} {α β : Type} {d : Kd α} {G : α → Prop} (ht : P.underlying t = some (.struct fs)) (hl : inLine P 0 fs.toList = true) (hc : P.cellsOf t = d.sz)
  (r : OpensFs P (fs.toList.map (·.type)) d G) (f : β → α) (g : α → β) (hfg : ∀ a, f (g a) = a) : Opens P t (Kd.iso d f) (fun x => G (f x)) :=
 ⟨hc, fun {H enc w base spare held fuel cs x} h hs => by
  obtain ⟨xs, n, rfl, rfl, hcl, hxl, hx⟩ := DataW.trod_struct ht h
  obtain ⟨v, hv, hg⟩ := r.out (enc := enc) (w := w) (base := base) (spare := spare) (held := held) (fuel := n) (cs := cs) (xs := xs) (by rw [hcl, hc, r.sz]) (by simp [hxl])
   (fun i t' hi => by
    rw [List.getElem?_map] at hi
    cases hf : fs.toList[i]? with
    | none => simp [hf] at hi
    | some fd =>
     simp [hf] at hi
     subst hi
     have := hx i fd (by simpa using hf)
     rw [inLine_at hl i fd hf, Nat.zero_add] at this
     exact this)
   (fun q hq => hs q (by simp only [DataW.weights, ht]; exact hq))
  exact ⟨g v, by show d.K w (f (g v)) cs; rw [hfg]; exact hv, by show G (f (g v)); rw [hfg]; exact hg⟩⟩
theorem Qhf {H : Type} {P : Program} : ∀ {ts : List TypeId} {ds : List (DataW H)} {j : Nat} {t : TypeId} {d : DataW H}, (DataW.weightsEach P ts ds).all (· ≤ reachBytes) = true → ts[j]? = some t → ds[j]? = some d → ∀ n ∈ DataW.weights P t d, n ≤ reachBytes
 | [], _, _, _, _, _, h, _ => by simp at h
 | _ :: _, [], _, _, _, _, _, h => by simp at h
 | t0 :: ts, d0 :: ds, 0, t, d, hz, h1, h2 => by
  simp at h1 h2
  subst h1 h2
  intro n hn
  simp only [DataW.weightsEach] at hz
  exact of_decide_eq_true (List.all_eq_true.1 hz n (List.mem_append_left _ hn))
 | t0 :: ts, d0 :: ds, j + 1, t, d, hz, h1, h2 => by
  simp only [DataW.weightsEach] at hz
  refine Qhf (ts := ts) (ds := ds) (j := j) ?_ (by simpa using h1) (by simpa using h2)
  rw [List.all_append] at hz
  exact (Bool.and_eq_true _ _ ▸ hz).2
theorem arg_slice {H : Type} {enc : TypeId × Value → H} {P : Program} {w : World} {base : Nat} {spare : Nat → Bool} {held : Bool} {t e : TypeId} {α : Type} {d : Kd α} {G : List α → Prop} (op : Opens P t (Kd.slice e d) G) {a : Option Addr} {len cap : Nat} {x : DataW H} {ps : List MemPlace}
  (h : DataW.Trod enc P w base spare held t (.slice a len cap) x ps) (hs : ∀ n ∈ DataW.weights P t x, n ≤ reachBytes) : ∃ l : List α, len = l.length ∧ l.length ≤ cap ∧ d.C w a l.length l ∧ G l := by
 obtain ⟨fuel, hf⟩ := h
 obtain ⟨l, ⟨A, c, he, hc, hr⟩, hg⟩ := op.out hf hs
 have he' : [Value.slice a len cap] = [.slice A l.length c] := by simpa [Value.cells] using he
 simp only [List.cons.injEq, Value.slice.injEq, and_true] at he'
 obtain ⟨rfl, rfl, rfl⟩ := he'
 exact ⟨l, rfl, hc, hr, hg⟩
end Go.Proofs.YtnnofopfbeklbaaGreat.Open
end
section
namespace Go.Proofs.YtnnofopfbeklbaaGreat.C
open Go.RowKit Go.Proofs.YtnnofopfbeklbaaGreatW.PrintWords Go.Proofs.YtnnofopfbeklbaaGreatW.PrintLast Go.Proofs.YtnnofopfbeklbaaGreatW.PrintMore Go.Proofs.YtnnofopfbeklbaaGreat.Open
theorem opT4 : Opens Tryz.prog 4 Kd.bool (fun x => True) := opens_bool Tryz.underlying4 (by kernel_rfl)
theorem opT34 : Opens Tryz.prog 34 (Kd.int .u64) (fun x => (Lit.int .u64 x).wf = true) := opens_int Tryz.underlying34 (by kernel_rfl)
theorem opT9 : Opens Tryz.prog 9 Kd.string (fun x => x.size ≤ 140737488351232) := opens_string Tryz.underlying9 (by kernel_rfl)
def OG39 (x : S39) : Prop := True ∧ (Lit.int .u64 x.f1).wf = true ∧ x.f2.size ≤ 140737488351232 ∧ x.f3.size ≤ 140737488351232
theorem opT39 : Opens Tryz.prog 39 k39 (fun x => OG39 x) := opens_struct Tryz.underlying39 (by kernel_rfl) (by kernel_rfl) (OpensFs.cons opT4 (OpensFs.cons opT34 (OpensFs.cons opT9 (OpensFs.one opT9)))) (fun x : S39 => (x.f0, x.f1, x.f2, x.f3)) (fun p => ⟨p.1, p.2.1, p.2.2.1, p.2.2.2⟩) (fun _ => rfl)
theorem opT23 : Opens Tryz.prog 23 (Kd.slice 39 k39) (fun x => (x.length * 48 ≤ 140737488351232 ∧ ∀ z1 ∈ x, OG39 z1)) := opens_slice (B := 48) Tryz.underlying23 (by kernel_rfl) (by kernel_rfl) opT39
def Qaq.Pure : Prop := ∀ (x0 : Int) (x1 : List (S39)) (x2 : List (S39)), (Lit.int .u8 x0).wf = true → (x1.length * 48 ≤ 140737488351232 ∧ ∀ z2 ∈ x1, OG39 z2) → (x2.length * 48 ≤ 140737488351232 ∧ ∀ z2 ∈ x2, OG39 z2) → ∃ k, Qaq.f k x0 x1 x2 = some true
end Go.Proofs.YtnnofopfbeklbaaGreat.C
end
section
namespace Go.Proofs.YtnnofopfbeklbaaGreat.CodecP
open Go.RowKit Go.Proofs.YtnnofopfbeklbaaGreat.C Go.Proofs.YtnnofopfbeklbaaGreatW.PrintWords Go.Proofs.YtnnofopfbeklbaaGreatW.PrintLast Go.Proofs.YtnnofopfbeklbaaGreatW.PrintMore
def Bytes (l : List Int) : Prop := ∀ x ∈ l, 0 ≤ x ∧ x < 256
theorem Qhg (s : ByteArray) : Bytes (bytesOf s) := by
 intro x hx
 unfold bytesOf at hx
 obtain ⟨b, _, rfl⟩ := List.mem_map.1 hx
 have := b.toNat_lt
 omega
theorem Bytes.drop {l : List Int} (h : Bytes l) (n : Nat) : Bytes (l.drop n) := fun x hx => h x (List.mem_of_mem_drop hx)
theorem Bytes.take {l : List Int} (h : Bytes l) (n : Nat) : Bytes (l.take n) := fun x hx => h x (List.mem_of_mem_take hx)
theorem rd_get {l : List Int} {i : Nat} (h : i < l.length) : rd l (i : Int) = l[i] := by simp [rd, List.getD, List.getElem?_eq_getElem h]
theorem take_rd {l : List Int} {i : Nat} (h : i < l.length) : l.take (i + 1) = l.take i ++ [rd l (i : Int)] := by rw [List.take_succ_eq_append_getElem h, rd_get h]
theorem u8_back {x : Int} (h : 0 ≤ x ∧ x < 256) : ((UInt8.ofNat x.toNat).toNat : Int) = x := by
 obtain ⟨n, rfl⟩ := Int.eq_ofNat_of_zero_le h.1
 simp [UInt8.toNat_ofNat']
 omega
theorem Qhh {l : List Int} (h : Bytes l) : bytesOf (strOfNums l) = l := by
 unfold bytesOf
 rw [strOfNums_data, List.map_map]
 conv => rhs; rw [← List.map_id l]
 apply List.map_congr_left
 intro x hx
 exact u8_back (h x hx)
theorem Qhi {a b : ByteArray} (h : bytesOf a = bytesOf b) : a = b := by
 have h1 : a.data.toList = b.data.toList := by
  unfold bytesOf at h
  exact List.map_inj_right (f := fun b : UInt8 => (b.toNat : Int)) (fun x y hxy => UInt8.toNat_inj.1 (Int.ofNat.inj hxy)) |>.1 h
 have h2 : a.data = b.data := Array.toList_inj.1 h1
 cases a; cases b; simp_all
def Free (l : List Int) : Prop := ∀ x ∈ l, x ≠ 0
theorem u8_zero {c : Int} (h : 0 ≤ c ∧ c < 256) : (UInt8.ofNat c.toNat == (0 : Int).toNat.toUInt8) = decide (c = 0) := by
 rw [Bool.eq_iff_iff, beq_iff_eq, decide_eq_true_iff]
 constructor
 ·intro e
  have h1 := u8_back h
  rw [e] at h1
  simpa using h1.symm
 ·rintro rfl
  rfl
theorem ix_free : ∀ {l : List Int}, Bytes l → Free l → ixOf l 0 = -1
 | [], _, _ => rfl
 | c :: l, hb, hf => by
  have h1 := hb c (List.mem_cons_self ..)
  have h2 := hf c (List.mem_cons_self ..)
  have ih := ix_free (l := l) (fun x hx => hb x (List.mem_cons_of_mem _ hx)) (fun x hx => hf x (List.mem_cons_of_mem _ hx))
  unfold ixOf at ih ⊢
  simp only [Lib.bytesOf, List.map_cons, Lib.indexByte, u8_zero h1] at ih ⊢
  rw [ih]
  simp [h2]
theorem ix_app : ∀ {a b : List Int}, Bytes a → Free a → ixOf (a ++ 0 :: b) 0 = a.length
 | [], b, _, _ => by
  unfold ixOf
  simp [Lib.bytesOf, Lib.indexByte]
 | c :: a, b, hb, hf => by
  have h1 := hb c (List.mem_cons_self ..)
  have h2 := hf c (List.mem_cons_self ..)
  have ih := ix_app (a := a) (b := b) (fun x hx => hb x (List.mem_cons_of_mem _ hx)) (fun x hx => hf x (List.mem_cons_of_mem _ hx))
  unfold ixOf at ih ⊢
  simp only [Lib.bytesOf, List.cons_append, List.map_cons, Lib.indexByte, u8_zero h1] at ih ⊢
  rw [ih]
  have : ((a.length : Int) == -1) = false := by rw [beq_eq_false_iff_ne]; omega
  simp [h2, this]
theorem take_free {a : List Int} (hb : Bytes a) (hf : Free a) (n : Nat) : ixOf (a.take n) 0 = -1 := ix_free (hb.take n) (fun x hx => hf x (List.mem_of_mem_take hx))
theorem stuff_zero {now rest : List Int} (hb : Bytes now) (hf : Free now) (hl : now.length < 254) : Qfn (now ++ 0 :: rest) = (((now.length : Int) + 1) % 256) :: (now ++ Qfn rest) := by
 have e : ixOf ((now ++ 0 :: rest).take 254) 0 = (now.length : Int) := by
  obtain ⟨m, hm⟩ : ∃ m, 254 - now.length = m + 1 := ⟨253 - now.length, by omega⟩
  rw [List.take_append, List.take_of_length_le (by omega), hm, List.take_succ_cons]
  exact ix_app hb hf
 rw [Qfq e, List.take_left', List.drop_append, List.drop_of_length_le (by omega)]
 ·simp
 ·rfl
theorem stuff_last {now : List Int} (hb : Bytes now) (hf : Free now) (hl : now.length ≤ 254) : Qfn now = (((now.length : Int) + 1) % 256) :: now :=
 Qfs (by rw [take_free hb hf]; omega) (by omega)
theorem Qhj {now rest : List Int} (hb : Bytes now) (hf : Free now) (hl : now.length = 254) (hr : rest ≠ []) : Qfn (now ++ rest) = 255 :: (now ++ Qfn rest) := by
 have hr' : 0 < rest.length := List.length_pos_iff.2 hr
 have e1 : (now ++ rest).take 254 = now := by rw [← hl]; exact List.take_left' rfl
 have e2 : (now ++ rest).drop 254 = rest := by rw [← hl]; exact List.drop_left' rfl
 rw [Qfr (by rw [e1, ix_free hb hf]; omega) (by rw [List.length_append]; omega), e1, e2]
theorem size_nil_iff (s : ByteArray) : s.toList = ([] : List UInt8) ↔ s.size = 0 := by
 constructor
 ·intro h
  have h1 : s.toList.length = s.size := by rw [Lib.toList_data, Qbz]
  rw [h] at h1
  simpa using h1.symm
 ·intro h
  have h1 : s.toList.length = s.size := by rw [Lib.toList_data, Qbz]
  exact List.eq_nil_of_length_eq_zero (by omega)
theorem Qhk (i : Nat) (h : i < 4611686018427387904) : wrap64 ((i : Int) + 1) = ((i + 1 : Nat) : Int) := by unfold wrap64; omega
theorem wrap_pred (i : Nat) (h0 : 0 < i) (h : i < 4611686018427387904) : wrap64 ((i : Int) - 1) = ((i - 1 : Nat) : Int) := by unfold wrap64; omega
end Go.Proofs.YtnnofopfbeklbaaGreat.CodecP
end
section
namespace Go.Proofs.YtnnofopfbeklbaaGreat.C
open Go.RowKit Go.Proofs.YtnnofopfbeklbaaGreatW.PrintWords Go.Proofs.YtnnofopfbeklbaaGreatW.PrintLast Go.Proofs.YtnnofopfbeklbaaGreatW.PrintMore
attribute [local go_sem] Qeh Qei Qej Qek Qel Qem Qen Qeo
def fascicleref09_Head.T1 : Bool × List (List Nat × List Nat) := (true, [([], []), ([0], [0]), ([1], [1]), ([2], [2]), ([3], [3]), ([], []), ([5], [5]), ([6], [6]), ([7], [7]), ([4, 8], [4, 8]), ([], []), ([10, 8], [10]), ([9, 11], [9, 11]), ([12, 11], [12]), ([13, 13, 0, 1, 2, 3, 4, 5, 6, 7, 8, 9, 10, 11, 12, 13], [13])])
def fascicleref09_Head.B1 : List Nat := [0, 1, 3, 7, 15, 0, 32, 96, 224, 511, 0, 1504, 4095, 8191, 16383]
theorem fascicleref09_Head.tab1 : rtab .any (opsOf Tryz.f55 1) = fascicleref09_Head.T1 := by kernel_rfl
theorem fascicleref09_Head.bits1 : Qdy fascicleref09_Head.T1.2 fascicleref09_Head.B1 = true := by kernel_rfl
def fascicleref14_Empty.T1 : Bool × List (List Nat × List Nat) := (true, [([], []), ([], []), ([], []), ([], []), ([2, 3], [2, 3]), ([4], [4]), ([0, 1, 5], [0, 1, 5]), ([6, 4, 0, 1, 2, 3, 4, 5, 6], [6])])
def fascicleref14_Empty.B1 : List Nat := [0, 0, 0, 0, 12, 28, 63, 127]
theorem fascicleref14_Empty.tab1 : rtab .any (opsOf Tryz.f20 1) = fascicleref14_Empty.T1 := by kernel_rfl
theorem fascicleref14_Empty.bits1 : Qdy fascicleref14_Empty.T1.2 fascicleref14_Empty.B1 = true := by kernel_rfl
end Go.Proofs.YtnnofopfbeklbaaGreat.C
end
section
namespace Go.Proofs.YtnnofopfbeklbaaGreat.CodecP
open Go.RowKit Go.Proofs.YtnnofopfbeklbaaGreat.C Go.Proofs.YtnnofopfbeklbaaGreatW.PrintWords Go.Proofs.YtnnofopfbeklbaaGreatW.PrintLast Go.Proofs.YtnnofopfbeklbaaGreatW.PrintMore
theorem Qhl : ∀ (n : Nat) (b : List Int), b.length ≤ n → b.length < 254 → (Qfn b).length = b.length + 1
 | n, b, hn, h => by
  rcases Int.lt_or_le (ixOf (b.take 254) 0) 0 with h0 | h0
  ·rw [Qfs h0 (by omega)]
   simp
  ·obtain ⟨p, hp⟩ := Int.eq_ofNat_of_zero_le h0
   have h1 := (Qfl (b.take 254) 0).2
   rw [List.length_take, hp] at h1
   rw [Qfq hp]
   match n, hn with
   | 0, hn => omega
   | n + 1, hn =>
    have ih := Qhl n (b.drop (p + 1)) qq_11 qq_11
    rw [List.length_cons, List.length_append, ih, List.length_take, List.length_drop]
    omega
theorem vput_mono : ∀ (n : Nat) (x y : Int), 0 ≤ x → x ≤ y → (vput n x).length ≤ (vput n y).length
 | 0, _, _, _, _ => by simp [vput]
 | n + 1, x, y, h0, h => by
  have ih := vput_mono n (x / 128) (y / 128) (by omega) (by omega)
  unfold vput
  by_cases hy : y < 128
  ·rw [if_pos hy, if_pos (by omega)]
   simp
  ·rw [if_neg hy]
   by_cases hx : x < 128
   ·rw [if_pos hx]; simp
   ·rw [if_neg hx]; simp; omega
def Qhm (e s n : Int) : Int := ((Qgi e s n).length : Int)
theorem headN_eq (e s n : Int) : Qhm e s n = 3 + (vput 9 s).length + (vput 9 n).length + 10 := by
 unfold Qhm Qgi Qgg
 have h1 := Qft 9 s
 have h2 := Qft 9 n
 have hl : ([1, 2, e] ++ vput 9 s ++ vput 9 n ++ leb (Qge 0 ([1, 2, e] ++ vput 9 s ++ vput 9 n)) 8).length = 3 + (vput 9 s).length + (vput 9 n).length + 8 := by
  rw [List.length_append, List.length_append, List.length_append, Qez]
  rfl
 rw [List.length_append, Qhl _ _ (Nat.le_refl _) (by rw [hl]; omega), hl]
 simp
 omega
theorem Qhn (e s n : Int) : 0 ≤ Qhm e s n ∧ Qhm e s n ≤ 100 := by
 rw [headN_eq]
 have h1 := Qft 9 s
 have h2 := Qft 9 n
 omega
theorem headN_mono (e s : Int) {n m : Int} (h0 : 0 ≤ n) (h : n ≤ m) : Qhm e s n ≤ Qhm e s m := by
 rw [headN_eq, headN_eq]
 have := vput_mono 9 n m h0 h
 omega
def Qho (n : Int) : Int := 9 + 12 * n + 8 * ((n + 15) / 16) + 8 + 1 + (9 + 12 * n + 8 * ((n + 15) / 16) + 8 - 1) / 254 + 1
def szN (e : Int) : Int := 2 ^ e.toNat
def Good (e s : Int) : Prop := 12 ≤ e ∧ e ≤ 24 ∧ 1 ≤ s ∧ s ≤ 65536
theorem Qhp {e s : Int} (h : Good e s) : Qal.f e s = some 0 := by
 obtain ⟨h1, h2, h3, h4⟩ := h
 unfold Qal.f
 rw [if_neg (by omega), if_neg (by omega), if_neg (by omega), if_neg (by omega)]
theorem check_bad {e s : Int} (h : ¬ Good e s) : Qal.f e s = some 1 := by
 unfold Qal.f
 by_cases h1 : e < 12
 ·rw [if_pos h1]
 by_cases h2 : e > 24
 ·rw [if_neg h1, if_pos h2]
 by_cases h3 : s < 1
 ·rw [if_neg h1, if_neg h2, if_pos h3]
 by_cases h4 : s > 65536
 ·rw [if_neg h1, if_neg h2, if_neg h3, if_pos h4]
 ·exact absurd ⟨by omega, by omega, by omega, by omega⟩ h
theorem Qhq {e : Int} (h1 : 12 ≤ e) (h2 : e ≤ 24) : 4096 ≤ szN e ∧ szN e ≤ 16777216 := by
 unfold szN
 obtain ⟨n, rfl⟩ := Int.eq_ofNat_of_zero_le (show 0 ≤ e by omega)
 rw [Int.toNat_natCast]
 have h3 : (2 : Nat) ^ 12 ≤ 2 ^ n := Nat.pow_le_pow_right (by omega) (by omega)
 have h4 : (2 : Nat) ^ n ≤ 2 ^ 24 := Nat.pow_le_pow_right (by omega) (by omega)
 have h5 : ((2 ^ n : Nat) : Int) = (2 : Int) ^ n := by rw [Int.natCast_pow]; rfl
 rw [← h5]
 omega
theorem Qhr {e s : Int} (h : Good e s) : Qam.f e s = some (szN e) := by
 have hr := Qhq h.1 h.2.1
 unfold Qam.f
 rw [Qhp h, Option.bind_some, if_pos rfl, if_pos (by have := h.1; omega)]
 congr 1
 unfold shl
 have hm : min e.toNat IntKind.i64.bits = e.toNat := by simp [IntKind.bits]; have := h.2.1; omega
 rw [hm, Int.one_mul]
 exact IntWalk.i64_in _ (by unfold szN at hr; omega)
theorem most_prog (c : Int) (h0 : 0 ≤ c) (h1 : c ≤ 16777216) : Qau.f c = some (Qho c) := by
 have hm : mx 0 c = c := by unfold mx; split <;> omega
 have hf : Qat.f c = some ((c + 15) / 16) := by
  unfold Qat.f
  rw [hm]
  have e1 : wrap64 ((wrap64 (c + 16)) - 1) = c + 15 := by unfold wrap64; omega
  rw [e1, Int.tdiv_eq_ediv_of_nonneg (by omega)]
  congr 1
  unfold wrap64
  omega
 have ha : wrap64 ((wrap64 (9 + (wrap64 (12 * c)))) + (wrap64 (8 * ((c + 15) / 16)))) = 9 + 12 * c + 8 * ((c + 15) / 16) := by unfold wrap64; omega
 unfold Qau.f
 rw [hm, hf, Option.bind_some, ha]
 obtain ⟨m, hmm⟩ : ∃ m, m = 9 + 12 * c + 8 * ((c + 15) / 16) := ⟨_, rfl⟩
 have hm0 : 0 ≤ m := by omega
 have hm1 : m ≤ 1000000000 := by omega
 unfold Qho
 rw [← hmm]
 clear hmm ha hf hm
 have hx : mx 0 m = m := by unfold mx; split <;> omega
 unfold Qay.f Qak.f
 rw [hx]
 have e1 : wrap64 (m + 8) = m + 8 := by unfold wrap64; omega
 rw [e1, if_neg (by omega)]
 have e2 : wrap64 (m + 8 - 1) = m + 8 - 1 := by unfold wrap64; omega
 rw [e2, Int.tdiv_eq_ediv_of_nonneg (by omega), Option.bind_some, Option.bind_some]
 congr 1
 unfold wrap64
 omega
theorem Qhs (c : Int) (h0 : 0 ≤ c) (h1 : c ≤ 16777216) : 12 * c ≤ Qho c ∧ Qho c ≤ 1000000000 := by unfold Qho; omega
def Qht (e u c x : Int) : Bool := decide (1 ≤ x ∧ u + x + Qho (c + 1) ≤ szN e)
theorem Qhu {e s : Int} (h : Good e s) (n u c x : Int) (hu0 : 0 ≤ u) (hu1 : u ≤ 16777216) (hc0 : 0 ≤ c) (hc1 : c ≤ 8388608) (hx1 : x ≤ 1152921504606846976) : Qbf.f e s n u c x = some (Qht e u c x) := by
 have hz := Qhq h.1 h.2.1
 have hm := Qhs (c + 1) (by omega) (by omega)
 unfold Qbf.f Qht
 by_cases hx : x ≥ 1
 ·rw [if_pos hx]
  unfold Qbg.f
  rw [Qhr h, Option.bind_some, show wrap64 (c + 1) = c + 1 by unfold wrap64; omega, most_prog (c + 1) (by omega) (by omega), Option.bind_some, Option.bind_some]
  congr 1
  have e1 : wrap64 (wrap64 (szN e - u) - Qho (c + 1)) = szN e - u - Qho (c + 1) := by unfold wrap64; omega
  rw [e1]
  unfold mx
  rw [decide_eq_decide]
  split <;> omega
 ·rw [if_neg hx]
  congr 1
  symm
  rw [decide_eq_false_iff_not]
  omega
theorem Qhv {e u c x : Int} (h : Qht e u c x = true) : 1 ≤ x ∧ u + x + Qho (c + 1) ≤ szN e := by simpa [Qht] using h
theorem Qhw {e s : Int} (h : Good e s) (n u c x : Int) (hu0 : 0 ≤ u) (hu1 : u ≤ 16777216) (hc0 : 0 ≤ c) (hc1 : c ≤ 8388608) (hx1 : x ≤ 1152921504606846976) (hf : Qht e u c x = true) : Qbh.f e s n u c x = some (e, s, n, u + x, c + 1, 0) := by
 have hz := Qhq h.1 h.2.1
 have hm := Qhs (c + 1) (by omega) (by omega)
 obtain ⟨f1, f2⟩ := Qhv hf
 unfold Qbh.f
 rw [Qhu h n u c x hu0 hu1 hc0 hc1 hx1, Option.bind_some, hf, if_pos rfl, show wrap64 (u + x) = u + x by unfold wrap64; omega, show wrap64 (c + 1) = c + 1 by unfold wrap64; omega]
theorem Qhx {e s : Int} (h : Good e s) (n : Int) (h0 : 0 ≤ n) (h1 : n < s) : Qav.f e s n = some (Qgi e s n, 0) := by
 obtain ⟨a, b, c, d⟩ := h
 unfold Qav.f Qaz.f
 rw [Qhp ⟨a, b, c, d⟩, Option.bind_some, if_pos rfl, if_neg (by omega), Option.bind_some, if_pos rfl, if_pos ⟨by omega, by omega, by omega, by omega, by omega, by omega⟩]
theorem Qhy {e s : Int} (h : Good e s) (n : Int) (h0 : 0 ≤ n) (h1 : n < s) : Qbd.f e s n = some (e, s, n, Qhm e s n, 0, 0) := by
 unfold Qbd.f
 rw [Qhx h n h0 h1, Option.bind_some, if_pos rfl]
 rfl
theorem empty_bad {e s : Int} (h : Good e s) (n : Int) (h1 : s ≤ n) : Qbd.f e s n = some (0, 0, 0, 0, 0, 1) := by
 unfold Qbd.f Qav.f Qaz.f
 rw [Qhp h, Option.bind_some, if_pos rfl, if_pos (by omega), Option.bind_some, if_neg (by decide), Option.bind_some, if_neg (by decide)]
def Qhz (e s : Int) : List Int → List Int → Int → Int → Int → List Int × Int
 | [], out, _, _, _ => (out, 0)
 | x :: t, out, n, u, c =>
  if Qht e (Qhm e s (s - 1)) 0 x = false then ([], 6)
  else if Qht e u c x = true then Qhz e s t (out ++ [n]) n (u + x) (c + 1)
  else if n + 1 < s then Qhz e s t (out ++ [n + 1]) (n + 1) (Qhm e s (n + 1) + x) 1
  else ([], 7)
theorem fits_any {e s : Int} (h : Good e s) {n x : Int} (h0 : 0 ≤ n) (h1 : n ≤ s - 1) (hf : Qht e (Qhm e s (s - 1)) 0 x = true) : Qht e (Qhm e s n) 0 x = true := by
 obtain ⟨f1, f2⟩ := Qhv hf
 have := headN_mono e s h0 h1
 simp only [Qht, decide_eq_true_eq]
 omega
theorem rd_drop {l : List Int} {i : Nat} (h : i < l.length) : l.drop i = rd l (i : Int) :: l.drop (i + 1) := by rw [List.drop_eq_getElem_cons h, rd_get h]
theorem after_fit {e s : Int} (h : Good e s) {u c x : Int} (hc0 : 0 ≤ c) (hc1 : c ≤ 8388608) (hu0 : 0 ≤ u) (hf : Qht e u c x = true) : 0 ≤ u + x ∧ u + x ≤ 16777216 ∧ 0 ≤ c + 1 ∧ c + 1 ≤ 8388608 := by
 have hz := Qhq h.1 h.2.1
 have hm := Qhs (c + 1) (by omega) (by omega)
 obtain ⟨f1, f2⟩ := Qhv hf
 omega
theorem Qia {e s : Int} (h : Good e s) (l : List Int) (hl : l.length ≤ 1000000) (hx : ∀ x ∈ l, x ≤ 1152921504606846976) : ∀ (d i k : Nat) (out : List Int) (n u c : Int), i + d = l.length → out.length = i → 0 ≤ n → n < s → 0 ≤ u → u ≤ 16777216 → 0 ≤ c → c ≤ 8388608 → d + 1 ≤ k →
  Qbe.l0 k out l (l.length : Int) (i : Int) e s e s n u c e s (s - 1) (Qhm e s (s - 1)) 0 = some (Qhz e s (l.drop i) out n u c)
 | 0, i, k, out, n, u, c, hi, ho, hn0, hn1, hu0, hu1, hc0, hc1, hk => by
  obtain ⟨k, rfl⟩ : ∃ m, k = m + 1 := ⟨k - 1, by omega⟩
  rw [List.drop_of_length_le (by omega)]
  unfold Qbe.l0
  rw [if_neg (by omega)]
  rfl
 | d + 1, i, k, out, n, u, c, hi, ho, hn0, hn1, hu0, hu1, hc0, hc1, hk => by
  obtain ⟨k, rfl⟩ : ∃ m, k = m + 1 := ⟨k - 1, by omega⟩
  have hg := h
  obtain ⟨a1, a2, a3, a4⟩ := h
  have hil : i < l.length := by omega
  have hxi : rd l (i : Int) ≤ 1152921504606846976 := by rw [rd_get hil]; exact hx _ (List.getElem_mem hil)
  have hH := Qhn e s (s - 1)
  rw [rd_drop hil]
  unfold Qbe.l0
  rw [if_pos (by omega), if_pos (by omega), if_pos (by omega), Qhk i (by omega)]
  generalize hxx : rd l (i : Int) = x at *
  rw [Qhu hg (s - 1) (Qhm e s (s - 1)) 0 x hH.1 (by omega) (by omega) (by omega) hxi, Option.bind_some]
  unfold Qhz
  by_cases hf : Qht e (Qhm e s (s - 1)) 0 x = false
  ·rw [hf, if_neg (by decide), if_pos rfl]
  ·have hft : Qht e (Qhm e s (s - 1)) 0 x = true := by simpa using hf
   rw [if_neg hf, if_pos hft, Qhu hg n u c x hu0 hu1 hc0 hc1 hxi, Option.bind_some]
   by_cases hq : Qht e u c x = true
   ·have haf := after_fit hg hc0 hc1 hu0 hq
    rw [if_pos hq, if_pos hq, Qhw hg n u c x hu0 hu1 hc0 hc1 hxi hq, Option.bind_some, if_pos (by omega)]
    exact Qia hg l hl hx d (i + 1) k (out ++ [n]) n (u + x) (c + 1) (by omega) (by rw [List.length_append, ho]; rfl) hn0 hn1 haf.1 haf.2.1 haf.2.2.1 haf.2.2.2 (by omega)
   ·rw [if_neg hq, if_neg hq, show (n + 1) % 4294967296 = n + 1 by omega]
    by_cases hs : n + 1 < s
    ·have hfn := fits_any hg (show 0 ≤ n + 1 by omega) (by omega) hft
     have hHn := Qhn e s (n + 1)
     have haf := after_fit hg (Int.le_refl 0) (by omega) hHn.1 hfn
     rw [if_pos hs, Qhy hg (n + 1) (by omega) hs, Option.bind_some, if_pos rfl, Qhw hg (n + 1) (Qhm e s (n + 1)) 0 x hHn.1 (by omega) (by omega) (by omega) hxi hfn, Option.bind_some, if_pos (by omega)]
     exact Qia hg l hl hx d (i + 1) k (out ++ [n + 1]) (n + 1) (Qhm e s (n + 1) + x) 1 (by omega) (by rw [List.length_append, ho]; rfl) (by omega) hs haf.1 haf.2.1 (by omega) (by omega) (by omega)
    ·rw [if_neg hs, empty_bad hg (n + 1) (by omega), Option.bind_some, if_neg (by decide)]
theorem plan_prog {e s : Int} (h : Good e s) (l : List Int) (k : Nat) (hl : l.length ≤ 1000000) (hx : ∀ x ∈ l, x ≤ 1152921504606846976) (hk : l.length + 1 ≤ k) : Qbe.f k e s l = some (Qhz e s l [] 0 (Qhm e s 0) 0) := by
 have hg := h
 obtain ⟨a1, a2, a3, a4⟩ := h
 have hH := Qhn e s 0
 unfold Qbe.f
 rw [Qhy hg 0 (by omega) (by omega), Option.bind_some, if_pos rfl, show (s - 1) % 4294967296 = s - 1 by omega, Qhy hg (s - 1) (by omega) (by omega), Option.bind_some]
 exact Qia hg l hl hx l.length 0 k [] 0 (Qhm e s 0) 0 (by omega) rfl (by omega) (by omega) hH.1 (by omega) (by omega) (by omega) hk
end Go.Proofs.YtnnofopfbeklbaaGreat.CodecP
end
