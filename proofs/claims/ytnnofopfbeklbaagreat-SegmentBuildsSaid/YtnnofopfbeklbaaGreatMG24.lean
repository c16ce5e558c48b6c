/- Texts of this claim's author and of the print of its functions, merged by merge.py. -/
import Derived.Test.YtnnofopfbeklbaaGreatMG02
import Derived.Test.YtnnofopfbeklbaaGreatMG06
import Derived.Test.YtnnofopfbeklbaaGreatMG13
import Derived.Test.YtnnofopfbeklbaaGreatMG03
import Derived.Test.YtnnofopfbeklbaaGreatMG22
import Derived.Test.YtnnofopfbeklbaaGreatMG23
import Derived.Test.YtnnofopfbeklbaaGreatMG00
import Derived.SizedLaws
import Derived.Deep.Slices
import Derived.Lib.SmallJoins
import Derived.ChangeArms
import Derived.Test.YtnnofopfbeklbaaGreatMG05
import Derived.Test.YtnnofopfbeklbaaGreatMG15
import Derived.Laws.Bits64b
set_option linter.unusedVariables false
set_option linter.unusedSimpArgs false
set_option maxHeartbeats 8000000
set_option maxRecDepth 100000
section
namespace Go.Proofs.YtnnofopfbeklbaaGreat.C
open Go.RowKit Go.Proofs.YtnnofopfbeklbaaGreatW.PrintWords Go.Proofs.YtnnofopfbeklbaaGreatW.PrintLast Go.Proofs.YtnnofopfbeklbaaGreatW.PrintMore
theorem sb_few (k : Nat) (a0 n : Int) (A1 : Option Addr) (c1 : Nat) (l1 : List Rec) (w : World) (hr1 : Kd.C k39 w A1 l1.length l1) (hc1 : l1.length ≤ c1)
  (hfew : Qam.f k l1 60 5000 = some false) :
  Calls Tryz.prog 3 #[.int .u8 a0, .int .u32 n, .slice A1 l1.length c1] w fun ee w' => ee = .returned (.bool true) ∧ Below w.heap.size w w' := by
 have HC := QA hr1
 have HL := QA hc1
 have HF := QA hfew
 clear hr1 hc1 hfew
 go_enter Tryz.func3, Tryz.ntmps3
 go_wp2_with (first
  | (go_at_call 15; refine (Qan.calls true _ rfl).mono ?_; rintro ee wa ⟨rfl, hba⟩; try (have HBA := QA (Qcr (Below.refl w.heap.size w) (Nat.le_refl _) hba)))
  | (go_at_call 16; refine (Qam.calls k _ _ l1 60 5000 false _ (Kd.C_below HC.out HBA.out) HL.out HF.out).mono ?_; rintro ee wb ⟨rfl, hbb⟩; have HBB := QA (HBA.out.trans (Qgu hbb HBA.out.size))))
 go_ret
 exact ⟨rfl, HBB.out.trans (Qgu hba HBB.out.size)⟩
theorem sb_may (k : Nat) (a0 n e s x0 x1 x2 x3 x4 : Int) (A1 : Option Addr) (c1 : Nat) (l1 : List Rec) (w : World) (hr1 : Kd.C k39 w A1 l1.length l1) (hc1 : l1.length ≤ c1)
  (hfew : Qam.f k l1 60 5000 = some true) (hsm : Qap.f a0 = some (e, s)) (hn : 0 ≤ n ∧ n < 4294967296)
  (hmay : Qbf.f e s n = some false) (hp : Qcd.f e s n = some (x0, x1, x2, x3, x4, 1)) :
  Calls Tryz.prog 3 #[.int .u8 a0, .int .u32 n, .slice A1 l1.length c1] w fun ee w' => ee = .returned (.bool true) ∧ Below w.heap.size w w' := by
 have hu := Tryz.underlying27
 have HC := QA hr1
 have HL := QA hc1
 have HF := QA hfew
 have HS := QA hsm
 have HM := QA hmay
 have HP := QA hp
 have hwn : IntKind.u64.wrap n = n := IntWalk.u64_in _ (by omega)
 clear hr1 hc1 hfew hsm hmay hp
 go_enter Tryz.func3, Tryz.ntmps3
 go_wp2_with (first
  | (go_at_call 15; refine (Qan.calls true _ rfl).mono ?_; rintro ee wa ⟨rfl, hba⟩)
  | (go_at_call 16; refine (Qam.calls k _ _ l1 60 5000 true _ (Kd.C_below HC.out hba) HL.out HF.out).mono ?_; rintro ee wb ⟨rfl, hbb⟩)
  | (go_at_call 17; refine (Qap.calls a0 e s _ HS.out).mono ?_; rintro ee wc ⟨rfl, hbc⟩; have HB := QA (show Below w.heap.size w wc from (hba.trans (Qgu hbb hba.size)).trans (Qgu hbc (Nat.le_trans hba.size hbb.size))); have kc := Qdu wc (.cells #[.int .u8 e, .int .u32 s] 27))
  | (go_at_call 18; refine (bd_New_bad e s n x0 x1 x2 x3 x4 1 _ HP.out (by decide)).mono ?_; rintro ee wd ⟨rfl, hbd⟩; have kd := Qdt kc hbd; obtain ⟨d0, d1⟩ := box2 kd)
  | (go_at_call 19; refine (Qbf.calls e s n false _ HM.out).mono ?_; rintro ee wf ⟨rfl, hbf⟩))
 go_ret
 refine ⟨rfl, ?_⟩
 have h1 := HB.out
 have h2 : Below wc.heap.size wc (wc.alloc (.cells #[.int .u8 e, .int .u32 s] 27)) := Qco (Below.refl _ _) _
 have h3 := h1.trans (Qgu h2 h1.size)
 have h4 := h3.trans (Qgu hbd h3.size)
 exact h4.trans (Qgu hbf h4.size)
theorem Qao.calls (k : Nat) (a0 : Int) (a1 : Int) (A2 : Option Addr) (c2 : Nat) (l2 : List (S39)) (r : Bool) (w : World) (hr2 : Kd.C k39 w A2 l2.length l2) (hc2 : l2.length ≤ c2) (h : Qao.f k a0 a1 l2 = some r) :
  Calls Tryz.prog 3 #[.int .u8 a0, .int .u32 a1, .slice A2 l2.length c2] w fun e w' => e = .returned (.bool r) ∧ Below w.heap.size w w' := by
 unfold Qao.f at h
 by_cases hs : SB k a0 a1 l2
 ·rw [if_pos hs] at h
  obtain rfl := Option.some.inj h
  obtain ⟨b, hb, hl, hh⟩ := hs
  cases b with
  | false => exact sb_few k a0 a1 A2 c2 l2 w hr2 hc2 hb
  | true =>
   obtain ⟨hl1, e, s, hsm, hg | ⟨hn, hm, x0, x1, x2, x3, x4, hp⟩⟩ := hh rfl
   ·exact sb_good k a0 e s a1 A2 c2 l2.length l2 w rfl hr2 hc2 hl1 hb hsm hg
   ·exact sb_may k a0 a1 e s x0 x1 x2 x3 x4 A2 c2 l2 w hr2 hc2 hb hsm hn hm hp
 ·rw [if_neg hs] at h
  cases h
end Go.Proofs.YtnnofopfbeklbaaGreat.C
end
section
namespace Go.Proofs.YtnnofopfbeklbaaGreat.Open
open Go.RowKit Go.Proofs.YtnnofopfbeklbaaGreatW.PrintWords Go.ChangeShapes Go.WideShapes Go.Deep
structure Opens (P : Program) (t : TypeId) {α : Type} (d : Kd α) (G : α → Prop) : Prop where
  sz : P.cellsOf t = d.sz
  out : ∀ {H : Type} {enc : TypeId × Value → H} {w : World} {base : Nat} {spare : Nat → Bool} {held : Bool} {fuel : Nat} {cs : List Value} {x : DataW H × List MemPlace},
    DataW.trod enc P w base spare held fuel t cs = some x → (∀ n ∈ DataW.weights P t x.1, n ≤ reachBytes) → ∃ v, d.K w v cs ∧ G v
theorem opens_bool {P : Program} {t : TypeId} (ht : P.underlying t = some .bool) (hc : P.cellsOf t = 1) : Opens P t Kd.bool (fun _ => True) :=
 ⟨hc, fun h _ => by
  obtain ⟨b, rfl, _⟩ := DataW.trod_bool ht h
  exact ⟨b, rfl, trivial⟩⟩
theorem opens_int {P : Program} {t : TypeId} {k : IntKind} (ht : P.underlying t = some (.int k)) (hc : P.cellsOf t = 1) : Opens P t (Kd.int k) (fun n => (Lit.int k n).wf = true) :=
 ⟨hc, fun h _ => by
  obtain ⟨b, rfl, _, hw⟩ := DataW.trod_int ht h
  exact ⟨b, rfl, hw⟩⟩
theorem opens_string {P : Program} {t : TypeId} (ht : P.underlying t = some .string) (hc : P.cellsOf t = 1) : Opens P t Kd.string (fun s => s.size ≤ 140737488351232) :=
 ⟨hc, fun h hs => by
  obtain ⟨b, rfl, rfl, hw⟩ := DataW.trod_string ht h
  refine ⟨b, rfl, ?_⟩
  have := hs b.data.toList.length (by simp [DataW.weights])
  simpa [reachBytes] using this⟩
theorem Qjj {H : Type} {P : Program} {e : TypeId} {n : Nat} : ∀ {ds : List (DataW H)} {d : DataW H}, d ∈ ds → n ∈ DataW.weights P e d → n ∈ DataW.weightsAll P e ds
 | [], _, h, _ => by simp at h
 | a :: r, d, h, hn => by
  simp only [DataW.weightsAll]
  rcases List.mem_cons.1 h with rfl | h
  ·exact List.mem_append_left _ hn
  ·exact List.mem_append_right _ (Qjj h hn)
theorem opens_slice {P : Program} {t e : TypeId} {α : Type} {d : Kd α} {G : α → Prop} {B : Nat} (ht : P.underlying t = some (.slice e)) (hc : P.cellsOf t = 1) (hB : P.bytesOf e = B) (he : Opens P e d G) :
  Opens P t (Kd.slice e d) (fun xs => xs.length * B ≤ 140737488351232 ∧ ∀ x ∈ xs, G x) :=
 ⟨hc, fun {H enc w base spare held fuel cs x} h hs => by
  rcases open_slice ht h with ⟨rfl, rfl⟩ | ⟨a, len, cap, m, n, D, Pl, rfl, hb, hl, hm, hmm, rfl, hx⟩
  ·exact ⟨[], ⟨none, 0, rfl, Nat.zero_le _, rfl, by simp, fun hp => absurd hp (by simp)⟩, by simp, by simp⟩
  have hlm : len ≤ m := by rw [hmm]; split <;> omega
  have hw : ∀ i, i < len → ∃ v, (∃ cs', w.cells? base (a.add (i * P.cellsOf e)) (P.cellsOf e) = some cs' ∧ d.K w v cs') ∧ G v := by
   intro i hi
   obtain ⟨cs', h1, h2⟩ := hx i (by omega)
   obtain ⟨v, hv, hg⟩ := he.out h2 (fun q hq => hs q (by
    simp only [DataW.weights, ht]
    refine List.mem_cons_of_mem _ (List.mem_append_left _ (Qjj (d := D i) ?_ hq))
    exact List.mem_map.2 ⟨i, List.mem_range.2 hi, rfl⟩))
   exact ⟨v, ⟨cs', h1, hv⟩, hg⟩
  have hw' : ∃ xs : List α, xs.length = len ∧ ∀ i p, xs[i]? = some p → (∃ cs', w.cells? base (a.add (i * P.cellsOf e)) (P.cellsOf e) = some cs' ∧ d.K w p cs') ∧ G p := by
   clear hs hx hmm hlm hm hl h
   induction len with
   | zero => exact ⟨[], rfl, by simp⟩
   | succ q ih =>
    obtain ⟨xs, hxl, hxs⟩ := ih (fun i hi => hw i (by omega))
    obtain ⟨v, hv⟩ := hw q (by omega)
    refine ⟨xs ++ [v], by simp [hxl], fun i p hp => ?_⟩
    rcases Nat.lt_or_ge i xs.length with hi | hi
    ·rw [List.getElem?_append_left hi] at hp
     exact hxs i p hp
    ·have : i = q := by
      have := (List.getElem?_eq_some_iff.1 hp).1
      simp at this
      omega
     subst this
     rw [← hxl] at hp
     have : v = p := by simpa using hp
     subst this
     exact hv
  obtain ⟨xs, hxl, hxs⟩ := hw'
  have hlen : len * B ≤ 140737488351232 := by
   have := hs ((((List.range len).map D).length + ((List.range (m - len)).map fun j => D (len + j)).length) * P.bytesOf e) (by simp [DataW.weights, ht])
   rw [hB] at this
   have h2 : (((List.range len).map D).length + ((List.range (m - len)).map fun j => D (len + j)).length) = m := by simp; omega
   rw [h2] at this
   have h3 : m * B ≤ 140737488351232 := by simpa [reachBytes] using this
   exact Nat.le_trans (Nat.mul_le_mul_right _ hlm) h3
  refine ⟨xs, ⟨some a, cap, by rw [hxl], by rw [hxl]; exact hl, rfl, ?_, fun hp => ⟨a, rfl, fun j p hj => ?_⟩⟩, by rw [hxl]; exact hlen, fun x hx => ?_⟩
  ·rw [hxl]
   exact Nat.le_trans hl (by simpa [maxLen] using hm)
  ·obtain ⟨⟨cs', h1, h2⟩, _⟩ := hxs j p hj
   obtain ⟨_, hcl, hcc⟩ := World.cells?_some h1
   refine ⟨cs', by rw [hcl, he.sz], h2, fun i u hu => ?_⟩
   have hi : i < P.cellsOf e := by rw [← hcl]; exact (List.getElem?_eq_some_iff.1 hu).1
   rw [he.sz] at hcc hi
   have := hcc i hi
   rw [Go.Deep.add_add] at this
   rw [this, hu]
  ·obtain ⟨i, hi⟩ := List.getElem?_of_mem hx
   exact (hxs i x hi).2⟩
structure OpensFs (P : Program) (ts : List TypeId) {α : Type} (d : Kd α) (G : α → Prop) : Prop where
  sz : (ts.map P.cellsOf).sum = d.sz
  out : ∀ {H : Type} {enc : TypeId × Value → H} {w : World} {base : Nat} {spare : Nat → Bool} {held : Bool} {fuel : Nat} {cs : List Value} {xs : List (DataW H × List MemPlace)},
    cs.length = (ts.map P.cellsOf).sum → xs.length = ts.length →
    (∀ i t, ts[i]? = some t → DataW.trod enc P w base spare held fuel t ((cs.drop ((ts.take i).map P.cellsOf).sum).take (P.cellsOf t)) = xs[i]?) →
    (∀ n ∈ DataW.weightsEach P ts (xs.map (·.1)), n ≤ reachBytes) → ∃ v, d.K w v cs ∧ G v
theorem OpensFs.one {P : Program} {t : TypeId} {α : Type} {d : Kd α} {G : α → Prop} (h : Opens P t d G) : OpensFs P [t] d G :=
 ⟨by simp [h.sz], fun {H enc w base spare held fuel cs xs} hl hx ht hs => by
  match xs, hx with
  | [x], _ =>
   have h0 := ht 0 t rfl
   simp at hl h0
   rw [List.take_of_length_le (by omega)] at h0
   exact h.out h0 (fun n hn => hs n (by simp [DataW.weightsEach, hn]))⟩
theorem OpensFs.cons {P : Program} {t : TypeId} {ts : List TypeId} {α β : Type} {d : Kd α} {G : α → Prop} {d' : Kd β} {G' : β → Prop} (h : Opens P t d G) (r : OpensFs P ts d' G') : OpensFs P (t :: ts) (Kd.pair d d') (fun x => G x.1 ∧ G' x.2) :=
 ⟨by simp [h.sz, r.sz, Kd.pair], fun {H enc w base spare held fuel cs xs} hl hx ht hs => by
  match xs, hx with
  | x :: xs, hx =>
   have h0 := ht 0 t rfl
   simp at hl h0 hx
   obtain ⟨a, ha, hga⟩ := h.out h0 (fun n hn => hs n (by simp [DataW.weightsEach, hn]))
   obtain ⟨b, hb, hgb⟩ := r.out (enc := enc) (w := w) (base := base) (spare := spare) (held := held) (fuel := fuel) (cs := cs.drop (P.cellsOf t)) (xs := xs) (by rw [List.length_drop]; omega) hx
    (fun i t' hi => by
     have := ht (i + 1) t' (by simpa using hi)
     simp only [List.take_succ_cons, List.map_cons, List.sum_cons, List.getElem?_cons_succ] at this
     rw [List.drop_drop]
     exact this)
    (fun n hn => hs n (by simp only [List.map_cons, DataW.weightsEach]; exact List.mem_append_right _ hn))
   exact ⟨(a, b), ⟨cs.take (P.cellsOf t), cs.drop (P.cellsOf t), by simp, ha, hb⟩, hga, hgb⟩⟩
def inLine (P : Program) : Nat → List Field → Bool
 | _, [] => true
 | o, f :: r => (f.offset == o) && inLine P (o + P.cellsOf f.type) r
theorem inLine_at {P : Program} : ∀ {fs : List Field} {o : Nat}, inLine P o fs = true → ∀ i f, fs[i]? = some f → f.offset = o + (((fs.map (·.type)).take i).map P.cellsOf).sum
 | [], _, _, i, f, h => by simp at h
 | g :: r, o, h, 0, f, hf => by
  simp [inLine] at h
  simp at hf
  subst hf
  simp [h.1]
 | g :: r, o, h, i + 1, f, hf => by
  simp [inLine] at h
  have := inLine_at h.2 i f (by simpa using hf)
  simp [this]
  omega
theorem opens_struct {P : Program} {t : TypeId} {fs : Array Field} {α β : Type} {d : Kd α} {G : α → Prop} (ht : P.underlying t = some (.struct fs)) (hl : inLine P 0 fs.toList = true) (hc : P.cellsOf t = d.sz)
  (r : OpensFs P (fs.toList.map (·.type)) d G) (f : β → α) (g : α → β) (hfg : ∀ a, f (g a) = a) : Opens P t (Kd.iso d f) (fun x => G (f x)) :=
 ⟨hc, fun {H enc w base spare held fuel cs x} h hs => by
  obtain ⟨xs, n, rfl, rfl, hcl, hxl, hx⟩ := DataW.trod_struct ht h
  obtain ⟨v, hv, hg⟩ := r.out (enc := enc) (w := w) (base := base) (spare := spare) (held := held) (fuel := n) (cs := cs) (xs := xs) (by rw [hcl, hc, r.sz]) (by simp [hxl])
   (fun i t' hi => by
    rw [List.getElem?_map] at hi
    cases hf : fs.toList[i]? with
    | none => simp [hf] at hi
    | some fd =>
     simp [hf] at hi
     subst hi
     have := hx i fd (by simpa using hf)
     rw [inLine_at hl i fd hf, Nat.zero_add] at this
     exact this)
   (fun q hq => hs q (by simp only [DataW.weights, ht]; exact hq))
  exact ⟨g v, by show d.K w (f (g v)) cs; rw [hfg]; exact hv, by show G (f (g v)); rw [hfg]; exact hg⟩⟩
theorem Qjk {H : Type} {P : Program} : ∀ {ts : List TypeId} {ds : List (DataW H)} {j : Nat} {t : TypeId} {d : DataW H}, (DataW.weightsEach P ts ds).all (· ≤ reachBytes) = true → ts[j]? = some t → ds[j]? = some d → ∀ n ∈ DataW.weights P t d, n ≤ reachBytes
 | [], _, _, _, _, _, h, _ => by simp at h
 | _ :: _, [], _, _, _, _, _, h => by simp at h
 | t0 :: ts, d0 :: ds, 0, t, d, hz, h1, h2 => by
  simp at h1 h2
  subst h1 h2
  intro n hn
  simp only [DataW.weightsEach] at hz
  exact of_decide_eq_true (List.all_eq_true.1 hz n (List.mem_append_left _ hn))
 | t0 :: ts, d0 :: ds, j + 1, t, d, hz, h1, h2 => by
  simp only [DataW.weightsEach] at hz
  refine Qjk (ts := ts) (ds := ds) (j := j) ?_ (by simpa using h1) (by simpa using h2)
  rw [List.all_append] at hz
  exact (Bool.and_eq_true _ _ ▸ hz).2
theorem arg_slice {H : Type} {enc : TypeId × Value → H} {P : Program} {w : World} {base : Nat} {spare : Nat → Bool} {held : Bool} {t e : TypeId} {α : Type} {d : Kd α} {G : List α → Prop} (op : Opens P t (Kd.slice e d) G) {a : Option Addr} {len cap : Nat} {x : DataW H} {ps : List MemPlace}
  (h : DataW.Trod enc P w base spare held t (.slice a len cap) x ps) (hs : ∀ n ∈ DataW.weights P t x, n ≤ reachBytes) : ∃ l : List α, len = l.length ∧ l.length ≤ cap ∧ d.C w a l.length l ∧ G l := by
 obtain ⟨fuel, hf⟩ := h
 obtain ⟨l, ⟨A, c, he, hc, hr⟩, hg⟩ := op.out hf hs
 have he' : [Value.slice a len cap] = [.slice A l.length c] := by simpa [Value.cells] using he
 simp only [List.cons.injEq, Value.slice.injEq, and_true] at he'
 obtain ⟨rfl, rfl, rfl⟩ := he'
 exact ⟨l, rfl, hc, hr, hg⟩
end Go.Proofs.YtnnofopfbeklbaaGreat.Open
end
section
namespace Go.Proofs.YtnnofopfbeklbaaGreat.C
open Go.RowKit Go.Proofs.YtnnofopfbeklbaaGreatW.PrintWords Go.Proofs.YtnnofopfbeklbaaGreatW.PrintLast Go.Proofs.YtnnofopfbeklbaaGreatW.PrintMore Go.Proofs.YtnnofopfbeklbaaGreat.Open
theorem opT4 : Opens Tryz.prog 4 Kd.bool (fun x => True) := opens_bool Tryz.underlying4 (by kernel_rfl)
theorem opT34 : Opens Tryz.prog 34 (Kd.int .u64) (fun x => (Lit.int .u64 x).wf = true) := opens_int Tryz.underlying34 (by kernel_rfl)
theorem opT9 : Opens Tryz.prog 9 Kd.string (fun x => x.size ≤ 140737488351232) := opens_string Tryz.underlying9 (by kernel_rfl)
def OG39 (x : S39) : Prop := True ∧ (Lit.int .u64 x.f1).wf = true ∧ x.f2.size ≤ 140737488351232 ∧ x.f3.size ≤ 140737488351232
theorem opT39 : Opens Tryz.prog 39 k39 (fun x => OG39 x) := opens_struct Tryz.underlying39 (by kernel_rfl) (by kernel_rfl) (OpensFs.cons opT4 (OpensFs.cons opT34 (OpensFs.cons opT9 (OpensFs.one opT9)))) (fun x : S39 => (x.f0, x.f1, x.f2, x.f3)) (fun p => ⟨p.1, p.2.1, p.2.2.1, p.2.2.2⟩) (fun _ => rfl)
theorem opT23 : Opens Tryz.prog 23 (Kd.slice 39 k39) (fun x => (x.length * 48 ≤ 140737488351232 ∧ ∀ z1 ∈ x, OG39 z1)) := opens_slice (B := 48) Tryz.underlying23 (by kernel_rfl) (by kernel_rfl) opT39
def Qao.Pure : Prop := ∀ (x0 : Int) (x1 : Int) (x2 : List (S39)), (Lit.int .u8 x0).wf = true → (Lit.int .u32 x1).wf = true → (x2.length * 48 ≤ 140737488351232 ∧ ∀ z2 ∈ x2, OG39 z2) → ∃ k, Qao.f k x0 x1 x2 = some true
end Go.Proofs.YtnnofopfbeklbaaGreat.C
end
section
namespace Go.Proofs.YtnnofopfbeklbaaGreat.CodecP
open Go.RowKit Go.Proofs.YtnnofopfbeklbaaGreat.C Go.Proofs.YtnnofopfbeklbaaGreatW.PrintWords Go.Proofs.YtnnofopfbeklbaaGreatW.PrintLast Go.Proofs.YtnnofopfbeklbaaGreatW.PrintMore
def rotN (x n : Nat) : Nat := (x % 2 ^ (64 - n)) * 2 ^ n + x / 2 ^ (64 - n)
theorem rotN_lt (x n : Nat) (hx : x < 2 ^ 64) (hn : n ≤ 64) : rotN x n < 2 ^ 64 := by
 unfold rotN
 have hp : (2 : Nat) ^ (64 - n) * 2 ^ n = 2 ^ 64 := by rw [← Nat.pow_add]; congr 1; omega
 have h1 : x % 2 ^ (64 - n) < 2 ^ (64 - n) := Nat.mod_lt _ (Nat.two_pow_pos _)
 have h2 : x / 2 ^ (64 - n) < 2 ^ n := by rw [Nat.div_lt_iff_lt_mul (Nat.two_pow_pos _), Nat.mul_comm, hp]; exact hx
 have h3 : (x % 2 ^ (64 - n)) * 2 ^ n + 2 ^ n ≤ 2 ^ (64 - n) * 2 ^ n := by
  rw [← Nat.succ_mul]
  exact Nat.mul_le_mul_right _ h1
 omega
theorem rot_step (x i : Nat) (hx : x < 2 ^ 64) (hi : i < 64) : (2 * rotN x i) % 2 ^ 64 + rotN x i / 2 ^ 63 = rotN x (i + 1) := by
 unfold rotN
 obtain ⟨m, hm⟩ : ∃ m, m = 63 - i := ⟨_, rfl⟩
 rw [show 64 - i = m + 1 by omega, show 64 - (i + 1) = m by omega]
 have hp : (2 : Nat) ^ m * 2 ^ i = 2 ^ 63 := by rw [← Nat.pow_add]; congr 1; omega
 rw [Nat.pow_succ 2 m, Nat.pow_succ 2 i]
 generalize hP : (2 : Nat) ^ m = P at *
 generalize hQ : (2 : Nat) ^ i = Q at *
 have hP0 : 0 < P := by rw [← hP]; exact Nat.two_pow_pos _
 have hQ0 : 0 < Q := by rw [← hQ]; exact Nat.two_pow_pos _
 obtain ⟨a, ha⟩ : ∃ a, a = x / (P * 2) := ⟨_, rfl⟩
 obtain ⟨b, hb⟩ : ∃ b, b = x % (P * 2) := ⟨_, rfl⟩
 have hxab : x = P * 2 * a + b := by rw [ha, hb]; exact (Nat.div_add_mod x (P * 2)).symm
 have hbl : b < P * 2 := by rw [hb]; exact Nat.mod_lt _ (by omega)
 have haQ : a < Q := by
  rw [ha, Nat.div_lt_iff_lt_mul (by omega), Nat.mul_comm, Nat.mul_assoc, Nat.mul_comm 2 Q, ← Nat.mul_assoc, hp]
  omega
 obtain ⟨c, hc⟩ : ∃ c, c = b / P := ⟨_, rfl⟩
 obtain ⟨d, hd⟩ : ∃ d, d = b % P := ⟨_, rfl⟩
 have hbcd : b = P * c + d := by rw [hc, hd]; exact (Nat.div_add_mod b P).symm
 have hdl : d < P := by rw [hd]; exact Nat.mod_lt _ hP0
 have hcl : c < 2 := by rw [hc, Nat.div_lt_iff_lt_mul hP0, Nat.mul_comm]; exact hbl
 have hxP : x / P = 2 * a + c := by
  rw [hxab, hbcd, show P * 2 * a + (P * c + d) = P * (2 * a + c) + d by rw [Nat.mul_add, Nat.mul_assoc, Nat.add_assoc], Nat.mul_add_div hP0, Nat.div_eq_of_lt hdl]
  rfl
 have hxm : x % P = d := by
  rw [hxab, hbcd, show P * 2 * a + (P * c + d) = P * (2 * a + c) + d by rw [Nat.mul_add, Nat.mul_assoc, Nat.add_assoc], Nat.mul_add_mod, Nat.mod_eq_of_lt hdl]
 rw [← ha, ← hb, hxP, hxm]
 have he : d * Q + a < 2 ^ 63 := by
  have : d * Q + Q ≤ P * Q := by rw [← Nat.succ_mul]; exact Nat.mul_le_mul_right _ hdl
  omega
 have hbq : b * Q + a = 2 ^ 63 * c + (d * Q + a) := by
  rw [hbcd, Nat.add_mul, Nat.mul_assoc, Nat.mul_comm c Q, ← Nat.mul_assoc, hp, Nat.add_assoc]
 rw [hbq, show d * (Q * 2) = 2 * (d * Q) by rw [← Nat.mul_assoc, Nat.mul_comm]]
 generalize d * Q = q at *
 clear hp hbq hxab hbcd hbl
 have : c = 0 ∨ c = 1 := by omega
 rcases this with rfl | rfl <;> omega
theorem rotP_nat (x n : Nat) (hx : x < 2 ^ 64) (h0 : 0 < n) (hn : n < 64) : rotP (x : Int) (n : Int) = (rotN x n : Nat) := by
 have hand : Go.bits .and .u64 (IntKind.u64.wrap (n : Int)) 63 = (n : Int) := by
  rw [IntWalk.u64_in _ (by omega), show (63 : Int) = ((63 : Nat) : Int) from rfl, bits_and_u64_nat _ _ (by omega) (by decide)]
  have := Nat.and_two_pow_sub_one_eq_mod n 6
  rw [show (63 : Nat) = 2 ^ 6 - 1 from rfl, this, Nat.mod_eq_of_lt (by omega)]
 have h := rot_is (x : Int) (n : Int) ⟨by omega, by omega, hand⟩
 unfold Qac.f at h
 rw [hand, if_pos (by omega), IntWalk.u64_in _ (by omega), if_pos (by omega), Option.some_inj] at h
 rw [← h]
 unfold shl shr rotN
 have e1 : min (n : Int).toNat IntKind.u64.bits = n := by simp [IntKind.bits]; omega
 have e2 : min ((64 : Int) - (n : Int)).toNat IntKind.u64.bits = 64 - n := by simp [IntKind.bits] <;> omega
 rw [e1, e2, IntKind.wrap_u64]
 have e3 : ((x : Int) * 2 ^ n) % 18446744073709551616 = (((x % 2 ^ (64 - n)) * 2 ^ n : Nat) : Int) := by
  rw [← Nat.mul_mod_mul_right, ← Nat.pow_add, show 64 - n + n = 64 by omega]
  rw [Int.natCast_emod, Int.natCast_mul, Int.natCast_pow]
  rfl
 have e4 : (x : Int) / 2 ^ (64 - n) = ((x / 2 ^ (64 - n) : Nat) : Int) := by rw [Int.natCast_ediv, Int.natCast_pow]; rfl
 rw [e3, e4]
 have hp : (2 : Nat) ^ (64 - n) * 2 ^ n = 2 ^ 64 := by rw [← Nat.pow_add]; congr 1; omega
 have h1 : x % 2 ^ (64 - n) < 2 ^ (64 - n) := Nat.mod_lt _ (Nat.two_pow_pos _)
 have h2 : x / 2 ^ (64 - n) < 2 ^ n := by rw [Nat.div_lt_iff_lt_mul (Nat.two_pow_pos _), Nat.mul_comm, hp]; exact hx
 have h3 : (x % 2 ^ (64 - n)) * 2 ^ n + 2 ^ n ≤ 2 ^ (64 - n) * 2 ^ n := by
  rw [← Nat.succ_mul]
  exact Nat.mul_le_mul_right _ h1
 have hq := Nat.two_pow_pos n
 rw [bits_or_u64_nat _ _ (by omega) (by omega)]
 congr 1
 rw [Nat.mul_comm, ← Nat.two_pow_add_eq_or_of_lt h2]
theorem turnP_nat (x n : Nat) (hx : x < 2 ^ 64) (hn : n ≤ 64) : Qja (x : Int) n = (rotN x n : Nat) := by
 have key : ∀ (d i : Nat), i + d = n → Qay.l0 (d + 1) ((rotN x i : Nat) : Int) (n : Int) (i : Int) = some ((rotN x n : Nat) : Int) := by
  intro d
  induction d with
  | zero =>
   intro i h
   unfold Qay.l0
   obtain rfl : i = n := by omega
   rw [if_neg (by omega)]
  | succ d ih =>
   intro i h
   unfold Qay.l0
   rw [if_pos (by omega), show wrap64 ((i : Int) + 1) = ((i + 1 : Nat) : Int) by unfold wrap64; omega]
   have hl := rotN_lt x i hx (by omega)
   have hs := rot_step x i hx (by omega)
   have e : IntKind.u64.wrap ((IntKind.u64.wrap (2 * ((rotN x i : Nat) : Int))) + (IntKind.u64.wrap (Int.tdiv ((rotN x i : Nat) : Int) 9223372036854775808))) = ((rotN x (i + 1) : Nat) : Int) := by
    rw [← hs, Int.tdiv_eq_ediv_of_nonneg (by omega)]
    generalize rotN x i = y at *
    simp only [IntKind.wrap_u64]
    omega
   rw [e]
   exact ih (i + 1) (by omega)
 have h0 : rotN x 0 = x := by simp [rotN, Nat.mod_eq_of_lt hx, Nat.div_eq_of_lt hx]
 have := key n 0 (by omega)
 rw [h0] at this
 unfold Qja Qay.f
 rw [show ((0 : Nat) : Int) = 0 from rfl] at this
 rw [this]
 rfl
theorem Qjl (x : Int) (n : Nat) (hx0 : 0 ≤ x) (hx : x < 18446744073709551616) (h0 : 0 < n) (hn : n < 64) : Qja x n = rotP x (n : Int) := by
 obtain ⟨y, rfl⟩ := Int.eq_ofNat_of_zero_le hx0
 rw [turnP_nat y n (by omega) (by omega), rotP_nat y n (by omega) h0 hn]
theorem u64r (x : Int) : 0 ≤ IntKind.u64.wrap x ∧ IntKind.u64.wrap x < 18446744073709551616 := by
 rw [IntKind.wrap_u64]
 omega
theorem Qjm (x y : Int) : Qjb x y = Qgy x y := by
 unfold Qjb Qgy Qaw.f Qcm.f
 rw [show (32 : Nat) = 31 + 1 from rfl, show (31 : Int) = ((31 : Nat) : Int) from rfl, turn_is _ 31 (by omega)]
 have hw := u64r (x + (IntKind.u64.wrap (y * 14029467366897019727)))
 rw [Qjl _ 31 hw.1 hw.2 (by omega) (by omega), rot_is _ _ ⟨by decide, by decide, by kernel_rfl⟩]
def leI : List Int → Int
 | [] => 0
 | b :: l => b + 256 * leI l
def Bytes (l : List Int) : Prop := ∀ x ∈ l, 0 ≤ x ∧ x < 256
theorem Qjn (s : ByteArray) : Bytes (bytesOf s) := by
 intro x hx
 unfold bytesOf at hx
 obtain ⟨b, _, rfl⟩ := List.mem_map.1 hx
 have := b.toNat_lt
 omega
theorem Bytes.drop {l : List Int} (h : Bytes l) (n : Nat) : Bytes (l.drop n) := fun x hx => h x (List.mem_of_mem_drop hx)
theorem Bytes.take {l : List Int} (h : Bytes l) (n : Nat) : Bytes (l.take n) := fun x hx => h x (List.mem_of_mem_take hx)
theorem Qjo {l : List Int} (h : Bytes l) : 0 ≤ leI l ∧ leI l < 256 ^ l.length := by
 induction l with
 | nil => simp [leI]
 | cons b l ih =>
  have h1 := ih (fun x hx => h x (List.mem_cons_of_mem _ hx))
  have h2 := h b (List.mem_cons_self ..)
  simp only [leI, List.length_cons, Int.pow_succ]
  omega
theorem leI_snoc (l : List Int) (b : Int) : leI (l ++ [b]) = leI l + 256 ^ l.length * b := by
 induction l with
 | nil => simp [leI]
 | cons a l ih => simp only [List.cons_append, leI, ih, List.length_cons, Int.pow_succ]; rw [Int.mul_add, Int.mul_comm (256 ^ l.length) 256, Int.mul_assoc]; omega
theorem Qjp {l : List Int} {i : Nat} (h : i < l.length) : rd l (i : Int) = l[i] := by simp [rd, List.getD, List.getElem?_eq_getElem h]
theorem take_rd {l : List Int} {i : Nat} (h : i < l.length) : l.take (i + 1) = l.take i ++ [rd l (i : Int)] := by rw [List.take_succ_eq_append_getElem h, Qjp h]
theorem rd_range {l : List Int} (hb : Bytes l) {i : Nat} (h : i < l.length) : 0 ≤ rd l (i : Int) ∧ rd l (i : Int) < 256 := by rw [Qjp h]; exact hb _ (List.getElem_mem h)
theorem num_le (n : Nat) (hn : n ≤ 8) (l : List Int) (hb : Bytes l) (hl : n ≤ l.length) : numP n l = leI (l.take n) := by
 have key : ∀ (d i : Nat), i + d = n → Qcn.l0 (d + 1) l (leI (l.take i)) (n : Int) (i : Int) = some (leI (l.take n)) := by
  intro d
  induction d with
  | zero =>
   intro i h
   unfold Qcn.l0
   obtain rfl : i = n := by omega
   rw [if_neg (by omega)]
  | succ d ih =>
   intro i h
   unfold Qcn.l0
   have hw : wrap64 (8 * (i : Int)) = ((8 * i : Nat) : Int) := by unfold wrap64; omega
   rw [if_pos (by omega), if_pos (by omega), if_pos (by omega), hw, if_pos (by omega), show wrap64 ((i : Int) + 1) = ((i + 1 : Nat) : Int) by unfold wrap64; omega]
   have hr := Qjo (hb.take i)
   have hlen : (l.take i).length = i := by rw [List.length_take]; omega
   rw [hlen] at hr
   have hd := rd_range hb (show i < l.length by omega)
   have e : Go.bits .or .u64 (leI (l.take i)) (shl .u64 (IntKind.u64.wrap (rd l (i : Int))) ((8 * i : Nat) : Int)) = leI (l.take (i + 1)) := by
    rw [take_rd (by omega), leI_snoc, hlen, IntWalk.u64_in _ (by omega)]
    generalize rd l (i : Int) = b at *
    generalize leI (l.take i) = a at *
    obtain ⟨a, rfl⟩ := Int.eq_ofNat_of_zero_le hr.1
    obtain ⟨b, rfl⟩ := Int.eq_ofNat_of_zero_le hd.1
    have hp : (256 : Nat) ^ i = 2 ^ (8 * i) := by rw [Nat.pow_mul]
    have ha : a < 2 ^ (8 * i) := by
     have := hr.2
     rw [← hp]
     exact_mod_cast this
    have hbig : b * 2 ^ (8 * i) < 2 ^ 64 := by
     have h1 : b * 2 ^ (8 * i) < 2 ^ 8 * 2 ^ (8 * i) := Nat.mul_lt_mul_of_pos_right (by omega) (Nat.two_pow_pos _)
     have h2 : (2 : Nat) ^ 8 * 2 ^ (8 * i) ≤ 2 ^ 64 := by rw [← Nat.pow_add]; exact Nat.pow_le_pow_right (by omega) (by omega)
     omega
    have ha2 : a < 2 ^ 64 := by
     have h2 : (2 : Nat) ^ (8 * i) ≤ 2 ^ 64 := Nat.pow_le_pow_right (by omega) (by omega)
     omega
    unfold shl
    rw [show min ((8 * i : Nat) : Int).toNat IntKind.u64.bits = 8 * i by simp [IntKind.bits]; omega, IntKind.wrap_u64]
    have e1 : ((b : Int) * 2 ^ (8 * i)) % 18446744073709551616 = ((2 ^ (8 * i) * b : Nat) : Int) := by
     have e2 : ((b : Int) * 2 ^ (8 * i)) = ((b * 2 ^ (8 * i) : Nat) : Int) := by push_cast; rfl
     rw [e2, Nat.mul_comm (2 ^ (8 * i)) b]
     omega
    rw [e1, bits_or_u64_nat _ _ (by omega) (by rw [Nat.mul_comm]; omega), Nat.or_comm, ← Nat.two_pow_add_eq_or_of_lt ha]
    have e3 : ((256 : Int) ^ i * (b : Int)) = ((256 ^ i * b : Nat) : Int) := by push_cast; rfl
    rw [e3, hp]
    omega
   rw [e]
   exact ih (i + 1) (by omega)
 have := key n 0 (by omega)
 unfold numP Qcn.f
 rw [show leI (l.take 0) = 0 from rfl, show ((0 : Nat) : Int) = 0 from rfl] at this
 rw [this]
 rfl
theorem Qjq (s : ByteArray) (a b : Nat) : bytesOf (s.extract a b) = ((bytesOf s).drop a).take (b - a) := by
 unfold bytesOf
 rw [← List.map_drop, ← List.map_take]
 congr 1
 have : (s.extract a b).data = s.data.extract a b := by simp
 rw [this, Array.toList_extract]
theorem Qjr (s : ByteArray) : s.size = (bytesOf s).length := (Qcy s).symm
theorem val_le (s : ByteArray) (hs : s.size ≤ 8) : rval s = leI (bytesOf s) := by
 have hB := Qjn s
 have hlen := Qcy s
 have key : ∀ (d : Nat) (x : Int), d ≤ s.size → 0 ≤ x → x * 256 ^ d + leI ((bytesOf s).take d) < 18446744073709551616 →
   Qar.l0 (d + 1) s x ((d : Int) - 1) = some (x * 256 ^ d + leI ((bytesOf s).take d)) := by
  intro d
  induction d with
  | zero =>
   intro x h h0 hx
   unfold Qar.l0
   rw [if_neg (by omega)]
   simp [leI]
  | succ d ih =>
   intro x h h0 hx
   unfold Qar.l0
   rw [show ((d + 1 : Nat) : Int) - 1 = (d : Int) by omega, if_pos (by omega), if_pos (by omega), if_pos (by omega), show wrap64 ((d : Int) - 1) = (d : Int) - 1 by unfold wrap64; omega]
   have hd := rd_range hB (show d < (bytesOf s).length by omega)
   have hr := Qjo (hB.take d)
   rw [Qcz] at hd
   have e2 : leI ((bytesOf s).take (d + 1)) = leI ((bytesOf s).take d) + 256 ^ d * bt s (d : Int) := by
    rw [take_rd (by omega), leI_snoc, Qcz, List.length_take, Nat.min_eq_left (by omega)]
   have e3 : x * 256 ^ (d + 1) + leI ((bytesOf s).take (d + 1)) = (x * 256 + bt s (d : Int)) * 256 ^ d + leI ((bytesOf s).take d) := by
    rw [e2, Int.pow_succ, Int.add_mul, Int.mul_comm (256 ^ d) 256, ← Int.mul_assoc, Int.mul_comm (256 ^ d) (bt s (d : Int))]
    omega
   rw [e3] at hx ⊢
   have hpow : (1 : Int) ≤ 256 ^ d := by
    have := Nat.one_le_pow d 256 (by omega)
    exact_mod_cast this
   have hle : x * 256 + bt s (d : Int) ≤ (x * 256 + bt s (d : Int)) * 256 ^ d := by
    have h1 : 0 ≤ x * 256 + bt s (d : Int) := by omega
    calc x * 256 + bt s (d : Int) = (x * 256 + bt s (d : Int)) * 1 := by omega
     _ ≤ _ := Int.mul_le_mul_of_nonneg_left hpow h1
   have e4 : IntKind.u64.wrap ((IntKind.u64.wrap (x * 256)) + (IntKind.u64.wrap (bt s (d : Int)))) = x * 256 + bt s (d : Int) := by
    rw [IntWalk.u64_in (x * 256) (by omega), IntWalk.u64_in (bt s (d : Int)) (by omega), IntWalk.u64_in _ (by omega)]
   rw [e4]
   exact ih (x * 256 + bt s (d : Int)) (by omega) (by omega) hx
 have hr := Qjo hB
 have hp : (256 : Int) ^ (bytesOf s).length ≤ 18446744073709551616 := by
  have h1 : (256 : Nat) ^ (bytesOf s).length ≤ 256 ^ 8 := Nat.pow_le_pow_right (by omega) (by omega)
  have h2 : (256 : Nat) ^ 8 = 18446744073709551616 := by decide
  rw [h2] at h1
  have h3 : ((256 ^ (bytesOf s).length : Nat) : Int) ≤ ((18446744073709551616 : Nat) : Int) := Int.ofNat_le.2 h1
  rw [Int.natCast_pow] at h3
  exact h3
 have hall : (bytesOf s).take s.size = bytesOf s := List.take_of_length_le (by omega)
 have h := key s.size 0 (Nat.le_refl _) (Int.le_refl _) (by rw [hall]; omega)
 rw [hall] at h
 unfold rval Qar.f
 rw [show wrap64 ((s.size : Int) - 1) = (s.size : Int) - 1 by unfold wrap64; omega, h]
 simp
theorem val_ext (s : ByteArray) (a b : Nat) (h : b - a ≤ 8) : rval (s.extract a b) = leI (((bytesOf s).drop a).take (b - a)) := by
 rw [val_le _ (Nat.le_trans (Qjh s a b) h), Qjq]
theorem Qjs (s : ByteArray) (a n : Nat) (hn : n ≤ 8) (h : a + n ≤ s.size) : rval (s.extract a (a + n)) = numP n ((bytesOf s).drop a) := by
 rw [val_ext s a (a + n) (by omega), num_le n hn _ ((Qjn s).drop a) (by rw [List.length_drop, Qcy]; omega), Nat.add_sub_cancel_left]
def R64 (x : Int) : Prop := 0 ≤ x ∧ x < 18446744073709551616
def RV (v : V4) : Prop := R64 v.1 ∧ R64 v.2.1 ∧ R64 v.2.2.1 ∧ R64 v.2.2.2
theorem intoP_r (x y : Int) : R64 (Qgy x y) := by
 unfold Qgy Qcm.f
 rw [rot_is _ _ ⟨by decide, by decide, by kernel_rfl⟩]
 exact u64r _
theorem stripe_r (v : V4) (l : List Int) : RV (Qgz v l) := ⟨intoP_r _ _, intoP_r _ _, intoP_r _ _, intoP_r _ _⟩
theorem Qjt (v : V4) (s : ByteArray) (h : 32 ≤ s.size) : Qjd v s = Qgz v (bytesOf s) := by
 unfold Qjd Qgz
 have h0 := Qjs s 0 8 (by omega) (by omega)
 have h1 := Qjs s 8 8 (by omega) (by omega)
 have h2 := Qjs s 16 8 (by omega) (by omega)
 have h3 := Qjs s 24 8 (by omega) (by omega)
 simp only [Qjm]
 rw [show (8 : Nat) = 0 + 8 from rfl, h0, show (0 + 8 : Nat) = 8 from rfl, h1, h2, h3]
 rfl
theorem run_same : ∀ (m : Nat) (v : V4) (s : ByteArray), 32 * m ≤ s.size → RV v → (rrun m v s).1 = Qha m v (bytesOf s) ∧ bytesOf (rrun m v s).2 = (bytesOf s).drop (32 * m) ∧ RV (Qha m v (bytesOf s))
 | 0, v, s, _, hv => ⟨rfl, by simp [rrun], hv⟩
 | m + 1, v, s, h, hv => by
  have hsz : (s.extract 32 s.size).size = s.size - 32 := by simp
  have hb : bytesOf (s.extract 32 s.size) = (bytesOf s).drop 32 := by
   rw [Qjq]
   exact List.take_of_length_le (by rw [List.length_drop, Qcy]; omega)
  obtain ⟨h1, h2, h3⟩ := run_same m (Qjd v s) (s.extract 32 s.size) (by omega) (by rw [Qjt v s (by omega)]; exact stripe_r _ _)
  rw [hb, Qjt v s (by omega)] at h1 h3
  refine ⟨?_, ?_, h3⟩
  ·show (rrun m (Qjd v s) (s.extract 32 s.size)).1 = Qha m (Qgz v (bytesOf s)) ((bytesOf s).drop 32)
   rw [Qjt v s (by omega)]
   exact h1
  ·show bytesOf (rrun m (Qjd v s) (s.extract 32 s.size)).2 = _
   rw [h2, hb, List.drop_drop]
   congr 1
   omega
theorem rotP_r (x : Int) (n : Nat) (hx : R64 x) (h0 : 0 < n) (hn : n < 64) : R64 (rotP x (n : Int)) := by
 obtain ⟨hx0, hx1⟩ := hx
 obtain ⟨y, rfl⟩ := Int.eq_ofNat_of_zero_le hx0
 rw [rotP_nat y n (by omega) h0 hn]
 have := rotN_lt y n (by omega) (by omega)
 unfold R64
 omega
theorem sum_same (V : V4) (hV : RV V) : rsum V = Qhv 4 V := by
 obtain ⟨h1, h2, h3, h4⟩ := hV
 rw [sumTo_4, sumTo_3, sumTo_2, sumTo_1, sumTo_0]
 unfold rsum
 have r1 := rotP_r V.1 1 h1 (by omega) (by omega)
 rw [Qjl _ 1 h1.1 h1.2 (by omega) (by omega), Qjl _ 7 h2.1 h2.2 (by omega) (by omega), Qjl _ 12 h3.1 h3.2 (by omega) (by omega), Qjl _ 18 h4.1 h4.2 (by omega) (by omega)]
 rw [Int.zero_add, show ((1 : Nat) : Int) = 1 from rfl, show ((7 : Nat) : Int) = 7 from rfl, show ((12 : Nat) : Int) = 12 from rfl, show ((18 : Nat) : Int) = 18 from rfl]
 rw [show ((1 : Nat) : Int) = 1 from rfl] at r1
 rw [IntWalk.u64_in (rotP V.1 1) ⟨r1.1, by have := r1.2; omega⟩]
theorem mix_same (h : Int) (V : V4) : rmix h V = Qhw 4 h V := by
 rw [mixTo_4, mixTo_3, mixTo_2, mixTo_1, mixTo_0]
 unfold rmix Qje mixP
 simp only [Qjm]
theorem turn_k {k : Nat} (x : Int) (n : Nat) (hx : R64 x) (h0 : 0 < n) (hn : n < 64) (hk : n + 1 ≤ k) : Qay.f k x (n : Int) = some (rotP x (n : Int)) := by
 rw [← Qjl x n hx.1 hx.2 h0 hn]
 exact Qdd (g := fun k => Qay.f k x (n : Int)) (Qay.mono x (n : Int)) hk (turn_is x n (by omega))
theorem into_k {k : Nat} (x y : Int) (hk : 32 ≤ k) : Qaw.f k x y = some (Qgy x y) := by
 rw [← Qjm]
 exact Qdd (g := fun k => Qaw.f k x y) (Qaw.mono x y) hk (rinto_is x y)
theorem val_k {k : Nat} (s : ByteArray) (a n : Nat) (hn : n ≤ 8) (h : a + n ≤ s.size) (hk : 9 ≤ k) : Qar.f k (s.extract a (a + n)) = some (numP n ((bytesOf s).drop a)) := by
 rw [← Qjs s a n hn h]
 have hs : (s.extract a (a + n)).size ≤ 8 := Nat.le_trans (Qjh s a (a + n)) (by omega)
 exact Qdd (g := fun k => Qar.f k (s.extract a (a + n))) (Qar.mono _) (by omega) (rval_is _ (by omega))
theorem mix_k {k : Nat} (x : Int) (n : Nat) (hx : R64 x) (hn : n < 64) (hk : n + 1 ≤ k) : Qax.f k x (n : Int) = some (Go.bits .xor .u64 x (x / 2 ^ n)) := by
 have key : ∀ (d i : Nat), i + d = n → Qax.l0 (d + 1) x (x / 2 ^ i) (n : Int) (i : Int) = some (Go.bits .xor .u64 x (x / 2 ^ n)) := by
  intro d
  induction d with
  | zero =>
   intro i h
   unfold Qax.l0
   obtain rfl : i = n := by omega
   rw [if_neg (by omega)]
  | succ d ih =>
   intro i h
   unfold Qax.l0
   have hq : 0 ≤ x / 2 ^ i := Int.ediv_nonneg hx.1 (Int.pow_nonneg (by decide))
   have hql : x / 2 ^ i ≤ x := Int.ediv_le_self _ hx.1
   have hx1 := hx.2
   rw [if_pos (by omega), show wrap64 ((i : Int) + 1) = ((i + 1 : Nat) : Int) by unfold wrap64; omega, Int.tdiv_eq_ediv_of_nonneg hq]
   have e : IntKind.u64.wrap (x / 2 ^ i / 2) = x / 2 ^ (i + 1) := by
    rw [IntWalk.u64_in _ (by omega), Int.pow_succ, Int.ediv_ediv_of_nonneg (Int.pow_nonneg (by decide))]
   rw [e]
   exact ih (i + 1) (by omega)
 have h := key n 0 (by omega)
 rw [show x / 2 ^ 0 = x by simp, show ((0 : Nat) : Int) = 0 from rfl] at h
 exact Qdd (g := fun k => Qax.f k x (n : Int)) (Qax.mono x (n : Int)) hk h
theorem one1_r (h x : Int) : R64 (one1 h x) := u64r _
theorem one4_r (h : Int) (l : List Int) : R64 (one4 h l) := u64r _
theorem one8_r (h : Int) (l : List Int) : R64 (one8 h l) := u64r _
theorem bits_r (op : BinOp) (x y : Int) : R64 (Go.bits op .u64 x y) := (by unfold Go.bits; split <;> exact u64r _)
theorem fin_k {k : Nat} (h : Int) (hh : R64 h) (hk : 34 ≤ k) : ((Qax.f k h 33).bind fun t335 => ((Qax.f k (IntKind.u64.wrap (t335 * 14029467366897019727)) 29).bind fun t336 => ((Qax.f k (IntKind.u64.wrap (t336 * 1609587929392839161)) 32).bind fun t337 => (some t337)))) = some (finP h) := by
 rw [show (33 : Int) = ((33 : Nat) : Int) from rfl, mix_k h 33 hh (by omega) (by omega), Option.bind_some]
 rw [show (29 : Int) = ((29 : Nat) : Int) from rfl, mix_k _ 29 (u64r _) (by omega) (by omega), Option.bind_some]
 rw [show (32 : Int) = ((32 : Nat) : Int) from rfl, mix_k _ 32 (u64r _) (by omega) (by omega), Option.bind_some]
 rfl
theorem sum_l2 (s : ByteArray) (hs : s.size ≤ 4611686018427387904) : ∀ (d i k : Nat) (h : Int), i + d = s.size → R64 h → d + 40 ≤ k → Qau.l2 k s h (i : Int) = some (finP (((bytesOf s).drop i).foldl one1 h))
 | 0, i, k, h, hi, hh, hk => by
  obtain ⟨k, rfl⟩ : ∃ m, k = m + 1 := ⟨k - 1, by omega⟩
  unfold Qau.l2
  rw [if_neg (by omega), fin_k h hh (by omega), List.drop_of_length_le (by rw [Qcy]; omega)]
  rfl
 | d + 1, i, k, h, hi, hh, hk => by
  obtain ⟨k, rfl⟩ : ∃ m, k = m + 1 := ⟨k - 1, by omega⟩
  unfold Qau.l2
  rw [if_pos (by omega), if_pos (by omega), show (11 : Int) = ((11 : Nat) : Int) from rfl, turn_k _ 11 (bits_r _ _ _) (by omega) (by omega) (by omega), Option.bind_some, show wrap64 ((i : Int) + 1) = ((i + 1 : Nat) : Int) by unfold wrap64; omega]
  have := sum_l2 s hs d (i + 1) k (one1 h (bt s (i : Int))) (by omega) (one1_r _ _) (by omega)
  rw [List.drop_eq_getElem_cons (by rw [Qcy]; omega), List.foldl_cons, ← Qjp (l := bytesOf s) (by rw [Qcy]; omega), Qcz]
  exact this
theorem sum_l1a (s : ByteArray) (hs : s.size < 4) (k : Nat) (h : Int) (hh : R64 h) (hk : 60 ≤ k) : Qau.l1 k s h = some (finP ((bytesOf s).foldl one1 h)) := by
 obtain ⟨k, rfl⟩ : ∃ m, k = m + 1 := ⟨k - 1, by omega⟩
 unfold Qau.l1
 rw [if_neg (by omega)]
 have := sum_l2 s (by omega) s.size 0 k h (by omega) hh (by omega)
 exact this
theorem drop_size (s : ByteArray) (a : Nat) : (s.extract a s.size).size = s.size - a := by simp
theorem Qju (s : ByteArray) (a : Nat) : bytesOf (s.extract a s.size) = (bytesOf s).drop a := by
 rw [Qjq]
 exact List.take_of_length_le (by rw [List.length_drop, Qcy]; omega)
theorem sum_l1 (s : ByteArray) (hs : s.size < 8) (k : Nat) (h : Int) (hh : R64 h) (hk : 70 ≤ k) : Qau.l1 k s h = some (if 4 ≤ (bytesOf s).length then finP (((bytesOf s).drop 4).foldl one1 (one4 h (bytesOf s))) else finP ((bytesOf s).foldl one1 h)) := by
 by_cases h4 : 4 ≤ s.size
 ·obtain ⟨k, rfl⟩ : ∃ m, k = m + 1 := ⟨k - 1, by omega⟩
  unfold Qau.l1
  rw [if_pos (by omega), if_pos (by omega), if_pos (by omega)]
  have hv := val_k (k := k) s 0 4 (by omega) (by omega) (by omega)
  rw [Nat.zero_add, List.drop_zero] at hv
  rw [hv, Option.bind_some, show (23 : Int) = ((23 : Nat) : Int) from rfl, turn_k _ 23 (bits_r _ _ _) (by omega) (by omega) (by omega), Option.bind_some, if_pos (by rw [Qcy]; omega), ← Qju]
  exact sum_l1a (s.extract 4 s.size) (by rw [drop_size]; omega) k (one4 h (bytesOf s)) (one4_r _ _) (by omega)
 ·rw [if_neg (by rw [Qcy]; omega)]
  exact sum_l1a s (by omega) k h hh (by omega)
theorem sumP_step (h : Int) (l : List Int) (hl : 8 ≤ l.length) : sumP h l = sumP (one8 h l) (l.drop 8) := by
 unfold sumP
 obtain ⟨m, hm⟩ : ∃ m, l.length / 8 = m + 1 := ⟨l.length / 8 - 1, by omega⟩
 have hm' : (l.drop 8).length / 8 = m := by rw [List.length_drop]; omega
 have hd : (l.drop 8).drop (8 * m) = l.drop (8 * (m + 1)) := by rw [List.drop_drop]; congr 1; omega
 rw [hm, hm', hd]
 rfl
theorem sum_l0 : ∀ (m k : Nat) (s : ByteArray) (h : Int), s.size / 8 = m → R64 h → m + 90 ≤ k → Qau.l0 k s h = some (sumP h (bytesOf s))
 | 0, k, s, h, hm, hh, hk => by
  obtain ⟨k, rfl⟩ : ∃ m, k = m + 1 := ⟨k - 1, by omega⟩
  unfold Qau.l0
  rw [if_neg (by omega), sum_l1 s (by omega) k h hh (by omega)]
  unfold sumP
  rw [show (bytesOf s).length / 8 = 0 by rw [Qcy]; exact hm]
  simp only [Nat.mul_zero, List.drop_zero, tail8]
 | m + 1, k, s, h, hm, hh, hk => by
  obtain ⟨k, rfl⟩ : ∃ m, k = m + 1 := ⟨k - 1, by omega⟩
  unfold Qau.l0
  rw [if_pos (by omega), if_pos (by omega), if_pos (by omega)]
  have hv := val_k (k := k) s 0 8 (by omega) (by omega) (by omega)
  rw [Nat.zero_add, List.drop_zero] at hv
  rw [hv, Option.bind_some, into_k _ _ (by omega), Option.bind_some, show (27 : Int) = ((27 : Nat) : Int) from rfl, turn_k _ 27 (bits_r _ _ _) (by omega) (by omega) (by omega), Option.bind_some]
  rw [sumP_step h _ (by rw [Qcy]; omega), ← Qju]
  exact sum_l0 m k (s.extract 8 s.size) (one8 h (bytesOf s)) (by rw [drop_size]; omega) (one8_r _ _) (by omega)
theorem hash_ref (sd : Int) (s : ByteArray) (k : Nat) (hsd : R64 sd) (hs : s.size ≤ 4611686018427387904) (hk : s.size + 100 ≤ k) : Qau.f k sd s = some (Qhz sd (bytesOf s)) := by
 unfold Qau.f Qhz
 rw [Qcy, IntWalk.u64_in (s.size : Int) (by omega)]
 by_cases h32 : 32 ≤ s.size
 ·rw [if_pos (by omega)]
  unfold Qav.f
  rw [if_pos (by omega), Option.bind_some]
  have hR : RV (Qjf sd) := ⟨u64r _, u64r _, hsd, u64r _⟩
  obtain ⟨h1, h2, h3⟩ := run_same (s.size / 32) (Qjf sd) s (by omega) hR
  obtain ⟨k, rfl⟩ : ∃ m, k = m + 1 := ⟨k - 1, by omega⟩
  have hj : ∀ a b c, Qau.j0 (k + 1) a b c = Qau.l0 k a (IntKind.u64.wrap (c + b)) := fun _ _ _ => rfl
  rw [hj]
  have hsz : (rrun (s.size / 32) (Qjf sd) s).2.size = s.size - 32 * (s.size / 32) := by
   rw [Qjr, h2, List.length_drop, Qcy]
  have := sum_l0 _ k (rrun (s.size / 32) (Qjf sd) s).2 (IntKind.u64.wrap (rmix (rsum (rrun (s.size / 32) (Qjf sd) s).1) (rrun (s.size / 32) (Qjf sd) s).1 + (s.size : Int))) rfl (u64r _) (by rw [hsz]; omega)
  rw [this, h2, h1, mix_same, sum_same _ h3]
  unfold Qhx
  rw [if_neg (by omega)]
  rfl
 ·rw [if_neg (by omega)]
  obtain ⟨k, rfl⟩ : ∃ m, k = m + 1 := ⟨k - 1, by omega⟩
  have hj : ∀ a b c, Qau.j0 (k + 1) a b c = Qau.l0 k a (IntKind.u64.wrap (c + b)) := fun _ _ _ => rfl
  rw [hj, sum_l0 _ k s _ rfl (u64r _) (by omega), show s.size / 32 = 0 by omega]
  unfold Qhx
  rw [if_pos (by omega)]
  rfl
end Go.Proofs.YtnnofopfbeklbaaGreat.CodecP
end
