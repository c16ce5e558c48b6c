/- Texts of this claim's author and of the print of its functions, merged by merge.py. -/
import Derived.Test.YtnnofopfbeklbaaGreatMD35
import Derived.Test.YtnnofopfbeklbaaGreatMD18
import Derived.Test.YtnnofopfbeklbaaGreatMD31
set_option linter.unusedVariables false
set_option linter.unusedSimpArgs false
set_option maxHeartbeats 8000000
set_option maxRecDepth 100000
section
namespace Go.Proofs.YtnnofopfbeklbaaGreat.CodecP
open Go.RowKit Go.Proofs.YtnnofopfbeklbaaGreat.C Go.Proofs.YtnnofopfbeklbaaGreatW.PrintWords Go.Proofs.YtnnofopfbeklbaaGreatW.PrintLast Go.Proofs.YtnnofopfbeklbaaGreatW.PrintMore
theorem rdL (xs : List (List Rec)) (i : Nat) (h : i < xs.length) : Qhc xs (i : Int) = xs[i] := by simp [Qhc, List.getElem?_eq_getElem h]
theorem rdL_last (done : List (List Rec)) (cur : List Rec) : Qhc (done ++ [cur]) (done.length : Int) = cur := by
 rw [rdL _ _ (by simp)]
 simp
theorem set_last (done : List (List Rec)) (cur x : List Rec) : (done ++ [cur]).set (done.length : Int).toNat x = done ++ [x] := by
 rw [Int.toNat_natCast, List.set_append_right _ _ (Nat.le_refl _), Nat.sub_self]
 rfl
theorem parts_run (l : List Rec) (into : List Int) (hl : l.length ≤ 1000000) (hil : into.length = l.length) : ∀ (d i k : Nat) (n : Int) (done : List (List Rec)) (cur : List Rec), i + d = l.length → 1 ≤ i → (done.length : Int) = n → done.length ≤ i → cur.length ≤ i → rd into ((i : Int) - 1) = n → Qmj into d i n → d + 1 ≤ k →
  Qbz.l0 k into (done ++ [cur]) l (l.length : Int) (i : Int) = some (done ++ Qmf into i (l.drop i) cur) := by
 intro d
 induction d with
 | zero =>
  intro i k n done cur hd hi hn hdl hcl hprev hst hk
  obtain ⟨k, rfl⟩ : ∃ m, k = m + 1 := ⟨k - 1, by omega⟩
  rw [Qbz.l0, if_neg (by omega), List.drop_of_length_le (by omega)]
  rfl
 | succ d ihd =>
  intro i k n done cur hd hi hn hdl hcl hprev hst hk
  obtain ⟨k, rfl⟩ : ∃ m, k = m + 1 := ⟨k - 1, by omega⟩
  have hlt : i < l.length := by omega
  obtain ⟨h1, h2⟩ := hst
  have hp1 : rd into (((i + 1 : Nat) : Int) - 1) = rd into (i : Int) := by rw [show ((i + 1 : Nat) : Int) - 1 = (i : Int) by omega]
  have hul : IntKind.u64.wrap (((done ++ [cur]).length : Nat) : Int) = n + 1 := by
   rw [IntWalk.u64_in _ (by rw [List.length_append]; simp <;> omega), List.length_append]
   simp
   omega
  rw [Qbz.l0, if_pos (by omega), if_pos (by omega), if_pos (by omega), if_pos (by omega), hul, List.drop_eq_getElem_cons hlt, Qkl i (by omega), rdR l i hlt]
  rcases h2 with ⟨hq, hst⟩ | ⟨hq, hst⟩
  ·rw [if_neg (by omega), if_pos (by omega), if_pos (by rw [List.length_append]; simp <;> omega), hq, ← hn, rdL_last, if_pos (by omega), set_last]
   have := ihd (i + 1) k n done (cur ++ [l[i]]) (by omega) (by omega) hn (by omega) (by simp <;> omega) (hp1.trans hq) hst (by omega)
   rw [Qmf, if_pos (hq.trans hprev.symm)]
   exact this
  ·have hdl2 : (((done ++ [cur]).length : Nat) : Int) = n + 1 := by rw [List.length_append]; simp <;> omega
   rw [if_pos (by omega), if_pos (by rw [List.length_append]; simp <;> omega), Option.bind_some, if_pos (by omega), if_pos (by rw [List.length_append]; simp <;> omega), hq, ← hdl2, rdL_last, if_pos (by simp), set_last]
   have := ihd (i + 1) k (n + 1) (done ++ [cur]) [l[i]] (by omega) (by omega) hdl2 (by rw [List.length_append]; simp <;> omega) (by simp <;> omega) (hp1.trans hq) hst (by omega)
   rw [Qmf, if_neg (by rw [hq, hprev]; omega)]
   have e2 : done ++ cur :: Qmf into (i + 1) (l.drop (i + 1)) [l[i]] = (done ++ [cur]) ++ Qmf into (i + 1) (l.drop (i + 1)) [l[i]] := by simp
   rw [e2]
   exact this
theorem parts_ref (l : List Rec) (into : List Int) (hl : l.length ≤ 1000000) (hil : into.length = l.length) (h : l ≠ [] → rd into 0 = 0 ∧ Qmj into (l.length - 1) 1 0) (k : Nat) (hk : l.length + 3 ≤ k) : Qbz.f k l into = some (Qmk into l) := by
 unfold Qbz.f
 obtain ⟨k, rfl⟩ : ∃ m, k = m + 1 := ⟨k - 1, by omega⟩
 cases l with
 | nil =>
  rw [Qbz.l0, if_neg (by simp)]
  rfl
 | cons r t =>
  obtain ⟨h0, hst⟩ := h (by simp)
  have hlt : 0 < (r :: t).length := by simp
  have h0' : rd into ((0 : Nat) : Int) = 0 := h0
  rw [show (0 : Int) = ((0 : Nat) : Int) from rfl, Qbz.l0, if_pos (by simp <;> omega), if_pos (by simp), if_pos (by simp <;> omega), if_pos (by rw [hil]; simp <;> omega), rdR _ 0 hlt, h0', Qkl 0 (by omega)]
  have hul : IntKind.u64.wrap ((([] : List (List Rec)).length : Nat) : Int) = 0 := rfl
  rw [hul, if_pos (by omega), if_pos (by simp), Option.bind_some, if_pos (by omega), if_pos (by simp)]
  have hq := rdL_last [] []
  have hz : (([] : List (List Rec)).length : Int) = 0 := rfl
  rw [hz] at hq
  rw [hq, if_pos (by simp)]
  have := parts_run (r :: t) into hl hil t.length 1 k 0 [] [r] (by simp <;> omega) (by omega) rfl (by simp) (by simp) h0 (by simpa using hst) (by simp at hk; omega)
  exact this
theorem chkL_of : ∀ {g : List Rec}, (∀ r ∈ g, chkR r = 0) → chkL g = 0
 | [], _ => rfl
 | r :: g, h => by
  have h1 := h r (List.mem_cons_self ..)
  have ih := chkL_of (g := g) (fun x hx => h x (List.mem_cons_of_mem _ hx))
  unfold chkL
  rw [h1, ih]
  simp
theorem AllG.drop {e s : Int} : ∀ (ps : List (List Rec)) (n : Int) (i : Nat), AllG e s n ps → AllG e s (n + i) (ps.drop i)
 | ps, n, 0, h => by simpa using h
 | [], n, i + 1, _ => by simp [AllG]
 | g :: t, n, i + 1, h => by
  have := AllG.drop t (n + 1) i h.2
  rw [show n + ((i + 1 : Nat) : Int) = n + 1 + (i : Int) by omega]
  exact this
theorem enc_ref_run {e s : Int} (hG : Good e s) (ps : List (List Rec)) (hps : ps.length ≤ 65536) (ha : AllG e s 0 ps) (K : Nat) (hK1 : K ≤ 100000) (hr : ∀ g ∈ ps, ∀ r ∈ g, okR r ∧ 2 * (r.f2.size + r.f3.size) + 300 ≤ K) (M : Nat) (hM : M ≤ 1000000) (hg : ∀ g ∈ ps, g.length ≤ M) : ∀ (d i k : Nat) (out : ByteArray), i + d = ps.length → out.size ≤ i * 16777216 → d + K + 60 * M + 20000002 ≤ k →
  ∃ t, Qby.l0 k out ps ps (ps.length : Int) (i : Int) e s = some (t, 0) ∧ bytesOf t = bytesOf out ++ imgP e s (i : Int) (ps.drop i) := by
 have hsz := Qku hG.1 hG.2.1
 intro d
 induction d with
 | zero =>
  intro i k out hd ho hk
  obtain ⟨k, rfl⟩ : ∃ m, k = m + 1 := ⟨k - 1, by omega⟩
  refine ⟨out, ?_, ?_⟩
  ·rw [Qby.l0, if_neg (by omega)]
  ·rw [List.drop_of_length_le (by omega)]
   simp [imgP]
 | succ d ihd =>
  intro i k out hd ho hk
  obtain ⟨k, rfl⟩ : ∃ m, k = m + 1 := ⟨k - 1, by omega⟩
  have hi : i < ps.length := by omega
  have hmem := List.getElem_mem hi
  have hdrop := AllG.drop ps 0 i ha
  rw [List.drop_eq_getElem_cons hi, Int.zero_add] at hdrop
  obtain ⟨⟨g0, g1, g2, g3, g4⟩, _⟩ := hdrop
  have hrg := hr _ hmem
  have hmg := hg _ hmem
  have hcnt := Qmi e s (i : Int) ps[i] (freshB e s (i : Int))
  have hf0 : (freshB e s (i : Int)).2.2.length = 0 := rfl
  have hfit := tail_fit hG (g := ps[i]) (n := (i : Int)) ⟨g0, g1, g2, g3, g4⟩ (decide (i + 1 < ps.length))
  obtain ⟨t, e1, b1⟩ := seg_ref hG g0 g1 ps[i] (decide (i + 1 < ps.length)) k K (by omega) (fun r hx => (hrg r hx).1.2) (chkL_of (fun r hx => (hrg r hx).1.1)) (fun r hx => (hrg r hx).2)
   (Qlu g2.2.2.2.1) (fun x hx => (g2.2.2.1 x hx).1) (by rw [hcnt, hf0]; omega) hfit (by omega)
  have b1' : bytesOf t = segB e s (i : Int) ps[i] (decide (i + 1 < ps.length)) := b1
  have hts : t.size = (szN e).toNat := by rw [Qkc, b1', seg_len hG ⟨g0, g1, g2, g3, g4⟩]
  obtain ⟨r, e2, b2⟩ := ihd (i + 1) k (out ++ t) (by omega) qq_18 (by omega)
  have hdec : (decide ((i : Int) < wrap64 ((ps.length : Int) - 1))) = decide (i + 1 < ps.length) := by
   rw [Qkm ps.length (by omega) (by omega)]
   by_cases h : i + 1 < ps.length
   ·rw [decide_eq_true h, decide_eq_true (by omega)]
   ·rw [decide_eq_false h, decide_eq_false (by omega)]
  refine ⟨r, ?_, ?_⟩
  ·rw [Qby.l0, if_pos (by omega), if_pos (by omega), if_pos (by omega), rdL ps i hi, IntWalk.u64_in _ (by omega), hdec, e1, Option.bind_some, if_pos (by omega), Qkl i (by omega)]
   exact e2
  ·rw [b2, Qkg, b1', List.drop_eq_getElem_cons hi, List.append_assoc]
   congr 1
   by_cases h : i + 1 < ps.length
   ·rw [List.drop_eq_getElem_cons h]
    show _ = segB e s (i : Int) ps[i] true ++ imgP e s ((i : Int) + 1) (ps[i + 1] :: ps.drop (i + 1 + 1))
    rw [decide_eq_true h]
    rfl
   ·rw [List.drop_of_length_le (by omega)]
    show _ = segB e s (i : Int) ps[i] false
    rw [decide_eq_false h]
    simp [imgP]
theorem AllG.len {e s : Int} : ∀ {ps : List (List Rec)} {n : Int}, 0 ≤ n → n ≤ s → AllG e s n ps → (ps.length : Int) + n ≤ s
 | [], n, _, h, _ => by simpa using h
 | g :: t, n, h0, _, h => by
  have := AllG.len (ps := t) (n := n + 1) (by omega) (by have := h.1.2.1; omega) h.2
  rw [List.length_cons]
  omega
theorem encode_ref (e s : Int) (l : List Rec) (k : Nat) (hl : l.length ≤ 1000000) (hw : Wf l) (hs : ∀ r ∈ l, r.f2.size + r.f3.size ≤ 20000) (hk : 100 * l.length + 50000000 ≤ k) :
  ∃ img er t, Qci.f k e s l = some (img, er) ∧ Qby.f k e s l = some (t, er) ∧ bytesOf t = img := by
 unfold Qby.f
 rw [rplan_is e s l k hl hw (by omega), Option.bind_some]
 by_cases hz : (Qlp e s l).2.2 = 0
 ·obtain ⟨hg, hc, hil, h1, h2, h3⟩ := encode_img e s l k hl hw (by omega) hz
  obtain ⟨_, _, _, h4, _, _⟩ := Qlr hz hl
  have hlen := AllG.len (by omega) (by have := hg.2.2.1; omega) h2
  have hmem : ∀ g ∈ Qmk (Qlo e s l).1 l, ∀ r ∈ g, r ∈ l := fun g hg' r hr => by
   rw [← Qml (Qlo e s l).1 l]
   exact List.mem_flatten.2 ⟨g, hg', hr⟩
  have hgl : ∀ g ∈ Qmk (Qlo e s l).1 l, g.length ≤ l.length := fun g hg' => by
   have := congrArg List.length (Qml (Qlo e s l).1 l)
   rw [← this]
   exact (List.sublist_flatten_of_mem hg').length_le
  obtain ⟨t, e1, b1⟩ := enc_ref_run hg (Qmk (Qlo e s l).1 l) (by have := hg.2.2.2; omega) h2 50000 (by omega) (fun g hg' r hr => ⟨⟨Qlk hc r (hmem g hg' r hr), hw r (hmem g hg' r hr)⟩, by have := hs r (hmem g hg' r hr); omega⟩) l.length hl hgl (Qmk (Qlo e s l).1 l).length 0 k ⟨#[]⟩ (by omega) (by decide) (by have := hg.2.2.2; omega)
  refine ⟨_, 0, t, h1, ?_, ?_⟩
  ·dsimp only
   rw [if_pos hz, h4]
   dsimp only
   rw [parts_ref l _ hl hil h3 k (by omega), Option.bind_some]
   exact e1
  ·rw [b1]
   rfl
 ·refine ⟨[], (Qlp e s l).2.2, ⟨#[]⟩, encode_bad e s l k hl hw (by omega) hz, ?_, rfl⟩
  dsimp only
  rw [if_neg hz]
end Go.Proofs.YtnnofopfbeklbaaGreat.CodecP
end
section
namespace Go.Proofs.YtnnofopfbeklbaaGreat.Pure
open Go.RowKit Go.Proofs.YtnnofopfbeklbaaGreat.C Go.Proofs.YtnnofopfbeklbaaGreat.CodecP Go.Proofs.YtnnofopfbeklbaaGreatW.PrintWords Go.Proofs.YtnnofopfbeklbaaGreatW.PrintLast Go.Proofs.YtnnofopfbeklbaaGreatW.PrintMore Go.Proofs.YtnnofopfbeklbaaGreat.Open
theorem wf_row {l : List Rec} (h : ∀ x ∈ l, OG39 x) : Wf l := by
 intro r hr
 have h1 : (Lit.int .u64 r.f1).wf = true := (h r hr).2.1
 simp only [Lit.wf, IntKind.min, IntKind.max, IntKind.signed, IntKind.bits, Bool.and_eq_true, decide_eq_true_eq] at h1
 simp at h1
 omega
theorem wf_u8 {x : Int} (h1 : (Lit.int .u8 x).wf = true) : 0 ≤ x ∧ x < 256 := by
 simp only [Lit.wf, IntKind.min, IntKind.max, IntKind.signed, IntKind.bits, Bool.and_eq_true, decide_eq_true_eq] at h1
 simp at h1
 omega
theorem ImageEncodes : Qap.Pure := by
 intro x0 l h0 hG
 have hl : l.length ≤ 4611686018427387903 := by have := hG.1; omega
 have hw := wf_row hG.2
 have hx := wf_u8 h0
 obtain ⟨K, hK⟩ : ∃ K : Nat, K = 100 * l.length + 50000000 := ⟨_, rfl⟩
 refine ⟨K + 1, ?_⟩
 unfold Qap.f
 rw [show Qaq.f = some true from rfl, Option.bind_some, if_pos rfl, few_is l 40 2000 _ hl (by omega), Option.bind_some, Qap.j0]
 by_cases hf : few l 40 2000 = true
 ·have hn := few_len hf
  have h1 : l.length ≤ 1000000 := by omega
  have hsm : Qao.f x0 = some (12 + x0 % 2, 1 + x0 / 2 % 8) := by unfold Qao.f; rw [if_pos hx.1, if_pos hx.2]
  rw [if_neg (by simp [hf]), hsm, Option.bind_some]
  dsimp only
  obtain ⟨e, he⟩ : ∃ e, e = 12 + x0 % 2 := ⟨_, rfl⟩
  obtain ⟨s, hs⟩ : ∃ s, s = 1 + x0 / 2 % 8 := ⟨_, rfl⟩
  rw [← he, ← hs]
  obtain ⟨img, er, t, e1, e2, e3⟩ := encode_ref e s l K h1 hw (fun r hr => by have := hn.2 r hr; omega) (by omega)
  rw [e1, Option.bind_some, e2, Option.bind_some]
  dsimp only
  rw [← e3, nums_bytesOf, if_pos rfl]
  simp
 ·rw [if_pos (by simp [hf])]
  rfl
end Go.Proofs.YtnnofopfbeklbaaGreat.Pure
end
