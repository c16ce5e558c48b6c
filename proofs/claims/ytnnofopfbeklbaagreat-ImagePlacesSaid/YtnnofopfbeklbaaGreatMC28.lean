/- Texts of this claim's author and of the print of its functions, merged by merge.py. -/
import Derived.Test.YtnnofopfbeklbaaGreatMC25
import Derived.Test.YtnnofopfbeklbaaGreatMC27
set_option linter.unusedVariables false
set_option linter.unusedSimpArgs false
section
namespace Go.Proofs.YtnnofopfbeklbaaGreat.Pure
open Go.RowKit Go.Proofs.YtnnofopfbeklbaaGreat.C Go.Proofs.YtnnofopfbeklbaaGreat.CodecP Go.Proofs.YtnnofopfbeklbaaGreatW.PrintWords Go.Proofs.YtnnofopfbeklbaaGreatW.PrintLast Go.Proofs.YtnnofopfbeklbaaGreatW.PrintMore Go.Proofs.YtnnofopfbeklbaaGreat.Open
theorem wf_row {l : List Rec} (h : ∀ x ∈ l, OG39 x) : Wf l := by
 intro r hr
 have h1 : (Lit.int .u64 r.f1).wf = true := (h r hr).2.1
 simp only [Lit.wf, IntKind.min, IntKind.max, IntKind.signed, IntKind.bits, Bool.and_eq_true, decide_eq_true_eq] at h1
 simp at h1
 omega
theorem wf_u8 {x : Int} (h1 : (Lit.int .u8 x).wf = true) : 0 ≤ x ∧ x < 256 := by
 simp only [Lit.wf, IntKind.min, IntKind.max, IntKind.signed, IntKind.bits, Bool.and_eq_true, decide_eq_true_eq] at h1
 simp at h1
 omega
theorem rdPl (l : List Plc) (i : Nat) (h : i < l.length) : Qfy l (i : Int) = l[i] := by simp [Qfy, List.getElem?_eq_getElem h]
theorem mul_room {e x : Int} (h1 : 12 ≤ e) (h2 : e ≤ 24) (hx0 : 0 ≤ x) (hx1 : x ≤ 65536) : 0 ≤ x * szN e ∧ x * szN e ≤ 1099511627776 := by
 have hs := Qjk h1 h2
 have h3 := Int.mul_nonneg hx0 (show 0 ≤ szN e by omega)
 have h4 : x * szN e ≤ 65536 * 16777216 := Int.mul_le_mul hx1 hs.2 (by omega) (by omega)
 omega
theorem shl_room {e x : Int} (h1 : 12 ≤ e) (h2 : e ≤ 24) (hx0 : 0 ≤ x) (hx1 : x ≤ 65536) : shl .i64 (wrap64 x) e = x * szN e := by
 have hm := mul_room h1 h2 hx0 hx1
 have hw : wrap64 x = x := by unfold wrap64; omega
 unfold shl
 have he : min e.toNat IntKind.i64.bits = e.toNat := by simp [IntKind.bits]; omega
 rw [he, hw]
 exact IntWalk.i64_in _ (by unfold szN at hm; omega)
theorem Qki {x : Int} (h0 : 0 ≤ x) (h1 : x ≤ 4611686018427387903) : wrap64 x = x := by unfold wrap64; omega
theorem img_run (e s : Int) (h1 : 12 ≤ e) (h2 : e ≤ 24) (l : List Rec) (fin : List Int) (ps : List Plc) (segs : Int) (hl : l.length ≤ 1000000) (hw : Wf l) (hk : ∀ r ∈ l, (r.f2.size : Int) ≤ 2000 ∧ (r.f3.size : Int) ≤ 2000)
  (hs1 : segs ≤ 65536) (hlen : ps.length = l.length) (hP : ∀ j (h1 : j < ps.length) (h2 : j < l.length), PP e fin (segs - 1) ps[j] l[j]) (hfin : fin.length ≤ 2199023255552) :
  ∀ (d i k : Nat), i + d = l.length → d + 10000 ≤ k → Qap.l0 k l fin segs ps (ps.length : Int) (i : Int) e s = some true := by
 intro d
 induction d with
 | zero =>
  intro i k hd hk0
  obtain ⟨k, rfl⟩ : ∃ m, k = m + 1 := ⟨k - 1, by omega⟩
  rw [Qap.l0, if_neg (by omega)]
 | succ d ihd =>
  intro i k hd hk0
  obtain ⟨k, rfl⟩ : ∃ m, k = m + 1 := ⟨k - 1, by omega⟩
  have hi : i < l.length := by omega
  have hi2 : i < ps.length := by omega
  obtain ⟨p0, p1, p2, p3, p4, p5⟩ := hP i hi2 hi
  have hwr := hw l[i] (List.getElem_mem hi)
  have hkr := hk l[i] (List.getElem_mem hi)
  obtain ⟨t, ht, hb⟩ := record_ref k l[i].f0 l[i].f1 l[i].f2 l[i].f3 hwr.1 hwr.2 (by omega) (by omega) (by omega)
  have hb' : bytesOf t = Qjx l[i] := hb
  have htz : t.size = (Qjx l[i]).length := by rw [← hb', Qcm]
  have ih := ihd (i + 1) k (by omega) (by omega)
  have hsz := Qjk h1 h2
  rw [Qap.l0, if_pos (by omega), if_pos (by omega), if_pos (by omega), if_pos (by omega), rdR l i hi, rdPl ps i hi2, ht, Option.bind_some, if_pos (by omega), if_neg (by omega)]
  have hm := mul_room h1 h2 p0 (show ps[i].f0 ≤ 65536 by omega)
  rw [shl_room h1 h2 p0 (by omega)]
  obtain ⟨q, hq⟩ : ∃ q : Nat, q = ps[i].f0.toNat * (szN e).toNat + ps[i].f1.toNat := ⟨_, rfl⟩
  have hqI : ps[i].f0 * szN e + ps[i].f1 = (q : Int) := by
   rw [hq, Int.natCast_add, Int.natCast_mul, Int.toNat_of_nonneg p0, Int.toNat_of_nonneg (show 0 ≤ szN e by omega), Int.toNat_of_nonneg p2]
  rw [← hq] at p4 p5
  clear hq
  have hqr : (q : Int) ≤ 1099528404992 := by rw [← hqI]; omega
  have hw1 : wrap64 ps[i].f1 = ps[i].f1 := Qki p2 (by omega)
  rw [hw1, hqI]
  clear hqI hm hw1
  have htr : (t.size : Int) ≤ 2199023255552 := by rw [htz]; omega
  have hb0 : (0 : Int) ≤ (q : Int) := by omega
  have hb1 : (q : Int) ≤ 4611686018427387903 := by omega
  have hb2 : (0 : Int) ≤ (q : Int) + (t.size : Int) := by omega
  have hb3 : (q : Int) + (t.size : Int) ≤ 4611686018427387903 := by omega
  rw [Qki hb0 hb1, Qki hb2 hb3, if_neg (by omega), if_pos (by omega), if_pos (by omega), if_pos (by omega), Qjd i (by omega)]
  have hcut : (fin.take ((q : Int) + (t.size : Int)).toNat).drop (q : Int).toNat = Qjx l[i] := by
   rw [show ((q : Int) + (t.size : Int)).toNat = q + t.size by omega, Int.toNat_natCast, List.drop_take, show q + t.size - q = t.size by omega, htz]
   exact p5
  rw [hcut, ← hb', nums_bytesOf, if_pos rfl]
  exact ih
theorem ImagePlaces : Qap.Pure := by
 intro x0 l h0 hG
 have hl : l.length ≤ 4611686018427387903 := by have := hG.1; omega
 have hw := wf_row hG.2
 have hx := wf_u8 h0
 obtain ⟨K, hK⟩ : ∃ K : Nat, K = l.length + 3000000 := ⟨_, rfl⟩
 refine ⟨K + 3, ?_⟩
 unfold Qap.f
 rw [show Qaq.f = some true from rfl, Option.bind_some, if_pos rfl, few_is l 40 2000 _ hl (by omega), Option.bind_some, Qap.j0]
 by_cases hf : few l 40 2000 = true
 ·have hn := few_len hf
  have h1 : l.length ≤ 1000000 := by omega
  have hsm : Qao.f x0 = some (12 + x0 % 2, 1 + x0 / 2 % 8) := by unfold Qao.f; rw [if_pos hx.1, if_pos hx.2]
  rw [if_neg (by simp [hf]), hsm, Option.bind_some]
  dsimp only
  obtain ⟨e, he⟩ : ∃ e, e = 12 + x0 % 2 := ⟨_, rfl⟩
  obtain ⟨s, hs⟩ : ∃ s, s = 1 + x0 / 2 % 8 := ⟨_, rfl⟩
  rw [← he, ← hs]
  have he1 : 12 ≤ e ∧ e ≤ 24 := by omega
  by_cases hz : (Qka e s l).2.2 = 0
  ·obtain ⟨fin, f1, f2, f3, f4, f5⟩ := encode_ok e s l (K + 2) h1 hw (by omega) hz
   rw [f1, Option.bind_some, places_is e s l _ h1 hw (by omega), Option.bind_some, segs_is e s l _ h1 hw (by omega), Option.bind_some, if_pos hz, if_pos hz, hz]
   dsimp only
   have hat := Placed.at f5
   have hm := mul_room he1.1 he1.2 f2 f3
   have hsz := Qjk he1.1 he1.2
   have hfl : (fin.length : Int) = Qke (Qjz e s l).1 * szN e := by
    rw [f4, Int.natCast_mul, Int.toNat_of_nonneg f2, Int.toNat_of_nonneg (show 0 ≤ szN e by omega)]
   rw [if_pos rfl, show ((0 : Int) != 0) = false from rfl, Qap.j1, if_neg (by simp), if_pos rfl, if_pos (by rw [hat.1]), if_pos (by omega), shl_room he1.1 he1.2 f2 f3, hfl, bne_self_eq_false, Qap.j2, if_neg (by simp)]
   exact img_run e s he1.1 he1.2 l fin _ _ h1 hw hn.2 f3 hat.1 hat.2 (by omega) l.length 0 K (by omega) (by omega)
  ·have hb := encode_bad e s l (K + 2) h1 hw (by omega) hz
   rw [hb, Option.bind_some, places_is e s l _ h1 hw (by omega), Option.bind_some, segs_is e s l _ h1 hw (by omega), Option.bind_some, if_neg hz, if_neg hz]
   dsimp only
   rw [if_pos rfl, bne_self_eq_false, Qap.j1, if_neg (by simp), if_neg hz, if_pos (by simp), if_pos (by simp)]
   rfl
 ·rw [if_pos (by simp [hf])]
  rfl
end Go.Proofs.YtnnofopfbeklbaaGreat.Pure
end
