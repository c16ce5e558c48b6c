/- Texts of this claim's author and of the print of its functions, merged by merge.py. -/
import Derived.Test.YtnnofopfbeklbaaGreatMG26
import Derived.Test.YtnnofopfbeklbaaGreatMG22
import Derived.Test.YtnnofopfbeklbaaGreatMG24
set_option linter.unusedVariables false
set_option linter.unusedSimpArgs false
set_option maxHeartbeats 8000000
set_option maxRecDepth 100000
section
namespace Go.Proofs.YtnnofopfbeklbaaGreat.CodecP
open Go.RowKit Go.Proofs.YtnnofopfbeklbaaGreat.C Go.Proofs.YtnnofopfbeklbaaGreatW.PrintWords Go.Proofs.YtnnofopfbeklbaaGreatW.PrintLast Go.Proofs.YtnnofopfbeklbaaGreatW.PrintMore
theorem large_yes {e s : Int} (h : Good e s) {x : Int} (hx1 : x ≤ 1152921504606846976) (hf : Qkn e (Qkf e s (s - 1)) 0 x = false) : Qch.f e s x = some true := by
 have hr := Qkg e s (s - 1)
 obtain ⟨g1, g2, g3, g4⟩ := h
 unfold Qch.f
 rw [show (s - 1) % 4294967296 = s - 1 by omega, Qkr ⟨g1, g2, g3, g4⟩ (s - 1) (by omega) (by omega), Option.bind_some]
 dsimp only
 rw [if_pos rfl, Qko ⟨g1, g2, g3, g4⟩ _ _ _ _ (by omega) (by omega) (by omega) (by omega) hx1, hf]
 rfl
theorem take_full {e s : Int} (h : Good e s) (n u c x : Int) (hu0 : 0 ≤ u) (hu1 : u ≤ 16777216) (hc0 : 0 ≤ c) (hc1 : c ≤ 8388608) (hx1 : x ≤ 1152921504606846976) (hf : Qkn e u c x = false) : Qcg.f e s n u c x = some (0, 0, 0, 0, 0, 7) := by
 unfold Qcg.f
 rw [Qko h n u c x hu0 hu1 hc0 hc1 hx1, Option.bind_some, hf, if_neg (by simp)]
def stB (e s n : Int) (had : List Rec) (i : Nat) : Prop :=
 had.length ≤ i ∧ okB e s n i (Qlg e s n had) ∧ (∀ r ∈ had, okR r) ∧ (had ≠ [] → ((Qlg e s n had).2.1.length : Int) + Qkh ((Qlg e s n had).2.2.length : Int) ≤ szN e)
theorem stB_nil (e s n : Int) : stB e s n [] 0 := ⟨by simp, fresh_ok e s n 0, (fun r h => by cases h), fun h => absurd rfl h⟩
theorem Qlj {e s n : Int} {had : List Rec} {i : Nat} (h : okB e s n i (Qlg e s n had)) : (Qlg e s n had).1 = (e, s, n, ((Qlg e s n had).2.1.length : Int), ((Qlg e s n had).2.2.length : Int)) := h.1
theorem sb_run {e s n : Int} (hG : Good e s) (hn0 : 0 ≤ n) (hn1 : n < s) (l : List Rec) (hl : l.length ≤ 100000) (hw : Wf l) (hk : ∀ r ∈ l, r.f2.size + r.f3.size ≤ 20000) (K : Nat) (hK : 3000000 ≤ K) : ∀ (d i : Nat) (had : List Rec), i + d = l.length → stB e s n had i →
  ∃ had', SBRun K e s n (s - 1) (Qkf e s (s - 1)) 0 (l.drop i) had (Qlg e s n had) ((Qlg e s n had).2.1.length : Int) ((Qlg e s n had).2.2.length : Int) had' (Qlg e s n had') ∧ stB e s n had' l.length := by
 have hsz := Qkj hG.1 hG.2.1
 intro d
 induction d with
 | zero =>
  intro i had hd hst
  rw [List.drop_of_length_le (by omega), show l.length = i by omega]
  exact ⟨had, ⟨rfl, rfl⟩, hst⟩
 | succ d ihd =>
  intro i had hd hst
  have hlt : i < l.length := by omega
  obtain ⟨s1, s2, s3, s4⟩ := hst
  have hwr := hw l[i] (List.getElem_mem hlt)
  have hkr := hk l[i] (List.getElem_mem hlt)
  have hB1 := s2.2.1
  have hB5 := s2.2.2.2.2
  have hmono : ∀ {had' : List Rec}, stB e s n had' i → stB e s n had' (i + 1) := fun h => ⟨by have := h.1; omega, okB_more h.2.1 (by omega), h.2.2.1, h.2.2.2⟩
  obtain ⟨t, ht, hbt⟩ := Qkd K l[i].f0 l[i].f1 l[i].f2 l[i].f3 hwr.1 hwr.2 (by omega) (by omega) (by omega)
  have hts : (t.size : Int) = fsz l[i] := by rw [Qjr, hbt]; rfl
  have hck := rcheck_k K l[i].f0 l[i].f1 l[i].f2 l[i].f3 (by omega)
  have hhd := Qkg e s (s - 1)
  rw [List.drop_eq_getElem_cons hlt]
  by_cases hc : chkR l[i] = 0
  ·have hx := Qkt l[i] hc
   have hfr := fits_ref hG K (s - 1) (Qkf e s (s - 1)) 0 (fsz l[i]) (by omega) (by omega) (by omega) (by omega) (by omega) (by omega)
   have hput := put_good l[i] hc hwr.1 hwr.2
   by_cases hft : Qkn e (Qkf e s (s - 1)) 0 (fsz l[i]) = true
   ·have hfw := fits_ref hG K n ((Qlg e s n had).2.1.length : Int) ((Qlg e s n had).2.2.length : Int) (fsz l[i]) (by omega) (by omega) (by omega) (by omega) (by omega) (by omega)
    by_cases hq : Qkn e ((Qlg e s n had).2.1.length : Int) ((Qlg e s n had).2.2.length : Int) (fsz l[i]) = true
    ·obtain ⟨a1, a2, a3, a4⟩ := add_good hG s2 (by omega) hc hwr hft hq
     have hpb : putB e s n (Qlg e s n had) l[i] = Qlg e s n (had ++ [l[i]]) := (Qlh e s n had _ _).symm
     have hlen : ∀ q : List Int, ((q ++ Qks l[i]).length : Int) = (q.length : Int) + fsz l[i] := fun q => by rw [List.length_append]; unfold fsz; omega
     have hlB : ((Qlg e s n (had ++ [l[i]])).2.1.length : Int) = ((Qlg e s n had).2.1.length : Int) + fsz l[i] := by rw [← hpb]; exact hlen _
     have hlT : ((Qlg e s n (had ++ [l[i]])).2.2.length : Int) = ((Qlg e s n had).2.2.length : Int) + 1 := by rw [← hpb]; simp [putB]
     rw [hpb] at a1 a2 a3
     obtain ⟨had', hr', hs'⟩ := ihd (i + 1) (had ++ [l[i]]) (by omega) ⟨by simp; omega, a2, fun r hr => by
      rcases List.mem_append.1 hr with hr | hr
      ·exact s3 r hr
      ·rw [List.mem_singleton.1 hr]; exact ⟨hc, hwr⟩, fun _ => a3⟩
     refine ⟨had', ⟨t, 0, ht, by rw [hck]; exact congrArg some hc, Qlj s2, .inr ⟨Qlg e s n (had ++ [l[i]]), ((Qlg e s n (had ++ [l[i]])).2.1.length : Int), ((Qlg e s n (had ++ [l[i]])).2.2.length : Int), ?_, rfl, by rw [hts, hfr, hft], by rw [hts, hfw, hq], rfl, by omega, ?_, Qlj a2, by omega, hr'⟩⟩, hs'⟩
     ·unfold addR
      rw [if_pos (show chk l[i].f0 l[i].f2 l[i].f3 = 0 from hc), hput, Option.bind_some, Qlj s2]
      dsimp only
      rw [show ((Qks l[i]).length : Int) = fsz l[i] from rfl, large_no hG (by omega) hft, Option.bind_some, if_pos rfl, if_neg (by simp), take_prog hG n _ _ _ (by omega) (by omega) (by omega) (by omega) (by omega) hq, Option.bind_some]
      dsimp only
      rw [if_pos rfl, a1]
      rfl
     ·rw [hts, take_ref e s n _ _ _ (by omega) (by omega) (by omega) (by omega) (by omega) (by omega), hlB, hlT]
    ·have hqf : Qkn e ((Qlg e s n had).2.1.length : Int) ((Qlg e s n had).2.2.length : Int) (fsz l[i]) = false := by simpa using hq
     obtain ⟨had', hr', hs'⟩ := ihd (i + 1) had (by omega) (hmono ⟨s1, s2, s3, s4⟩)
     refine ⟨had', ⟨t, 0, ht, by rw [hck]; exact congrArg some hc, Qlj s2, .inl ⟨7, by decide, ?_, .inr (.inr ⟨rfl, by rw [hts, hfr, hft], by rw [hts, hfw, hqf], rfl⟩), hr'⟩⟩, hs'⟩
     unfold addR
     rw [if_pos (show chk l[i].f0 l[i].f2 l[i].f3 = 0 from hc), hput, Option.bind_some, Qlj s2]
     dsimp only
     rw [show ((Qks l[i]).length : Int) = fsz l[i] from rfl, large_no hG (by omega) hft, Option.bind_some, if_pos rfl, if_neg (by simp), take_full hG n _ _ _ (by omega) (by omega) (by omega) (by omega) (by omega) hqf, Option.bind_some]
     dsimp only
     rw [if_neg (by decide)]
   ·have hff : Qkn e (Qkf e s (s - 1)) 0 (fsz l[i]) = false := by simpa using hft
    obtain ⟨had', hr', hs'⟩ := ihd (i + 1) had (by omega) (hmono ⟨s1, s2, s3, s4⟩)
    refine ⟨had', ⟨t, 0, ht, by rw [hck]; exact congrArg some hc, Qlj s2, .inl ⟨6, by decide, ?_, .inr (.inl ⟨rfl, by rw [hts, hfr, hff], rfl⟩), hr'⟩⟩, hs'⟩
    unfold addR
    rw [if_pos (show chk l[i].f0 l[i].f2 l[i].f3 = 0 from hc), hput, Option.bind_some, Qlj s2]
    dsimp only
    rw [show ((Qks l[i]).length : Int) = fsz l[i] from rfl, large_yes hG (by omega) hff, Option.bind_some, if_pos rfl, if_pos rfl]
  ·obtain ⟨had', hr', hs'⟩ := ihd (i + 1) had (by omega) (hmono ⟨s1, s2, s3, s4⟩)
   refine ⟨had', ⟨t, chkR l[i], ht, hck, Qlj s2, .inl ⟨chkR l[i], hc, ?_, .inl ⟨hc, rfl⟩, hr'⟩⟩, hs'⟩
   unfold addR
   rw [if_neg (show ¬ chk l[i].f0 l[i].f2 l[i].f3 = 0 from hc)]
   rfl
theorem sb_sub {k : Nat} {e s n m2 mu mc : Int} : ∀ {l had : List Rec} {B B' : Bd} {u c : Int} {had' : List Rec}, SBRun k e s n m2 mu mc l had B u c had' B' → (∀ r ∈ l, r.f2.size + r.f3.size ≤ 20000) → (∀ r ∈ had, r.f2.size + r.f3.size ≤ 20000) → ∀ r ∈ had', r.f2.size + r.f3.size ≤ 20000
 | [], had, B, B', u, c, had', h, hl, hh => by rw [h.1]; exact hh
 | r :: rs, had, B, B', u, c, had', h, hl, hh => by
  obtain ⟨t, c0, _, _, _, ⟨code, _, _, _, h2⟩ | ⟨B1, u1, c1, _, _, _, _, _, _, _, _, _, h2⟩⟩ := h
  ·exact sb_sub h2 (fun x hx => hl x (List.mem_cons_of_mem _ hx)) hh
  ·refine sb_sub h2 (fun x hx => hl x (List.mem_cons_of_mem _ hx)) (fun x hx => ?_)
   rcases List.mem_append.1 hx with hx | hx
   ·exact hh x hx
   ·rw [List.mem_singleton.1 hx]; exact hl r (List.mem_cons_self ..)
theorem chkL_ok : ∀ {g : List Rec}, (∀ r ∈ g, okR r) → chkL g = 0
 | [], _ => rfl
 | r :: g, h => by
  have h1 := (h r (List.mem_cons_self ..)).1
  have ih := chkL_ok (g := g) (fun x hx => h x (List.mem_cons_of_mem _ hx))
  unfold chkL
  rw [h1, ih]
  simp
theorem sb_end {e s n : Int} (hG : Good e s) (hn0 : 0 ≤ n) (hn1 : n < s) (had : List Rec) (i : Nat) (hi : i ≤ 100000) (hst : stB e s n had i) (hk : ∀ r ∈ had, r.f2.size + r.f3.size ≤ 20000) (K : Nat) (hK : 30000000 + 100 * i ≤ K) : SBEnd K e s n had (Qlg e s n had) := by
 have hsz := Qkj hG.1 hG.2.1
 obtain ⟨s1, s2, s3, s4⟩ := hst
 have hsk := s2
 obtain ⟨b1, b2, b3, b4, b5⟩ := hsk
 have hw : Wf had := fun r hr => (s3 r hr).2
 have hc : chkL had = 0 := chkL_ok s3
 have hcnt := Qli e s n had (freshB e s n)
 have hf0 : (freshB e s n).2.2.length = 0 := rfl
 have hcnt' : (Qlg e s n had).2.2.length = had.length := by unfold Qlg; rw [hcnt, hf0]; omega
 have hgd := hG
 obtain ⟨g1, g2, g3, g4⟩ := hgd
 have hhd := Qkg e s n
 have hopenfit : ((Qlg e s n had).2.1.length : Int) ≤ szN e := by
  by_cases h0 : had = []
  ·rw [h0]
   have : ((Qlg e s n []).2.1.length : Int) = Qkf e s n := rfl
   omega
  ·have := s4 h0
   have := Qkm ((Qlg e s n had).2.2.length : Int) (by omega) (by omega)
   omega
 obtain ⟨oo, o1, o2, _⟩ := open_good hG s2 hopenfit
 have hsize : Qal.f (Qlg e s n had).1.1 (Qlg e s n had).1.2.1 = some (szN e) := by rw [b1]; exact Qkk hG
 have hov := openB_val o1 hsize
 have hnd := Qkw b4
 have hwe : ∀ x ∈ (Qlg e s n had).2.2, wfE x := fun x hx => (b3 x hx).1
 obtain ⟨th, e1, bh⟩ := head_ref K e s n (by omega) (by omega) (by omega) (by omega) (by omega) (by omega) (by omega)
 have hth : (th.size : Int) = Qkf e s n := by rw [Qjr, bh]; rfl
 obtain ⟨tf, k', hk', bf, ef⟩ := Qle e s n had (by omega) hw hc 50000 (fun r hr => by have := hk r hr; omega) had.length 0 K (freshB e s n) th (by omega) bh (by simp [freshB]) (by omega) (by omega)
 rw [List.drop_zero] at bf ef
 have hso := sort_ref (Qlg e s n had).2.2 k' (by omega) hnd (by omega)
 have ef2 : Qbu.l0 K th ((freshB e s n).2.2.map toR) had (had.length : Int) 0 = some (tf, (Qin (Qlg e s n had).2.2).map toR) := by
  have h2 : Qbj.f k' ((Qld e s n (freshB e s n) had).2.2.map toR) = some ((Qin (Qlg e s n had).2.2).map toR) := hso
  have h3 := ef
  rw [h2, Option.bind_some] at h3
  exact h3
 have hFr : Qbu.f K e s n had = some (strOfNums (Qlg e s n had).2.1, (Qin (Qlg e s n had).2.2).map toR) := by
  have htf : tf = strOfNums (Qlg e s n had).2.1 := by
   have : bytesOf tf = (Qlg e s n had).2.1 := bf
   rw [← this, Qjx]
  unfold Qbu.f
  rw [e1, Option.bind_some, ← htf]
  exact ef2
 have seg : ∀ (b : Bool), ((Qlf (Qlg e s n had) b).length : Int) ≤ szN e → ∃ t, Qbv.f K e s n had b = some t ∧ strOfNums (Qlf (Qlg e s n had) b ++ List.replicate ((szN e).toNat - (Qlf (Qlg e s n had) b).length) 255) = t := fun b hfit => by
  obtain ⟨t, t1, t2⟩ := seg_ref hG hn0 hn1 had b K 50000 (by omega) hw hc (fun r hr => by have := hk r hr; omega) hnd hwe (by have : (Qld e s n (freshB e s n) had).2.2.length = had.length := hcnt'; omega) hfit (by omega)
  refine ⟨t, t1, ?_⟩
  have t2' : bytesOf t = Qlf (Qlg e s n had) b ++ List.replicate ((szN e).toNat - (Qlf (Qlg e s n had) b).length) 255 := t2
  rw [← t2', Qjx]
 have hto : ((Qlf (Qlg e s n had) false).length : Int) ≤ szN e := by
  have : Qlf (Qlg e s n had) false = (Qlg e s n had).2.1 := by simp [Qlf]
  rw [this]; exact hopenfit
 obtain ⟨t2, f1, f2⟩ := seg false hto
 by_cases h0 : had = []
 ·refine ⟨by omega, _, oo, t2, [], 10, hFr, o1, f1, by rw [hov]; exact f2, ?_, .inl ⟨h0, rfl, rfl⟩⟩
  unfold sealR
  rw [if_pos (by rw [h0]; rfl)]
 ·have hne : (Qlg e s n had).2.2 ≠ [] := part_ne.2 h0
  obtain ⟨o, q1, q2, _⟩ := seal_good hG s2 (by omega) hne (s4 h0)
  have hsv := sealB_val q1 hsize
  have hts := tail_fit hG (g := had) (n := n) ⟨hn0, hn1, okB_more s2 (by omega), h0, s4 h0⟩ true
  obtain ⟨t3, f3, f4⟩ := seg true hts
  refine ⟨by omega, _, oo, t2, o, 0, hFr, o1, f1, by rw [hov]; exact f2, ?_, .inr ⟨h0, rfl, t3, f3, by rw [hsv]; exact f4⟩⟩
  unfold sealR
  rw [if_neg hne, q1]
  rfl
theorem sb_all (x0 n : Int) (l : List Rec) (hx0 : 0 ≤ x0 ∧ x0 < 256) (hn : 0 ≤ n ∧ n < 4294967296) (hl : l.length ≤ 4611686018427387903) (hw : Wf l) : ∃ k, SB k x0 n l := by
 obtain ⟨K, hK⟩ : ∃ K : Nat, K = 100 * l.length + 40000000 := ⟨_, rfl⟩
 refine ⟨K, few l 60 5000, few_is l 60 5000 K hl (by omega), by omega, fun hf => ?_⟩
 have hn' := few_len hf
 have h1 : l.length ≤ 100000 := by omega
 have hsm : Qap.f x0 = some (12 + x0 % 2, 1 + x0 / 2 % 8) := by unfold Qap.f; rw [if_pos hx0.1, if_pos hx0.2]
 refine ⟨by omega, 12 + x0 % 2, 1 + x0 / 2 % 8, hsm, ?_⟩
 obtain ⟨e, he⟩ : ∃ e, e = 12 + x0 % 2 := ⟨_, rfl⟩
 obtain ⟨s, hs⟩ : ∃ s, s = 1 + x0 / 2 % 8 := ⟨_, rfl⟩
 rw [← he, ← hs]
 have hG : Good e s := ⟨by omega, by omega, by omega, by omega⟩
 have hmay : Qbf.f e s n = some (decide (n < s)) := by
  unfold Qbf.f
  rw [may_good hG, Option.bind_some, if_pos rfl, IntWalk.u64_in _ (by omega)]
 by_cases hns : n < s
 ·left
  have hks : ∀ r ∈ l, r.f2.size + r.f3.size ≤ 20000 := fun r hr => by have := hn'.2 r hr; omega
  obtain ⟨had', hr, hst⟩ := sb_run hG hn.1 hns l h1 hw hks K (by omega) l.length 0 [] (by omega) (stB_nil e s n)
  refine ⟨hn, ⟨by omega, by omega⟩, by rw [hmay, decide_eq_true hns], Qlg e s n [], Qkf e s n, 0, s - 1, Qkf e s (s - 1), 0, had', Qlg e s n had', new_good hG n hn.1 hns, empty_ref hG K n hn.1 hns (by omega), empty_ref hG K (s - 1) (by omega) (by omega) (by omega), hr, ?_⟩
  exact sb_end hG hn.1 hns had' l.length h1 hst (sb_sub hr hks (fun r h => by cases h)) K (by omega)
 ·exact .inr ⟨hn, by rw [hmay, decide_eq_false hns], 0, 0, 0, 0, 0, empty_bad hG n (by omega)⟩
end Go.Proofs.YtnnofopfbeklbaaGreat.CodecP
end
section
namespace Go.Proofs.YtnnofopfbeklbaaGreat.Pure
open Go.RowKit Go.Proofs.YtnnofopfbeklbaaGreat.C Go.Proofs.YtnnofopfbeklbaaGreat.CodecP Go.Proofs.YtnnofopfbeklbaaGreatW.PrintWords Go.Proofs.YtnnofopfbeklbaaGreatW.PrintLast Go.Proofs.YtnnofopfbeklbaaGreatW.PrintMore Go.Proofs.YtnnofopfbeklbaaGreat.Open
theorem wf_row {l : List Rec} (h : ∀ x ∈ l, OG39 x) : Wf l := by
 intro r hr
 have h1 : (Lit.int .u64 r.f1).wf = true := (h r hr).2.1
 simp only [Lit.wf, IntKind.min, IntKind.max, IntKind.signed, IntKind.bits, Bool.and_eq_true, decide_eq_true_eq] at h1
 simp at h1
 omega
theorem wf_u8 {x : Int} (h1 : (Lit.int .u8 x).wf = true) : 0 ≤ x ∧ x < 256 := by
 simp only [Lit.wf, IntKind.min, IntKind.max, IntKind.signed, IntKind.bits, Bool.and_eq_true, decide_eq_true_eq] at h1
 simp at h1
 omega
theorem wf_u32 {x : Int} (h1 : (Lit.int .u32 x).wf = true) : 0 ≤ x ∧ x < 4294967296 := by
 simp only [Lit.wf, IntKind.min, IntKind.max, IntKind.signed, IntKind.bits, Bool.and_eq_true, decide_eq_true_eq] at h1
 simp at h1
 omega
theorem SegmentBuilds : Qao.Pure := by
 intro x0 n l h0 h1 hG
 obtain ⟨k, hk⟩ := sb_all x0 n l (wf_u8 h0) (wf_u32 h1) (by have := hG.1; omega) (wf_row hG.2)
 exact ⟨k, if_pos hk⟩
end Go.Proofs.YtnnofopfbeklbaaGreat.Pure
end
