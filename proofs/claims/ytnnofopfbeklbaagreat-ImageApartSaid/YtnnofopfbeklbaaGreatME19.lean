/- Texts of this claim's author and of the print of its functions, merged by merge.py. -/
import Derived.Test.YtnnofopfbeklbaaGreatME18
import Derived.Test.YtnnofopfbeklbaaGreatME17
set_option linter.unusedVariables false
set_option linter.unusedSimpArgs false
set_option maxHeartbeats 8000000
set_option maxRecDepth 100000
section
namespace Go.Proofs.YtnnofopfbeklbaaGreat.CodecP
open Go.RowKit Go.Proofs.YtnnofopfbeklbaaGreat.C Go.Proofs.YtnnofopfbeklbaaGreatW.PrintWords Go.Proofs.YtnnofopfbeklbaaGreatW.PrintLast Go.Proofs.YtnnofopfbeklbaaGreatW.PrintMore
def Qja (e s n : Int) (g : List Rec) : Bd := Qik e s n (Qih e s n) g
def segB (e s n : Int) (g : List Rec) (b : Bool) : List Int := Qil (Qja e s n g) b ++ List.replicate ((szN e).toNat - (Qil (Qja e s n g) b).length) 255
def imgP (e s : Int) : Int → List (List Rec) → List Int
 | _, [] => []
 | n, [g] => segB e s n g false
 | n, g :: h :: t => segB e s n g true ++ imgP e s (n + 1) (h :: t)
def Qjb (into : List Int) : Nat → List Rec → List Rec → List (List Rec)
 | _, [], cur => [cur]
 | i, r :: rs, cur => if rd into (i : Int) = rd into ((i : Int) - 1) then Qjb into (i + 1) rs (cur ++ [r]) else cur :: Qjb into (i + 1) rs [r]
theorem partsS_ne (into : List Int) : ∀ (rs : List Rec) (i : Nat) (cur : List Rec), ∃ g t, Qjb into i rs cur = g :: t
 | [], i, cur => ⟨cur, [], rfl⟩
 | r :: rs, i, cur => by
  unfold Qjb
  split
  ·exact partsS_ne into rs (i + 1) _
  ·exact ⟨_, _, rfl⟩
theorem Qjc (into : List Int) : ∀ (rs : List Rec) (i : Nat) (cur : List Rec), (Qjb into i rs cur).flatten = cur ++ rs
 | [], i, cur => by simp [Qjb]
 | r :: rs, i, cur => by
  unfold Qjb
  split
  ·rw [Qjc into rs]; simp
  ·rw [List.flatten_cons, Qjc into rs]; simp
theorem Qjd (e s n : Int) : ∀ (g : List Rec) (B : Bd) (r : Rec), Qik e s n B (g ++ [r]) = putB e s n (Qik e s n B g) r
 | [], _, _ => rfl
 | x :: g, B, r => by
  show Qik e s n (putB e s n B x) (g ++ [r]) = _
  rw [Qjd e s n g]
  rfl
theorem Qje (e s n : Int) : ∀ (g : List Rec) (B : Bd), (Qik e s n B g).2.1 = B.2.1 ++ g.flatMap Qic
 | [], B => by simp [Qik]
 | x :: g, B => by
  show (Qik e s n (putB e s n B x) g).2.1 = _
  rw [Qje e s n g, List.flatMap_cons]
  simp [putB]
theorem Qjf (e s n : Int) : ∀ (g : List Rec) (B : Bd), (Qik e s n B g).2.2.length = B.2.2.length + g.length
 | [], B => by simp [Qik]
 | x :: g, B => by
  show (Qik e s n (putB e s n B x) g).2.2.length = _
  rw [Qjf e s n g]
  simp [putB]
  omega
def GoodG (e s n : Int) (g : List Rec) : Prop := 0 ≤ n ∧ n < s ∧ okB e s n 1000000 (Qja e s n g) ∧ g ≠ [] ∧ ((Qja e s n g).2.1.length : Int) + Qho ((Qja e s n g).2.2.length : Int) ≤ szN e
def AllG (e s : Int) : Int → List (List Rec) → Prop
 | _, [] => True
 | n, g :: t => GoodG e s n g ∧ AllG e s (n + 1) t
def StepsI (into : List Int) : Nat → Nat → Int → Prop
 | 0, i, _ => i = into.length
 | d + 1, i, n => i < into.length ∧ ((rd into (i : Int) = n ∧ StepsI into d (i + 1) n) ∨ (rd into (i : Int) = n + 1 ∧ StepsI into d (i + 1) (n + 1)))
theorem sealB_val {B : Bd} {o : List Int} {sz : Int} (h : sealB B = some o) (hs : Qam.f B.1.1 B.1.2.1 = some sz) : o = Qil B true ++ List.replicate (sz.toNat - (Qil B true).length) 255 := by
 unfold sealB at h
 rw [hs, Option.bind_some] at h
 split at h
 ·cases h
  rfl
 ·cases h
theorem openB_val {B : Bd} {o : List Int} {sz : Int} (h : openB B = some o) (hs : Qam.f B.1.1 B.1.2.1 = some sz) : o = Qil B false ++ List.replicate (sz.toNat - (Qil B false).length) 255 := by
 unfold openB at h
 rw [hs, Option.bind_some] at h
 split at h
 ·cases h
  simp [Qil]
 ·cases h
theorem okB_more {e s n : Int} {i j : Nat} {B : Bd} (h : okB e s n i B) (hij : i ≤ j) : okB e s n j B := ⟨h.1, by have := h.2.1; omega, h.2.2⟩
theorem part_ne {e s n : Int} {g : List Rec} : (Qja e s n g).2.2 ≠ [] ↔ g ≠ [] := by
 have h := Qjf e s n g (Qih e s n)
 have h0 : (Qih e s n).2.2.length = 0 := rfl
 unfold Qja
 rw [← List.length_pos_iff, ← List.length_pos_iff, h, h0]
 omega
theorem enc_img {e s : Int} (hG : Good e s) (l : List Rec) (into : List Int) (hl : l.length ≤ 1000000) (hw : Wf l) (hc : chkL l = 0) (hil : into.length = l.length) :
  ∀ (d i : Nat) (out : List Int) (n : Int) (cur : List Rec), i + d = l.length → 1 ≤ i → okB e s n i (Qja e s n cur) → cur ≠ [] → ((Qja e s n cur).2.1.length : Int) + Qho ((Qja e s n cur).2.2.length : Int) ≤ szN e → 0 ≤ n → n < s → out.length = n.toNat * (szN e).toNat → rd into ((i : Int) - 1) = n →
  Qhz e s ((l.drop i).map fsz) (into.take i) n ((Qja e s n cur).2.1.length : Int) ((Qja e s n cur).2.2.length : Int) = (into, 0) →
  encG e s into i (l.drop i) out (some (Qja e s n cur)) = some (out ++ imgP e s n (Qjb into i (l.drop i) cur)) ∧ AllG e s n (Qjb into i (l.drop i) cur) ∧ StepsI into d i n := by
 have hsz := Qhq hG.1 hG.2.1
 have hsize : ∀ {m : Int} {i : Nat} {B : Bd}, okB e s m i B → Qam.f B.1.1 B.1.2.1 = some (szN e) := fun h => by rw [h.1]; exact Qhr hG
 intro d
 induction d with
 | zero =>
  intro i out n cur hd hi hB hne hr h0 h1 ho hprev hp
  have hi' : i = into.length := by omega
  have hmm := Qhs ((Qja e s n cur).2.2.length : Int) (by omega) (by have := hB.2.1; omega)
  obtain ⟨o, e1, e2, t, e3⟩ := open_good hG hB (by omega)
  have hlim := room_lim hG h1
  have hv := openB_val e1 (hsize hB)
  rw [List.drop_of_length_le (by omega)]
  refine ⟨?_, ⟨⟨h0, h1, okB_more hB (by omega), hne, hr⟩, trivial⟩, hi'⟩
  unfold encG
  rw [e1, Option.bind_some, if_pos (by omega), hv]
  rfl
 | succ d ihd =>
  intro i out n cur hd hi hB hne hr h0 h1 ho hprev hp
  have hlt : i < l.length := by omega
  have hlt2 : i < into.length := by omega
  have hcr : chkR l[i] = 0 := Qib hc _ (List.getElem_mem hlt)
  have hwr := hw l[i] (List.getElem_mem hlt)
  have hx := Qid l[i] hcr
  have hlen : ∀ q : List Int, ((q ++ Qic l[i]).length : Int) = (q.length : Int) + fsz l[i] := fun q => by rw [List.length_append]; unfold fsz; omega
  have hiB := hB.2.1
  have hb5 := hB.2.2.2.2
  have hne2 : (Qja e s n cur).2.2 ≠ [] := part_ne.2 hne
  rw [List.drop_eq_getElem_cons hlt] at hp ⊢
  rw [List.map_cons] at hp
  unfold Qhz at hp
  by_cases hf : Qht e (Qhm e s (s - 1)) 0 (fsz l[i]) = false
  ·rw [if_pos hf] at hp; cases hp
  ·rw [if_neg hf] at hp
   have hft : Qht e (Qhm e s (s - 1)) 0 (fsz l[i]) = true := by simpa using hf
   by_cases hq : Qht e ((Qja e s n cur).2.1.length : Int) ((Qja e s n cur).2.2.length : Int) (fsz l[i]) = true
   ·rw [if_pos hq] at hp
    obtain ⟨q1, q2⟩ := pre_at (by have := Qii e s _ _ _ _ _ (congrArg Prod.snd hp); rw [hp] at this; exact this) hlt2
    obtain ⟨a1, a2, a3, a4⟩ := add_good hG hB (by omega) hcr hwr hft hq
    have hpb : putB e s n (Qja e s n cur) l[i] = Qja e s n (cur ++ [l[i]]) := (Qjd e s n cur _ _).symm
    have hlB : ((Qja e s n (cur ++ [l[i]])).2.1.length : Int) = ((Qja e s n cur).2.1.length : Int) + fsz l[i] := by rw [← hpb]; exact hlen _
    have hlT : ((Qja e s n (cur ++ [l[i]])).2.2.length : Int) = ((Qja e s n cur).2.2.length : Int) + 1 := by rw [← hpb]; simp [putB]
    rw [hpb] at a1 a2 a3
    rw [← q2, ← hlB, ← hlT] at hp
    obtain ⟨f1, f2, f3⟩ := ihd (i + 1) out n (cur ++ [l[i]]) (by omega) (by omega) a2 (by simp) a3 h0 h1 ho (by rw [show ((i + 1 : Nat) : Int) - 1 = (i : Int) by omega]; exact q1) hp
    have hps : Qjb into i (l[i] :: l.drop (i + 1)) cur = Qjb into (i + 1) (l.drop (i + 1)) (cur ++ [l[i]]) := by
     rw [Qjb, if_pos (q1.trans hprev.symm)]
    rw [hps]
    refine ⟨?_, f2, hlt2, .inl ⟨q1, f3⟩⟩
    rw [encG, if_pos hlt2]
    rw [if_neg (by omega), if_pos (q1.trans hprev.symm), a1, Option.bind_some]
    exact f1
   ·rw [if_neg hq] at hp
    by_cases hs : n + 1 < s
    ·rw [if_pos hs] at hp
     obtain ⟨q1, q2⟩ := pre_at (by have := Qii e s _ _ _ _ _ (congrArg Prod.snd hp); rw [hp] at this; exact this) hlt2
     obtain ⟨o, e1, e2, t, e3⟩ := seal_good hG hB (by omega) hne2 hr
     have hv := sealB_val e1 (hsize hB)
     have hhd := Qhn e s (n + 1)
     have hfit : Qht e ((Qih e s (n + 1)).2.1.length : Int) ((Qih e s (n + 1)).2.2.length : Int) (fsz l[i]) = true := fits_any hG (by omega) (by omega) hft
     obtain ⟨a1, a2, a3, a4⟩ := add_good hG (fresh_ok e s (n + 1) i) (by omega) hcr hwr hft hfit
     have hpb : putB e s (n + 1) (Qih e s (n + 1)) l[i] = Qja e s (n + 1) [l[i]] := rfl
     rw [hpb] at a1 a2 a3
     have hlB : ((Qja e s (n + 1) [l[i]]).2.1.length : Int) = Qhm e s (n + 1) + fsz l[i] := by rw [← hpb]; exact hlen _
     have hlT : ((Qja e s (n + 1) [l[i]]).2.2.length : Int) = 1 := by rw [← hpb]; simp [putB, Qih]
     rw [← q2, ← hlB, ← hlT] at hp
     have hlim := room_lim hG h1
     have hoo : (out ++ o).length = (n + 1).toNat * (szN e).toNat := by
      rw [List.length_append, ho, e2, show (n + 1).toNat = n.toNat + 1 by omega, Nat.add_mul, Nat.one_mul]
     obtain ⟨f1, f2, f3⟩ := ihd (i + 1) (out ++ o) (n + 1) [l[i]] (by omega) (by omega) a2 (by simp) a3 (by omega) hs hoo (by rw [show ((i + 1 : Nat) : Int) - 1 = (i : Int) by omega]; exact q1) hp
     have hps : Qjb into i (l[i] :: l.drop (i + 1)) cur = cur :: Qjb into (i + 1) (l.drop (i + 1)) [l[i]] := by
      rw [Qjb, if_neg (by rw [q1, hprev]; omega)]
     rw [hps]
     refine ⟨?_, ⟨⟨h0, h1, okB_more hB (by omega), hne, hr⟩, f2⟩, hlt2, .inr ⟨q1, f3⟩⟩
     rw [encG, if_pos hlt2]
     rw [if_neg (by omega), if_neg (by rw [q1, hprev]; omega), e1, Option.bind_some, if_pos (by omega), q1, new_good hG (n + 1) (by omega) hs, Option.bind_some, a1, Option.bind_some]
     rw [f1, hv]
     obtain ⟨g2, t2, hgt⟩ := partsS_ne into (l.drop (i + 1)) (i + 1) [l[i]]
     rw [hgt]
     show _ = some (out ++ (segB e s n cur true ++ imgP e s (n + 1) (g2 :: t2)))
     rw [List.append_assoc]
     rfl
    ·rw [if_neg hs] at hp; cases hp
def Qjg (into : List Int) : List Rec → List (List Rec)
 | [] => []
 | r :: rs => Qjb into 1 rs [r]
theorem Qjh (into : List Int) (l : List Rec) : (Qjg into l).flatten = l := by
 cases l with
 | nil => rfl
 | cons r rs => unfold Qjg; rw [Qjc]; rfl
theorem enc_parts {e s : Int} (hG : Good e s) (l : List Rec) (into : List Int) (hl : l.length ≤ 1000000) (hw : Wf l) (hc : chkL l = 0) (hil : into.length = l.length)
  (hp : Qhz e s (l.map fsz) [] 0 (Qhm e s 0) 0 = (into, 0)) :
  encG e s into 0 l [] none = some (imgP e s 0 (Qjg into l)) ∧ AllG e s 0 (Qjg into l) ∧ (l ≠ [] → rd into 0 = 0 ∧ StepsI into (l.length - 1) 1 0) := by
 have hs0 := hG.2.2.1
 cases l with
 | nil => exact ⟨rfl, trivial, fun h => absurd rfl h⟩
 | cons r t =>
  have hlt2 : 0 < into.length := by rw [hil]; simp
  have hcr : chkR r = 0 := Qib hc _ (by simp)
  have hwr := hw r (by simp)
  have hx := Qid r hcr
  have hlen : ∀ q : List Int, ((q ++ Qic r).length : Int) = (q.length : Int) + fsz r := fun q => by rw [List.length_append]; unfold fsz; omega
  rw [List.map_cons] at hp
  unfold Qhz at hp
  by_cases hf : Qht e (Qhm e s (s - 1)) 0 (fsz r) = false
  ·rw [if_pos hf] at hp; cases hp
  ·rw [if_neg hf] at hp
   have hft : Qht e (Qhm e s (s - 1)) 0 (fsz r) = true := by simpa using hf
   have hfit0 := fits_any hG (n := 0) (by omega) (by omega) hft
   rw [if_pos hfit0] at hp
   obtain ⟨q1, q2⟩ := pre_at (i := 0) (x := 0) (by have := Qii e s _ _ _ _ _ (congrArg Prod.snd hp); rw [hp] at this; exact this) hlt2
   have q1' : rd into 0 = 0 := q1
   have hhd := Qhn e s 0
   obtain ⟨a1, a2, a3, a4⟩ := add_good hG (fresh_ok e s 0 0) (by omega) hcr hwr hft hfit0
   have hpb : putB e s 0 (Qih e s 0) r = Qja e s 0 [r] := rfl
   rw [hpb] at a1 a2 a3
   have hlB : ((Qja e s 0 [r]).2.1.length : Int) = Qhm e s 0 + fsz r := by rw [← hpb]; exact hlen _
   have hlT : ((Qja e s 0 [r]).2.2.length : Int) = 1 := by rw [← hpb]; simp [putB, Qih]
   have hp' : Qhz e s (((r :: t).drop 1).map fsz) (into.take 1) 0 ((Qja e s 0 [r]).2.1.length : Int) ((Qja e s 0 [r]).2.2.length : Int) = (into, 0) := by
    rw [hlB, hlT, q2]
    exact hp
   obtain ⟨f1, f2, f3⟩ := enc_img hG (r :: t) into hl hw hc hil t.length 1 [] 0 [r] (by simp; omega) (by omega) a2 (by simp) a3 (by omega) (by omega) (by simp) q1' hp'
   refine ⟨?_, f2, fun _ => ⟨q1', by simpa using f3⟩⟩
   rw [encG, if_pos hlt2]
   rw [if_pos rfl, q1, new_good hG 0 (by omega) (by omega), Option.bind_some, a1, Option.bind_some]
   exact f1
theorem Qji (e s : Int) (l : List Rec) (k : Nat) (hl : l.length ≤ 1000000) (hw : Wf l) (hk : 2 * l.length + 10 ≤ k) (h : (Qif e s l).2.2 = 0) :
  Good e s ∧ chkL l = 0 ∧ (Qie e s l).1.length = l.length ∧ Qba.f k e s l = some (imgP e s 0 (Qjg (Qie e s l).1 l), 0) ∧ AllG e s 0 (Qjg (Qie e s l).1 l) ∧ (l ≠ [] → rd (Qie e s l).1 0 = 0 ∧ StepsI (Qie e s l).1 (l.length - 1) 1 0) := by
 obtain ⟨hg, hr, h2, h3, h4, h5⟩ := plan_parts h hl
 have hp := enc_parts hg l (Qie e s l).1 hl hw (risL_chk hr) h4 (by
  have : Qhz e s (l.map fsz) [] 0 (Qhm e s 0) 0 = Qie e s l := rfl
  rw [this, ← h2])
 refine ⟨hg, risL_chk hr, h4, ?_, hp.2.1, hp.2.2⟩
 unfold Qba.f
 rw [plan_is e s l k hl hw hk, Option.bind_some, if_pos h, if_pos (by omega), h3, hp.1, Option.bind_some]
theorem tail_fit {e s n : Int} (hG : Good e s) {g : List Rec} (h : GoodG e s n g) (b : Bool) : ((Qil (Qja e s n g) b).length : Int) ≤ szN e := by
 obtain ⟨h0, h1, h2, h3, h4⟩ := h
 have hfl := foot_len (Qhc (Qja e s n g)) (Qgs (Qja e s n g).2.2)
 rw [Qgt] at hfl
 have hmm := Qhs ((Qja e s n g).2.2.length : Int) (by omega) (by have := h2.2.1; omega)
 unfold Qil
 rw [List.length_append]
 cases b with
 | true => rw [if_pos rfl]; omega
 | false => rw [if_neg (by simp)]; simp; omega
theorem seg_len {e s n : Int} (hG : Good e s) {g : List Rec} (h : GoodG e s n g) (b : Bool) : (segB e s n g b).length = (szN e).toNat := by
 have h1 := tail_fit hG h b
 unfold segB
 rw [List.length_append, List.length_replicate]
 omega
theorem img_len {e s : Int} (hG : Good e s) : ∀ (ps : List (List Rec)) (n : Int), AllG e s n ps → (imgP e s n ps).length = ps.length * (szN e).toNat
 | [], n, _ => by simp [imgP]
 | [g], n, h => by simp [imgP, seg_len hG h.1]
 | g :: g2 :: t, n, h => by
  have ih := img_len hG (g2 :: t) (n + 1) h.2
  unfold imgP
  rw [List.length_append, ih, seg_len hG h.1 true, List.length_cons (a := g), Nat.add_mul, Nat.one_mul]
  omega
theorem Qjj (e s n : Int) (g : List Rec) : (Qja e s n g).2.1 = Qgi e s n ++ g.flatMap Qic := Qje e s n g _
theorem seg_tail (e s n : Int) (g : List Rec) (b : Bool) : ∃ T, NoRec T ∧ segB e s n g b = Qgi e s n ++ (g.flatMap Qic ++ T) := by
 unfold segB Qil
 rw [Qjj]
 cases b with
 | true =>
  rw [if_pos rfl]
  generalize (szN e).toNat - (Qgi e s n ++ g.flatMap Qic ++ Qha (Qhc (Qja e s n g)) (Qgs (Qja e s n g).2.2)).length = m
  exact ⟨Qha (Qhc (Qja e s n g)) (Qgs (Qja e s n g).2.2) ++ List.replicate m 255, noRec_foot _ _ _, by simp only [List.append_assoc]⟩
 | false =>
  rw [if_neg (by simp), List.append_nil]
  generalize (szN e).toNat - (Qgi e s n ++ g.flatMap Qic).length = m
  exact ⟨List.replicate m 255, noRec_pad _, by simp only [List.append_assoc]⟩
theorem seg_inj {e s n : Int} {g g' : List Rec} {b b' : Bool} (h : ∀ r ∈ g, okR r) (h' : ∀ r ∈ g', okR r) (he : segB e s n g b = segB e s n g' b') : g = g' := by
 obtain ⟨T, hT, e1⟩ := seg_tail e s n g b
 obtain ⟨T', hT', e2⟩ := seg_tail e s n g' b'
 rw [e1, e2] at he
 exact (Qiy h h' hT hT' (List.append_cancel_left he)).1
theorem img_inj' {e s : Int} (hG : Good e s) : ∀ (ps ps' : List (List Rec)) (n : Int), ps.length = ps'.length → AllG e s n ps → AllG e s n ps' → (∀ g ∈ ps, ∀ r ∈ g, okR r) → (∀ g ∈ ps', ∀ r ∈ g, okR r) → imgP e s n ps = imgP e s n ps' → ps = ps'
 | [], [], _, _, _, _, _, _, _ => rfl
 | [], _ :: _, _, hl, _, _, _, _, _ => by simp at hl
 | _ :: _, [], _, hl, _, _, _, _, _ => by simp at hl
 | [g], [g'], n, _, h, h', hr, hr', he => by
  rw [seg_inj (hr g (by simp)) (hr' g' (by simp)) (show segB e s n g false = segB e s n g' false from he)]
 | [_], _ :: _ :: _, _, hl, _, _, _, _, _ => by simp at hl
 | _ :: _ :: _, [_], _, hl, _, _, _, _, _ => by simp at hl
 | g :: g2 :: t, g' :: g2' :: t', n, hl, h, h', hr, hr', he => by
  have he' : segB e s n g true ++ imgP e s (n + 1) (g2 :: t) = segB e s n g' true ++ imgP e s (n + 1) (g2' :: t') := he
  have h1 := List.append_inj he' (by rw [seg_len hG h.1, seg_len hG h'.1])
  rw [seg_inj (hr g (by simp)) (hr' g' (by simp)) h1.1, img_inj' hG (g2 :: t) (g2' :: t') (n + 1) (by simpa using hl) h.2 h'.2 (fun x hx => hr x (List.mem_cons_of_mem _ hx)) (fun x hx => hr' x (List.mem_cons_of_mem _ hx)) h1.2]
theorem img_inj {e s : Int} (hG : Good e s) (ps ps' : List (List Rec)) (n : Int) (h : AllG e s n ps) (h' : AllG e s n ps') (hr : ∀ g ∈ ps, ∀ r ∈ g, okR r) (hr' : ∀ g ∈ ps', ∀ r ∈ g, okR r) (he : imgP e s n ps = imgP e s n ps') : ps = ps' := by
 have hsz := Qhq hG.1 hG.2.1
 refine img_inj' hG ps ps' n ?_ h h' hr hr' he
 have := congrArg List.length he
 rw [img_len hG ps n h, img_len hG ps' n h'] at this
 exact Nat.eq_of_mul_eq_mul_right (by omega) this
theorem Qjk {b : List Int} (hb : Bytes b) : Bytes (Qgg b) := by
 unfold Qgg
 refine (Qio _ _ (Nat.le_refl _) (hb.app (Qis 8 _))).2.1.app ?_
 intro y hy
 rcases List.mem_singleton.1 hy with rfl
 omega
theorem foot_bytes (u : Int) (l : List Ent) : Bytes (Qha u l) := by
 unfold Qha
 refine Qjk (Bytes.app (Bytes.app (Bytes.app (Bytes.app ?_ (Qis 4 _)) (Qis 4 _)) (Qiz _ ent_bytes l)) (Qiz _ (fun x => Qis 8 x) _))
 intro y hy
 rcases List.mem_singleton.1 hy with rfl
 omega
theorem head_bytes {e s n : Int} (he : 0 ≤ e ∧ e < 256) (hs : 0 ≤ s ∧ s < 4294967296) (hn : 0 ≤ n ∧ n < 4294967296) : Bytes (Qgi e s n) := by
 unfold Qgi
 refine Qjk (Bytes.app (Bytes.app ?_ (Qiw s hs.1 (by omega))) (Qiw n hn.1 (by omega)))
 intro y hy
 simp only [List.mem_cons, List.not_mem_nil, or_false] at hy
 omega
theorem Qjl : ∀ {g : List Rec}, (∀ r ∈ g, okR r) → Bytes (g.flatMap Qic)
 | [], _ => fun y hy => by cases hy
 | r :: g, h => by
  rw [List.flatMap_cons]
  exact (Qjk (Qix (h r (List.mem_cons_self ..)))).app (Qjl (fun x hx => h x (List.mem_cons_of_mem _ hx)))
theorem rep_bytes (m : Nat) : Bytes (List.replicate m 255) := fun x hx => by have := List.eq_of_mem_replicate hx; omega
theorem seg_bytes {e s n : Int} (hG : Good e s) {g : List Rec} (h : GoodG e s n g) (hr : ∀ r ∈ g, okR r) (b : Bool) : Bytes (segB e s n g b) := by
 obtain ⟨g1, g2, g3, g4⟩ := hG
 obtain ⟨h0, h1, _⟩ := h
 unfold segB Qil
 rw [Qjj]
 refine Bytes.app (Bytes.app ((head_bytes (by omega) (by omega) (by omega)).app (Qjl hr)) ?_) (rep_bytes _)
 split
 ·exact foot_bytes _ _
 ·intro y hy; cases hy
theorem img_bytes {e s : Int} (hG : Good e s) : ∀ (ps : List (List Rec)) (n : Int), AllG e s n ps → (∀ g ∈ ps, ∀ r ∈ g, okR r) → Bytes (imgP e s n ps)
 | [], n, _, _ => fun y hy => by cases hy
 | [g], n, h, hr => seg_bytes hG h.1 (hr g (by simp)) false
 | g :: g2 :: t, n, h, hr => (seg_bytes hG h.1 (hr g (by simp)) true).app (img_bytes hG (g2 :: t) (n + 1) h.2 (fun x hx => hr x (List.mem_cons_of_mem _ hx)))
end Go.Proofs.YtnnofopfbeklbaaGreat.CodecP
end
section
namespace Go.Proofs.YtnnofopfbeklbaaGreat.Pure
open Go.RowKit Go.Proofs.YtnnofopfbeklbaaGreat.C Go.Proofs.YtnnofopfbeklbaaGreat.CodecP Go.Proofs.YtnnofopfbeklbaaGreatW.PrintWords Go.Proofs.YtnnofopfbeklbaaGreatW.PrintLast Go.Proofs.YtnnofopfbeklbaaGreatW.PrintMore Go.Proofs.YtnnofopfbeklbaaGreat.Open
theorem wf_row {l : List Rec} (h : ∀ x ∈ l, OG39 x) : Wf l := by
 intro r hr
 have h1 : (Lit.int .u64 r.f1).wf = true := (h r hr).2.1
 simp only [Lit.wf, IntKind.min, IntKind.max, IntKind.signed, IntKind.bits, Bool.and_eq_true, decide_eq_true_eq] at h1
 simp at h1
 omega
theorem wf_u8 {x : Int} (h1 : (Lit.int .u8 x).wf = true) : 0 ≤ x ∧ x < 256 := by
 simp only [Lit.wf, IntKind.min, IntKind.max, IntKind.signed, IntKind.bits, Bool.and_eq_true, decide_eq_true_eq] at h1
 simp at h1
 omega
instance : DecidableEq Rec := fun a b =>
  if h : a.f0 = b.f0 ∧ a.f1 = b.f1 ∧ a.f2 = b.f2 ∧ a.f3 = b.f3 then .isTrue (by
    obtain ⟨h0, h1, h2, h3⟩ := h
    cases a; cases b
    simp only at h0 h1 h2 h3
    rw [h0, h1, h2, h3]) else .isFalse (fun e => h ⟨by rw [e], by rw [e], by rw [e], by rw [e]⟩)
theorem Qjm (s : ByteArray) : s.toList = s.data.toList := Lib.toList_data s
theorem list_inj {a b : ByteArray} (h : a.toList = b.toList) : a = b := by
 rw [Qjm, Qjm] at h
 cases a; cases b
 simp only [ByteArray.mk.injEq]
 exact Array.toList_inj.1 h
theorem differ (a b : Rec) : (!((a.f0) == (b.f0)) || (!((a.f1) == (b.f1)) || (!(((a.f2).toList) == ((b.f2).toList)) || (!(((a.f3).toList) == ((b.f3).toList)))))) = decide (a ≠ b) := by
 by_cases h : a = b
 ·subst h; simp
 ·rw [decide_eq_true h]
  apply Decidable.byContradiction
  intro hn
  simp only [Bool.not_eq_true, Bool.or_eq_false_iff, Bool.not_eq_false', beq_iff_eq] at hn
  obtain ⟨h0, h1, h2, h3⟩ := hn
  apply h
  cases a; cases b
  simp only at h0 h1 h2 h3
  rw [h0, h1, list_inj h2, list_inj h3]
theorem same_run (a b : List Rec) (hl : a.length ≤ 1000000) (he : a.length = b.length) : ∀ (d i k : Nat), i + d = a.length → d + 1 ≤ k →
  Qas.l0 k a b (a.length : Int) (i : Int) = some (decide (a.drop i = b.drop i)) ∧ Qaa.l0 k a b (a.length : Int) (i : Int) = some (decide (a.drop i = b.drop i)) := by
 intro d
 induction d with
 | zero =>
  intro i k hd hk
  obtain ⟨k, rfl⟩ : ∃ m, k = m + 1 := ⟨k - 1, by omega⟩
  rw [Qas.l0, if_neg (by omega), Qaa.l0, if_neg (by omega), List.drop_of_length_le (by omega), List.drop_of_length_le (by omega)]
  exact ⟨by simp, by simp⟩
 | succ d ihd =>
  intro i k hd hk
  obtain ⟨k, rfl⟩ : ∃ m, k = m + 1 := ⟨k - 1, by omega⟩
  have hi : i < a.length := by omega
  have hi2 : i < b.length := by omega
  have ih := ihd (i + 1) k (by omega) (by omega)
  have c1 : Qas.l0 (k + 1) a b (a.length : Int) (i : Int) = if decide (a[i] ≠ b[i]) = true then some false else Qas.l0 k a b (a.length : Int) ((i + 1 : Nat) : Int) := by
   rw [Qas.l0, if_pos (by omega), if_pos (by omega), if_pos (by omega), if_pos (by omega), rdR a i hi, rdR b i hi2, differ, Qhk i (by omega)]
  have c2 : Qaa.l0 (k + 1) a b (a.length : Int) (i : Int) = if decide (a[i] ≠ b[i]) = true then some false else Qaa.l0 k a b (a.length : Int) ((i + 1 : Nat) : Int) := by
   rw [Qaa.l0, if_pos (by omega), if_pos (by omega), if_pos (by omega), if_pos (by omega), rdR a i hi, rdR b i hi2, differ, Qhk i (by omega)]
  rw [c1, c2, List.drop_eq_getElem_cons hi, List.drop_eq_getElem_cons hi2]
  by_cases h : a[i] = b[i]
  ·have h1 : decide (a[i] ≠ b[i]) = false := decide_eq_false (fun hn => hn h)
   have h2 : decide (a[i] :: a.drop (i + 1) = b[i] :: b.drop (i + 1)) = decide (a.drop (i + 1) = b.drop (i + 1)) := by
    rw [Bool.eq_iff_iff, decide_eq_true_iff, decide_eq_true_iff, List.cons.injEq]
    exact ⟨fun e => e.2, fun e => ⟨h, e⟩⟩
   rw [h1, if_neg (by decide), if_neg (by decide), h2]
   exact ih
  ·have h1 : decide (a[i] ≠ b[i]) = true := decide_eq_true h
   have h2 : decide (a[i] :: a.drop (i + 1) = b[i] :: b.drop (i + 1)) = false := decide_eq_false (fun e => h (List.cons.inj e).1)
   rw [h1, if_pos rfl, if_pos rfl, h2]
   exact ⟨rfl, rfl⟩
theorem same_is (a b : List Rec) (k : Nat) (hl : a.length ≤ 1000000) (hk : a.length + 1 ≤ k) : Qas.f k a b = some (decide (a = b)) ∧ Qbb.f k a b = some (decide (a = b)) := by
 have h0 : Qas.f k a b = some (decide (a = b)) ∧ Qaa.f k a b = some (decide (a = b)) := by
  unfold Qas.f Qaa.f
  by_cases he : a.length = b.length
  ·have h := same_run a b hl he a.length 0 k (by omega) hk
   rw [if_pos (by omega), if_pos (by omega)]
   simp only [List.drop_zero] at h
   exact h
  ·have hn : ¬ a = b := fun e => he (by rw [e])
   rw [if_neg (by omega), if_neg (by omega), decide_eq_false hn]
   exact ⟨rfl, rfl⟩
 refine ⟨h0.1, ?_⟩
 unfold Qbb.f
 rw [h0.2, Option.bind_some]
theorem parts_ok {e s : Int} {l : List Rec} (hc : chkL l = 0) (hw : Wf l) (into : List Int) : ∀ g ∈ Qjg into l, ∀ r ∈ g, okR r := fun g hg r hr => by
 have : r ∈ l := by
  rw [← Qjh into l]
  exact List.mem_flatten.2 ⟨g, hg, hr⟩
 exact ⟨Qib hc r this, hw r this⟩
theorem ImageApart : Qaq.Pure := by
 intro x0 l m h0 hG hG'
 have hl : l.length ≤ 4611686018427387903 := by have := hG.1; omega
 have hm : m.length ≤ 4611686018427387903 := by have := hG'.1; omega
 have hw := wf_row hG.2
 have hw' := wf_row hG'.2
 have hx := wf_u8 h0
 obtain ⟨K, hK⟩ : ∃ K : Nat, K = 2 * l.length + 2 * m.length + 3000000 := ⟨_, rfl⟩
 refine ⟨K + 1, ?_⟩
 unfold Qaq.f
 rw [show Qar.f = some true from rfl, Option.bind_some, if_pos rfl, few_is l 20 500 _ hl (by omega), Option.bind_some]
 by_cases hf : few l 20 500 = true
 ·have hn := few_len hf
  rw [if_pos hf, few_is m 20 500 _ hm (by omega), Option.bind_some, Qaq.j0]
  by_cases hf' : few m 20 500 = true
  ·have hn' := few_len hf'
   have h1 : l.length ≤ 1000000 := by omega
   have h1' : m.length ≤ 1000000 := by omega
   have hsm : Qap.f x0 = some (12 + x0 % 2, 1 + x0 / 2 % 8) := by unfold Qap.f; rw [if_pos hx.1, if_pos hx.2]
   rw [if_neg (by simp [hf']), hsm, Option.bind_some]
   dsimp only
   obtain ⟨e, he⟩ : ∃ e, e = 12 + x0 % 2 := ⟨_, rfl⟩
   obtain ⟨s, hs⟩ : ∃ s, s = 1 + x0 / 2 % 8 := ⟨_, rfl⟩
   rw [← he, ← hs]
   have hsame := same_is l m K h1 (by omega)
   have tail : ∀ (a b : List Int) (p q : Int), Qba.f K e s l = some (a, p) → Qba.f K e s m = some (b, q) → (p = 0 → q = 0 → ((strOfNums a).toList == (strOfNums b).toList) = decide (l = m)) →
     ((Qba.f K e s l).bind fun bt551 => ((Qba.f K e s m).bind fun bt555 => ((Qbb.f K l m).bind fun t559 => ((Qas.f K l m).bind fun t560 => (if (t559 != t560) = true then (some false) else (if bt551.2 = 0 then (if bt555.2 = 0 then ((Qbb.f K l m).bind fun t561 => (some (((strOfNums bt551.1).toList == (strOfNums bt555.1).toList) == t561))) else (some true)) else (some true))))))) = some true := by
    intro a b p q ha hb hab
    rw [ha, Option.bind_some, hb, Option.bind_some, hsame.2, Option.bind_some, hsame.1, Option.bind_some, bne_self_eq_false, if_neg (by simp)]
    dsimp only
    by_cases hp : p = 0
    ·rw [if_pos hp]
     by_cases hq : q = 0
     ·rw [if_pos hq, Option.bind_some, hab hp hq]
      simp
     ·rw [if_neg hq]
    ·rw [if_neg hp]
   by_cases hz : (Qif e s l).2.2 = 0
   ·obtain ⟨hg, hc, hil, e1, a1, _⟩ := Qji e s l K h1 hw (by omega) hz
    by_cases hz' : (Qif e s m).2.2 = 0
    ·obtain ⟨_, hc', hil', e2, a2, _⟩ := Qji e s m K h1' hw' (by omega) hz'
     refine tail _ _ _ _ e1 e2 (fun _ _ => ?_)
     by_cases hlm : l = m
     ·subst hlm; simp
     ·rw [decide_eq_false hlm, beq_eq_false_iff_ne]
      intro hh
      apply hlm
      have hi1 : ∀ {l : List Rec} {into : List Int}, chkL l = 0 → Wf l → AllG e s 0 (Qjg into l) → Bytes (imgP e s 0 (Qjg into l)) := fun hc hw ha => img_bytes hg _ 0 ha (fun g hg' r hr => parts_ok (e := e) (s := s) hc hw _ g hg' r hr)
      have h2 := congrArg bytesOf (list_inj hh)
      rw [Qhh (hi1 hc hw a1), Qhh (hi1 hc' hw' a2)] at h2
      have h3 := img_inj hg _ _ 0 a1 a2 (parts_ok (e := e) (s := s) hc hw _) (parts_ok (e := e) (s := s) hc' hw' _) h2
      rw [← Qjh (Qie e s l).1 l, h3, Qjh]
    ·exact tail _ _ _ _ e1 (Qij e s m K h1' hw' (by omega) hz') (fun _ h => absurd h hz')
   ·have e1 := Qij e s l K h1 hw (by omega) hz
    by_cases hz' : (Qif e s m).2.2 = 0
    ·obtain ⟨_, hc', hil', e2, a2, _⟩ := Qji e s m K h1' hw' (by omega) hz'
     exact tail _ _ _ _ e1 e2 (fun h _ => absurd h hz)
    ·exact tail _ _ _ _ e1 (Qij e s m K h1' hw' (by omega) hz') (fun h _ => absurd h hz)
  ·rw [if_pos (by simp [hf'])]
   rfl
 ·rw [if_neg hf, Qaq.j0, if_pos rfl]
  rfl
end Go.Proofs.YtnnofopfbeklbaaGreat.Pure
end
