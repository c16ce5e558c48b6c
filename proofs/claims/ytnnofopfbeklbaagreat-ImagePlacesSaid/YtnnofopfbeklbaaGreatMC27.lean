/- Texts of this claim's author and of the print of its functions, merged by merge.py. -/
import Derived.Test.YtnnofopfbeklbaaGreatMC26
import Derived.Test.YtnnofopfbeklbaaGreatMC16
import Derived.Test.YtnnofopfbeklbaaGreatMC17
import Derived.Test.YtnnofopfbeklbaaGreatMC02
import Derived.Test.YtnnofopfbeklbaaGreatMC23
set_option linter.unusedVariables false
set_option linter.unusedSimpArgs false
section
namespace Go.Proofs.YtnnofopfbeklbaaGreat.CodecP
open Go.RowKit Go.Proofs.YtnnofopfbeklbaaGreat.C Go.Proofs.YtnnofopfbeklbaaGreatW.PrintWords Go.Proofs.YtnnofopfbeklbaaGreatW.PrintLast Go.Proofs.YtnnofopfbeklbaaGreatW.PrintMore
set_option maxRecDepth 20000
theorem rdR (l : List Rec) (i : Nat) (h : i < l.length) : Qfu l (i : Int) = l[i] := by simp [Qfu, List.getElem?_eq_getElem h]
def chkR (r : Rec) : Int := chk r.f0 r.f2 r.f3
def chkL : List Rec → Int
 | [] => 0
 | r :: t => if chkR r = 0 then chkL t else chkR r
def ordL : List Rec → Int
 | [] => 0
 | [_] => 0
 | a :: b :: t => if b.f1 ≤ a.f1 then 8 else ordL (b :: t)
def risL (l : List Rec) : Int := if chkL l = 0 then ordL l else chkL l
theorem Qjw {l : List Rec} (h : chkL l = 0) : ∀ r ∈ l, chkR r = 0 := by
 induction l with
 | nil => intro r hr; cases hr
 | cons a t ih =>
  unfold chkL at h
  by_cases ha : chkR a = 0
  ·rw [if_pos ha] at h
   intro r hr
   rcases List.mem_cons.1 hr with rfl | hr
   ·exact ha
   ·exact ih h r hr
  ·rw [if_neg ha] at h; exact absurd h ha
theorem check_k (k : Nat) (d : Bool) (s : Int) (key v : ByteArray) (hk : 1 ≤ k) : Qbw.f k d s key v = some (chk d key v) :=
 Qcr (g := fun k => Qbw.f k d s key v) (Qbw.mono d s key v) hk (chk_is d s key v)
theorem ord_drop {l : List Rec} {i : Nat} (h : i + 1 < l.length) : ordL (l.drop i) = if l[i + 1].f1 ≤ l[i].f1 then 8 else ordL (l.drop (i + 1)) := by
 rw [List.drop_eq_getElem_cons (by omega), List.drop_eq_getElem_cons h]
 rfl
theorem ord_short {l : List Rec} (h : l.length ≤ 1) : ordL l = 0 := by
 match l, h with
 | [], _ => rfl
 | [_], _ => rfl
theorem ris_l1 (l : List Rec) (hl : l.length ≤ 4611686018427387903) : ∀ (d i k : Nat), i + d = l.length → d + 1 ≤ k → Qbx.l1 k l ((i + 1 : Nat) : Int) = some (ordL (l.drop i))
 | 0, i, k, h, hk => by
  obtain ⟨k, rfl⟩ : ∃ m, k = m + 1 := ⟨k - 1, by omega⟩
  unfold Qbx.l1
  rw [if_neg (by omega), ord_short (by rw [List.length_drop]; omega)]
 | d + 1, i, k, h, hk => by
  obtain ⟨k, rfl⟩ : ∃ m, k = m + 1 := ⟨k - 1, by omega⟩
  unfold Qbx.l1
  by_cases hi : i + 1 < l.length
  ·have w1 := wrap_pred (i + 1) (by omega) (by omega)
   rw [Nat.add_sub_cancel] at w1
   rw [if_pos (by omega), if_pos (by omega), w1, if_pos (by omega), if_pos (by omega), rdR l (i + 1) hi, rdR l i (by omega), ord_drop hi]
   by_cases ho : l[i + 1].f1 ≤ l[i].f1
   ·rw [if_pos ho, if_pos ho]
   ·rw [if_neg ho, if_neg ho, Qjd (i + 1) (by omega)]
    exact ris_l1 l hl d (i + 1) k (by omega) (by omega)
  ·rw [if_neg (by omega), ord_short (by rw [List.length_drop]; omega)]
theorem ris_l0 (l : List Rec) (hl : l.length ≤ 4611686018427387903) : ∀ (d i k : Nat), i + d = l.length → d + l.length + 5 ≤ k → Qbx.l0 k l l (l.length : Int) (i : Int) = some (if chkL (l.drop i) = 0 then ordL l else chkL (l.drop i))
 | 0, i, k, h, hk => by
  obtain ⟨k, rfl⟩ : ∃ m, k = m + 1 := ⟨k - 1, by omega⟩
  unfold Qbx.l0
  rw [if_neg (by omega), List.drop_of_length_le (by omega)]
  exact ris_l1 l hl l.length 0 k (by omega) (by omega)
 | d + 1, i, k, h, hk => by
  obtain ⟨k, rfl⟩ : ∃ m, k = m + 1 := ⟨k - 1, by omega⟩
  have hi : i < l.length := by omega
  unfold Qbx.l0
  rw [if_pos (by omega), if_pos (by omega), if_pos (by omega), rdR l i hi, check_k k _ _ _ _ (by omega), Option.bind_some, List.drop_eq_getElem_cons hi]
  unfold chkL
  by_cases hc : chkR l[i] = 0
  ·rw [if_pos hc, if_pos (show chk l[i].f0 l[i].f2 l[i].f3 = 0 from hc), Qjd i (by omega)]
   exact ris_l0 l hl d (i + 1) k (by omega) (by omega)
  ·rw [if_neg hc, if_neg (show ¬ chk l[i].f0 l[i].f2 l[i].f3 = 0 from hc), if_neg hc]
   rfl
theorem ris_prog (l : List Rec) (k : Nat) (hl : l.length ≤ 4611686018427387903) (hk : 2 * l.length + 5 ≤ k) : Qbx.f k l = some (risL l) :=
 ris_l0 l hl l.length 0 k (by omega) (by omega)
def Qjx (r : Rec) : List Int := Qhp (Qhi r.f0 r.f1 r.f2 r.f3)
def fsz (r : Rec) : Int := ((Qjx r).length : Int)
def Wf (l : List Rec) : Prop := ∀ r ∈ l, 0 ≤ r.f1 ∧ r.f1 < 18446744073709551616
theorem bodyL_len (d : Bool) (s : Int) (key v : ByteArray) : (Qhi d s key v).length ≤ key.size + v.size + 31 := by
 have h1 := Qhc 9 s
 have h2 := Qhc 9 (key.size : Int)
 have h3 := Qhc 9 (v.size : Int)
 have h4 := Qcm key
 have h5 := Qcm v
 cases d
 ·simp only [Qhi, List.length_append, List.length_cons, List.length_nil, Bool.false_eq_true, if_false]; omega
 ·simp only [Qhi, List.length_append, List.length_cons, List.length_nil, if_true]; omega
theorem sealL_len (b : List Int) : 0 < (Qhp b).length ∧ (Qhp b).length ≤ 2 * b.length + 18 := by
 have h := Qhq _ (b ++ leb (Qhn 0 b) 8) (Nat.le_refl _)
 rw [List.length_append, Qfz] at h
 unfold Qhp
 rw [List.length_append]
 simp
 omega
theorem Qjy (r : Rec) (hc : chkR r = 0) : 1 ≤ fsz r ∧ fsz r ≤ 8388608 := by
 have h1 := Qhh hc
 have h2 := bodyL_len r.f0 r.f1 r.f2 r.f3
 have h3 := sealL_len (Qhi r.f0 r.f1 r.f2 r.f3)
 unfold fsz Qjx
 omega
theorem put_good (r : Rec) (hc : chkR r = 0) (h0 : 0 ≤ r.f1) (h1 : r.f1 < 18446744073709551616) : Qbh.f r.f0 r.f1 r.f2 r.f3 = some (Qjx r, 0) := by
 have h2 := Qhh hc
 have h3 := bodyL_len r.f0 r.f1 r.f2 r.f3
 unfold Qbh.f Qbv.f
 rw [if_pos h0, if_pos h1, if_pos (show chk r.f0 r.f2 r.f3 = 0 from hc), Option.bind_some, if_pos rfl]
 unfold Qbi.f
 rw [if_pos (by dsimp only; omega), Option.bind_some]
 rfl
def Qjz (e s : Int) (l : List Rec) : List Int × Int := Qjt e s (l.map fsz) [] 0 (Qjg e s 0) 0
theorem take_map {l : List Rec} {i : Nat} (h : i < l.length) : (l.take (i + 1)).map fsz = (l.take i).map fsz ++ [fsz l[i]] := by rw [List.take_succ_eq_append_getElem h, List.map_append]; rfl
theorem iplan_run {e s : Int} (h : Good e s) (l : List Rec) (hl : l.length ≤ 1000000) (hw : Wf l) (hc : chkL l = 0) : ∀ (d i k : Nat), i + d = l.length → d + l.length + 5 ≤ k →
  Qbo.l0 k ((l.take i).map fsz) l (l.length : Int) (i : Int) e s = some ((Qjz e s l).1, l.map fsz, (Qjz e s l).2)
 | 0, i, k, hi, hk => by
  obtain ⟨k, rfl⟩ : ∃ m, k = m + 1 := ⟨k - 1, by omega⟩
  unfold Qbo.l0
  rw [if_neg (by omega), List.take_of_length_le (by omega), plan_prog h (l.map fsz) k (by rw [List.length_map]; exact hl) (fun x hx => by
   obtain ⟨r, hr, rfl⟩ := List.mem_map.1 hx
   have := Qjy r (Qjw hc r hr)
   omega) (by rw [List.length_map]; omega), Option.bind_some]
  rfl
 | d + 1, i, k, hi, hk => by
  obtain ⟨k, rfl⟩ : ∃ m, k = m + 1 := ⟨k - 1, by omega⟩
  have hil : i < l.length := by omega
  have hr := List.getElem_mem hil
  have hln : ((l.take i).map fsz).length = i := by rw [List.length_map, List.length_take]; omega
  unfold Qbo.l0
  rw [if_pos (by omega), if_pos (by omega), if_pos (by omega), rdR l i hil, put_good l[i] (Qjw hc _ hr) (hw _ hr).1 (hw _ hr).2, Option.bind_some, if_pos (by omega), Qjd i (by omega)]
  have := iplan_run h l hl hw hc d (i + 1) k (by omega) (by omega)
  rw [take_map hil] at this
  exact this
def Qka (e s : Int) (l : List Rec) : List Int × List Int × Int := if 12 ≤ e ∧ e ≤ 24 ∧ 1 ≤ s ∧ s ≤ 65536 then if risL l = 0 then ((Qjz e s l).1, l.map fsz, (Qjz e s l).2) else ([], [], risL l) else ([], [], 1)
theorem risL_chk {l : List Rec} (h : risL l = 0) : chkL l = 0 := by
 unfold risL at h
 by_cases hc : chkL l = 0
 ·exact hc
 ·rw [if_neg hc] at h; exact h
theorem plan_is (e s : Int) (l : List Rec) (k : Nat) (hl : l.length ≤ 1000000) (hw : Wf l) (hk : 2 * l.length + 10 ≤ k) : Qbo.f k e s l = some (Qka e s l) := by
 unfold Qbo.f Qka
 by_cases hg : 12 ≤ e ∧ e ≤ 24 ∧ 1 ≤ s ∧ s ≤ 65536
 ·rw [Qjj hg, Option.bind_some, if_pos rfl, if_pos hg, ris_prog l k (by omega) (by omega), Option.bind_some]
  by_cases hr : risL l = 0
  ·rw [if_pos hr, if_pos hr]
   exact iplan_run hg l hl hw (risL_chk hr) l.length 0 k (by omega) (by omega)
  ·rw [if_neg hr, if_neg hr]
 ·rw [check_bad hg, Option.bind_some, if_neg (by decide), if_neg hg]
theorem planP_ok (e s : Int) : ∀ (l out : List Int) (n u c : Int), 0 ≤ n → n < s → (∀ x ∈ out, 0 ≤ x ∧ x < s) → (Qjt e s l out n u c).2 = 0 →
  (Qjt e s l out n u c).1.length = out.length + l.length ∧ ∀ x ∈ (Qjt e s l out n u c).1, 0 ≤ x ∧ x < s
 | [], out, n, u, c, h0, h1, ho, h => ⟨by simp [Qjt], ho⟩
 | x :: t, out, n, u, c, h0, h1, ho, h => by
  unfold Qjt at h ⊢
  by_cases hf : Qjn e (Qjg e s (s - 1)) 0 x = false
  ·rw [if_pos hf] at h; cases h
  ·rw [if_neg hf] at h ⊢
   by_cases hq : Qjn e u c x = true
   ·rw [if_pos hq] at h ⊢
    have := planP_ok e s t (out ++ [n]) n (u + x) (c + 1) h0 h1 (fun y hy => by
     rcases List.mem_append.1 hy with hy | hy
     ·exact ho y hy
     ·simp at hy; omega) h
    refine ⟨?_, this.2⟩
    rw [this.1, List.length_append, List.length_cons]
    simp
    omega
   ·rw [if_neg hq] at h ⊢
    by_cases hs : n + 1 < s
    ·rw [if_pos hs] at h ⊢
     have := planP_ok e s t (out ++ [n + 1]) (n + 1) (Qjg e s (n + 1) + x) 1 (by omega) hs (fun y hy => by
      rcases List.mem_append.1 hy with hy | hy
      ·exact ho y hy
      ·simp at hy; omega) h
     refine ⟨?_, this.2⟩
     rw [this.1, List.length_append, List.length_cons]
     simp
     omega
    ·rw [if_neg hs] at h; cases h
abbrev Plc := S69
def Qkb (e s : Int) : Option Int → Int → List Int → List Int → List Plc
 | prev, at_, x :: into, z :: sizes =>
  (⟨x, (if prev = some x then at_ else Qjg e s x) % 4294967296⟩ : Plc) :: Qkb e s (some x) ((if prev = some x then at_ else Qjg e s x) + z) into sizes
 | _, _, _, _ => []
def Qkc (into : List Int) (i : Nat) : Option Int := if i = 0 then none else some (rd into ((i : Int) - 1))
theorem places_run {e s : Int} (h : Good e s) (into sizes : List Int) (hl : into.length ≤ 1000000) (hz : sizes.length = into.length) (hi : ∀ x ∈ into, 0 ≤ x ∧ x < s) (hx : ∀ x ∈ sizes, 0 ≤ x ∧ x ≤ 8388608) : ∀ (d i k : Nat) (out : List Plc) (at_ : Int), i + d = into.length → out.length = i → 0 ≤ at_ → at_ ≤ 1000 + (i : Int) * 8388608 → d + 1 ≤ k →
  Qbm.l0 k into sizes out at_ into (into.length : Int) (i : Int) e s = some (out ++ Qkb e s (Qkc into i) at_ (into.drop i) (sizes.drop i), 0) := by
 intro d
 induction d with
 | zero =>
  intro i k out at_ hd ho h0 h1 hk
  obtain ⟨k, rfl⟩ : ∃ m, k = m + 1 := ⟨k - 1, by omega⟩
  unfold Qbm.l0
  rw [if_neg (by omega), List.drop_of_length_le (by omega)]
  simp [Qkb]
 | succ d ihd =>
  intro i k out at_ hd ho h0 h1 hk
  obtain ⟨k, rfl⟩ : ∃ m, k = m + 1 := ⟨k - 1, by omega⟩
  have hil : i < into.length := by omega
  have hxi : 0 ≤ rd into (i : Int) ∧ rd into (i : Int) < s := by rw [Qis hil]; exact hi _ (List.getElem_mem hil)
  have hzi : 0 ≤ rd sizes (i : Int) ∧ rd sizes (i : Int) ≤ 8388608 := by rw [Qis (by omega)]; exact hx _ (List.getElem_mem (by omega))
  have hH := Qjh e s (rd into (i : Int))
  have hprev : Qkc into (i + 1) = some (rd into (i : Int)) := by
   unfold Qkc
   rw [if_neg (by omega), show (((i + 1 : Nat) : Int) - 1) = (i : Int) by omega]
  rw [Qju hil, Qju (l := sizes) (by omega)]
  unfold Qbm.l0
  rw [if_pos (by omega), if_pos (by omega), if_pos (by omega), Qjd i (by omega)]
  by_cases hz0 : i = 0
  ·have hz1 : ((i : Nat) : Int) = 0 := by omega
   rw [if_pos hz1, Qjs h _ hxi.1 hxi.2, Option.bind_some, if_pos (by omega), if_pos (by omega), show wrap64 (Qjg e s (rd into (i : Int)) + rd sizes (i : Int)) = Qjg e s (rd into (i : Int)) + rd sizes (i : Int) by unfold wrap64; omega]
   have ih := ihd (i + 1) k (out ++ [⟨rd into (i : Int), Qjg e s (rd into (i : Int)) % 4294967296⟩]) (Qjg e s (rd into (i : Int)) + rd sizes (i : Int)) (by omega) (by rw [List.length_append, ho]; rfl) (by omega) (by omega) (by omega)
   rw [ih, hprev]
   have hp0 : Qkc into i = none := by unfold Qkc; rw [if_pos hz0]
   rw [hp0]
   simp [Qkb]
  ·have hp0 : Qkc into i = some (rd into ((i : Int) - 1)) := by unfold Qkc; rw [if_neg hz0]
   rw [if_neg (by omega), wrap_pred i (by omega) (by omega), if_pos (by omega), if_pos (by omega), show ((i - 1 : Nat) : Int) = (i : Int) - 1 by omega]
   by_cases he : rd into (i : Int) = rd into ((i : Int) - 1)
   ·rw [if_pos he, if_pos (by omega), if_pos (by omega), show wrap64 (at_ + rd sizes (i : Int)) = at_ + rd sizes (i : Int) by unfold wrap64; omega]
    have ih := ihd (i + 1) k (out ++ [⟨rd into (i : Int), at_ % 4294967296⟩]) (at_ + rd sizes (i : Int)) (by omega) (by rw [List.length_append, ho]; rfl) (by omega) (by omega) (by omega)
    rw [ih, hprev, hp0, ← he]
    simp [Qkb]
   ·rw [if_neg he, Qjs h _ hxi.1 hxi.2, Option.bind_some, if_pos (by omega), if_pos (by omega), show wrap64 (Qjg e s (rd into (i : Int)) + rd sizes (i : Int)) = Qjg e s (rd into (i : Int)) + rd sizes (i : Int) by unfold wrap64; omega]
    have ih := ihd (i + 1) k (out ++ [⟨rd into (i : Int), Qjg e s (rd into (i : Int)) % 4294967296⟩]) (Qjg e s (rd into (i : Int)) + rd sizes (i : Int)) (by omega) (by rw [List.length_append, ho]; rfl) (by omega) (by omega) (by omega)
    rw [ih, hprev, hp0]
    have hne : ¬ (some (rd into ((i : Int) - 1)) = some (rd into (i : Int))) := fun e' => he (Option.some.inj e').symm
    simp [Qkb, hne]
theorem Qkd {e s : Int} {l : List Rec} (h : (Qka e s l).2.2 = 0) (hl : l.length ≤ 1000000) :
  Good e s ∧ risL l = 0 ∧ (Qjz e s l).2 = 0 ∧ Qka e s l = ((Qjz e s l).1, l.map fsz, 0) ∧ (Qjz e s l).1.length = l.length ∧ ∀ x ∈ (Qjz e s l).1, 0 ≤ x ∧ x < s := by
 unfold Qka at h ⊢
 by_cases hg : 12 ≤ e ∧ e ≤ 24 ∧ 1 ≤ s ∧ s ≤ 65536
 ·rw [if_pos hg] at h ⊢
  by_cases hr : risL l = 0
  ·rw [if_pos hr] at h ⊢
   have h2 : (Qjz e s l).2 = 0 := h
   have := planP_ok e s (l.map fsz) [] 0 (Qjg e s 0) 0 (by omega) (by omega) (by simp) h2
   refine ⟨hg, hr, h2, by rw [h2], ?_, this.2⟩
   have h3 : (Qjz e s l).1.length = _ := this.1
   rw [h3, List.length_map]
   simp
  ·rw [if_neg hr] at h; exact absurd h hr
 ·rw [if_neg hg] at h; cases h
theorem places_is (e s : Int) (l : List Rec) (k : Nat) (hl : l.length ≤ 1000000) (hw : Wf l) (hk : 2 * l.length + 10 ≤ k) :
  Qbm.f k e s l = some (if (Qka e s l).2.2 = 0 then Qkb e s none 0 (Qjz e s l).1 (l.map fsz) else [], (Qka e s l).2.2) := by
 unfold Qbm.f
 rw [plan_is e s l k hl hw hk, Option.bind_some]
 by_cases h : (Qka e s l).2.2 = 0
 ·obtain ⟨hg, hr, h2, h3, h4, h5⟩ := Qkd h hl
  rw [if_pos h, if_pos h, h, h3]
  have := places_run hg (Qjz e s l).1 (l.map fsz) (by omega) (by rw [List.length_map, h4]) h5 (fun x hx => by
   obtain ⟨r, hr', rfl⟩ := List.mem_map.1 hx
   have := Qjy r (Qjw (risL_chk hr) r hr')
   omega) (Qjz e s l).1.length 0 k [] 0 (by omega) rfl (by omega) (by omega) (by omega)
  exact this
 ·rw [if_neg h, if_neg h]
def Qke (into : List Int) : Int := if into.length = 0 then 0 else (rd into ((into.length : Int) - 1) + 1) % 4294967296
theorem segs_is (e s : Int) (l : List Rec) (k : Nat) (hl : l.length ≤ 1000000) (hw : Wf l) (hk : 2 * l.length + 10 ≤ k) :
  Qbn.f k e s l = some (if (Qka e s l).2.2 = 0 then Qke (Qjz e s l).1 else 0, (Qka e s l).2.2) := by
 unfold Qbn.f
 rw [plan_is e s l k hl hw hk, Option.bind_some]
 by_cases h : (Qka e s l).2.2 = 0
 ·obtain ⟨hg, hr, h2, h3, h4, h5⟩ := Qkd h hl
  rw [if_pos h, if_pos h, h, h3]
  dsimp only
  unfold Qke
  by_cases h0 : (Qjz e s l).1.length = 0
  ·rw [if_pos (by omega), if_pos h0]
  ·have hwl : wrap64 (((Qjz e s l).1.length : Int) - 1) = ((Qjz e s l).1.length : Int) - 1 := by unfold wrap64; omega
   rw [if_neg (by omega), if_neg h0, hwl, if_pos (by omega), if_pos (by omega)]
 ·rw [if_neg h, if_neg h]
def few (l : List Rec) (m b : Int) : Bool := l.all (fun r => decide ((r.f2.size : Int) ≤ b) && decide ((r.f3.size : Int) ≤ b)) && decide ((l.length : Int) ≤ m)
theorem few_run (l : List Rec) (m b : Int) (hl : l.length ≤ 4611686018427387903) : ∀ (d i k : Nat), i + d = l.length → d + 1 ≤ k → Qam.l0 k l m b l (l.length : Int) (i : Int) = some ((l.drop i).all (fun r => decide ((r.f2.size : Int) ≤ b) && decide ((r.f3.size : Int) ≤ b)) && decide ((l.length : Int) ≤ m))
 | 0, i, k, h, hk => by
  obtain ⟨k, rfl⟩ : ∃ m, k = m + 1 := ⟨k - 1, by omega⟩
  unfold Qam.l0
  rw [if_neg (by omega), List.drop_of_length_le (by omega)]
  simp
 | d + 1, i, k, h, hk => by
  obtain ⟨k, rfl⟩ : ∃ m, k = m + 1 := ⟨k - 1, by omega⟩
  have hi : i < l.length := by omega
  unfold Qam.l0
  rw [if_pos (by omega), if_pos (by omega), if_pos (by omega), rdR l i hi, List.drop_eq_getElem_cons hi, Qjd i (by omega), few_run l m b hl d (i + 1) k (by omega) (by omega)]
  rw [List.all_cons]
  generalize (l.drop (i + 1)).all (fun r => decide ((r.f2.size : Int) ≤ b) && decide ((r.f3.size : Int) ≤ b)) = q
  generalize l[i] = r
  by_cases h1 : (r.f2.size : Int) > b
  ·rw [if_pos h1]
   simp [show ¬ ((r.f2.size : Int) ≤ b) by omega]
  ·rw [if_neg h1]
   by_cases h2 : (r.f3.size : Int) > b
   ·rw [if_pos h2]
    simp [show ¬ ((r.f3.size : Int) ≤ b) by omega]
   ·rw [if_neg h2]
    simp [show ((r.f2.size : Int) ≤ b) by omega, show ((r.f3.size : Int) ≤ b) by omega]
theorem few_is (l : List Rec) (m b : Int) (k : Nat) (hl : l.length ≤ 4611686018427387903) (hk : l.length + 1 ≤ k) : Qam.f k l m b = some (few l m b) := few_run l m b hl l.length 0 k (by omega) (by omega)
theorem few_len {l : List Rec} {m b : Int} (h : few l m b = true) : (l.length : Int) ≤ m ∧ ∀ r ∈ l, (r.f2.size : Int) ≤ b ∧ (r.f3.size : Int) ≤ b := by
 unfold few at h
 simp only [Bool.and_eq_true, List.all_eq_true, decide_eq_true_eq] at h
 exact ⟨h.2, fun r hr => h.1 r hr⟩
theorem Qkf : ∀ (n : Nat) (b : List Int), b.length ≤ n → (Qgw b).length ≤ b.length + 1 + (b.length - 1) / 254
 | n, b, hn => by
  rcases Int.lt_or_le (ixOf (b.take 254) 0) 0 with h0 | h0
  ·by_cases hl : 254 < b.length
   ·rw [Qha h0 hl]
    match n, hn with
    | 0, hn => omega
    | n + 1, hn =>
     have ih := Qkf n (b.drop 254) (by rw [List.length_drop]; omega)
     rw [List.length_drop] at ih
     rw [List.length_cons, List.length_append, List.length_take]
     omega
   ·rw [Qhb h0 hl, List.length_cons]
    omega
  ·obtain ⟨p, hp⟩ := Int.eq_ofNat_of_zero_le h0
   have h1 := (Qgu (b.take 254) 0).2
   rw [List.length_take, hp] at h1
   rw [Qgz hp]
   match n, hn with
   | 0, hn => omega
   | n + 1, hn =>
    have ih := Qkf n (b.drop (p + 1)) (by rw [List.length_drop]; omega)
    rw [List.length_drop] at ih
    rw [List.length_cons, List.length_append, List.length_take]
    omega
theorem sealL_most (b : List Int) : (Qhp b).length ≤ b.length + 8 + 1 + (b.length + 8 - 1) / 254 + 1 := by
 have h := Qkf _ (b ++ leb (Qhn 0 b) 8) (Nat.le_refl _)
 rw [List.length_append, Qfz] at h
 unfold Qhp
 rw [List.length_append]
 simp
 omega
theorem fence_len (l : List Ent) : (Qhw l).length = (l.length + 15) / 16 := by simp [Qhw, chN]
theorem foot_len (u : Int) (l : List Ent) : ((Qij u l).length : Int) ≤ Qji (l.length : Int) := by
 have h := sealL_most ([4] ++ leb l.length 4 ++ leb u 4 ++ l.flatMap ent ++ (Qhw l).flatMap (fun x => leb x 8))
 have h2 := put_len2 (l.length : Int) u l
 rw [List.nil_append] at h2
 rw [h2, fence_len] at h
 unfold Qij Qji
 obtain ⟨c, hc⟩ : ∃ c, c = (l.length + 15) / 16 := ⟨_, rfl⟩
 have hcI : ((l.length : Int) + 15) / 16 = (c : Int) := by omega
 rw [hcI]
 rw [← hc] at h
 clear hc hcI h2
 obtain ⟨g, hg⟩ : ∃ g, g = (9 + 12 * l.length + 8 * c + 8 - 1) / 254 := ⟨_, rfl⟩
 have hgI : (9 + 12 * (l.length : Int) + 8 * (c : Int) + 8 - 1) / 254 = (g : Int) := by omega
 rw [hgI]
 rw [← hg] at h
 clear hg hgI
 omega
theorem le_trans_E (x y z : Ent) (h1 : (!(ltOf cfE) y x) = true) (h2 : (!(ltOf cfE) z y) = true) : (!(ltOf cfE) z x) = true := by
 rw [Qid] at *
 simp at *
 omega
theorem le_total_E (x y : Ent) : ((!(ltOf cfE) y x) || (!(ltOf cfE) x y)) = true := by
 rw [Qid, Qid]
 simp
 omega
theorem sortE_pair (l : List Ent) : (Qib l).Pairwise (fun x y => (!(ltOf cfE) y x) = true) := List.pairwise_mergeSort le_trans_E le_total_E l
theorem rising_of : ∀ (l : List Ent), l.Pairwise (fun x y => (!(ltOf cfE) y x) = true) → l.Nodup → Qig l = true
 | [], _, _ => rfl
 | [_], _, _ => rfl
 | a :: b :: t, hp, hn => by
  have hp2 := List.pairwise_cons.1 hp
  have hn2 := List.pairwise_cons.1 hn
  have ih := rising_of (b :: t) hp2.2 hn2.2
  have h1 := hp2.1 b (by simp)
  have h2 := hn2.1 b (by simp)
  have h3 : ltOf cfE a b = true := by
   cases h : ltOf cfE a b with
   | true => rfl
   | false => exact absurd (totE a b h (by simpa using h1)) h2
  unfold Qig ltE
  rw [ih]
  simpa [ltOf] using h3
theorem sort_rising {l : List Ent} (h : l.Nodup) : Qig (Qib l) = true := rising_of _ (sortE_pair l) ((Qif l).nodup_iff.2 h)
def okB (e s n : Int) (i : Nat) (B : Bd) : Prop :=
 B.1 = (e, s, n, (B.2.1.length : Int), (B.2.2.length : Int)) ∧ B.2.2.length ≤ i ∧ (∀ x ∈ B.2.2, wfE x ∧ x.f1 < (B.2.1.length : Int)) ∧ B.2.2.Pairwise (fun x y => x.f1 < y.f1) ∧ (B.2.1.length : Int) ≤ 16777216
def putB (e s n : Int) (B : Bd) (r : Rec) : Bd :=
 ((e, s, n, ((B.2.1 ++ Qjx r).length : Int), ((B.2.2.length + 1 : Nat) : Int)), B.2.1 ++ Qjx r, B.2.2 ++ [⟨Qhn 0 (bytesOf r.f2), (B.2.1.length : Int) % 4294967296⟩])
def Qkg (e s n : Int) : Bd := ((e, s, n, Qjg e s n, 0), Qhr e s n, [])
theorem new_good {e s : Int} (h : Good e s) (n : Int) (h0 : 0 ≤ n) (h1 : n < s) : newB e s n = some (Qkg e s n) := by
 unfold newB
 rw [Qjs h n h0 h1, Option.bind_some, Qjr h n h0 h1, Option.bind_some]
 simp [Qkg]
theorem fresh_ok (e s n : Int) (i : Nat) : okB e s n i (Qkg e s n) := by
 have := Qjh e s n
 refine ⟨by simp [Qkg, Qjg], by simp [Qkg], by simp [Qkg], by simp [Qkg], ?_⟩
 unfold Qjg at this
 simp only [Qkg]
 omega
theorem large_no {e s : Int} (h : Good e s) {x : Int} (hx1 : x ≤ 1152921504606846976) (hf : Qjn e (Qjg e s (s - 1)) 0 x = true) : Qbu.f e s x = some false := by
 have hr := Qjh e s (s - 1)
 have hg := h
 obtain ⟨g1, g2, g3, g4⟩ := hg
 unfold Qbu.f
 rw [show (s - 1) % 4294967296 = s - 1 by omega, Qjs h (s - 1) (by omega) (by omega), Option.bind_some]
 dsimp only
 rw [if_pos rfl, Qjo h _ _ _ _ (by omega) (by omega) (by omega) (by omega) hx1, hf]
 rfl
theorem add_good {e s n : Int} (h : Good e s) {i : Nat} {B : Bd} {r : Rec} (hB : okB e s n i B) (hi : i ≤ 1000000) (hc : chkR r = 0) (hw : 0 ≤ r.f1 ∧ r.f1 < 18446744073709551616)
  (hl : Qjn e (Qjg e s (s - 1)) 0 (fsz r) = true) (hf : Qjn e (B.2.1.length : Int) (B.2.2.length : Int) (fsz r) = true) :
  addB B r = some (putB e s n B r) ∧ okB e s n (i + 1) (putB e s n B r) ∧ ((putB e s n B r).2.1.length : Int) + Qji ((putB e s n B r).2.2.length : Int) ≤ szN e ∧ (putB e s n B r).2.2 ≠ [] := by
 obtain ⟨b1, b2, b3, b4, b5⟩ := hB
 have hx := Qjy r hc
 have hft := Qjp hf
 have hsz := Qjk h.1 h.2.1
 have hm := Qjm ((B.2.2.length : Int) + 1) (by omega) (by omega)
 have hlen : ((B.2.1 ++ Qjx r).length : Int) = (B.2.1.length : Int) + fsz r := by rw [List.length_append]; unfold fsz; omega
 have hh := Qho 0 (bytesOf r.f2)
 have hmod : (B.2.1.length : Int) % 4294967296 = (B.2.1.length : Int) := by omega
 refine ⟨?_, ⟨?_, ?_, ?_, ?_, ?_⟩, ?_, ?_⟩
 ·unfold addB
  rw [if_pos (show chk r.f0 r.f2 r.f3 = 0 from hc), put_good r hc hw.1 hw.2, Option.bind_some, b1]
  dsimp only
  rw [show ((Qjx r).length : Int) = fsz r from rfl, large_no h (by omega) hl, Option.bind_some, Qjq h n _ _ _ (by omega) (by omega) (by omega) (by omega) (by omega) hf, Option.bind_some]
  dsimp only
  rw [if_pos ⟨rfl, rfl, rfl, by have hfz : ((Qjx r).length : Int) = fsz r := rfl; omega, by omega⟩]
  unfold putB
  rw [hlen]
  simp
 ·simp [putB]
 ·simp only [putB, List.length_append, List.length_cons, List.length_nil]
  omega
 ·intro x hxm
  simp only [putB] at hxm ⊢
  rw [hlen]
  rcases List.mem_append.1 hxm with hm' | hm'
  ·have := b3 x hm'
   exact ⟨this.1, by omega⟩
  ·simp only [List.mem_singleton] at hm'
   subst hm'
   rw [hmod]
   exact ⟨⟨hh, (show (0 : Int) ≤ (B.2.1.length : Int) by omega), (show (B.2.1.length : Int) < 4294967296 by omega)⟩, by dsimp only; omega⟩
 ·simp only [putB]
  rw [List.pairwise_append]
  refine ⟨b4, by simp, ?_⟩
  intro x hx y hy
  simp only [List.mem_singleton] at hy
  subst hy
  rw [hmod]
  exact (b3 x hx).2
 ·simp only [putB]
  rw [hlen]
  omega
 ·simp only [putB]
  rw [hlen, List.length_append]
  simp only [List.length_cons, List.length_nil]
  have : (((B.2.2.length + (0 + 1) : Nat)) : Int) = (B.2.2.length : Int) + 1 := by omega
  rw [this]
  omega
 ·simp [putB]
theorem any_sort (u : Int) {l : List Ent} (h : ∀ x ∈ l, x.f1 < u) : (Qib l).any (fun x => decide (u ≤ x.f1)) = false := by
 rw [List.any_eq_false]
 intro x hx
 have := h x ((Qif l).mem_iff.1 hx)
 simp
 omega
theorem pair_nodup {l : List Ent} (h : l.Pairwise (fun x y => x.f1 < y.f1)) : l.Nodup := h.imp (fun {a b} hab he => by subst he; omega)
theorem seal_good {e s n : Int} (h : Good e s) {i : Nat} {B : Bd} (hB : okB e s n i B) (hi : i ≤ 1000000) (hne : B.2.2 ≠ []) (hr : (B.2.1.length : Int) + Qji (B.2.2.length : Int) ≤ szN e) :
  ∃ o, sealB B = some o ∧ o.length = (szN e).toNat ∧ B.2.1 <+: o := by
 obtain ⟨b1, b2, b3, b4, b5⟩ := hB
 have hsz := Qjk h.1 h.2.1
 have hu : usedB B = (B.2.1.length : Int) := by unfold usedB; omega
 have hfl := foot_len (usedB B) (Qib B.2.2)
 rw [Qic] at hfl
 have hn0 : B.2.2.length ≠ 0 := fun he => hne (List.eq_nil_of_length_eq_zero he)
 have hck : Qih (usedB B) (Qib B.2.2) = 0 := by
  unfold Qih
  rw [Qic, if_neg hn0, if_neg (by omega), sort_rising (pair_nodup b4), if_neg (by simp), any_sort _ (fun x hx => by rw [hu]; exact (b3 x hx).2), if_neg (by simp)]
 unfold sealB
 rw [b1]
 dsimp only
 rw [Qjl h, Option.bind_some, if_pos ⟨hn0, by omega, fun x hx => (b3 x hx).1, hck, by omega, by omega⟩]
 refine ⟨_, rfl, ?_, ?_⟩
 ·rw [List.length_append, List.length_replicate, List.length_append]
  omega
 ·rw [List.append_assoc]
  exact List.prefix_append _ _
theorem open_good {e s n : Int} (h : Good e s) {i : Nat} {B : Bd} (hB : okB e s n i B) (hr : (B.2.1.length : Int) ≤ szN e) :
  ∃ o, openB B = some o ∧ o.length = (szN e).toNat ∧ B.2.1 <+: o := by
 obtain ⟨b1, b2, b3, b4, b5⟩ := hB
 have hsz := Qjk h.1 h.2.1
 unfold openB
 rw [b1]
 dsimp only
 rw [Qjl h, Option.bind_some, if_pos ⟨by omega, by omega⟩]
 refine ⟨_, rfl, ?_, List.prefix_append _ _⟩
 rw [List.length_append, List.length_replicate]
 omega
theorem Qkh (e s : Int) : ∀ (l out : List Int) (n u c : Int), (Qjt e s l out n u c).2 = 0 → out <+: (Qjt e s l out n u c).1
 | [], out, n, u, c, h => by unfold Qjt; exact List.prefix_rfl
 | x :: t, out, n, u, c, h => by
  unfold Qjt at h ⊢
  by_cases hf : Qjn e (Qjg e s (s - 1)) 0 x = false
  ·rw [if_pos hf] at h; cases h
  ·rw [if_neg hf] at h ⊢
   by_cases hq : Qjn e u c x = true
   ·rw [if_pos hq] at h ⊢
    exact (List.prefix_append _ _).trans (Qkh e s t _ _ _ _ h)
   ·rw [if_neg hq] at h ⊢
    by_cases hs : n + 1 < s
    ·rw [if_pos hs] at h ⊢
     exact (List.prefix_append _ _).trans (Qkh e s t _ _ _ _ h)
    ·rw [if_neg hs] at h; cases h
theorem pre_at {into : List Int} {i : Nat} {x : Int} (h : into.take i ++ [x] <+: into) (hi : i < into.length) : rd into (i : Int) = x ∧ into.take (i + 1) = into.take i ++ [x] := by
 obtain ⟨t, ht⟩ := h
 have h1 := congrArg (fun l => l[i]?) ht
 have h2 : (into.take i).length = i := by rw [List.length_take]; omega
 have h3 : (into.take i ++ [x] ++ t)[i]? = some x := by
  rw [List.append_assoc, List.getElem?_append_right (by omega), h2, Nat.sub_self]
  rfl
 rw [h3] at h1
 refine ⟨?_, ?_⟩
 ·rw [Qis hi]
  have h4 := List.getElem?_eq_getElem hi
  rw [← h1] at h4
  exact (Option.some.inj h4).symm
 ·rw [List.take_add_one, ← h1]
  rfl
def PP (e : Int) (fin : List Int) (last : Int) (p : Plc) (r : Rec) : Prop :=
 0 ≤ p.f0 ∧ p.f0 ≤ last ∧ 0 ≤ p.f1 ∧ p.f1 ≤ 16777216 ∧ p.f0.toNat * (szN e).toNat + p.f1.toNat + (Qjx r).length ≤ fin.length ∧ (fin.drop (p.f0.toNat * (szN e).toNat + p.f1.toNat)).take (Qjx r).length = Qjx r
def Placed (P : Plc → Rec → Prop) : List Plc → List Rec → Prop
 | [], [] => True
 | p :: ps, r :: rs => P p r ∧ Placed P ps rs
 | _, _ => False
theorem Placed.at {P : Plc → Rec → Prop} : ∀ {ps : List Plc} {rs : List Rec}, Placed P ps rs → ps.length = rs.length ∧ ∀ j (h1 : j < ps.length) (h2 : j < rs.length), P ps[j] rs[j]
 | [], [], _ => ⟨rfl, fun j h1 => absurd h1 (by simp)⟩
 | p :: ps, r :: rs, h => by
  have ih := Placed.at h.2
  refine ⟨by simp [ih.1], fun j h1 h2 => ?_⟩
  match j with
  | 0 => exact h.1
  | j + 1 => exact ih.2 j (by simpa using h1) (by simpa using h2)
 | [], _ :: _, h => h.elim
 | _ :: _, [], h => h.elim
theorem pre_part {a b fin : List Int} (h : (a ++ b) <+: fin) : a.length + b.length ≤ fin.length ∧ (fin.drop a.length).take b.length = b := by
 obtain ⟨t, rfl⟩ := h
 refine ⟨by simp, ?_⟩
 rw [List.append_assoc, List.drop_left, List.take_left]
theorem room_lim {e s n : Int} (h : Good e s) (h1 : n < s) : n.toNat * (szN e).toNat + (szN e).toNat ≤ lim := by
 have hsz := Qjk h.1 h.2.1
 obtain ⟨g1, g2, g3, g4⟩ := h
 have : (n.toNat + 1) * (szN e).toNat ≤ 65536 * 16777216 := Nat.mul_le_mul (by omega) (by omega)
 rw [Nat.add_mul, Nat.one_mul] at this
 unfold lim
 omega
theorem enc_run {e s : Int} (hG : Good e s) (l : List Rec) (into : List Int) (hl : l.length ≤ 1000000) (hw : Wf l) (hc : chkL l = 0) (hil : into.length = l.length) :
  ∀ (d i : Nat) (out : List Int) (n : Int) (B : Bd), i + d = l.length → 1 ≤ i → okB e s n i B → B.2.2 ≠ [] → (B.2.1.length : Int) + Qji (B.2.2.length : Int) ≤ szN e → 0 ≤ n → n < s → out.length = n.toNat * (szN e).toNat → rd into ((i : Int) - 1) = n →
  Qjt e s ((l.drop i).map fsz) (into.take i) n (B.2.1.length : Int) (B.2.2.length : Int) = (into, 0) →
  ∃ fin, encG e s into i (l.drop i) out (some B) = some fin ∧ (out ++ B.2.1) <+: fin ∧ n ≤ rd into ((into.length : Int) - 1) ∧ rd into ((into.length : Int) - 1) < s ∧ fin.length = ((rd into ((into.length : Int) - 1)).toNat + 1) * (szN e).toNat ∧
   Placed (PP e fin (rd into ((into.length : Int) - 1))) (Qkb e s (some n) (B.2.1.length : Int) (into.drop i) ((l.drop i).map fsz)) (l.drop i) := by
 have hsz := Qjk hG.1 hG.2.1
 intro d
 induction d with
 | zero =>
  intro i out n B hd hi hB hne hr h0 h1 ho hprev hp
  have hi' : i = into.length := by omega
  have hmm := Qjm (B.2.2.length : Int) (by omega) (by have := hB.2.1; omega)
  obtain ⟨o, e1, e2, t, e3⟩ := open_good hG hB (by omega)
  have hlim := room_lim hG h1
  rw [← hi', hprev, List.drop_of_length_le (by omega), List.drop_of_length_le (by omega)]
  refine ⟨out ++ o, ?_, ?_, Int.le_refl _, h1, ?_, ?_⟩
  ·unfold encG
   rw [e1, Option.bind_some, if_pos (by omega)]
  ·rw [← e3, ← List.append_assoc]
   exact List.prefix_append _ _
  ·rw [List.length_append, ho, e2, Nat.add_mul, Nat.one_mul]
  ·simp [Qkb, Placed]
 | succ d ihd =>
  intro i out n B hd hi hB hne hr h0 h1 ho hprev hp
  have hlt : i < l.length := by omega
  have hlt2 : i < into.length := by omega
  have hcr : chkR l[i] = 0 := Qjw hc _ (List.getElem_mem hlt)
  have hwr := hw l[i] (List.getElem_mem hlt)
  have hx := Qjy l[i] hcr
  have hlen : ∀ q : List Int, ((q ++ Qjx l[i]).length : Int) = (q.length : Int) + fsz l[i] := fun q => by rw [List.length_append]; unfold fsz; omega
  have hiB := hB.2.1
  have hb5 := hB.2.2.2.2
  rw [List.drop_eq_getElem_cons hlt, List.map_cons] at hp ⊢
  unfold Qjt at hp
  by_cases hf : Qjn e (Qjg e s (s - 1)) 0 (fsz l[i]) = false
  ·rw [if_pos hf] at hp; cases hp
  ·rw [if_neg hf] at hp
   have hft : Qjn e (Qjg e s (s - 1)) 0 (fsz l[i]) = true := by simpa using hf
   by_cases hq : Qjn e (B.2.1.length : Int) (B.2.2.length : Int) (fsz l[i]) = true
   ·rw [if_pos hq] at hp
    obtain ⟨q1, q2⟩ := pre_at (by have := Qkh e s _ _ _ _ _ (congrArg Prod.snd hp); rw [hp] at this; exact this) hlt2
    obtain ⟨a1, a2, a3, a4⟩ := add_good hG hB (by omega) hcr hwr hft hq
    have hlB : ((putB e s n B l[i]).2.1.length : Int) = (B.2.1.length : Int) + fsz l[i] := hlen _
    have hlT : ((putB e s n B l[i]).2.2.length : Int) = (B.2.2.length : Int) + 1 := by simp [putB]
    rw [← q2, ← hlB, ← hlT] at hp
    obtain ⟨fin, f1, f2, f3, f4, f5, f6⟩ := ihd (i + 1) out n (putB e s n B l[i]) (by omega) (by omega) a2 a4 a3 h0 h1 ho (by rw [show ((i + 1 : Nat) : Int) - 1 = (i : Int) by omega]; exact q1) hp
    have hfp : (out ++ B.2.1) ++ Qjx l[i] <+: fin := by rw [List.append_assoc]; exact f2
    refine ⟨fin, ?_, (List.prefix_append _ _).trans hfp, f3, f4, f5, ?_⟩
    ·rw [encG, if_pos hlt2]
     rw [if_neg (by omega), if_pos (q1.trans hprev.symm), a1, Option.bind_some]
     exact f1
    ·rw [Qju hlt2, q1, Qkb, if_pos rfl]
     refine ⟨?_, by rw [hlB] at f6; exact f6⟩
     have hpp := pre_part hfp
     rw [List.length_append, ho] at hpp
     have hmod : (B.2.1.length : Int) % 4294967296 = (B.2.1.length : Int) := by omega
     rw [hmod]
     exact ⟨h0, f3, (show (0 : Int) ≤ (B.2.1.length : Int) by omega), (show (B.2.1.length : Int) ≤ 16777216 by omega), hpp.1, hpp.2⟩
   ·rw [if_neg hq] at hp
    by_cases hs : n + 1 < s
    ·rw [if_pos hs] at hp
     obtain ⟨q1, q2⟩ := pre_at (by have := Qkh e s _ _ _ _ _ (congrArg Prod.snd hp); rw [hp] at this; exact this) hlt2
     obtain ⟨o, e1, e2, t, e3⟩ := seal_good hG hB (by omega) hne hr
     have hhd := Qjh e s (n + 1)
     have hfr : ((Qkg e s (n + 1)).2.1.length : Int) = Qjg e s (n + 1) := rfl
     have hfit : Qjn e ((Qkg e s (n + 1)).2.1.length : Int) ((Qkg e s (n + 1)).2.2.length : Int) (fsz l[i]) = true := fits_any hG (by omega) (by omega) hft
     obtain ⟨a1, a2, a3, a4⟩ := add_good hG (fresh_ok e s (n + 1) i) (by omega) hcr hwr hft hfit
     have hlB : ((putB e s (n + 1) (Qkg e s (n + 1)) l[i]).2.1.length : Int) = Qjg e s (n + 1) + fsz l[i] := hlen _
     have hlT : ((putB e s (n + 1) (Qkg e s (n + 1)) l[i]).2.2.length : Int) = 1 := by simp [putB, Qkg]
     rw [← q2, ← hlB, ← hlT] at hp
     have hlim := room_lim hG h1
     have hoo : (out ++ o).length = (n + 1).toNat * (szN e).toNat := by
      rw [List.length_append, ho, e2, show (n + 1).toNat = n.toNat + 1 by omega, Nat.add_mul, Nat.one_mul]
     obtain ⟨fin, f1, f2, f3, f4, f5, f6⟩ := ihd (i + 1) (out ++ o) (n + 1) _ (by omega) (by omega) a2 a4 a3 (by omega) hs hoo (by rw [show ((i + 1 : Nat) : Int) - 1 = (i : Int) by omega]; exact q1) hp
     have hfp : ((out ++ o) ++ Qhr e s (n + 1)) ++ Qjx l[i] <+: fin := by rw [List.append_assoc]; exact f2
     refine ⟨fin, ?_, ?_, by omega, f4, f5, ?_⟩
     ·rw [encG, if_pos hlt2]
      rw [if_neg (by omega), if_neg (by rw [q1, hprev]; omega), e1, Option.bind_some, if_pos (by omega), q1, new_good hG (n + 1) (by omega) hs, Option.bind_some, a1, Option.bind_some]
      exact f1
     ·refine List.IsPrefix.trans ?_ f2
      rw [← e3, List.append_assoc, List.append_assoc, ← List.append_assoc out]
      exact List.prefix_append _ _
     ·rw [Qju hlt2, q1, Qkb, if_neg (by simp; omega)]
      refine ⟨?_, by rw [hlB] at f6; exact f6⟩
      have hpp := pre_part hfp
      rw [List.length_append, hoo] at hpp
      have hhl : ((Qhr e s (n + 1)).length : Int) = Qjg e s (n + 1) := rfl
      have hmod : Qjg e s (n + 1) % 4294967296 = ((Qhr e s (n + 1)).length : Int) := by omega
      rw [hmod]
      exact ⟨(show (0 : Int) ≤ n + 1 by omega), f3, (show (0 : Int) ≤ ((Qhr e s (n + 1)).length : Int) by omega), (show ((Qhr e s (n + 1)).length : Int) ≤ 16777216 by omega), hpp.1, hpp.2⟩
    ·rw [if_neg hs] at hp; cases hp
theorem enc_zero {e s : Int} (hG : Good e s) (l : List Rec) (into : List Int) (hl : l.length ≤ 1000000) (hw : Wf l) (hc : chkL l = 0) (hil : into.length = l.length) (hne : l.length ≠ 0)
  (hp : Qjt e s (l.map fsz) [] 0 (Qjg e s 0) 0 = (into, 0)) :
  ∃ fin, encG e s into 0 l [] none = some fin ∧ rd into ((into.length : Int) - 1) < s ∧ 0 ≤ rd into ((into.length : Int) - 1) ∧ fin.length = ((rd into ((into.length : Int) - 1)).toNat + 1) * (szN e).toNat ∧
   Placed (PP e fin (rd into ((into.length : Int) - 1))) (Qkb e s none 0 into (l.map fsz)) l := by
 have hs0 := hG.2.2.1
 have hlt : 0 < l.length := by omega
 have hlt2 : 0 < into.length := by omega
 have hcr : chkR l[0] = 0 := Qjw hc _ (List.getElem_mem hlt)
 have hwr := hw l[0] (List.getElem_mem hlt)
 have hx := Qjy l[0] hcr
 have hlen : ∀ q : List Int, ((q ++ Qjx l[0]).length : Int) = (q.length : Int) + fsz l[0] := fun q => by rw [List.length_append]; unfold fsz; omega
 have hd : l = l[0] :: l.drop 1 := by
  have := List.drop_eq_getElem_cons hlt
  rw [List.drop_zero] at this
  exact this
 have hdm : l.map fsz = fsz l[0] :: (l.drop 1).map fsz := by
  rw [← List.map_cons, ← hd]
 rw [hdm] at hp ⊢
 unfold Qjt at hp
 by_cases hf : Qjn e (Qjg e s (s - 1)) 0 (fsz l[0]) = false
 ·rw [if_pos hf] at hp; cases hp
 ·rw [if_neg hf] at hp
  have hft : Qjn e (Qjg e s (s - 1)) 0 (fsz l[0]) = true := by simpa using hf
  have hfit0 := fits_any hG (n := 0) (by omega) (by omega) hft
  rw [if_pos hfit0] at hp
  obtain ⟨q1, q2⟩ := pre_at (i := 0) (x := 0) (by have := Qkh e s _ _ _ _ _ (congrArg Prod.snd hp); rw [hp] at this; exact this) hlt2
  have q1' : rd into 0 = 0 := q1
  have hfr : ((Qkg e s 0).2.1.length : Int) = Qjg e s 0 := rfl
  have hhd := Qjh e s 0
  obtain ⟨a1, a2, a3, a4⟩ := add_good hG (fresh_ok e s 0 0) (by omega) hcr hwr hft hfit0
  have hlB : ((putB e s 0 (Qkg e s 0) l[0]).2.1.length : Int) = Qjg e s 0 + fsz l[0] := hlen _
  have hlT : ((putB e s 0 (Qkg e s 0) l[0]).2.2.length : Int) = 1 := by simp [putB, Qkg]
  have hp' : Qjt e s ((l.drop 1).map fsz) (into.take 1) 0 ((putB e s 0 (Qkg e s 0) l[0]).2.1.length : Int) ((putB e s 0 (Qkg e s 0) l[0]).2.2.length : Int) = (into, 0) := by
   rw [hlB, hlT, q2]
   exact hp
  obtain ⟨fin, f1, f2, f3, f4, f5, f6⟩ := enc_run hG l into hl hw hc hil (l.length - 1) 1 [] 0 _ (by omega) (by omega) a2 a4 a3 (by omega) (by omega) (by simp) q1' hp'
  have hfp : Qhr e s 0 ++ Qjx l[0] <+: fin := f2
  refine ⟨fin, ?_, f4, f3, f5, ?_⟩
  ·have : encG e s into 0 (l[0] :: l.drop 1) [] none = some fin := by
    rw [encG, if_pos hlt2]
    rw [if_pos rfl, q1, new_good hG 0 (by omega) (by omega), Option.bind_some, a1, Option.bind_some]
    exact f1
   rw [← hd] at this
   exact this
  ·have hdi : into = 0 :: into.drop 1 := by
    have := Qju hlt2
    rw [List.drop_zero, q1] at this
    exact this
   have goal : Placed (PP e fin (rd into ((into.length : Int) - 1))) (Qkb e s none 0 (0 :: into.drop 1) (fsz l[0] :: (l.drop 1).map fsz)) (l[0] :: l.drop 1) := by
    rw [Qkb, if_neg (by simp)]
    refine ⟨?_, by rw [hlB] at f6; exact f6⟩
    have hpp := pre_part hfp
    have hhl : ((Qhr e s 0).length : Int) = Qjg e s 0 := rfl
    have hmod : Qjg e s 0 % 4294967296 = ((Qhr e s 0).length : Int) := by omega
    rw [hmod]
    refine ⟨(show (0 : Int) ≤ 0 by omega), f3, (show (0 : Int) ≤ ((Qhr e s 0).length : Int) by omega), (show ((Qhr e s 0).length : Int) ≤ 16777216 by omega), ?_, ?_⟩
    ·have := hpp.1
     simpa using this
    ·have := hpp.2
     simpa using this
   rw [← hdi, ← hd] at goal
   exact goal
theorem encode_ok (e s : Int) (l : List Rec) (k : Nat) (hl : l.length ≤ 1000000) (hw : Wf l) (hk : 2 * l.length + 10 ≤ k) (h : (Qka e s l).2.2 = 0) :
  ∃ fin, Qbl.f k e s l = some (fin, 0) ∧ 0 ≤ Qke (Qjz e s l).1 ∧ Qke (Qjz e s l).1 ≤ 65536 ∧ fin.length = (Qke (Qjz e s l).1).toNat * (szN e).toNat ∧
   Placed (PP e fin (Qke (Qjz e s l).1 - 1)) (Qkb e s none 0 (Qjz e s l).1 (l.map fsz)) l := by
 obtain ⟨hg, hr, h2, h3, h4, h5⟩ := Qkd h hl
 have hs := hg.2.2.2
 unfold Qbl.f
 rw [plan_is e s l k hl hw hk, Option.bind_some, if_pos h, if_pos (by omega), h3]
 dsimp only
 by_cases h0 : l.length = 0
 ·have hl0 : l = [] := List.eq_nil_of_length_eq_zero h0
  subst hl0
  refine ⟨[], ?_, ?_⟩
  ·simp [encG]
  ·have : (Qjz e s []).1 = [] := rfl
   rw [this]
   simp [Qke, Qkb, Placed]
 ·obtain ⟨fin, f1, f2, f3, f4, f5⟩ := enc_zero hg l (Qjz e s l).1 hl hw (risL_chk hr) h4 h0 (by
   have : Qjt e s (l.map fsz) [] 0 (Qjg e s 0) 0 = Qjz e s l := rfl
   rw [this, ← h2])
  have hls : Qke (Qjz e s l).1 = rd (Qjz e s l).1 (((Qjz e s l).1.length : Int) - 1) + 1 := by
   unfold Qke
   rw [if_neg (by omega)]
   omega
  refine ⟨fin, by rw [f1]; rfl, by omega, by omega, ?_, ?_⟩
  ·rw [hls, f4]
   congr 1
   omega
  ·rw [hls, Int.add_sub_cancel]
   exact f5
theorem encode_bad (e s : Int) (l : List Rec) (k : Nat) (hl : l.length ≤ 1000000) (hw : Wf l) (hk : 2 * l.length + 10 ≤ k) (h : (Qka e s l).2.2 ≠ 0) : Qbl.f k e s l = some ([], (Qka e s l).2.2) := by
 unfold Qbl.f
 rw [plan_is e s l k hl hw hk, Option.bind_some, if_neg h]
end Go.Proofs.YtnnofopfbeklbaaGreat.CodecP
end
