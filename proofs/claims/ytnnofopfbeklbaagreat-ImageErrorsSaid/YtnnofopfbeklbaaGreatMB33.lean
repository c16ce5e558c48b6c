/- Texts of this claim's author and of the print of its functions, merged by merge.py. -/
import Derived.Test.YtnnofopfbeklbaaGreatMB32
import Derived.Test.YtnnofopfbeklbaaGreatMB22
import Derived.Test.YtnnofopfbeklbaaGreatMB23
import Derived.Test.YtnnofopfbeklbaaGreatMB02
import Derived.Test.YtnnofopfbeklbaaGreatMB29
import Derived.Test.YtnnofopfbeklbaaGreatMB31
set_option linter.unusedVariables false
set_option linter.unusedSimpArgs false
section
namespace Go.Proofs.YtnnofopfbeklbaaGreat.CodecP
open Go.RowKit Go.Proofs.YtnnofopfbeklbaaGreat.C Go.Proofs.YtnnofopfbeklbaaGreatW.PrintWords Go.Proofs.YtnnofopfbeklbaaGreatW.PrintLast Go.Proofs.YtnnofopfbeklbaaGreatW.PrintMore
set_option maxRecDepth 20000
theorem rdR (l : List Rec) (i : Nat) (h : i < l.length) : Qgg l (i : Int) = l[i] := by simp [Qgg, List.getElem?_eq_getElem h]
def chkR (r : Rec) : Int := chk r.f0 r.f2 r.f3
def chkL : List Rec → Int
 | [] => 0
 | r :: t => if chkR r = 0 then chkL t else chkR r
def ordL : List Rec → Int
 | [] => 0
 | [_] => 0
 | a :: b :: t => if b.f1 ≤ a.f1 then 8 else ordL (b :: t)
def risL (l : List Rec) : Int := if chkL l = 0 then ordL l else chkL l
theorem Qkh {l : List Rec} (h : chkL l = 0) : ∀ r ∈ l, chkR r = 0 := by
 induction l with
 | nil => intro r hr; cases hr
 | cons a t ih =>
  unfold chkL at h
  by_cases ha : chkR a = 0
  ·rw [if_pos ha] at h
   intro r hr
   rcases List.mem_cons.1 hr with rfl | hr
   ·exact ha
   ·exact ih h r hr
  ·rw [if_neg ha] at h; exact absurd h ha
theorem check_k (k : Nat) (d : Bool) (s : Int) (key v : ByteArray) (hk : 1 ≤ k) : Qch.f k d s key v = some (chk d key v) :=
 Qdc (g := fun k => Qch.f k d s key v) (Qch.mono d s key v) hk (Qhr d s key v)
theorem nil_ne (v : ByteArray) : (v.toList != ([] : List UInt8)) = decide ((v.size : Int) > 0) := by
 rw [Bool.eq_iff_iff, bne_iff_ne, decide_eq_true_iff, Ne, Qjm]
 omega
theorem rcheck_k (k : Nat) (d : Bool) (s : Int) (key v : ByteArray) (hk : 1 ≤ k) : Qbc.f k d s key v = some (chk d key v) := by
 obtain ⟨k, rfl⟩ : ∃ m, k = m + 1 := ⟨k - 1, by omega⟩
 unfold Qbc.f chk
 by_cases h0 : key.toList = ([] : List UInt8)
 ·rw [if_pos h0, if_pos (by have := (Qjm key).1 h0; omega)]
 ·rw [if_neg h0, if_neg (by intro h; exact h0 ((Qjm key).2 (by omega)))]
  by_cases h1 : (key.size : Int) > 4096
  ·rw [if_pos h1, if_pos h1]
  ·rw [if_neg h1, if_neg h1, nil_ne]
   cases d
   ·simp only [Bool.false_eq_true, if_false, Bool.false_and, Qbc.j0]
    split <;> rfl
   ·simp only [if_true, Bool.true_and, Qbc.j0]
    split
    ·rfl
    ·split <;> rfl
theorem ord_drop {l : List Rec} {i : Nat} (h : i + 1 < l.length) : ordL (l.drop i) = if l[i + 1].f1 ≤ l[i].f1 then 8 else ordL (l.drop (i + 1)) := by
 rw [List.drop_eq_getElem_cons (by omega), List.drop_eq_getElem_cons h]
 rfl
theorem Qki {l : List Rec} (h : l.length ≤ 1) : ordL l = 0 := by
 match l, h with
 | [], _ => rfl
 | [_], _ => rfl
theorem ris_l1 (l : List Rec) (hl : l.length ≤ 4611686018427387903) : ∀ (d i k : Nat), i + d = l.length → d + 1 ≤ k → Qci.l1 k l ((i + 1 : Nat) : Int) = some (ordL (l.drop i))
 | 0, i, k, h, hk => by
  obtain ⟨k, rfl⟩ : ∃ m, k = m + 1 := ⟨k - 1, by omega⟩
  unfold Qci.l1
  rw [if_neg (by omega), Qki (by rw [List.length_drop]; omega)]
 | d + 1, i, k, h, hk => by
  obtain ⟨k, rfl⟩ : ∃ m, k = m + 1 := ⟨k - 1, by omega⟩
  unfold Qci.l1
  by_cases hi : i + 1 < l.length
  ·have w1 := Qjo (i + 1) (by omega) (by omega)
   rw [Nat.add_sub_cancel] at w1
   rw [if_pos (by omega), if_pos (by omega), w1, if_pos (by omega), if_pos (by omega), rdR l (i + 1) hi, rdR l i (by omega), ord_drop hi]
   by_cases ho : l[i + 1].f1 ≤ l[i].f1
   ·rw [if_pos ho, if_pos ho]
   ·rw [if_neg ho, if_neg ho, Qjn (i + 1) (by omega)]
    exact ris_l1 l hl d (i + 1) k (by omega) (by omega)
  ·rw [if_neg (by omega), Qki (by rw [List.length_drop]; omega)]
theorem ris_l0 (l : List Rec) (hl : l.length ≤ 4611686018427387903) : ∀ (d i k : Nat), i + d = l.length → d + l.length + 5 ≤ k → Qci.l0 k l l (l.length : Int) (i : Int) = some (if chkL (l.drop i) = 0 then ordL l else chkL (l.drop i))
 | 0, i, k, h, hk => by
  obtain ⟨k, rfl⟩ : ∃ m, k = m + 1 := ⟨k - 1, by omega⟩
  unfold Qci.l0
  rw [if_neg (by omega), List.drop_of_length_le (by omega)]
  exact ris_l1 l hl l.length 0 k (by omega) (by omega)
 | d + 1, i, k, h, hk => by
  obtain ⟨k, rfl⟩ : ∃ m, k = m + 1 := ⟨k - 1, by omega⟩
  have hi : i < l.length := by omega
  unfold Qci.l0
  rw [if_pos (by omega), if_pos (by omega), if_pos (by omega), rdR l i hi, check_k k _ _ _ _ (by omega), Option.bind_some, List.drop_eq_getElem_cons hi]
  unfold chkL
  by_cases hc : chkR l[i] = 0
  ·rw [if_pos hc, if_pos (show chk l[i].f0 l[i].f2 l[i].f3 = 0 from hc), Qjn i (by omega)]
   exact ris_l0 l hl d (i + 1) k (by omega) (by omega)
  ·rw [if_neg hc, if_neg (show ¬ chk l[i].f0 l[i].f2 l[i].f3 = 0 from hc), if_neg hc]
   rfl
theorem ris_prog (l : List Rec) (k : Nat) (hl : l.length ≤ 4611686018427387903) (hk : 2 * l.length + 5 ≤ k) : Qci.f k l = some (risL l) :=
 ris_l0 l hl l.length 0 k (by omega) (by omega)
theorem rris_l1 (l : List Rec) (hl : l.length ≤ 4611686018427387903) : ∀ (d i k : Nat), i + d = l.length → d + 1 ≤ k → Qbd.l1 k l l (l.length : Int) ((i + 1 : Nat) : Int) = some (ordL (l.drop i))
 | 0, i, k, h, hk => by
  obtain ⟨k, rfl⟩ : ∃ m, k = m + 1 := ⟨k - 1, by omega⟩
  unfold Qbd.l1
  rw [if_neg (by omega), Qki (by rw [List.length_drop]; omega)]
 | d + 1, i, k, h, hk => by
  obtain ⟨k, rfl⟩ : ∃ m, k = m + 1 := ⟨k - 1, by omega⟩
  unfold Qbd.l1
  by_cases hi : i + 1 < l.length
  ·have w1 := Qjo (i + 1) (by omega) (by omega)
   rw [Nat.add_sub_cancel] at w1
   rw [if_pos (by omega), if_pos (by omega), if_pos (by omega), if_pos (by omega), w1, if_pos (by omega), if_pos (by omega), rdR l (i + 1) hi, rdR l i (by omega), ord_drop hi]
   by_cases ho : l[i + 1].f1 ≤ l[i].f1
   ·rw [if_pos ho, if_pos ho]
   ·rw [if_neg ho, if_neg ho, Qjn (i + 1) (by omega)]
    exact rris_l1 l hl d (i + 1) k (by omega) (by omega)
  ·rw [if_neg (by omega), Qki (by rw [List.length_drop]; omega)]
theorem rris_l1z (l : List Rec) (hl : l.length ≤ 4611686018427387903) (k : Nat) (hk : l.length + 3 ≤ k) : Qbd.l1 k l l (l.length : Int) 0 = some (ordL l) := by
 obtain ⟨k, rfl⟩ : ∃ m, k = m + 1 := ⟨k - 1, by omega⟩
 unfold Qbd.l1
 by_cases h0 : (0 : Int) < (l.length : Int)
 ·rw [if_pos h0, if_pos (by omega), if_pos h0, if_neg (by omega), show wrap64 (0 + 1) = ((0 + 1 : Nat) : Int) by unfold wrap64; omega]
  exact rris_l1 l hl l.length 0 k (by omega) (by omega)
 ·rw [if_neg h0, Qki (by omega)]
theorem rris_l0 (l : List Rec) (hl : l.length ≤ 4611686018427387903) : ∀ (d i k : Nat), i + d = l.length → d + l.length + 5 ≤ k → Qbd.l0 k l l (l.length : Int) (i : Int) = some (if chkL (l.drop i) = 0 then ordL l else chkL (l.drop i))
 | 0, i, k, h, hk => by
  obtain ⟨k, rfl⟩ : ∃ m, k = m + 1 := ⟨k - 1, by omega⟩
  unfold Qbd.l0
  rw [if_neg (by omega), List.drop_of_length_le (by omega)]
  exact rris_l1z l hl k (by omega)
 | d + 1, i, k, h, hk => by
  obtain ⟨k, rfl⟩ : ∃ m, k = m + 1 := ⟨k - 1, by omega⟩
  have hi : i < l.length := by omega
  unfold Qbd.l0
  rw [if_pos (by omega), if_pos (by omega), if_pos (by omega), rdR l i hi, rcheck_k k _ _ _ _ (by omega), Option.bind_some, List.drop_eq_getElem_cons hi]
  unfold chkL
  by_cases hc : chkR l[i] = 0
  ·rw [if_pos hc, if_pos (show chk l[i].f0 l[i].f2 l[i].f3 = 0 from hc), Qjn i (by omega)]
   exact rris_l0 l hl d (i + 1) k (by omega) (by omega)
  ·rw [if_neg hc, if_neg (show ¬ chk l[i].f0 l[i].f2 l[i].f3 = 0 from hc), if_neg hc]
   rfl
theorem ris_ref (l : List Rec) (k : Nat) (hl : l.length ≤ 4611686018427387903) (hk : 2 * l.length + 5 ≤ k) : Qbd.f k l = some (risL l) :=
 rris_l0 l hl l.length 0 k (by omega) (by omega)
def frameL (r : Rec) : List Int := Qia (Qht r.f0 r.f1 r.f2 r.f3)
def fsz (r : Rec) : Int := ((frameL r).length : Int)
def Wf (l : List Rec) : Prop := ∀ r ∈ l, 0 ≤ r.f1 ∧ r.f1 < 18446744073709551616
theorem bodyL_len (d : Bool) (s : Int) (key v : ByteArray) : (Qht d s key v).length ≤ key.size + v.size + 31 := by
 have h1 := Qhm 9 s
 have h2 := Qhm 9 (key.size : Int)
 have h3 := Qhm 9 (v.size : Int)
 have h4 := Qcx key
 have h5 := Qcx v
 cases d
 ·simp only [Qht, List.length_append, List.length_cons, List.length_nil, Bool.false_eq_true, if_false]; omega
 ·simp only [Qht, List.length_append, List.length_cons, List.length_nil, if_true]; omega
theorem sealL_len (b : List Int) : 0 < (Qia b).length ∧ (Qia b).length ≤ 2 * b.length + 18 := by
 have h := Qib _ (b ++ leb (Qhy 0 b) 8) (Nat.le_refl _)
 rw [List.length_append, Qgk] at h
 unfold Qia
 rw [List.length_append]
 simp
 omega
theorem Qkj (r : Rec) (hc : chkR r = 0) : 1 ≤ fsz r ∧ fsz r ≤ 8388608 := by
 have h1 := Qhs hc
 have h2 := bodyL_len r.f0 r.f1 r.f2 r.f3
 have h3 := sealL_len (Qht r.f0 r.f1 r.f2 r.f3)
 unfold fsz frameL
 omega
theorem put_good (r : Rec) (hc : chkR r = 0) (h0 : 0 ≤ r.f1) (h1 : r.f1 < 18446744073709551616) : Qbs.f r.f0 r.f1 r.f2 r.f3 = some (frameL r, 0) := by
 have h2 := Qhs hc
 have h3 := bodyL_len r.f0 r.f1 r.f2 r.f3
 unfold Qbs.f Qcg.f
 rw [if_pos h0, if_pos h1, if_pos (show chk r.f0 r.f2 r.f3 = 0 from hc), Option.bind_some, if_pos rfl]
 unfold Qbt.f
 rw [if_pos (by dsimp only; omega), Option.bind_some]
 rfl
def Qkk (e s : Int) (l : List Rec) : List Int × Int := Qkd e s (l.map fsz) [] 0 (Qjr e s 0) 0
theorem take_map {l : List Rec} {i : Nat} (h : i < l.length) : (l.take (i + 1)).map fsz = (l.take i).map fsz ++ [fsz l[i]] := by rw [List.take_succ_eq_append_getElem h, List.map_append]; rfl
theorem iplan_run {e s : Int} (h : Good e s) (l : List Rec) (hl : l.length ≤ 1000000) (hw : Wf l) (hc : chkL l = 0) : ∀ (d i k : Nat), i + d = l.length → d + l.length + 5 ≤ k →
  Qbz.l0 k ((l.take i).map fsz) l (l.length : Int) (i : Int) e s = some ((Qkk e s l).1, l.map fsz, (Qkk e s l).2)
 | 0, i, k, hi, hk => by
  obtain ⟨k, rfl⟩ : ∃ m, k = m + 1 := ⟨k - 1, by omega⟩
  unfold Qbz.l0
  rw [if_neg (by omega), List.take_of_length_le (by omega), plan_prog h (l.map fsz) k (by rw [List.length_map]; exact hl) (fun x hx => by
   obtain ⟨r, hr, rfl⟩ := List.mem_map.1 hx
   have := Qkj r (Qkh hc r hr)
   omega) (by rw [List.length_map]; omega), Option.bind_some]
  rfl
 | d + 1, i, k, hi, hk => by
  obtain ⟨k, rfl⟩ : ∃ m, k = m + 1 := ⟨k - 1, by omega⟩
  have hil : i < l.length := by omega
  have hr := List.getElem_mem hil
  have hln : ((l.take i).map fsz).length = i := by rw [List.length_map, List.length_take]; omega
  unfold Qbz.l0
  rw [if_pos (by omega), if_pos (by omega), if_pos (by omega), rdR l i hil, put_good l[i] (Qkh hc _ hr) (hw _ hr).1 (hw _ hr).2, Option.bind_some, if_pos (by omega), Qjn i (by omega)]
  have := iplan_run h l hl hw hc d (i + 1) k (by omega) (by omega)
  rw [take_map hil] at this
  exact this
def Qkl (e s : Int) (l : List Rec) : List Int × List Int × Int := if 12 ≤ e ∧ e ≤ 24 ∧ 1 ≤ s ∧ s ≤ 65536 then if risL l = 0 then ((Qkk e s l).1, l.map fsz, (Qkk e s l).2) else ([], [], risL l) else ([], [], 1)
theorem risL_chk {l : List Rec} (h : risL l = 0) : chkL l = 0 := by
 unfold risL at h
 by_cases hc : chkL l = 0
 ·exact hc
 ·rw [if_neg hc] at h; exact h
theorem plan_is (e s : Int) (l : List Rec) (k : Nat) (hl : l.length ≤ 1000000) (hw : Wf l) (hk : 2 * l.length + 10 ≤ k) : Qbz.f k e s l = some (Qkl e s l) := by
 unfold Qbz.f Qkl
 by_cases hg : 12 ≤ e ∧ e ≤ 24 ∧ 1 ≤ s ∧ s ≤ 65536
 ·rw [Qju hg, Option.bind_some, if_pos rfl, if_pos hg, ris_prog l k (by omega) (by omega), Option.bind_some]
  by_cases hr : risL l = 0
  ·rw [if_pos hr, if_pos hr]
   exact iplan_run hg l hl hw (risL_chk hr) l.length 0 k (by omega) (by omega)
  ·rw [if_neg hr, if_neg hr]
 ·rw [check_bad hg, Option.bind_some, if_neg (by decide), if_neg hg]
theorem rplan_run {e s : Int} (h : Good e s) (l : List Rec) (hl : l.length ≤ 1000000) (hw : Wf l) (hc : chkL l = 0) : ∀ (d i k : Nat), i + d = l.length → d + l.length + 2200000 ≤ k →
  Qbo.l0 k ((l.take i).map fsz) l (l.length : Int) (i : Int) e s = some ((Qkk e s l).1, (Qkk e s l).2)
 | 0, i, k, hi, hk => by
  obtain ⟨k, rfl⟩ : ∃ m, k = m + 1 := ⟨k - 1, by omega⟩
  unfold Qbo.l0
  rw [if_neg (by omega), List.take_of_length_le (by omega), plan_ref h (l.map fsz) k (by rw [List.length_map]; exact hl) (fun x hx => by
   obtain ⟨r, hr, rfl⟩ := List.mem_map.1 hx
   have := Qkj r (Qkh hc r hr)
   omega) (by rw [List.length_map]; omega), Option.bind_some]
  rfl
 | d + 1, i, k, hi, hk => by
  obtain ⟨k, rfl⟩ : ∃ m, k = m + 1 := ⟨k - 1, by omega⟩
  have hil : i < l.length := by omega
  have hr := List.getElem_mem hil
  have hz := Qhs (Qkh hc _ hr)
  have hln : ((l.take i).map fsz).length = i := by rw [List.length_map, List.length_take]; omega
  obtain ⟨t, ht, hb⟩ := record_ref k l[i].f0 l[i].f1 l[i].f2 l[i].f3 (hw _ hr).1 (hw _ hr).2 (by omega) (by omega) (by omega)
  have hts : (t.size : Int) = fsz l[i] := by rw [Qje, hb]; rfl
  unfold Qbo.l0
  rw [if_pos (by omega), if_pos (by omega), if_pos (by omega), rdR l i hil, ht, Option.bind_some, if_pos (by omega), Qjn i (by omega), hts]
  have := rplan_run h l hl hw hc d (i + 1) k (by omega) (by omega)
  rw [take_map hil] at this
  exact this
theorem rplan_is (e s : Int) (l : List Rec) (k : Nat) (hl : l.length ≤ 1000000) (hw : Wf l) (hk : 2 * l.length + 2200010 ≤ k) : Qbo.f k e s l = some ((Qkl e s l).1, (Qkl e s l).2.2) := by
 unfold Qbo.f Qkl
 by_cases hg : 12 ≤ e ∧ e ≤ 24 ∧ 1 ≤ s ∧ s ≤ 65536
 ·rw [may_good hg, Option.bind_some, if_pos rfl, if_pos hg, ris_ref l k (by omega) (by omega), Option.bind_some]
  by_cases hr : risL l = 0
  ·rw [if_pos hr, if_pos hr]
   exact rplan_run hg l hl hw (risL_chk hr) l.length 0 k (by omega) (by omega)
  ·rw [if_neg hr, if_neg hr]
 ·rw [may_bad hg, Option.bind_some, if_neg (by decide), if_neg hg]
theorem planP_ok (e s : Int) : ∀ (l out : List Int) (n u c : Int), 0 ≤ n → n < s → (∀ x ∈ out, 0 ≤ x ∧ x < s) → (Qkd e s l out n u c).2 = 0 →
  (Qkd e s l out n u c).1.length = out.length + l.length ∧ ∀ x ∈ (Qkd e s l out n u c).1, 0 ≤ x ∧ x < s
 | [], out, n, u, c, h0, h1, ho, h => ⟨by simp [Qkd], ho⟩
 | x :: t, out, n, u, c, h0, h1, ho, h => by
  unfold Qkd at h ⊢
  by_cases hf : Qjy e (Qjr e s (s - 1)) 0 x = false
  ·rw [if_pos hf] at h; cases h
  ·rw [if_neg hf] at h ⊢
   by_cases hq : Qjy e u c x = true
   ·rw [if_pos hq] at h ⊢
    have := planP_ok e s t (out ++ [n]) n (u + x) (c + 1) h0 h1 (fun y hy => by
     rcases List.mem_append.1 hy with hy | hy
     ·exact ho y hy
     ·simp at hy; omega) h
    refine ⟨?_, this.2⟩
    rw [this.1, List.length_append, List.length_cons]
    simp
    omega
   ·rw [if_neg hq] at h ⊢
    by_cases hs : n + 1 < s
    ·rw [if_pos hs] at h ⊢
     have := planP_ok e s t (out ++ [n + 1]) (n + 1) (Qjr e s (n + 1) + x) 1 (by omega) hs (fun y hy => by
      rcases List.mem_append.1 hy with hy | hy
      ·exact ho y hy
      ·simp at hy; omega) h
     refine ⟨?_, this.2⟩
     rw [this.1, List.length_append, List.length_cons]
     simp
     omega
    ·rw [if_neg hs] at h; cases h
abbrev Plc := S69
def Qkm (e s : Int) : Option Int → Int → List Int → List Int → List Plc
 | prev, at_, x :: into, z :: sizes =>
  (⟨x, (if prev = some x then at_ else Qjr e s x) % 4294967296⟩ : Plc) :: Qkm e s (some x) ((if prev = some x then at_ else Qjr e s x) + z) into sizes
 | _, _, _, _ => []
def Qkn (into : List Int) (i : Nat) : Option Int := if i = 0 then none else some (rd into ((i : Int) - 1))
theorem places_run {e s : Int} (h : Good e s) (into sizes : List Int) (hl : into.length ≤ 1000000) (hz : sizes.length = into.length) (hi : ∀ x ∈ into, 0 ≤ x ∧ x < s) (hx : ∀ x ∈ sizes, 0 ≤ x ∧ x ≤ 8388608) : ∀ (d i k : Nat) (out : List Plc) (at_ : Int), i + d = into.length → out.length = i → 0 ≤ at_ → at_ ≤ 1000 + (i : Int) * 8388608 → d + 1 ≤ k →
  Qbx.l0 k into sizes out at_ into (into.length : Int) (i : Int) e s = some (out ++ Qkm e s (Qkn into i) at_ (into.drop i) (sizes.drop i), 0) := by
 intro d
 induction d with
 | zero =>
  intro i k out at_ hd ho h0 h1 hk
  obtain ⟨k, rfl⟩ : ∃ m, k = m + 1 := ⟨k - 1, by omega⟩
  unfold Qbx.l0
  rw [if_neg (by omega), List.drop_of_length_le (by omega)]
  simp [Qkm]
 | succ d ihd =>
  intro i k out at_ hd ho h0 h1 hk
  obtain ⟨k, rfl⟩ : ∃ m, k = m + 1 := ⟨k - 1, by omega⟩
  have hil : i < into.length := by omega
  have hxi : 0 ≤ rd into (i : Int) ∧ rd into (i : Int) < s := by rw [Qjc hil]; exact hi _ (List.getElem_mem hil)
  have hzi : 0 ≤ rd sizes (i : Int) ∧ rd sizes (i : Int) ≤ 8388608 := by rw [Qjc (by omega)]; exact hx _ (List.getElem_mem (by omega))
  have hH := Qjs e s (rd into (i : Int))
  have hprev : Qkn into (i + 1) = some (rd into (i : Int)) := by
   unfold Qkn
   rw [if_neg (by omega), show (((i + 1 : Nat) : Int) - 1) = (i : Int) by omega]
  rw [rd_drop hil, rd_drop (l := sizes) (by omega)]
  unfold Qbx.l0
  rw [if_pos (by omega), if_pos (by omega), if_pos (by omega), Qjn i (by omega)]
  by_cases hz0 : i = 0
  ·have hz1 : ((i : Nat) : Int) = 0 := by omega
   rw [if_pos hz1, Qkb h _ hxi.1 hxi.2, Option.bind_some, if_pos (by omega), if_pos (by omega), show wrap64 (Qjr e s (rd into (i : Int)) + rd sizes (i : Int)) = Qjr e s (rd into (i : Int)) + rd sizes (i : Int) by unfold wrap64; omega]
   have ih := ihd (i + 1) k (out ++ [⟨rd into (i : Int), Qjr e s (rd into (i : Int)) % 4294967296⟩]) (Qjr e s (rd into (i : Int)) + rd sizes (i : Int)) (by omega) (by rw [List.length_append, ho]; rfl) (by omega) (by omega) (by omega)
   rw [ih, hprev]
   have hp0 : Qkn into i = none := by unfold Qkn; rw [if_pos hz0]
   rw [hp0]
   simp [Qkm]
  ·have hp0 : Qkn into i = some (rd into ((i : Int) - 1)) := by unfold Qkn; rw [if_neg hz0]
   rw [if_neg (by omega), Qjo i (by omega) (by omega), if_pos (by omega), if_pos (by omega), show ((i - 1 : Nat) : Int) = (i : Int) - 1 by omega]
   by_cases he : rd into (i : Int) = rd into ((i : Int) - 1)
   ·rw [if_pos he, if_pos (by omega), if_pos (by omega), show wrap64 (at_ + rd sizes (i : Int)) = at_ + rd sizes (i : Int) by unfold wrap64; omega]
    have ih := ihd (i + 1) k (out ++ [⟨rd into (i : Int), at_ % 4294967296⟩]) (at_ + rd sizes (i : Int)) (by omega) (by rw [List.length_append, ho]; rfl) (by omega) (by omega) (by omega)
    rw [ih, hprev, hp0, ← he]
    simp [Qkm]
   ·rw [if_neg he, Qkb h _ hxi.1 hxi.2, Option.bind_some, if_pos (by omega), if_pos (by omega), show wrap64 (Qjr e s (rd into (i : Int)) + rd sizes (i : Int)) = Qjr e s (rd into (i : Int)) + rd sizes (i : Int) by unfold wrap64; omega]
    have ih := ihd (i + 1) k (out ++ [⟨rd into (i : Int), Qjr e s (rd into (i : Int)) % 4294967296⟩]) (Qjr e s (rd into (i : Int)) + rd sizes (i : Int)) (by omega) (by rw [List.length_append, ho]; rfl) (by omega) (by omega) (by omega)
    rw [ih, hprev, hp0]
    have hne : ¬ (some (rd into ((i : Int) - 1)) = some (rd into (i : Int))) := fun e' => he (Option.some.inj e').symm
    simp [Qkm, hne]
theorem Qko {e s : Int} {l : List Rec} (h : (Qkl e s l).2.2 = 0) (hl : l.length ≤ 1000000) :
  Good e s ∧ risL l = 0 ∧ (Qkk e s l).2 = 0 ∧ Qkl e s l = ((Qkk e s l).1, l.map fsz, 0) ∧ (Qkk e s l).1.length = l.length ∧ ∀ x ∈ (Qkk e s l).1, 0 ≤ x ∧ x < s := by
 unfold Qkl at h ⊢
 by_cases hg : 12 ≤ e ∧ e ≤ 24 ∧ 1 ≤ s ∧ s ≤ 65536
 ·rw [if_pos hg] at h ⊢
  by_cases hr : risL l = 0
  ·rw [if_pos hr] at h ⊢
   have h2 : (Qkk e s l).2 = 0 := h
   have := planP_ok e s (l.map fsz) [] 0 (Qjr e s 0) 0 (by omega) (by omega) (by simp) h2
   refine ⟨hg, hr, h2, by rw [h2], ?_, this.2⟩
   have h3 : (Qkk e s l).1.length = _ := this.1
   rw [h3, List.length_map]
   simp
  ·rw [if_neg hr] at h; exact absurd h hr
 ·rw [if_neg hg] at h; cases h
theorem places_is (e s : Int) (l : List Rec) (k : Nat) (hl : l.length ≤ 1000000) (hw : Wf l) (hk : 2 * l.length + 10 ≤ k) :
  Qbx.f k e s l = some (if (Qkl e s l).2.2 = 0 then Qkm e s none 0 (Qkk e s l).1 (l.map fsz) else [], (Qkl e s l).2.2) := by
 unfold Qbx.f
 rw [plan_is e s l k hl hw hk, Option.bind_some]
 by_cases h : (Qkl e s l).2.2 = 0
 ·obtain ⟨hg, hr, h2, h3, h4, h5⟩ := Qko h hl
  rw [if_pos h, if_pos h, h, h3]
  have := places_run hg (Qkk e s l).1 (l.map fsz) (by omega) (by rw [List.length_map, h4]) h5 (fun x hx => by
   obtain ⟨r, hr', rfl⟩ := List.mem_map.1 hx
   have := Qkj r (Qkh (risL_chk hr) r hr')
   omega) (Qkk e s l).1.length 0 k [] 0 (by omega) rfl (by omega) (by omega) (by omega)
  exact this
 ·rw [if_neg h, if_neg h]
def lastSeg (into : List Int) : Int := if into.length = 0 then 0 else (rd into ((into.length : Int) - 1) + 1) % 4294967296
theorem segs_is (e s : Int) (l : List Rec) (k : Nat) (hl : l.length ≤ 1000000) (hw : Wf l) (hk : 2 * l.length + 10 ≤ k) :
  Qby.f k e s l = some (if (Qkl e s l).2.2 = 0 then lastSeg (Qkk e s l).1 else 0, (Qkl e s l).2.2) := by
 unfold Qby.f
 rw [plan_is e s l k hl hw hk, Option.bind_some]
 by_cases h : (Qkl e s l).2.2 = 0
 ·obtain ⟨hg, hr, h2, h3, h4, h5⟩ := Qko h hl
  rw [if_pos h, if_pos h, h, h3]
  dsimp only
  unfold lastSeg
  by_cases h0 : (Qkk e s l).1.length = 0
  ·rw [if_pos (by omega), if_pos h0]
  ·have hwl : wrap64 (((Qkk e s l).1.length : Int) - 1) = ((Qkk e s l).1.length : Int) - 1 := by unfold wrap64; omega
   rw [if_neg (by omega), if_neg h0, hwl, if_pos (by omega), if_pos (by omega)]
 ·rw [if_neg h, if_neg h]
def few (l : List Rec) (m b : Int) : Bool := l.all (fun r => decide ((r.f2.size : Int) ≤ b) && decide ((r.f3.size : Int) ≤ b)) && decide ((l.length : Int) ≤ m)
theorem few_run (l : List Rec) (m b : Int) (hl : l.length ≤ 4611686018427387903) : ∀ (d i k : Nat), i + d = l.length → d + 1 ≤ k → Qam.l0 k l m b l (l.length : Int) (i : Int) = some ((l.drop i).all (fun r => decide ((r.f2.size : Int) ≤ b) && decide ((r.f3.size : Int) ≤ b)) && decide ((l.length : Int) ≤ m))
 | 0, i, k, h, hk => by
  obtain ⟨k, rfl⟩ : ∃ m, k = m + 1 := ⟨k - 1, by omega⟩
  unfold Qam.l0
  rw [if_neg (by omega), List.drop_of_length_le (by omega)]
  simp
 | d + 1, i, k, h, hk => by
  obtain ⟨k, rfl⟩ : ∃ m, k = m + 1 := ⟨k - 1, by omega⟩
  have hi : i < l.length := by omega
  unfold Qam.l0
  rw [if_pos (by omega), if_pos (by omega), if_pos (by omega), rdR l i hi, List.drop_eq_getElem_cons hi, Qjn i (by omega), few_run l m b hl d (i + 1) k (by omega) (by omega)]
  rw [List.all_cons]
  generalize (l.drop (i + 1)).all (fun r => decide ((r.f2.size : Int) ≤ b) && decide ((r.f3.size : Int) ≤ b)) = q
  generalize l[i] = r
  by_cases h1 : (r.f2.size : Int) > b
  ·rw [if_pos h1]
   simp [show ¬ ((r.f2.size : Int) ≤ b) by omega]
  ·rw [if_neg h1]
   by_cases h2 : (r.f3.size : Int) > b
   ·rw [if_pos h2]
    simp [show ¬ ((r.f3.size : Int) ≤ b) by omega]
   ·rw [if_neg h2]
    simp [show ((r.f2.size : Int) ≤ b) by omega, show ((r.f3.size : Int) ≤ b) by omega]
theorem few_is (l : List Rec) (m b : Int) (k : Nat) (hl : l.length ≤ 4611686018427387903) (hk : l.length + 1 ≤ k) : Qam.f k l m b = some (few l m b) := few_run l m b hl l.length 0 k (by omega) (by omega)
theorem few_len {l : List Rec} {m b : Int} (h : few l m b = true) : (l.length : Int) ≤ m ∧ ∀ r ∈ l, (r.f2.size : Int) ≤ b ∧ (r.f3.size : Int) ≤ b := by
 unfold few at h
 simp only [Bool.and_eq_true, List.all_eq_true, decide_eq_true_eq] at h
 exact ⟨h.2, fun r hr => h.1 r hr⟩
end Go.Proofs.YtnnofopfbeklbaaGreat.CodecP
end
section
namespace Go.Proofs.YtnnofopfbeklbaaGreat.Pure
open Go.RowKit Go.Proofs.YtnnofopfbeklbaaGreat.C Go.Proofs.YtnnofopfbeklbaaGreat.CodecP Go.Proofs.YtnnofopfbeklbaaGreatW.PrintWords Go.Proofs.YtnnofopfbeklbaaGreatW.PrintLast Go.Proofs.YtnnofopfbeklbaaGreatW.PrintMore Go.Proofs.YtnnofopfbeklbaaGreat.Open
theorem wf_of {l : List Rec} (h : ∀ x ∈ l, OG39 x) : Wf l := by
 intro r hr
 have h1 : (Lit.int .u64 r.f1).wf = true := (h r hr).2.1
 simp only [Lit.wf, IntKind.min, IntKind.max, IntKind.signed, IntKind.bits, Bool.and_eq_true, decide_eq_true_eq] at h1
 simp at h1
 omega
theorem lives16 : Qaq.f = some true := rfl
theorem ImageErrors : Qap.Pure := by
 intro x0 l h0 hG
 have hl : l.length ≤ 4611686018427387903 := by have := hG.1; omega
 have hw := wf_of hG.2
 obtain ⟨K, hK⟩ : ∃ K : Nat, K = l.length + 3000000 := ⟨_, rfl⟩
 refine ⟨K + 1, ?_⟩
 unfold Qap.f
 rw [lives16, Option.bind_some, if_pos rfl, few_is l 10 5000 _ hl (by omega), Option.bind_some, Qap.j0]
 by_cases hf : few l 10 5000 = true
 ·have hn := (few_len hf).1
  have h1 : l.length ≤ 1000000 := by omega
  rw [if_neg (by simp [hf]), rplan_is _ _ l _ h1 hw (by omega), Option.bind_some, places_is _ _ l _ h1 hw (by omega), Option.bind_some, segs_is _ _ l _ h1 hw (by omega), Option.bind_some]
  dsimp only
  rw [if_pos rfl, if_pos rfl]
  by_cases hz : (Qkl x0.f0 x0.f1 l).2.2 = 0
  ·rw [if_pos hz]
  ·rw [if_neg hz, if_neg hz, if_neg hz]
   simp
 ·rw [if_pos (by simp [hf])]
  rfl
end Go.Proofs.YtnnofopfbeklbaaGreat.Pure
end
