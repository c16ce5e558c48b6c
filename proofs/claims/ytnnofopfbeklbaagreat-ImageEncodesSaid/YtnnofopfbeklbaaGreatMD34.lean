/- Texts of this claim's author and of the print of its functions, merged by merge.py. -/
import Derived.Test.YtnnofopfbeklbaaGreatMD33
import Derived.Test.YtnnofopfbeklbaaGreatMD03
import Derived.Test.YtnnofopfbeklbaaGreatMD30
set_option linter.unusedVariables false
set_option linter.unusedSimpArgs false
set_option maxHeartbeats 8000000
set_option maxRecDepth 100000
section
namespace Go.Proofs.YtnnofopfbeklbaaGreat.CodecP
open Go.RowKit Go.Proofs.YtnnofopfbeklbaaGreat.C Go.Proofs.YtnnofopfbeklbaaGreatW.PrintWords Go.Proofs.YtnnofopfbeklbaaGreatW.PrintLast Go.Proofs.YtnnofopfbeklbaaGreatW.PrintMore
theorem rdR (l : List Rec) (i : Nat) (h : i < l.length) : Qgy l (i : Int) = l[i] := by simp [Qgy, List.getElem?_eq_getElem h]
def chkR (r : Rec) : Int := chk r.f0 r.f2 r.f3
def chkL : List Rec → Int
 | [] => 0
 | r :: t => if chkR r = 0 then chkL t else chkR r
def ordL : List Rec → Int
 | [] => 0
 | [_] => 0
 | a :: b :: t => if b.f1 ≤ a.f1 then 8 else ordL (b :: t)
def risL (l : List Rec) : Int := if chkL l = 0 then ordL l else chkL l
theorem Qlk {l : List Rec} (h : chkL l = 0) : ∀ r ∈ l, chkR r = 0 := by
 induction l with
 | nil => intro r hr; cases hr
 | cons a t ih =>
  unfold chkL at h
  by_cases ha : chkR a = 0
  ·rw [if_pos ha] at h
   intro r hr
   rcases List.mem_cons.1 hr with rfl | hr
   ·exact ha
   ·exact ih h r hr
  ·rw [if_neg ha] at h; exact absurd h ha
theorem check_k (k : Nat) (d : Bool) (s : Int) (key v : ByteArray) (hk : 1 ≤ k) : Qcr.f k d s key v = some (chk d key v) :=
 Qdm (g := fun k => Qcr.f k d s key v) (Qcr.mono d s key v) hk (chk_is d s key v)
theorem nil_ne (v : ByteArray) : (v.toList != ([] : List UInt8)) = decide ((v.size : Int) > 0) := by
 rw [Bool.eq_iff_iff, bne_iff_ne, decide_eq_true_iff, Ne, Qkk]
 omega
theorem rcheck_k (k : Nat) (d : Bool) (s : Int) (key v : ByteArray) (hk : 1 ≤ k) : Qbc.f k d s key v = some (chk d key v) := by
 obtain ⟨k, rfl⟩ : ∃ m, k = m + 1 := ⟨k - 1, by omega⟩
 unfold Qbc.f chk
 by_cases h0 : key.toList = ([] : List UInt8)
 ·rw [if_pos h0, if_pos (by have := (Qkk key).1 h0; omega)]
 ·rw [if_neg h0, if_neg (by intro h; exact h0 ((Qkk key).2 (by omega)))]
  by_cases h1 : (key.size : Int) > 4096
  ·rw [if_pos h1, if_pos h1]
  ·rw [if_neg h1, if_neg h1, nil_ne]
   cases d
   ·simp only [Bool.false_eq_true, if_false, Bool.false_and, Qbc.j0]
    split <;> rfl
   ·simp only [if_true, Bool.true_and, Qbc.j0]
    split
    ·rfl
    ·split <;> rfl
theorem ord_drop {l : List Rec} {i : Nat} (h : i + 1 < l.length) : ordL (l.drop i) = if l[i + 1].f1 ≤ l[i].f1 then 8 else ordL (l.drop (i + 1)) := by
 rw [List.drop_eq_getElem_cons (by omega), List.drop_eq_getElem_cons h]
 rfl
theorem Qll {l : List Rec} (h : l.length ≤ 1) : ordL l = 0 := by
 match l, h with
 | [], _ => rfl
 | [_], _ => rfl
theorem ris_l1 (l : List Rec) (hl : l.length ≤ 4611686018427387903) : ∀ (d i k : Nat), i + d = l.length → d + 1 ≤ k → Qcs.l1 k l ((i + 1 : Nat) : Int) = some (ordL (l.drop i))
 | 0, i, k, h, hk => by
  obtain ⟨k, rfl⟩ : ∃ m, k = m + 1 := ⟨k - 1, by omega⟩
  unfold Qcs.l1
  rw [if_neg (by omega), Qll qq_15]
 | d + 1, i, k, h, hk => by
  obtain ⟨k, rfl⟩ : ∃ m, k = m + 1 := ⟨k - 1, by omega⟩
  unfold Qcs.l1
  by_cases hi : i + 1 < l.length
  ·have w1 := Qkm (i + 1) (by omega) (by omega)
   rw [Nat.add_sub_cancel] at w1
   rw [if_pos (by omega), if_pos (by omega), w1, if_pos (by omega), if_pos (by omega), rdR l (i + 1) hi, rdR l i (by omega), ord_drop hi]
   by_cases ho : l[i + 1].f1 ≤ l[i].f1
   ·rw [if_pos ho, if_pos ho]
   ·rw [if_neg ho, if_neg ho, Qkl (i + 1) (by omega)]
    exact ris_l1 l hl d (i + 1) k (by omega) (by omega)
  ·rw [if_neg (by omega), Qll qq_15]
theorem ris_l0 (l : List Rec) (hl : l.length ≤ 4611686018427387903) : ∀ (d i k : Nat), i + d = l.length → d + l.length + 5 ≤ k → Qcs.l0 k l l (l.length : Int) (i : Int) = some (if chkL (l.drop i) = 0 then ordL l else chkL (l.drop i))
 | 0, i, k, h, hk => by
  obtain ⟨k, rfl⟩ : ∃ m, k = m + 1 := ⟨k - 1, by omega⟩
  unfold Qcs.l0
  rw [if_neg (by omega), List.drop_of_length_le (by omega)]
  exact ris_l1 l hl l.length 0 k (by omega) (by omega)
 | d + 1, i, k, h, hk => by
  obtain ⟨k, rfl⟩ : ∃ m, k = m + 1 := ⟨k - 1, by omega⟩
  have hi : i < l.length := by omega
  unfold Qcs.l0
  rw [if_pos (by omega), if_pos (by omega), if_pos (by omega), rdR l i hi, check_k k _ _ _ _ (by omega), Option.bind_some, List.drop_eq_getElem_cons hi]
  unfold chkL
  by_cases hc : chkR l[i] = 0
  ·rw [if_pos hc, if_pos (show chk l[i].f0 l[i].f2 l[i].f3 = 0 from hc), Qkl i (by omega)]
   exact ris_l0 l hl d (i + 1) k (by omega) (by omega)
  ·rw [if_neg hc, if_neg (show ¬ chk l[i].f0 l[i].f2 l[i].f3 = 0 from hc), if_neg hc]
   rfl
theorem ris_prog (l : List Rec) (k : Nat) (hl : l.length ≤ 4611686018427387903) (hk : 2 * l.length + 5 ≤ k) : Qcs.f k l = some (risL l) :=
 ris_l0 l hl l.length 0 k (by omega) (by omega)
theorem rris_l1 (l : List Rec) (hl : l.length ≤ 4611686018427387903) : ∀ (d i k : Nat), i + d = l.length → d + 1 ≤ k → Qbd.l1 k l l (l.length : Int) ((i + 1 : Nat) : Int) = some (ordL (l.drop i))
 | 0, i, k, h, hk => by
  obtain ⟨k, rfl⟩ : ∃ m, k = m + 1 := ⟨k - 1, by omega⟩
  unfold Qbd.l1
  rw [if_neg (by omega), Qll qq_15]
 | d + 1, i, k, h, hk => by
  obtain ⟨k, rfl⟩ : ∃ m, k = m + 1 := ⟨k - 1, by omega⟩
  unfold Qbd.l1
  by_cases hi : i + 1 < l.length
  ·have w1 := Qkm (i + 1) (by omega) (by omega)
   rw [Nat.add_sub_cancel] at w1
   rw [if_pos (by omega), if_pos (by omega), if_pos (by omega), if_pos (by omega), w1, if_pos (by omega), if_pos (by omega), rdR l (i + 1) hi, rdR l i (by omega), ord_drop hi]
   by_cases ho : l[i + 1].f1 ≤ l[i].f1
   ·rw [if_pos ho, if_pos ho]
   ·rw [if_neg ho, if_neg ho, Qkl (i + 1) (by omega)]
    exact rris_l1 l hl d (i + 1) k (by omega) (by omega)
  ·rw [if_neg (by omega), Qll qq_15]
theorem rris_l1z (l : List Rec) (hl : l.length ≤ 4611686018427387903) (k : Nat) (hk : l.length + 3 ≤ k) : Qbd.l1 k l l (l.length : Int) 0 = some (ordL l) := by
 obtain ⟨k, rfl⟩ : ∃ m, k = m + 1 := ⟨k - 1, by omega⟩
 unfold Qbd.l1
 by_cases h0 : (0 : Int) < (l.length : Int)
 ·rw [if_pos h0, if_pos (by omega), if_pos h0, if_neg (by omega), show wrap64 (0 + 1) = ((0 + 1 : Nat) : Int) by unfold wrap64; omega]
  exact rris_l1 l hl l.length 0 k (by omega) (by omega)
 ·rw [if_neg h0, Qll (by omega)]
theorem rris_l0 (l : List Rec) (hl : l.length ≤ 4611686018427387903) : ∀ (d i k : Nat), i + d = l.length → d + l.length + 5 ≤ k → Qbd.l0 k l l (l.length : Int) (i : Int) = some (if chkL (l.drop i) = 0 then ordL l else chkL (l.drop i))
 | 0, i, k, h, hk => by
  obtain ⟨k, rfl⟩ : ∃ m, k = m + 1 := ⟨k - 1, by omega⟩
  unfold Qbd.l0
  rw [if_neg (by omega), List.drop_of_length_le (by omega)]
  exact rris_l1z l hl k (by omega)
 | d + 1, i, k, h, hk => by
  obtain ⟨k, rfl⟩ : ∃ m, k = m + 1 := ⟨k - 1, by omega⟩
  have hi : i < l.length := by omega
  unfold Qbd.l0
  rw [if_pos (by omega), if_pos (by omega), if_pos (by omega), rdR l i hi, rcheck_k k _ _ _ _ (by omega), Option.bind_some, List.drop_eq_getElem_cons hi]
  unfold chkL
  by_cases hc : chkR l[i] = 0
  ·rw [if_pos hc, if_pos (show chk l[i].f0 l[i].f2 l[i].f3 = 0 from hc), Qkl i (by omega)]
   exact rris_l0 l hl d (i + 1) k (by omega) (by omega)
  ·rw [if_neg hc, if_neg (show ¬ chk l[i].f0 l[i].f2 l[i].f3 = 0 from hc), if_neg hc]
   rfl
theorem ris_ref (l : List Rec) (k : Nat) (hl : l.length ≤ 4611686018427387903) (hk : 2 * l.length + 5 ≤ k) : Qbd.f k l = some (risL l) :=
 rris_l0 l hl l.length 0 k (by omega) (by omega)
def Qlm (r : Rec) : List Int := Qiw (Qip r.f0 r.f1 r.f2 r.f3)
def fsz (r : Rec) : Int := ((Qlm r).length : Int)
def Wf (l : List Rec) : Prop := ∀ r ∈ l, 0 ≤ r.f1 ∧ r.f1 < 18446744073709551616
theorem bodyL_len (d : Bool) (s : Int) (key v : ByteArray) : (Qip d s key v).length ≤ key.size + v.size + 31 := by
 have h1 := Qij 9 s
 have h2 := Qij 9 (key.size : Int)
 have h3 := Qij 9 (v.size : Int)
 have h4 := Qdh key
 have h5 := Qdh v
 cases d
 ·simp only [Qip, List.length_append, List.length_cons, List.length_nil, Bool.false_eq_true, if_false]; omega
 ·simp only [Qip, List.length_append, List.length_cons, List.length_nil, if_true]; omega
theorem sealL_len (b : List Int) : 0 < (Qiw b).length ∧ (Qiw b).length ≤ 2 * b.length + 18 := by
 have h := Qix _ (b ++ leb (Qiu 0 b) 8) (Nat.le_refl _)
 rw [List.length_append, Qhg] at h
 unfold Qiw
 rw [List.length_append]
 simp
 omega
theorem Qln (r : Rec) (hc : chkR r = 0) : 1 ≤ fsz r ∧ fsz r ≤ 8388608 := by
 have h1 := Qio hc
 have h2 := bodyL_len r.f0 r.f1 r.f2 r.f3
 have h3 := sealL_len (Qip r.f0 r.f1 r.f2 r.f3)
 unfold fsz Qlm
 omega
theorem put_good (r : Rec) (hc : chkR r = 0) (h0 : 0 ≤ r.f1) (h1 : r.f1 < 18446744073709551616) : Qce.f r.f0 r.f1 r.f2 r.f3 = some (Qlm r, 0) := by
 have h2 := Qio hc
 have h3 := bodyL_len r.f0 r.f1 r.f2 r.f3
 unfold Qce.f Qcq.f
 rw [if_pos h0, if_pos h1, if_pos (show chk r.f0 r.f2 r.f3 = 0 from hc), Option.bind_some, if_pos rfl]
 unfold Qcf.f
 rw [if_pos (by dsimp only; omega), Option.bind_some]
 rfl
def Qlo (e s : Int) (l : List Rec) : List Int × Int := Qlf e s (l.map fsz) [] 0 (Qkq e s 0) 0
theorem take_map {l : List Rec} {i : Nat} (h : i < l.length) : (l.take (i + 1)).map fsz = (l.take i).map fsz ++ [fsz l[i]] := by rw [List.take_succ_eq_append_getElem h, List.map_append]; rfl
theorem iplan_run {e s : Int} (h : Good e s) (l : List Rec) (hl : l.length ≤ 1000000) (hw : Wf l) (hc : chkL l = 0) : ∀ (d i k : Nat), i + d = l.length → d + l.length + 5 ≤ k →
  Qcj.l0 k ((l.take i).map fsz) l (l.length : Int) (i : Int) e s = some ((Qlo e s l).1, l.map fsz, (Qlo e s l).2)
 | 0, i, k, hi, hk => by
  obtain ⟨k, rfl⟩ : ∃ m, k = m + 1 := ⟨k - 1, by omega⟩
  unfold Qcj.l0
  rw [if_neg (by omega), List.take_of_length_le (by omega), plan_prog h (l.map fsz) k (by rw [List.length_map]; exact hl) (fun x hx => by
   obtain ⟨r, hr, rfl⟩ := List.mem_map.1 hx
   have := Qln r (Qlk hc r hr)
   omega) (by rw [List.length_map]; omega), Option.bind_some]
  rfl
 | d + 1, i, k, hi, hk => by
  obtain ⟨k, rfl⟩ : ∃ m, k = m + 1 := ⟨k - 1, by omega⟩
  have hil : i < l.length := by omega
  have hr := List.getElem_mem hil
  have hln : ((l.take i).map fsz).length = i := by rw [List.length_map, List.length_take]; omega
  unfold Qcj.l0
  rw [if_pos (by omega), if_pos (by omega), if_pos (by omega), rdR l i hil, put_good l[i] (Qlk hc _ hr) (hw _ hr).1 (hw _ hr).2, Option.bind_some, if_pos (by omega), Qkl i (by omega)]
  have := iplan_run h l hl hw hc d (i + 1) k (by omega) (by omega)
  rw [take_map hil] at this
  exact this
def Qlp (e s : Int) (l : List Rec) : List Int × List Int × Int := if 12 ≤ e ∧ e ≤ 24 ∧ 1 ≤ s ∧ s ≤ 65536 then if risL l = 0 then ((Qlo e s l).1, l.map fsz, (Qlo e s l).2) else ([], [], risL l) else ([], [], 1)
theorem Qlq {l : List Rec} (h : risL l = 0) : chkL l = 0 := by
 unfold risL at h
 by_cases hc : chkL l = 0
 ·exact hc
 ·rw [if_neg hc] at h; exact h
theorem plan_is (e s : Int) (l : List Rec) (k : Nat) (hl : l.length ≤ 1000000) (hw : Wf l) (hk : 2 * l.length + 10 ≤ k) : Qcj.f k e s l = some (Qlp e s l) := by
 unfold Qcj.f Qlp
 by_cases hg : 12 ≤ e ∧ e ≤ 24 ∧ 1 ≤ s ∧ s ≤ 65536
 ·rw [Qkt hg, Option.bind_some, if_pos rfl, if_pos hg, ris_prog l k (by omega) (by omega), Option.bind_some]
  by_cases hr : risL l = 0
  ·rw [if_pos hr, if_pos hr]
   exact iplan_run hg l hl hw (Qlq hr) l.length 0 k (by omega) (by omega)
  ·rw [if_neg hr, if_neg hr]
 ·rw [check_bad hg, Option.bind_some, if_neg (by decide), if_neg hg]
theorem rplan_run {e s : Int} (h : Good e s) (l : List Rec) (hl : l.length ≤ 1000000) (hw : Wf l) (hc : chkL l = 0) : ∀ (d i k : Nat), i + d = l.length → d + l.length + 2200000 ≤ k →
  Qca.l0 k ((l.take i).map fsz) l (l.length : Int) (i : Int) e s = some ((Qlo e s l).1, (Qlo e s l).2)
 | 0, i, k, hi, hk => by
  obtain ⟨k, rfl⟩ : ∃ m, k = m + 1 := ⟨k - 1, by omega⟩
  unfold Qca.l0
  rw [if_neg (by omega), List.take_of_length_le (by omega), plan_ref h (l.map fsz) k (by rw [List.length_map]; exact hl) (fun x hx => by
   obtain ⟨r, hr, rfl⟩ := List.mem_map.1 hx
   have := Qln r (Qlk hc r hr)
   omega) (by rw [List.length_map]; omega), Option.bind_some]
  rfl
 | d + 1, i, k, hi, hk => by
  obtain ⟨k, rfl⟩ : ∃ m, k = m + 1 := ⟨k - 1, by omega⟩
  have hil : i < l.length := by omega
  have hr := List.getElem_mem hil
  have hz := Qio (Qlk hc _ hr)
  have hln : ((l.take i).map fsz).length = i := by rw [List.length_map, List.length_take]; omega
  obtain ⟨t, ht, hb⟩ := Qko k l[i].f0 l[i].f1 l[i].f2 l[i].f3 (hw _ hr).1 (hw _ hr).2 (by omega) (by omega) (by omega)
  have hts : (t.size : Int) = fsz l[i] := by rw [Qkc, hb]; rfl
  unfold Qca.l0
  rw [if_pos (by omega), if_pos (by omega), if_pos (by omega), rdR l i hil, ht, Option.bind_some, if_pos (by omega), Qkl i (by omega), hts]
  have := rplan_run h l hl hw hc d (i + 1) k (by omega) (by omega)
  rw [take_map hil] at this
  exact this
theorem rplan_is (e s : Int) (l : List Rec) (k : Nat) (hl : l.length ≤ 1000000) (hw : Wf l) (hk : 2 * l.length + 2200010 ≤ k) : Qca.f k e s l = some ((Qlp e s l).1, (Qlp e s l).2.2) := by
 unfold Qca.f Qlp
 by_cases hg : 12 ≤ e ∧ e ≤ 24 ∧ 1 ≤ s ∧ s ≤ 65536
 ·rw [may_good hg, Option.bind_some, if_pos rfl, if_pos hg, ris_ref l k (by omega) (by omega), Option.bind_some]
  by_cases hr : risL l = 0
  ·rw [if_pos hr, if_pos hr]
   exact rplan_run hg l hl hw (Qlq hr) l.length 0 k (by omega) (by omega)
  ·rw [if_neg hr, if_neg hr]
 ·rw [may_bad hg, Option.bind_some, if_neg (by decide), if_neg hg]
theorem planP_ok (e s : Int) : ∀ (l out : List Int) (n u c : Int), 0 ≤ n → n < s → (∀ x ∈ out, 0 ≤ x ∧ x < s) → (Qlf e s l out n u c).2 = 0 →
  (Qlf e s l out n u c).1.length = out.length + l.length ∧ ∀ x ∈ (Qlf e s l out n u c).1, 0 ≤ x ∧ x < s
 | [], out, n, u, c, h0, h1, ho, h => ⟨by simp [Qlf], ho⟩
 | x :: t, out, n, u, c, h0, h1, ho, h => by
  unfold Qlf at h ⊢
  by_cases hf : Qky e (Qkq e s (s - 1)) 0 x = false
  ·rw [if_pos hf] at h; cases h
  ·rw [if_neg hf] at h ⊢
   by_cases hq : Qky e u c x = true
   ·rw [if_pos hq] at h ⊢
    have := planP_ok e s t (out ++ [n]) n (u + x) (c + 1) h0 h1 (fun y hy => by
     rcases List.mem_append.1 hy with hy | hy
     ·exact ho y hy
     ·simp at hy; omega) h
    refine ⟨?_, this.2⟩
    rw [this.1, List.length_append, List.length_cons]
    simp
    omega
   ·rw [if_neg hq] at h ⊢
    by_cases hs : n + 1 < s
    ·rw [if_pos hs] at h ⊢
     have := planP_ok e s t (out ++ [n + 1]) (n + 1) (Qkq e s (n + 1) + x) 1 (by omega) hs (fun y hy => by
      rcases List.mem_append.1 hy with hy | hy
      ·exact ho y hy
      ·simp at hy; omega) h
     refine ⟨?_, this.2⟩
     rw [this.1, List.length_append, List.length_cons]
     simp
     omega
    ·rw [if_neg hs] at h; cases h
abbrev Plc := S69
theorem Qlr {e s : Int} {l : List Rec} (h : (Qlp e s l).2.2 = 0) (hl : l.length ≤ 1000000) :
  Good e s ∧ risL l = 0 ∧ (Qlo e s l).2 = 0 ∧ Qlp e s l = ((Qlo e s l).1, l.map fsz, 0) ∧ (Qlo e s l).1.length = l.length ∧ ∀ x ∈ (Qlo e s l).1, 0 ≤ x ∧ x < s := by
 unfold Qlp at h ⊢
 by_cases hg : 12 ≤ e ∧ e ≤ 24 ∧ 1 ≤ s ∧ s ≤ 65536
 ·rw [if_pos hg] at h ⊢
  by_cases hr : risL l = 0
  ·rw [if_pos hr] at h ⊢
   have h2 : (Qlo e s l).2 = 0 := h
   have := planP_ok e s (l.map fsz) [] 0 (Qkq e s 0) 0 (by omega) (by omega) (by simp) h2
   refine ⟨hg, hr, h2, by rw [h2], ?_, this.2⟩
   have h3 : (Qlo e s l).1.length = _ := this.1
   rw [h3, List.length_map]
   simp
  ·rw [if_neg hr] at h; exact absurd h hr
 ·rw [if_neg hg] at h; cases h
def few (l : List Rec) (m b : Int) : Bool := l.all (fun r => decide ((r.f2.size : Int) ≤ b) && decide ((r.f3.size : Int) ≤ b)) && decide ((l.length : Int) ≤ m)
theorem few_run (l : List Rec) (m b : Int) (hl : l.length ≤ 4611686018427387903) : ∀ (d i k : Nat), i + d = l.length → d + 1 ≤ k → Qam.l0 k l m b l (l.length : Int) (i : Int) = some ((l.drop i).all (fun r => decide ((r.f2.size : Int) ≤ b) && decide ((r.f3.size : Int) ≤ b)) && decide ((l.length : Int) ≤ m))
 | 0, i, k, h, hk => by
  obtain ⟨k, rfl⟩ : ∃ m, k = m + 1 := ⟨k - 1, by omega⟩
  unfold Qam.l0
  rw [if_neg (by omega), List.drop_of_length_le (by omega)]
  simp
 | d + 1, i, k, h, hk => by
  obtain ⟨k, rfl⟩ : ∃ m, k = m + 1 := ⟨k - 1, by omega⟩
  have hi : i < l.length := by omega
  unfold Qam.l0
  rw [if_pos (by omega), if_pos (by omega), if_pos (by omega), rdR l i hi, List.drop_eq_getElem_cons hi, Qkl i (by omega), few_run l m b hl d (i + 1) k (by omega) (by omega)]
  rw [List.all_cons]
  generalize (l.drop (i + 1)).all (fun r => decide ((r.f2.size : Int) ≤ b) && decide ((r.f3.size : Int) ≤ b)) = q
  generalize l[i] = r
  by_cases h1 : (r.f2.size : Int) > b
  ·rw [if_pos h1]
   simp [show ¬ ((r.f2.size : Int) ≤ b) by omega]
  ·rw [if_neg h1]
   by_cases h2 : (r.f3.size : Int) > b
   ·rw [if_pos h2]
    simp [show ¬ ((r.f3.size : Int) ≤ b) by omega]
   ·rw [if_neg h2]
    simp [show ((r.f2.size : Int) ≤ b) by omega, show ((r.f3.size : Int) ≤ b) by omega]
theorem few_is (l : List Rec) (m b : Int) (k : Nat) (hl : l.length ≤ 4611686018427387903) (hk : l.length + 1 ≤ k) : Qam.f k l m b = some (few l m b) := few_run l m b hl l.length 0 k (by omega) (by omega)
theorem few_len {l : List Rec} {m b : Int} (h : few l m b = true) : (l.length : Int) ≤ m ∧ ∀ r ∈ l, (r.f2.size : Int) ≤ b ∧ (r.f3.size : Int) ≤ b := by
 unfold few at h
 simp only [Bool.and_eq_true, List.all_eq_true, decide_eq_true_eq] at h
 exact ⟨h.2, fun r hr => h.1 r hr⟩
theorem Qls : ∀ (n : Nat) (b : List Int), b.length ≤ n → (Qid b).length ≤ b.length + 1 + (b.length - 1) / 254
 | n, b, hn => by
  rcases Int.lt_or_le (ixOf (b.take 254) 0) 0 with h0 | h0
  ·by_cases hl : 254 < b.length
   ·rw [Qih h0 hl]
    match n, hn with
    | 0, hn => omega
    | n + 1, hn =>
     have ih := Qls n (b.drop 254) qq_15
     rw [List.length_drop] at ih
     rw [List.length_cons, List.length_append, List.length_take]
     omega
   ·rw [Qii h0 hl, List.length_cons]
    omega
  ·obtain ⟨p, hp⟩ := Int.eq_ofNat_of_zero_le h0
   have h1 := (Qib (b.take 254) 0).2
   rw [List.length_take, hp] at h1
   rw [Qig hp]
   match n, hn with
   | 0, hn => omega
   | n + 1, hn =>
    have ih := Qls n (b.drop (p + 1)) qq_15
    rw [List.length_drop] at ih
    rw [List.length_cons, List.length_append, List.length_take]
    omega
theorem sealL_most (b : List Int) : (Qiw b).length ≤ b.length + 8 + 1 + (b.length + 8 - 1) / 254 + 1 := by
 have h := Qls _ (b ++ leb (Qiu 0 b) 8) (Nat.le_refl _)
 rw [List.length_append, Qhg] at h
 unfold Qiw
 rw [List.length_append]
 simp
 omega
theorem fence_len (l : List Ent) : (Qjc l).length = (l.length + 15) / 16 := by simp [Qjc, chN]
theorem foot_len (u : Int) (l : List Ent) : ((Qjp u l).length : Int) ≤ Qks (l.length : Int) := by
 have h := sealL_most ([4] ++ leb l.length 4 ++ leb u 4 ++ l.flatMap ent ++ (Qjc l).flatMap (fun x => leb x 8))
 have h2 := Qjr (l.length : Int) u l
 rw [List.nil_append] at h2
 rw [h2, fence_len] at h
 unfold Qjp Qks
 obtain ⟨c, hc⟩ : ∃ c, c = (l.length + 15) / 16 := ⟨_, rfl⟩
 have hcI : ((l.length : Int) + 15) / 16 = (c : Int) := by omega
 rw [hcI]
 rw [← hc] at h
 clear hc hcI h2
 obtain ⟨g, hg⟩ : ∃ g, g = (9 + 12 * l.length + 8 * c + 8 - 1) / 254 := ⟨_, rfl⟩
 have hgI : (9 + 12 * (l.length : Int) + 8 * (c : Int) + 8 - 1) / 254 = (g : Int) := by omega
 rw [hgI]
 rw [← hg] at h
 clear hg hgI
 omega
theorem le_trans_E (x y z : Ent) (h1 : (!(ltOf cfE) y x) = true) (h2 : (!(ltOf cfE) z y) = true) : (!(ltOf cfE) z x) = true := by
 rw [Qjj] at *
 simp at *
 omega
theorem le_total_E (x y : Ent) : ((!(ltOf cfE) y x) || (!(ltOf cfE) x y)) = true := by
 rw [Qjj, Qjj]
 simp
 omega
theorem Qlt (l : List Ent) : (Qjh l).Pairwise (fun x y => (!(ltOf cfE) y x) = true) := List.pairwise_mergeSort le_trans_E le_total_E l
theorem rising_of : ∀ (l : List Ent), l.Pairwise (fun x y => (!(ltOf cfE) y x) = true) → l.Nodup → Qjm l = true
 | [], _, _ => rfl
 | [_], _, _ => rfl
 | a :: b :: t, hp, hn => by
  have hp2 := List.pairwise_cons.1 hp
  have hn2 := List.pairwise_cons.1 hn
  have ih := rising_of (b :: t) hp2.2 hn2.2
  have h1 := hp2.1 b (by simp)
  have h2 := hn2.1 b (by simp)
  have h3 : ltOf cfE a b = true := by
   cases h : ltOf cfE a b with
   | true => rfl
   | false => exact absurd (totE a b h (by simpa using h1)) h2
  unfold Qjm ltE
  rw [ih]
  simpa [ltOf] using h3
theorem sort_rising {l : List Ent} (h : l.Nodup) : Qjm (Qjh l) = true := rising_of _ (Qlt l) ((Qjl l).nodup_iff.2 h)
def okB (e s n : Int) (i : Nat) (B : Bd) : Prop :=
 B.1 = (e, s, n, (B.2.1.length : Int), (B.2.2.length : Int)) ∧ B.2.2.length ≤ i ∧ (∀ x ∈ B.2.2, wfE x ∧ x.f1 < (B.2.1.length : Int)) ∧ B.2.2.Pairwise (fun x y => x.f1 < y.f1) ∧ (B.2.1.length : Int) ≤ 16777216
def putB (e s n : Int) (B : Bd) (r : Rec) : Bd :=
 ((e, s, n, ((B.2.1 ++ Qlm r).length : Int), ((B.2.2.length + 1 : Nat) : Int)), B.2.1 ++ Qlm r, B.2.2 ++ [⟨Qiu 0 (bytesOf r.f2), (B.2.1.length : Int) % 4294967296⟩])
def freshB (e s n : Int) : Bd := ((e, s, n, Qkq e s n, 0), headL e s n, [])
theorem new_good {e s : Int} (h : Good e s) (n : Int) (h0 : 0 ≤ n) (h1 : n < s) : newB e s n = some (freshB e s n) := by
 unfold newB
 rw [Qld h n h0 h1, Option.bind_some, Qlc h n h0 h1, Option.bind_some]
 simp [freshB]
theorem fresh_ok (e s n : Int) (i : Nat) : okB e s n i (freshB e s n) := by
 have := Qkr e s n
 refine ⟨by simp [freshB, Qkq], by simp [freshB], by simp [freshB], by simp [freshB], ?_⟩
 unfold Qkq at this
 simp only [freshB]
 omega
theorem large_no {e s : Int} (h : Good e s) {x : Int} (hx1 : x ≤ 1152921504606846976) (hf : Qky e (Qkq e s (s - 1)) 0 x = true) : Qcp.f e s x = some false := by
 have hr := Qkr e s (s - 1)
 have hg := h
 obtain ⟨g1, g2, g3, g4⟩ := hg
 unfold Qcp.f
 rw [show (s - 1) % 4294967296 = s - 1 by omega, Qld h (s - 1) (by omega) (by omega), Option.bind_some]
 dsimp only
 rw [if_pos rfl, Qkz h _ _ _ _ (by omega) (by omega) (by omega) (by omega) hx1, hf]
 rfl
theorem add_good {e s n : Int} (h : Good e s) {i : Nat} {B : Bd} {r : Rec} (hB : okB e s n i B) (hi : i ≤ 1000000) (hc : chkR r = 0) (hw : 0 ≤ r.f1 ∧ r.f1 < 18446744073709551616)
  (hl : Qky e (Qkq e s (s - 1)) 0 (fsz r) = true) (hf : Qky e (B.2.1.length : Int) (B.2.2.length : Int) (fsz r) = true) :
  addB B r = some (putB e s n B r) ∧ okB e s n (i + 1) (putB e s n B r) ∧ ((putB e s n B r).2.1.length : Int) + Qks ((putB e s n B r).2.2.length : Int) ≤ szN e ∧ (putB e s n B r).2.2 ≠ [] := by
 obtain ⟨b1, b2, b3, b4, b5⟩ := hB
 have hx := Qln r hc
 have hft := Qla hf
 have hsz := Qku h.1 h.2.1
 have hm := Qkx ((B.2.2.length : Int) + 1) (by omega) (by omega)
 have hlen : ((B.2.1 ++ Qlm r).length : Int) = (B.2.1.length : Int) + fsz r := by rw [List.length_append]; unfold fsz; omega
 have hh := Qiv 0 (bytesOf r.f2)
 have hmod : (B.2.1.length : Int) % 4294967296 = (B.2.1.length : Int) := by omega
 refine ⟨?_, ⟨?_, ?_, ?_, ?_, ?_⟩, ?_, ?_⟩
 ·unfold addB
  rw [if_pos (show chk r.f0 r.f2 r.f3 = 0 from hc), put_good r hc hw.1 hw.2, Option.bind_some, b1]
  dsimp only
  rw [show ((Qlm r).length : Int) = fsz r from rfl, large_no h (by omega) hl, Option.bind_some, Qlb h n _ _ _ (by omega) (by omega) (by omega) (by omega) (by omega) hf, Option.bind_some]
  dsimp only
  rw [if_pos ⟨rfl, rfl, rfl, by have hfz : ((Qlm r).length : Int) = fsz r := rfl; omega, by omega⟩]
  unfold putB
  rw [hlen]
  simp
 ·simp [putB]
 ·simp only [putB, List.length_append, List.length_cons, List.length_nil]
  omega
 ·intro x hxm
  simp only [putB] at hxm ⊢
  rw [hlen]
  rcases List.mem_append.1 hxm with hm' | hm'
  ·have := b3 x hm'
   exact ⟨this.1, by omega⟩
  ·simp only [List.mem_singleton] at hm'
   subst hm'
   rw [hmod]
   exact ⟨⟨hh, (show (0 : Int) ≤ (B.2.1.length : Int) by omega), (show (B.2.1.length : Int) < 4294967296 by omega)⟩, by dsimp only; omega⟩
 ·simp only [putB]
  rw [List.pairwise_append]
  refine ⟨b4, by simp, ?_⟩
  intro x hx y hy
  simp only [List.mem_singleton] at hy
  subst hy
  rw [hmod]
  exact (b3 x hx).2
 ·simp only [putB]
  rw [hlen]
  omega
 ·simp only [putB]
  rw [hlen, List.length_append]
  simp only [List.length_cons, List.length_nil]
  have : (((B.2.2.length + (0 + 1) : Nat)) : Int) = (B.2.2.length : Int) + 1 := by omega
  rw [this]
  omega
 ·simp [putB]
theorem any_sort (u : Int) {l : List Ent} (h : ∀ x ∈ l, x.f1 < u) : (Qjh l).any (fun x => decide (u ≤ x.f1)) = false := by
 rw [List.any_eq_false]
 intro x hx
 have := h x ((Qjl l).mem_iff.1 hx)
 simp
 omega
theorem Qlu {l : List Ent} (h : l.Pairwise (fun x y => x.f1 < y.f1)) : l.Nodup := h.imp (fun {a b} hab he => by subst he; omega)
theorem seal_good {e s n : Int} (h : Good e s) {i : Nat} {B : Bd} (hB : okB e s n i B) (hi : i ≤ 1000000) (hne : B.2.2 ≠ []) (hr : (B.2.1.length : Int) + Qks (B.2.2.length : Int) ≤ szN e) :
  ∃ o, sealB B = some o ∧ o.length = (szN e).toNat ∧ B.2.1 <+: o := by
 obtain ⟨b1, b2, b3, b4, b5⟩ := hB
 have hsz := Qku h.1 h.2.1
 have hu : Qjs B = (B.2.1.length : Int) := by unfold Qjs; omega
 have hfl := foot_len (Qjs B) (Qjh B.2.2)
 rw [Qji] at hfl
 have hn0 : B.2.2.length ≠ 0 := fun he => hne (List.eq_nil_of_length_eq_zero he)
 have hck : Qjn (Qjs B) (Qjh B.2.2) = 0 := by
  unfold Qjn
  rw [Qji, if_neg hn0, if_neg (by omega), sort_rising (Qlu b4), if_neg (by simp), any_sort _ (fun x hx => by rw [hu]; exact (b3 x hx).2), if_neg (by simp)]
 unfold sealB
 rw [b1]
 dsimp only
 rw [Qkv h, Option.bind_some, if_pos ⟨hn0, by omega, fun x hx => (b3 x hx).1, hck, by omega, by omega⟩]
 refine ⟨_, rfl, ?_, ?_⟩
 ·rw [List.length_append, List.length_replicate, List.length_append]
  omega
 ·rw [List.append_assoc]
  exact List.prefix_append _ _
theorem open_good {e s n : Int} (h : Good e s) {i : Nat} {B : Bd} (hB : okB e s n i B) (hr : (B.2.1.length : Int) ≤ szN e) :
  ∃ o, openB B = some o ∧ o.length = (szN e).toNat ∧ B.2.1 <+: o := by
 obtain ⟨b1, b2, b3, b4, b5⟩ := hB
 have hsz := Qku h.1 h.2.1
 unfold openB
 rw [b1]
 dsimp only
 rw [Qkv h, Option.bind_some, if_pos ⟨by omega, by omega⟩]
 refine ⟨_, rfl, ?_, List.prefix_append _ _⟩
 rw [List.length_append, List.length_replicate]
 omega
theorem Qlv (e s : Int) : ∀ (l out : List Int) (n u c : Int), (Qlf e s l out n u c).2 = 0 → out <+: (Qlf e s l out n u c).1
 | [], out, n, u, c, h => by unfold Qlf; exact List.prefix_rfl
 | x :: t, out, n, u, c, h => by
  unfold Qlf at h ⊢
  by_cases hf : Qky e (Qkq e s (s - 1)) 0 x = false
  ·rw [if_pos hf] at h; cases h
  ·rw [if_neg hf] at h ⊢
   by_cases hq : Qky e u c x = true
   ·rw [if_pos hq] at h ⊢
    exact (List.prefix_append _ _).trans (Qlv e s t _ _ _ _ h)
   ·rw [if_neg hq] at h ⊢
    by_cases hs : n + 1 < s
    ·rw [if_pos hs] at h ⊢
     exact (List.prefix_append _ _).trans (Qlv e s t _ _ _ _ h)
    ·rw [if_neg hs] at h; cases h
theorem pre_at {into : List Int} {i : Nat} {x : Int} (h : into.take i ++ [x] <+: into) (hi : i < into.length) : rd into (i : Int) = x ∧ into.take (i + 1) = into.take i ++ [x] := by
 obtain ⟨t, ht⟩ := h
 have h1 := congrArg (fun l => l[i]?) ht
 have h2 : (into.take i).length = i := by rw [List.length_take]; omega
 have h3 : (into.take i ++ [x] ++ t)[i]? = some x := by
  rw [List.append_assoc, List.getElem?_append_right (by omega), h2, Nat.sub_self]
  rfl
 rw [h3] at h1
 refine ⟨?_, ?_⟩
 ·rw [Qka hi]
  have h4 := List.getElem?_eq_getElem hi
  rw [← h1] at h4
  exact (Option.some.inj h4).symm
 ·rw [List.take_add_one, ← h1]
  rfl
def Placed (P : Plc → Rec → Prop) : List Plc → List Rec → Prop
 | [], [] => True
 | p :: ps, r :: rs => P p r ∧ Placed P ps rs
 | _, _ => False
theorem Placed.at {P : Plc → Rec → Prop} : ∀ {ps : List Plc} {rs : List Rec}, Placed P ps rs → ps.length = rs.length ∧ ∀ j (h1 : j < ps.length) (h2 : j < rs.length), P ps[j] rs[j]
 | [], [], _ => ⟨rfl, fun j h1 => absurd h1 (by simp)⟩
 | p :: ps, r :: rs, h => by
  have ih := Placed.at h.2
  refine ⟨by simp [ih.1], fun j h1 h2 => ?_⟩
  match j with
  | 0 => exact h.1
  | j + 1 => exact ih.2 j (by simpa using h1) (by simpa using h2)
 | [], _ :: _, h => h.elim
 | _ :: _, [], h => h.elim
theorem room_lim {e s n : Int} (h : Good e s) (h1 : n < s) : n.toNat * (szN e).toNat + (szN e).toNat ≤ lim := by
 have hsz := Qku h.1 h.2.1
 obtain ⟨g1, g2, g3, g4⟩ := h
 have : (n.toNat + 1) * (szN e).toNat ≤ 65536 * 16777216 := Nat.mul_le_mul (by omega) (by omega)
 rw [Nat.add_mul, Nat.one_mul] at this
 unfold lim
 omega
theorem encode_bad (e s : Int) (l : List Rec) (k : Nat) (hl : l.length ≤ 1000000) (hw : Wf l) (hk : 2 * l.length + 10 ≤ k) (h : (Qlp e s l).2.2 ≠ 0) : Qci.f k e s l = some ([], (Qlp e s l).2.2) := by
 unfold Qci.f
 rw [plan_is e s l k hl hw hk, Option.bind_some, if_neg h]
end Go.Proofs.YtnnofopfbeklbaaGreat.CodecP
end
