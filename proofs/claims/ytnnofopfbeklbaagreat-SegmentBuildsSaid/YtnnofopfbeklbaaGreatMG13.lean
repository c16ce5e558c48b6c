/- Texts of this claim's author and of the print of its functions, merged by merge.py. -/
import Derived.Test.YtnnofopfbeklbaaGreatMG02
import Derived.Test.YtnnofopfbeklbaaGreatMG06
import Derived.Test.YtnnofopfbeklbaaGreatMG07
import Derived.Test.YtnnofopfbeklbaaGreatMG08
import Derived.Test.YtnnofopfbeklbaaGreatMG12
import Derived.Test.YtnnofopfbeklbaaGreatMG05
import Derived.Test.YtnnofopfbeklbaaGreatMG03
import Derived.Test.YtnnofopfbeklbaaGreatMG10
set_option linter.unusedVariables false
set_option linter.unusedSimpArgs false
set_option maxHeartbeats 8000000
set_option maxRecDepth 100000
section
namespace Go.Proofs.YtnnofopfbeklbaaGreat.C
open Go.RowKit Go.Proofs.YtnnofopfbeklbaaGreatW.PrintWords Go.Proofs.YtnnofopfbeklbaaGreatW.PrintLast Go.Proofs.YtnnofopfbeklbaaGreatW.PrintMore
abbrev Rec := S39
abbrev Bd := Room5 × List Int × List Ent
def newB (e s n : Int) : Option Bd :=
 (Qcd.f e s n).bind fun q => (Qby.f e s n).bind fun p =>
  if q.2.2.2.2.2 = 0 ∧ p.2 = 0 ∧ q.1 = e ∧ q.2.1 = s ∧ q.2.2.1 = n then some ((e, s, n, q.2.2.2.1, q.2.2.2.2.1), p.1, []) else none
def addB (B : Bd) (r : Rec) : Option Bd :=
 if chk r.f0 r.f2 r.f3 = 0 then
  (Qbz.f r.f0 r.f1 r.f2 r.f3).bind fun p => (Qch.f B.1.1 B.1.2.1 p.1.length).bind fun tl =>
   (Qcg.f B.1.1 B.1.2.1 B.1.2.2.1 B.1.2.2.2.1 B.1.2.2.2.2 p.1.length).bind fun q =>
    if p.2 = 0 ∧ tl = false ∧ q.2.2.2.2.2 = 0 ∧ B.2.1.length + p.1.length ≤ 70368744177664 ∧ B.2.2.length ≤ 1099511627776 then
     some ((q.1, q.2.1, q.2.2.1, q.2.2.2.1, q.2.2.2.2.1), B.2.1 ++ p.1, B.2.2 ++ [⟨Qhz 0 (bytesOf r.f2), (B.2.1.length : Int) % 4294967296⟩])
    else none
 else none
def wfE (x : Ent) : Prop := (0 ≤ x.f0 ∧ x.f0 < 18446744073709551616) ∧ 0 ≤ x.f1 ∧ x.f1 < 4294967296
instance (x : Ent) : Decidable (wfE x) := by unfold wfE; exact inferInstance
def Qiy (B : Bd) : Int := (B.2.1.length : Int) % 4294967296
def sealB (B : Bd) : Option (List Int) :=
 (Qal.f B.1.1 B.1.2.1).bind fun sz =>
  if B.2.2.length ≠ 0 ∧ B.2.2.length ≤ 1099511627776 ∧ (∀ x ∈ B.2.2, wfE x) ∧ Qit (Qiy B) (Qin B.2.2) = 0 ∧ ((B.2.1.length + (Qiv (Qiy B) (Qin B.2.2)).length : Nat) : Int) ≤ sz ∧ sz ≤ 70368744177664 then
   some (B.2.1 ++ Qiv (Qiy B) (Qin B.2.2) ++ List.replicate (sz.toNat - (B.2.1 ++ Qiv (Qiy B) (Qin B.2.2)).length) 255)
  else none
def openB (B : Bd) : Option (List Int) :=
 (Qal.f B.1.1 B.1.2.1).bind fun sz => if (B.2.1.length : Int) ≤ sz ∧ sz ≤ 70368744177664 then some (B.2.1 ++ List.replicate (sz.toNat - B.2.1.length) 255) else none
abbrev IsB (W : World) (b g : Nat) (B : Bd) : Prop := IsBd W b g B.1 B.2.1 B.2.2
theorem new_of (e s n : Int) (B : Bd) (w : World) (h : newB e s n = some B) :
  Calls Tryz.prog 18 #[.agg #[.int .u8 e, .int .u32 s], .int .u32 n] w fun ee w' => ∃ g, ee = .returned (.tuple #[.pointer (some ⟨g, 0, none⟩), .int .i64 0]) ∧ IsB w' w.heap.size g B ∧ Below w.heap.size w w' ∧ w.heap.size ≤ g := by
 unfold newB at h
 obtain ⟨q, hq, h⟩ := Option.bind_eq_some_iff.mp h
 obtain ⟨p, hp, h⟩ := Option.bind_eq_some_iff.mp h
 obtain ⟨q1, q2, q3, q4, q5, q6⟩ := q
 obtain ⟨p1, p2⟩ := p
 split at h
 ·rename_i hc
  obtain ⟨h1, h2, h3, h4, h5⟩ := hc
  dsimp only at h1 h2 h3 h4 h5
  subst h1 h2 h3 h4 h5
  cases h
  exact bd_New q1 q2 q3 q4 q5 p1 w hq hp
 ·cases h
theorem add_ofT (b g : Nat) (B B' : Bd) (r : Rec) (w : World) (hI : IsB w b g B) (hbg : b ≤ g) (hbw : b ≤ w.heap.size) (h : addB B r = some B') :
  Calls Tryz.prog 21 #[.pointer (some ⟨g, 0, none⟩), .agg #[.bool r.f0, .int .u64 r.f1, .string r.f2, .string r.f3]] w fun e w' => e = .returned (.tuple #[.int .u32 ((B.2.1.length : Int) % 4294967296), .int .i64 0]) ∧ IsB w' b g B' ∧ Below b w w' ∧ Tb g w w' := by
 unfold addB at h
 split at h
 ·rename_i hchk
  obtain ⟨p, hp, h⟩ := Option.bind_eq_some_iff.mp h
  obtain ⟨tl, htl, h⟩ := Option.bind_eq_some_iff.mp h
  obtain ⟨q, hq, h⟩ := Option.bind_eq_some_iff.mp h
  obtain ⟨q1, q2, q3, q4, q5, q6⟩ := q
  obtain ⟨p1, p2⟩ := p
  split at h
  ·rename_i hc
   obtain ⟨h1, h2, h3, h4, h5⟩ := hc
   dsimp only at h1 h2 h3 h4 h5 hq htl
   subst h1 h2 h3
   cases h
   have hk := (Qht hchk).1
   exact bd_Add b g B.1 (q1, q2, q3, q4, q5) B.2.1 p1 B.2.2 r.f0 r.f1 r.f2 r.f3 w hI hbg hbw hchk hp htl hq h4 (by omega) h5
  ·cases h
 ·cases h
theorem Qiz : ∀ {l : List Ent}, Qis l = true → l.Pairwise (fun x y => cfE x y < 0)
 | [], _ => List.Pairwise.nil
 | [a], _ => by simp
 | a :: b :: t, h => by
  simp only [Qis, Bool.and_eq_true] at h
  have ih := Qiz h.2
  refine List.Pairwise.cons (fun x hx => ?_) ih
  have hab : cfE a b < 0 := by simpa [ltE] using h.1
  rcases List.mem_cons.1 hx with rfl | hx
  ·exact hab
  ·have hbx := List.rel_of_pairwise_cons ih hx
   have t1 : ltOf cfE a b = true := by simpa [Go.Proofs.ltOf] using hab
   have t2 : ltOf cfE b x = true := by simpa [Go.Proofs.ltOf] using hbx
   have := swoE.trans a b x t1 t2
   simpa [Go.Proofs.ltOf] using this
theorem cfE_irr (x : Ent) : ¬ cfE x x < 0 := by
 have := swoE.irrefl x
 simpa [Go.Proofs.ltOf] using this
theorem check_nodup {u : Int} {l : List Ent} (h : Qit u (Qin l) = 0) : l.Nodup := by
 have hr : Qis (Qin l) = true := by
  unfold Qit at h
  split at h
  ·cases h
  split at h
  ·cases h
  split at h
  ·cases h
  ·rename_i h1; simpa using h1
 have hp := Qiz hr
 have : (Qin l).Nodup := hp.imp (fun {x y} hxy e => by subst e; exact cfE_irr x hxy)
 exact (Qir l).nodup_iff.1 this
theorem seal_ofB (b g : Nat) (B : Bd) (o : List Int) (w : World) (hI : IsB w b g B) (hbw : b ≤ w.heap.size) (h : sealB B = some o) :
  Calls Tryz.prog 28 #[.pointer (some ⟨g, 0, none⟩)] w fun e w' => ∃ v : Value, e = .returned (.tuple #[v, .int .i64 0]) ∧ R8 w' w.heap.size v o ∧ Below w.heap.size w w' := by
 unfold sealB at h
 obtain ⟨sz, hsz, h⟩ := Option.bind_eq_some_iff.mp h
 split at h
 ·rename_i hc
  obtain ⟨h1, h2, h3, h4, h5, h6⟩ := hc
  cases h
  obtain ⟨z, rfl⟩ := Int.eq_ofNat_of_zero_le (show 0 ≤ sz by omega)
  rw [Int.toNat_natCast]
  exact bd_Seal b g B.1 B.2.1 B.2.2 z w hI hbw (fun e => h1 (by rw [e]; rfl)) (check_nodup h4) h2 h3 h4 hsz (by unfold Qiy at h5; omega) (by omega)
 ·cases h
theorem open_ofB (b g : Nat) (B : Bd) (o : List Int) (w : World) (hI : IsB w b g B) (hbw : b ≤ w.heap.size) (h : openB B = some o) :
  Calls Tryz.prog 30 #[.pointer (some ⟨g, 0, none⟩)] w fun e w' => ∃ v : Value, e = .returned v ∧ R8 w' w.heap.size v o ∧ Below w.heap.size w w' := by
 unfold openB at h
 obtain ⟨sz, hsz, h⟩ := Option.bind_eq_some_iff.mp h
 split at h
 ·rename_i hc
  cases h
  obtain ⟨z, rfl⟩ := Int.eq_ofNat_of_zero_le (show 0 ≤ sz by omega)
  rw [Int.toNat_natCast]
  exact bd_Open b g B.1 B.2.1 B.2.2 z w hI hsz (by omega) (by omega)
 ·cases h
def h12 : List Int := [5, 1, 2, 12, 1, 9, 239, 228, 35, 222, 95, 189, 149, 23, 0]
theorem head12 : Qby.f 12 1 0 = some (h12, 0) := by kernel_rfl
theorem empty12 : Qcd.f 12 1 0 = some (12, 1, 0, 15, 0, 0) := by kernel_rfl
theorem size12 : Qal.f 12 1 = some ((4096 : Nat) : Int) := by kernel_rfl
def o12 : List Int := h12 ++ List.replicate (4096 - h12.length) 255
theorem o12_at : o12.length = 4096 ∧ rd o12 14 = 0 ∧ rd o12 15 = 255 ∧ rd o12 4095 = 255 := ⟨by kernel_rfl, by kernel_rfl, by kernel_rfl, by kernel_rfl⟩
def Qan.f : Option Bool := some true
theorem Qan.calls (r : Bool) (w : World) (h : Qan.f = some r) :
  Calls Tryz.prog 15 #[] w fun e w' => e = .returned (.bool r) ∧ Below w.heap.size w w' := by
 obtain rfl := Option.some.inj h
 have hu := Tryz.underlying27
 go_enter Tryz.func15, Tryz.ntmps15
 go_wp2_with (first
  | (go_at_call 18; refine (bd_New 12 1 0 15 0 h12 w empty12 head12).mono ?_; rintro e w1 ⟨g, rfl, hI1, hb1, hg1⟩)
  | (go_at_call 30; go_loud (refine (bd_Open w.heap.size g (12, 1, 0, 15, 0) h12 [] 4096 w1 hI1 size12 (by decide) (by decide)).mono ?_; rintro e w2 ⟨v2, rfl, hR2, hb2⟩; obtain ⟨A2, n2, c2, rfl, hn2, hlc2, hC2⟩ := R8.reads hR2; have hn2' : n2 = 4096 := hn2.out.trans o12_at.1; subst hn2'; obtain ⟨ad, rfl, x14⟩ := Kd.at_int hC2 14 (by decide) (by decide); obtain ⟨ad', hh, x15⟩ := Kd.at_int hC2 15 (by decide) (by decide); cases hh; obtain ⟨ad', hh, x4095⟩ := Kd.at_int hC2 4095 (by decide) (by decide); cases hh; have y14 : w2.cell? ⟨ad.block, ad.off + 14, none⟩ = some (.int .u8 0) := x14.trans (congrArg (fun z => some (Value.int .u8 z)) o12_at.2.1); have y15 : w2.cell? ⟨ad.block, ad.off + 15, none⟩ = some (.int .u8 255) := x15.trans (congrArg (fun z => some (Value.int .u8 z)) o12_at.2.2.1); have y4095 : w2.cell? ⟨ad.block, ad.off + 4095, none⟩ = some (.int .u8 255) := x4095.trans (congrArg (fun z => some (Value.int .u8 z)) o12_at.2.2.2); clear x14 x15 x4095)))
 go_ret
 exact ⟨rfl, hb1.trans (Qgu hb2 hb1.size)⟩
end Go.Proofs.YtnnofopfbeklbaaGreat.C
end
section
namespace Go.Proofs.YtnnofopfbeklbaaGreat.C
open Go.RowKit Go.Proofs.YtnnofopfbeklbaaGreatW.PrintWords Go.Proofs.YtnnofopfbeklbaaGreatW.PrintLast Go.Proofs.YtnnofopfbeklbaaGreatW.PrintMore
attribute [local go_sem] Qfx Qfy Qfz Qga Qgb Qgc Qgd Qge
def Qbb.j0 : Nat → Bool → Bool → Int → ByteArray → ByteArray → Option (Int)
 | 0, _, _, _, _, _ => none
 | k + 1, x18, x310000, x310001, x310002, x310003 => if x18 = true then (some 4) else (if (x310003.size : Int) > 1048576 then (some 3) else (some 0))
def Qbb.f (k : Nat) (a0_0 : Bool) (a0_1 : Int) (a0_2 : ByteArray) (a0_3 : ByteArray) : Option (Int) := if (a0_2.size : Int) = 0 then (some 4) else (if (a0_2.size : Int) > 4096 then (some 3) else (if a0_0 = true then (Qbb.j0 k (decide ((a0_3.size : Int) > 0)) a0_0 a0_1 a0_2 a0_3) else (Qbb.j0 k false a0_0 a0_1 a0_2 a0_3)))
theorem Qbb.calls (k : Nat) (a0_0 : Bool) (a0_1 : Int) (a0_2 : ByteArray) (a0_3 : ByteArray) (r : Int) (w : World) (h : Qbb.f k a0_0 a0_1 a0_2 a0_3 = some r) :
  Calls Tryz.prog 23 #[.agg #[.bool a0_0, .int .u64 a0_1, .string a0_2, .string a0_3]] w fun e w' => e = .returned (.int .i64 r) ∧ Below w.heap.size w w' := by
 have hu39 := Tryz.underlying39
 have HB := QA (Below.refl w.heap.size w)
 have H : (if (a0_2.size : Int) = 0 then (some 4) else (if (a0_2.size : Int) > 4096 then (some 3) else (if a0_0 = true then (Qbb.j0 k (decide ((a0_3.size : Int) > 0)) a0_0 a0_1 a0_2 a0_3) else (Qbb.j0 k false a0_0 a0_1 a0_2 a0_3)))) = some r := h
 clear h
 by_cases c2 : (a0_2.size : Int) = 0
 ·rw [if_pos c2] at H
  have c2b0 : ((a0_2.size : Int) == 0) = true := beq_iff_eq.mpr c2
  have c2b1 : ((a0_2.size : Int) != 0) = false := bne_eq_false_iff_eq.mpr c2
  clear c2
  obtain rfl := Option.some.inj H
  go_enter Tryz.func23, Tryz.ntmps23
  go_wp2_with (first | ((with_reducible refine Qef (N := 1) rfl ?_); (try (refine Qfw (by rfl) ?_; dsimp only)); refine qq_e 1 #[.bool a0_0, .int .u64 a0_1, .string a0_2, .string a0_3] 39 ?_; intro gb309 hg w3 hbox hb; have n0_ := QA (Qea qq_b hb); have n1_ := QA (hbox); have n2_ := QA ((qq_s hg : w.heap.size ≤ gb309)); have n3_ := QA ((qq_s hg : w.heap.size ≤ gb309)); clear HB; have HB := n0_; have BK309 := n1_; have GW309 := n2_; have GE309 := n3_; clear n0_ n1_ n2_ n3_; clear hb hbox hg; have hcz4_0 := qq_c (.bool a0_0) BK309.out 0 rfl; have hcz4_1 := qq_c (.int .u64 a0_1) BK309.out 1 rfl; have hcz4_2 := qq_c (.string a0_2) BK309.out 2 rfl; have hcz4_3 := qq_c (.string a0_3) BK309.out 3 rfl; have hfz4_0 := Qdk BK309.out 0; have hfz4_1 := Qdk BK309.out 1; have hfz4_2 := Qdk BK309.out 2; have hfz4_3 := Qdk BK309.out 3))
  go_ret
  exact ⟨by first | rfl | (simp [Qgi, Qgj] <;> rfl) | (simp [*, Qgi, Qgj] <;> rfl), qq_b⟩
 ·rw [if_neg c2] at H
  have c2b0 : ((a0_2.size : Int) == 0) = false := beq_eq_false_iff_ne.mpr c2
  have c2b1 : ((a0_2.size : Int) != 0) = true := bne_iff_ne.mpr c2
  by_cases c5 : (a0_2.size : Int) > 4096
  ·rw [if_pos c5] at H
   have c5b0 : decide (4096 < (a0_2.size : Int)) = true := decide_eq_true c5
   have c5b1 : decide (4096 < a0_2.size) = true := decide_eq_true (by omega)
   clear c5
   obtain rfl := Option.some.inj H
   go_enter Tryz.func23, Tryz.ntmps23
   go_wp2_with (first | ((with_reducible refine Qef (N := 1) rfl ?_); (try (refine Qfw (by rfl) ?_; dsimp only)); refine qq_e 1 #[.bool a0_0, .int .u64 a0_1, .string a0_2, .string a0_3] 39 ?_; intro gb309 hg w6 hbox hb; have n0_ := QA (Qea qq_b hb); have n1_ := QA (hbox); have n2_ := QA ((qq_s hg : w.heap.size ≤ gb309)); have n3_ := QA ((qq_s hg : w.heap.size ≤ gb309)); clear HB; have HB := n0_; have BK309 := n1_; have GW309 := n2_; have GE309 := n3_; clear n0_ n1_ n2_ n3_; clear hb hbox hg; have hcz7_0 := qq_c (.bool a0_0) BK309.out 0 rfl; have hcz7_1 := qq_c (.int .u64 a0_1) BK309.out 1 rfl; have hcz7_2 := qq_c (.string a0_2) BK309.out 2 rfl; have hcz7_3 := qq_c (.string a0_3) BK309.out 3 rfl; have hfz7_0 := Qdk BK309.out 0; have hfz7_1 := Qdk BK309.out 1; have hfz7_2 := Qdk BK309.out 2; have hfz7_3 := Qdk BK309.out 3))
   go_ret
   exact ⟨by first | rfl | (simp [Qgi, Qgj] <;> rfl) | (simp [*, Qgi, Qgj] <;> rfl), qq_b⟩
  ·rw [if_neg c5] at H
   have c5b0 : decide (4096 < (a0_2.size : Int)) = false := decide_eq_false c5
   have c5b1 : decide (4096 < a0_2.size) = false := decide_eq_false (by omega)
   clear c5
   have HC8 := QA H
   clear H
   go_enter Tryz.func23, Tryz.ntmps23
   go_upto_region 5 with (first | ((with_reducible refine Qef (N := 1) rfl ?_); (try (refine Qfw (by rfl) ?_; dsimp only)); refine qq_e 1 #[.bool a0_0, .int .u64 a0_1, .string a0_2, .string a0_3] 39 ?_; intro gb309 hg w9 hbox hb; have n0_ := QA (Qea qq_b hb); have n1_ := QA (hbox); have n2_ := QA ((qq_s hg : w.heap.size ≤ gb309)); have n3_ := QA ((qq_s hg : w.heap.size ≤ gb309)); clear HB; have HB := n0_; have BK309 := n1_; have GW309 := n2_; have GE309 := n3_; clear n0_ n1_ n2_ n3_; clear hb hbox hg; have hcz10_0 := qq_c (.bool a0_0) BK309.out 0 rfl; have hcz10_1 := qq_c (.int .u64 a0_1) BK309.out 1 rfl; have hcz10_2 := qq_c (.string a0_2) BK309.out 2 rfl; have hcz10_3 := qq_c (.string a0_3) BK309.out 3 rfl; have hfz10_0 := Qdk BK309.out 0; have hfz10_1 := Qdk BK309.out 1; have hfz10_2 := Qdk BK309.out 2; have hfz10_3 := Qdk BK309.out 3))
   (try simp only [Act.put, List.setIfInBounds_toArray, List.set_cons_zero, List.set_cons_succ])
   go_cut [18] (fun v18 wc => ∃ (kq : Nat) (x18_7 : Bool), v18 = .bool x18_7 ∧ Aside0 (Qbb.j0 kq x18_7 a0_0 a0_1 a0_2 a0_3 = some r) ∧ Aside0 (kq ≤ k) ∧ Aside0 (wc.heap[gb309]? = some (.cells #[.bool a0_0, .int .u64 a0_1, .string a0_2, .string a0_3] 39 (0, 0))) ∧ Aside0 (Below w.heap.size w wc))
   case first =>
    have H := HC8.out
    clear HC8
    by_cases c11 : a0_0 = true
    ·subst c11
     have H1 : (Qbb.j0 k (decide ((a0_3.size : Int) > 0)) true a0_1 a0_2 a0_3) = some r := by rw [if_pos rfl] at H; exact H
     clear H
     have H := H1
     clear H1
     have H' := QA H
     clear H
     have hcz12_0 := qq_c (.bool true) BK309.out 0 rfl
     have hcz12_1 := qq_c (.int .u64 a0_1) BK309.out 1 rfl
     have hcz12_2 := qq_c (.string a0_2) BK309.out 2 rfl
     have hcz12_3 := qq_c (.string a0_3) BK309.out 3 rfl
     have hfz12_0 := Qdk BK309.out 0
     have hfz12_1 := Qdk BK309.out 1
     have hfz12_2 := Qdk BK309.out 2
     have hfz12_3 := Qdk BK309.out 3
     go_wp2
     go_meet
     case rel => exact ⟨_, (decide ((a0_3.size : Int) > 0)), qq_5, H', ⟨by first | omega | exact Nat.le_refl _⟩, ⟨by (with_reducible repeat (first | apply Qds | apply Qdr | apply Qdq)); exact BK309.out⟩, ⟨qq_b⟩⟩
    ·replace c11 := Bool.eq_false_iff.mpr c11
     subst c11
     have H1 : (Qbb.j0 k false false a0_1 a0_2 a0_3) = some r := by rw [if_neg (show ¬ (false = true) by decide)] at H; exact H
     clear H
     have H := H1
     clear H1
     have H' := QA H
     clear H
     have hcz13_0 := qq_c (.bool false) BK309.out 0 rfl
     have hcz13_1 := qq_c (.int .u64 a0_1) BK309.out 1 rfl
     have hcz13_2 := qq_c (.string a0_2) BK309.out 2 rfl
     have hcz13_3 := qq_c (.string a0_3) BK309.out 3 rfl
     have hfz13_0 := Qdk BK309.out 0
     have hfz13_1 := Qdk BK309.out 1
     have hfz13_2 := Qdk BK309.out 2
     have hfz13_3 := Qdk BK309.out 3
     go_wp2
     go_meet
     case rel => exact ⟨_, (false), qq_5, H', ⟨by first | omega | exact Nat.le_refl _⟩, ⟨by (with_reducible repeat (first | apply Qds | apply Qdr | apply Qdq)); exact BK309.out⟩, ⟨qq_b⟩⟩
   case rest =>
    clear HC8
    try clear c2
    try clear c2b0
    try clear c2b1
    try clear c5
    try clear c5b0
    try clear c5b1
    try clear c11
    try clear hcz10_0
    try clear hcz10_1
    try clear hcz10_2
    try clear hcz10_3
    try clear hcz12_0
    try clear hcz12_1
    try clear hcz12_2
    try clear hcz12_3
    try clear hcz13_0
    try clear hcz13_1
    try clear hcz13_2
    try clear hcz13_3
    try clear hcz4_0
    try clear hcz4_1
    try clear hcz4_2
    try clear hcz4_3
    try clear hcz7_0
    try clear hcz7_1
    try clear hcz7_2
    try clear hcz7_3
    try clear hfz10_0
    try clear hfz10_1
    try clear hfz10_2
    try clear hfz10_3
    try clear hfz12_0
    try clear hfz12_1
    try clear hfz12_2
    try clear hfz12_3
    try clear hfz13_0
    try clear hfz13_1
    try clear hfz13_2
    try clear hfz13_3
    try clear hfz4_0
    try clear hfz4_1
    try clear hfz4_2
    try clear hfz4_3
    try clear hfz7_0
    try clear hfz7_1
    try clear hfz7_2
    try clear hfz7_3
    obtain ⟨kq, x18_7, rfl, HA, HJ7, BK309, HB⟩ := hcut
    cases kq with
    | zero => exact absurd HA.out (by simp [Qbb.j0])
    | succ kj7 =>
     have H := HA.out
     clear HA
     simp only [Qbb.j0] at H
     by_cases c14 : x18_7 = true
     ·subst c14
      have H1 : (some 4) = some r := by rw [if_pos rfl] at H; exact H
      clear H
      have H := H1
      clear H1
      obtain rfl := Option.some.inj H
      go_wp2
      go_ret
      exact ⟨by first | rfl | (simp [Qgi, Qgj] <;> rfl) | (simp [*, Qgi, Qgj] <;> rfl), qq_b⟩
     ·replace c14 := Bool.eq_false_iff.mpr c14
      subst c14
      have H1 : (if (a0_3.size : Int) > 1048576 then (some 3) else (some 0)) = some r := by rw [if_neg (show ¬ (false = true) by decide)] at H; exact H
      clear H
      have H := H1
      clear H1
      by_cases c15 : (a0_3.size : Int) > 1048576
      ·rw [if_pos c15] at H
       have c15b0 : decide (1048576 < (a0_3.size : Int)) = true := decide_eq_true c15
       have c15b1 : decide (1048576 < a0_3.size) = true := decide_eq_true (by omega)
       clear c15
       obtain rfl := Option.some.inj H
       have hcz16_0 := qq_c (.bool a0_0) BK309.out 0 rfl
       have hcz16_1 := qq_c (.int .u64 a0_1) BK309.out 1 rfl
       have hcz16_2 := qq_c (.string a0_2) BK309.out 2 rfl
       have hcz16_3 := qq_c (.string a0_3) BK309.out 3 rfl
       have hfz16_0 := Qdk BK309.out 0
       have hfz16_1 := Qdk BK309.out 1
       have hfz16_2 := Qdk BK309.out 2
       have hfz16_3 := Qdk BK309.out 3
       go_wp2
       go_ret
       exact ⟨by first | rfl | (simp [Qgi, Qgj] <;> rfl) | (simp [*, Qgi, Qgj] <;> rfl), qq_b⟩
      ·rw [if_neg c15] at H
       have c15b0 : decide (1048576 < (a0_3.size : Int)) = false := decide_eq_false c15
       have c15b1 : decide (1048576 < a0_3.size) = false := decide_eq_false (by omega)
       clear c15
       obtain rfl := Option.some.inj H
       have hcz17_0 := qq_c (.bool a0_0) BK309.out 0 rfl
       have hcz17_1 := qq_c (.int .u64 a0_1) BK309.out 1 rfl
       have hcz17_2 := qq_c (.string a0_2) BK309.out 2 rfl
       have hcz17_3 := qq_c (.string a0_3) BK309.out 3 rfl
       have hfz17_0 := Qdk BK309.out 0
       have hfz17_1 := Qdk BK309.out 1
       have hfz17_2 := Qdk BK309.out 2
       have hfz17_3 := Qdk BK309.out 3
       go_wp2
       go_ret
       exact ⟨by first | rfl | (simp [Qgi, Qgj] <;> rfl) | (simp [*, Qgi, Qgj] <;> rfl), qq_b⟩
def Qas.f : Nat → Int → Option (ByteArray)
 | 0, _ => none
 | k + 1, a0 => if a0 < 128 then (some (strOfNums (([(a0) % 256] : List Int)))) else ((some (([(IntKind.u64.wrap (128 + (Int.tmod a0 128))) % 256] : List Int) : List Int)).bind fun y295 => ((Qas.f k (IntKind.u64.wrap (Int.tdiv a0 128))).bind fun t298 => (if (strOfNums y295).size + t298.size ≤ 9223372036854775807 then (some ((strOfNums y295) ++ t298)) else (none))))
def Qas.T3 : Bool × List (List Nat × List Nat) := (true, [([], []), ([0], [0]), ([1], [1]), ([2], [2]), ([3], [3]), ([4], [4]), ([], []), ([6], [6]), ([7], [7]), ([5, 8], [5, 8]), ([9, 8, 0, 1, 2, 3, 4, 5, 6, 7, 8, 9], [9])])
def Qas.B3 : List Nat := [0, 1, 3, 7, 15, 31, 0, 64, 192, 511, 1023]
theorem Qas.tab3 : rtab .any (Qfp Tryz.f98 3) = Qas.T3 := by kernel_rfl
theorem Qas.bits3 : Qfl Qas.T3.2 Qas.B3 = true := by kernel_rfl
theorem Qas.calls (k : Nat) : ∀ (a0 : Int) (r : ByteArray) (w : World) (h : Qas.f k a0 = some r),
  Calls Tryz.prog 98 #[.int .u64 a0] w fun e w' => e = .returned (.string r) ∧ Below w.heap.size w w' := by
 induction k using Nat.strongRecOn with
 | _ k ih =>
 intro a0 r w h
 cases k with
 | zero => exact absurd h (by simp [Qas.f])
 | succ k =>
 simp only [Qas.f] at h
 have HB := QA (Below.refl w.heap.size w)
 have H : (if a0 < 128 then (some (strOfNums (([(a0) % 256] : List Int)))) else ((some (([(IntKind.u64.wrap (128 + (Int.tmod a0 128))) % 256] : List Int) : List Int)).bind fun y295 => ((Qas.f k (IntKind.u64.wrap (Int.tdiv a0 128))).bind fun t298 => (if (strOfNums y295).size + t298.size ≤ 9223372036854775807 then (some ((strOfNums y295) ++ t298)) else (none))))) = some r := h
 clear h
 by_cases c2 : a0 < 128
 ·rw [if_pos c2] at H
  have c2b0 : decide (a0 < 128) = true := decide_eq_true c2
  clear c2
  obtain ⟨y292, hy292⟩ : ∃ y_ : List Int, y_ = (([(a0) % 256] : List Int)) := ⟨_, rfl⟩
  replace H : (some (strOfNums y292)) = some r := by first | (rw [hy292]; with_reducible exact H) | (have H2_ := (Option.bind_some _ _).symm.trans H; rw [hy292]; with_reducible exact H2_) | (have H2_ := (Option.bind_some _ _).symm.trans H; with_reducible exact H2_) | with_reducible exact H | (rw [hy292]; exact H) | exact H
  have Ny292 := QA hy292
  clear hy292
  obtain rfl := Option.some.inj H
  go_enter Tryz.func98, Tryz.ntmps98
  go_wp2_with (first | ((with_reducible refine Qef (N := 7) rfl ?_); refine Kd.R_lit (Kd.int .u8) _ 5 ?hg (N := 7) ?hd (xs := ([(a0) % 256] : List Int)) (inner := [.int .u8 ((a0) % 256)]) (ok := fun _ => True) (okp := fun _ => True) ?hr ?hp (fun _ hk => hk) trivial (Below.refl _ _) (Nat.le_refl _) (by simp) ?_; (case hd => rfl); (case hg => rfl); (case hr => exact qq_12); (case hp => exact (Reps.one (show Kd.M (Kd.int .u8) _ _ _ ((a0) % 256) [.int .u8 ((a0) % 256)] from rfl) (Reps.none _ _))); intro v293 w3 ho4 hb hg_ hnew_; clear hg_ hnew_; (first | rw [← Ny292.out] at ho4 | (simp only [Int.reduceToNat] at ho4; rw [← Ny292.out] at ho4)); have n0_ := QA (Kd.R_lower ho4 (Qdz qq_b)); have n1_ := QA (Qea qq_b hb); clear HB; have HO294 := n0_; have HB := n1_; clear n0_ n1_; clear hb ho4; have hcv5 := Qcw (P := Tryz.prog) Tryz.underlying52 Tryz.underlying5 Tryz.underlying9 (Kd.own_of_R HO294.out)))
  go_ret
  exact ⟨by first | rfl | (simp [Qgi, Qgj] <;> rfl) | (simp [*, Qgi, Qgj] <;> rfl), qq_b⟩
 ·rw [if_neg c2] at H
  have c2b0 : decide (a0 < 128) = false := decide_eq_false c2
  clear c2
  obtain ⟨y295, hy295⟩ : ∃ y_ : List Int, y_ = (([(IntKind.u64.wrap (128 + (Int.tmod a0 128))) % 256] : List Int)) := ⟨_, rfl⟩
  replace H : ((Qas.f k (IntKind.u64.wrap (Int.tdiv a0 128))).bind fun t298 => (if (strOfNums y295).size + t298.size ≤ 9223372036854775807 then (some ((strOfNums y295) ++ t298)) else (none))) = some r := by first | (rw [hy295]; with_reducible exact H) | (have H2_ := (Option.bind_some _ _).symm.trans H; rw [hy295]; with_reducible exact H2_) | (have H2_ := (Option.bind_some _ _).symm.trans H; with_reducible exact H2_) | with_reducible exact H | (rw [hy295]; exact H) | exact H
  have Ny295 := QA hy295
  clear hy295
  replace H := Option.bind_eq_some_iff.mp H
  obtain ⟨t298, A60, H⟩ := H
  replace H : (if (strOfNums y295).size + t298.size ≤ 9223372036854775807 then (some ((strOfNums y295) ++ t298)) else (none)) = some r := H
  have A6 := QA A60
  clear A60
  by_cases c7 : (strOfNums y295).size + t298.size ≤ 9223372036854775807
  ·rw [if_pos c7] at H
   have c7b0 := eq_true c7
   have c7b1 : decide ((strOfNums y295).size + t298.size ≤ 9223372036854775807) = true := decide_eq_true c7
   try have c7b2 : (9223372036854775807 < (strOfNums y295).size + t298.size) = False := eq_false (Nat.not_lt.2 c7)
   obtain rfl := Option.some.inj H
   go_enter Tryz.func98, Tryz.ntmps98
   try go_wp2
   have n0_ := QA (Qee HB.out)
   clear HB
   have HB := n0_
   clear n0_
   refine Qen (n := 11) (S := fun w' => True) (ds := []) #[false, false, false, false, false, false, false, false, false, false, false] qq_6 rfl rfl trivial (fun hHeld => ?_); refine Qfn Qas.tab3 Qas.bits3 (fun HT_ HW_ => ?_)
   generalize w.drew = w8 at HB hHeld ⊢
   refine Qeo (i := 0) (N := some 9) (v := ?_) (a' := ?_) #[true, false, false, false, false, false, false, false, false, false, false] rfl rfl (Qfh HT_.out qq_6) (fun _ _ _ h => h) (Or.inl ⟨by rfl, ?_⟩) ?_ ?_
   rotate_left
   ·intro w'
    go_simp
    with_reducible rfl
   rotate_left
   ·exact qq_2
   refine Qeo (i := 1) (N := some 10) (v := ?_) (a' := ?_) #[true, true, false, false, false, false, false, false, false, false, false] rfl rfl (Qfh HT_.out qq_6) (fun _ _ _ h => h) (Or.inl ⟨by rfl, ?_⟩) ?_ ?_
   rotate_left
   ·intro w'
    go_simp
    with_reducible rfl
   rotate_left
   ·exact qq_2
   refine Qeo (i := 2) (N := some 11) (v := ?_) (a' := ?_) #[true, true, true, false, false, false, false, false, false, false, false] rfl rfl (Qfh HT_.out qq_6) (fun _ _ _ h => h) (Or.inl ⟨by rfl, ?_⟩) ?_ ?_
   rotate_left
   ·intro w'
    go_simp
    with_reducible rfl
   rotate_left
   ·exact qq_2
   refine Qeo (i := 3) (N := some 12) (v := ?_) (a' := ?_) #[true, true, true, true, false, false, false, false, false, false, false] rfl rfl (Qfh HT_.out qq_6) (fun _ _ _ h => h) (Or.inl ⟨by rfl, ?_⟩) ?_ ?_
   rotate_left
   ·intro w'
    go_simp
    with_reducible rfl
   rotate_left
   ·exact qq_2
   refine Qeo (i := 6) (N := some 15) (v := ?_) (a' := ?_) #[true, true, true, true, false, false, true, false, false, false, false] rfl rfl (Qfh HT_.out qq_6) (fun _ _ _ h => h) (Or.inl ⟨by rfl, ?_⟩) ?_ ?_
   rotate_left
   ·intro w'
    go_simp
    with_reducible rfl
   rotate_left
   ·exact qq_2
   refine Qeo (i := 7) (N := some 16) (v := ?_) (a' := ?_) #[true, true, true, true, false, false, true, true, false, false, false] rfl rfl (Qfh HT_.out qq_6) (fun _ _ _ h => h) (Or.inl ⟨by rfl, ?_⟩) ?_ ?_
   rotate_left
   ·intro w'
    go_simp
    with_reducible rfl
   rotate_left
   ·exact qq_2
   refine Qer (σ := Value) 2 #[true, true, true, true, true, true, true, true, true, false, false] (fun s_ => [(13, s_), (14, .string (strOfNums y295)), (17, .string t298)]) (fun s_ w' => (Kd.R (Kd.int .u8) 5 w' w.heap.size (fun _ => True) s_ y295) ∧ (Below w.heap.size w w')) ?_ ?_
   rotate_left
   ·intro hCont
    refine two_ (i := 4) (j := 8) (Ni := some 13) (Nj := some 17) #[true, true, true, true, true, false, true, true, false, false, false] #[true, true, true, true, false, false, true, true, true, false, false] rfl rfl rfl rfl (Qfj HT_.out qq_6) (by decide) (by decide) (fun K hK => ?_) (fun K hK => ?_)
    ·skip
     refine Kd.R_lit_step (Kd.int .u8) _ 5 ?hg (N := 13) ?hd (xs := ([(IntKind.u64.wrap (128 + (Int.tmod a0 128))) % 256] : List Int)) (inner := [.int .u8 ((IntKind.u64.wrap (128 + (Int.tmod a0 128))) % 256)]) (ok := fun _ => True) (okp := fun _ => True) ?hr ?hp (fun _ hk => hk) trivial (Below.refl _ _) (Nat.le_refl _) (by simp) ?_; (case hd => rfl); (case hg => rfl); (case hr => exact qq_12); (case hp => exact (Reps.one (show Kd.M (Kd.int .u8) _ _ _ ((IntKind.u64.wrap (128 + (Int.tmod a0 128))) % 256) [.int .u8 ((IntKind.u64.wrap (128 + (Int.tmod a0 128))) % 256)] from rfl) (Reps.none _ _)))
     intro v296 w9 ho10 hb hg_ hnew_
     clear hg_ hnew_
     (first | rw [← Ny295.out] at ho10 | (simp only [Int.reduceToNat] at ho10; rw [← Ny295.out] at ho10))
     have n0_ := QA (Kd.R_lower ho10 (Qdz qq_b))
     have n1_ := QA (Qea qq_b hb)
     clear HB
     have HO297 := n0_
     have HB := n1_
     clear n0_ n1_
     clear hb ho10
     refine hK.out _ _ trivial (fun hHeld => ?_)
     clear hK K
     refine Qes (a' := ?_) ?_ ?_
     rotate_left
     ·show Act.put _ (some 13) _ = _
      simp only [Act.put, List.setIfInBounds_toArray, List.set_cons_zero, List.set_cons_succ, Qew, Qex]
      rfl
     refine two_ (i := 5) (j := 8) (Ni := some 14) (Nj := some 17) #[true, true, true, true, true, true, true, true, false, false, false] #[true, true, true, true, true, false, true, true, true, false, false] rfl rfl rfl rfl (Qfj HT_.out qq_6) (by decide) (by decide) (fun K hK => ?_) (fun K hK => ?_)
     ·skip
      have hcv11 := Qcw (P := Tryz.prog) Tryz.underlying52 Tryz.underlying5 Tryz.underlying9 (Kd.own_of_R HO297.out)
      refine Qev (w1 := ?_) (v := ?_) (by rfl) rfl ?_ ?_
      rotate_left 2
      ·go_simp
       constructor
       ·rfl
       ·rfl
      clear hcv11
      refine hK.out _ _ trivial (fun hHeld => ?_)
      clear hK K
      refine Qes (a' := ?_) ?_ ?_
      rotate_left
      ·show Act.put _ (some 14) _ = _
       simp only [Act.put, List.setIfInBounds_toArray, List.set_cons_zero, List.set_cons_succ, Qew, Qex]
       rfl
      refine one_ (i := 8) (N := some 17) #[true, true, true, true, true, true, true, true, true, false, false] rfl rfl (Qfi HT_.out qq_6) (by decide) (fun K hK => ?_)
      refine Qet Tryz.func98 qq_6 rfl #[.int .u64 (IntKind.u64.wrap (Int.tdiv a0 128))] (by rfl) rfl rfl qq_1 ?_
      with_reducible refine (ih k (by omega) (IntKind.u64.wrap (Int.tdiv a0 128)) t298 _ A6.out).mono ?_
      rintro e w12 ⟨rfl, hb⟩
      refine ⟨_, rfl, ?_⟩
      have n0_ := QA (Kd.R_below qq_4 hb)
      have n1_ := QA (Qea qq_b hb)
      clear HO297
      clear HB
      have HO297 := n0_
      have HB := n1_
      clear n0_ n1_
      (try clear hb)
      (try clear hb2)
      (try clear hk)
      (try clear hi)
      refine hK.out _ _ trivial (fun hHeld => ?_)
      clear hK K
      refine Qes (a' := ?_) ?_ ?_
      rotate_left
      ·show Act.put _ (some 17) _ = _
       simp only [Act.put, List.setIfInBounds_toArray, List.set_cons_zero, List.set_cons_succ, Qew, Qex]
       rfl
      exact Qes (by simp only [Qeq, Act.put, List.setIfInBounds_toArray, List.set_cons_zero, List.set_cons_succ]) (hCont (v296) _ ⟨qq_4, qq_b⟩)
     ·skip
      refine Qet Tryz.func98 qq_6 rfl #[.int .u64 (IntKind.u64.wrap (Int.tdiv a0 128))] (by rfl) rfl rfl qq_1 ?_
      with_reducible refine (ih k (by omega) (IntKind.u64.wrap (Int.tdiv a0 128)) t298 _ A6.out).mono ?_
      rintro e w11 ⟨rfl, hb⟩
      refine ⟨_, rfl, ?_⟩
      have n0_ := QA (Kd.R_below qq_4 hb)
      have n1_ := QA (Qea qq_b hb)
      clear HO297
      clear HB
      have HO297 := n0_
      have HB := n1_
      clear n0_ n1_
      (try clear hb)
      (try clear hb2)
      (try clear hk)
      (try clear hi)
      refine hK.out _ _ trivial (fun hHeld => ?_)
      clear hK K
      refine Qes (a' := ?_) ?_ ?_
      rotate_left
      ·show Act.put _ (some 17) _ = _
       simp only [Act.put, List.setIfInBounds_toArray, List.set_cons_zero, List.set_cons_succ, Qew, Qex]
       rfl
      refine one_ (i := 5) (N := some 14) #[true, true, true, true, true, true, true, true, true, false, false] rfl rfl (Qfi HT_.out qq_6) (by decide) (fun K hK => ?_)
      have hcv12 := Qcw (P := Tryz.prog) Tryz.underlying52 Tryz.underlying5 Tryz.underlying9 (Kd.own_of_R HO297.out)
      refine Qev (w1 := ?_) (v := ?_) (by rfl) rfl ?_ ?_
      rotate_left 2
      ·go_simp
       constructor
       ·rfl
       ·rfl
      clear hcv12
      refine hK.out _ _ trivial (fun hHeld => ?_)
      clear hK K
      refine Qes (a' := ?_) ?_ ?_
      rotate_left
      ·show Act.put _ (some 14) _ = _
       simp only [Act.put, List.setIfInBounds_toArray, List.set_cons_zero, List.set_cons_succ, Qew, Qex]
       rfl
      exact Qes (by simp only [Qeq, Act.put, List.setIfInBounds_toArray, List.set_cons_zero, List.set_cons_succ]) (hCont (v296) _ ⟨qq_4, qq_b⟩)
    ·skip
     refine Qet Tryz.func98 qq_6 rfl #[.int .u64 (IntKind.u64.wrap (Int.tdiv a0 128))] (by rfl) rfl rfl qq_1 ?_
     with_reducible refine (ih k (by omega) (IntKind.u64.wrap (Int.tdiv a0 128)) t298 _ A6.out).mono ?_
     rintro e w9 ⟨rfl, hb⟩
     refine ⟨_, rfl, ?_⟩
     have n0_ := QA (Qea qq_b hb)
     clear HB
     have HB := n0_
     clear n0_
     (try clear hb)
     (try clear hb2)
     (try clear hk)
     (try clear hi)
     refine hK.out _ _ trivial (fun hHeld => ?_)
     clear hK K
     refine Qes (a' := ?_) ?_ ?_
     rotate_left
     ·show Act.put _ (some 17) _ = _
      simp only [Act.put, List.setIfInBounds_toArray, List.set_cons_zero, List.set_cons_succ, Qew, Qex]
      rfl
     refine one_ (i := 4) (N := some 13) #[true, true, true, true, true, false, true, true, true, false, false] rfl rfl (Qfi HT_.out qq_6) (by decide) (fun K hK => ?_)
     refine Kd.R_lit_step (Kd.int .u8) _ 5 ?hg (N := 13) ?hd (xs := ([(IntKind.u64.wrap (128 + (Int.tmod a0 128))) % 256] : List Int)) (inner := [.int .u8 ((IntKind.u64.wrap (128 + (Int.tmod a0 128))) % 256)]) (ok := fun _ => True) (okp := fun _ => True) ?hr ?hp (fun _ hk => hk) trivial (Below.refl _ _) (Nat.le_refl _) (by simp) ?_; (case hd => rfl); (case hg => rfl); (case hr => exact qq_12); (case hp => exact (Reps.one (show Kd.M (Kd.int .u8) _ _ _ ((IntKind.u64.wrap (128 + (Int.tmod a0 128))) % 256) [.int .u8 ((IntKind.u64.wrap (128 + (Int.tmod a0 128))) % 256)] from rfl) (Reps.none _ _)))
     intro v296 w10 ho11 hb hg_ hnew_
     clear hg_ hnew_
     (first | rw [← Ny295.out] at ho11 | (simp only [Int.reduceToNat] at ho11; rw [← Ny295.out] at ho11))
     have n0_ := QA (Kd.R_lower ho11 (Qdz qq_b))
     have n1_ := QA (Qea qq_b hb)
     clear HB
     have HO297 := n0_
     have HB := n1_
     clear n0_ n1_
     clear hb ho11
     refine hK.out _ _ trivial (fun hHeld => ?_)
     clear hK K
     refine Qes (a' := ?_) ?_ ?_
     rotate_left
     ·show Act.put _ (some 13) _ = _
      simp only [Act.put, List.setIfInBounds_toArray, List.set_cons_zero, List.set_cons_succ, Qew, Qex]
      rfl
     refine one_ (i := 5) (N := some 14) #[true, true, true, true, true, true, true, true, true, false, false] rfl rfl (Qfi HT_.out qq_6) (by decide) (fun K hK => ?_)
     have hcv12 := Qcw (P := Tryz.prog) Tryz.underlying52 Tryz.underlying5 Tryz.underlying9 (Kd.own_of_R HO297.out)
     refine Qev (w1 := ?_) (v := ?_) (by rfl) rfl ?_ ?_
     rotate_left 2
     ·go_simp
      constructor
      ·rfl
      ·rfl
     clear hcv12
     refine hK.out _ _ trivial (fun hHeld => ?_)
     clear hK K
     refine Qes (a' := ?_) ?_ ?_
     rotate_left
     ·show Act.put _ (some 14) _ = _
      simp only [Act.put, List.setIfInBounds_toArray, List.set_cons_zero, List.set_cons_succ, Qew, Qex]
      rfl
     exact Qes (by simp only [Qeq, Act.put, List.setIfInBounds_toArray, List.set_cons_zero, List.set_cons_succ]) (hCont (v296) _ ⟨qq_4, qq_b⟩)
   rintro v296 w13 ⟨h0_, h1_⟩
   have n0_ : Aside0 (Kd.R (Kd.int .u8) 5 w13 w.heap.size (fun _ => True) v296 y295) := ⟨h0_⟩
   have n1_ : Aside0 (Below w.heap.size w w13) := ⟨h1_⟩
   clear HB
   clear h0_ h1_
   have HO297 := n0_
   have HB := n1_
   clear n0_ n1_
   have hHeld := trivial
   refine Qes (a' := ?_) ?_ ?_
   rotate_left
   ·simp only [Qeq, Act.put, List.setIfInBounds_toArray, List.set_cons_zero, List.set_cons_succ]
    rfl
   refine Qeo (i := 9) (N := some 18) (v := ?_) (a' := ?_) #[true, true, true, true, true, true, true, true, true, true, false] rfl rfl (Qfh HT_.out qq_6) (fun _ _ _ h => h) (Or.inl ⟨by rfl, ?_⟩) ?_ ?_
   rotate_left
   ·intro w'
    go_simp
    with_reducible rfl
   rotate_left
   ·exact qq_2
   refine Qeo (i := 10) (N := some 2) (v := ?_) (a' := ?_) #[true, true, true, true, true, true, true, true, true, true, true] rfl rfl (Qfh HT_.out qq_6) (fun _ _ _ h => h) (Or.inl ⟨by rfl, ?_⟩) ?_ ?_
   rotate_left
   ·intro w'
    go_simp
    with_reducible rfl
   rotate_left
   ·exact qq_2
   refine Qep (Qfk HT_.out qq_6) ?_
   try go_wp2
   go_ret
   exact ⟨by first | rfl | (simp [Qgi, Qgj] <;> rfl) | (simp [*, Qgi, Qgj] <;> rfl), qq_b⟩
  ·rw [if_neg c7] at H
   exact absurd H (by simp)
end Go.Proofs.YtnnofopfbeklbaaGreat.C
end
section
namespace Go.Proofs.YtnnofopfbeklbaaGreat.C
open Go.RowKit Go.Proofs.YtnnofopfbeklbaaGreatW.PrintWords Go.Proofs.YtnnofopfbeklbaaGreatW.PrintLast Go.Proofs.YtnnofopfbeklbaaGreatW.PrintMore
def Qap.f (a0 : Int) : Option (Int × Int) := if 0 ≤ a0 then if a0 < 256 then some (12 + a0 % 2, 1 + a0 / 2 % 8) else none else none
theorem Qap.calls (a0 : Int) (r1 : Int) (r2 : Int) (w : World) (h : Qap.f a0 = some (r1, r2)) :
  Calls Tryz.prog 17 #[.int .u8 a0] w fun e w' => e = .returned (.agg #[.int .u8 r1, .int .u32 r2]) ∧ Below w.heap.size w w' := by
 unfold Qap.f at h
 by_cases h0 : 0 ≤ a0
 ·by_cases h1 : a0 < 256
  ·rw [if_pos h0, if_pos h1] at h
   simp only [Option.some.injEq, Prod.mk.injEq] at h
   have hr1 := QA h.1
   have hr2 := QA h.2
   clear h
   have hu := Tryz.underlying27
   have e1 : Int.tmod a0 2 = a0 % 2 := Int.tmod_eq_emod_of_nonneg h0
   have e2 : Int.tdiv a0 2 = a0 / 2 := Int.tdiv_eq_ediv_of_nonneg h0
   have e3 : (12 + a0 % 2) % 256 = 12 + a0 % 2 := by omega
   have e4 : a0 / 2 % 256 = a0 / 2 := by omega
   go_enter Tryz.func17, Tryz.ntmps17
   go_wp2_with fail
   refine bodyPost_ret (results_cell_row rfl _ _ w.heap.size 27 #[.int .u8 (12 + a0 % 2), .int .u32 (1 + a0 / 2 % 8)] (0, 0) _ rfl (Qdu w _) Tryz.underlying27 rfl qq_6) rfl ?_
   exact ⟨by rw [hr1.out, hr2.out], Qco (Below.refl _ _) _⟩
  ·rw [if_pos h0, if_neg h1] at h; cases h
 ·rw [if_neg h0] at h; cases h
def Qat.f (k : Nat) (a0 : ByteArray) : Option ByteArray := if a0.size ≤ 70368744177664 then (Qas.f k (a0.size : Int)).bind fun t => if t.size ≤ 1000 then some (t ++ a0) else none else none
theorem Qat.calls (k : Nat) (a0 : ByteArray) (r : ByteArray) (w : World) (h : Qat.f k a0 = some r) :
  Calls Tryz.prog 104 #[.string a0] w fun e w' => e = .returned (.string r) ∧ Below w.heap.size w w' := by
 unfold Qat.f at h
 by_cases hs : a0.size ≤ 70368744177664
 ·rw [if_pos hs] at h
  obtain ⟨t, ht, h⟩ := Option.bind_eq_some_iff.mp h
  by_cases h1 : t.size ≤ 1000
  ·rw [if_pos h1] at h
   obtain rfl := Option.some.inj h
   have HT := QA ht
   clear ht h
   have hc : t.size + a0.size ≤ 9223372036854775807 := by omega
   go_enter Tryz.func104, Tryz.ntmps104
   go_wp2_with (go_at_call 98; refine (Qas.calls k _ _ _ HT.out).mono ?_; rintro e w1 ⟨rfl, hb1⟩)
   go_ret
   exact ⟨rfl, hb1⟩
  ·rw [if_neg h1] at h; cases h
 ·rw [if_neg hs] at h; cases h
end Go.Proofs.YtnnofopfbeklbaaGreat.C
end
