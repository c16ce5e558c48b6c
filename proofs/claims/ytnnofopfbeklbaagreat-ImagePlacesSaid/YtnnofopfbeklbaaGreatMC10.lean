/- Texts of this claim's author and of the print of its functions, merged by merge.py. -/
import Derived.Test.YtnnofopfbeklbaaGreatMC02
import Derived.Test.YtnnofopfbeklbaaGreatMC05
import Derived.Test.YtnnofopfbeklbaaGreatMC09
import Derived.OpenShut
import Derived.Test.YtnnofopfbeklbaaGreatMC08
set_option linter.unusedVariables false
set_option linter.unusedSimpArgs false
section
namespace Go.Proofs.YtnnofopfbeklbaaGreat.C
open Go.RowKit Go.Proofs.YtnnofopfbeklbaaGreatW.PrintWords Go.Proofs.YtnnofopfbeklbaaGreatW.PrintLast Go.Proofs.YtnnofopfbeklbaaGreatW.PrintMore
def one8 (h : Int) (l : List Int) : Int := IntKind.u64.wrap (IntKind.u64.wrap (rotP (Go.bits .xor .u64 h (Qgf 0 (numP 8 l))) 27 * Q1) + Q4)
def tail8 : Nat → Int → List Int → Int
 | 0, h, _ => h
 | m + 1, h, l => tail8 m (one8 h l) (l.drop 8)
def one4 (h : Int) (l : List Int) : Int := IntKind.u64.wrap (IntKind.u64.wrap (rotP (Go.bits .xor .u64 h (IntKind.u64.wrap (numP 4 l * Q1))) 23 * Q2) + Q3)
def one1 (h x : Int) : Int := IntKind.u64.wrap (rotP (Go.bits .xor .u64 h (IntKind.u64.wrap (IntKind.u64.wrap x * Q5))) 11 * Q1)
def finP (h : Int) : Int :=
 let a := IntKind.u64.wrap (Go.bits .xor .u64 h (h / 8589934592) * Q2)
 let b := IntKind.u64.wrap (Go.bits .xor .u64 a (a / 536870912) * Q3)
 Go.bits .xor .u64 b (b / 4294967296)
def sumP (h0 : Int) (l : List Int) : Int :=
 if 4 ≤ (l.drop (8 * (l.length / 8))).length then finP (((l.drop (8 * (l.length / 8))).drop 4).foldl one1 (one4 (tail8 (l.length / 8) h0 l) (l.drop (8 * (l.length / 8))))) else finP ((l.drop (8 * (l.length / 8))).foldl one1 (tail8 (l.length / 8) h0 l))
theorem q8_cut' (A : Option Addr) (n c m : Nat) (j : Int) (hj : j = (m : Int)) (hm : m ≤ n) (hc : n ≤ c) :
  ∃ (A' : Option Addr) (n' c' : Nat), n' = n - m ∧ n' ≤ c' ∧ (∀ W : World, (Instr.slice 52 (.slice A n c) (some (.int .i64 j)) none none).run Tryz.prog W = .ok (.slice A' n' c') W) ∧
   ∀ (W : World) (b : Nat) (xs : List Int), xs.length = n → Q8 W b (.slice A n c) xs → Q8 W b (.slice A' n' c') (xs.drop m) := by
 obtain ⟨A', h1, h2⟩ := Qgj A n c m j hj hm
 exact ⟨A', n - m, c - m, rfl, by omega, h1, h2⟩
set_option maxRecDepth 100000 in
set_option maxHeartbeats 4000000 in
theorem st_Sum (g b : Nat) (sd : Int) (V : V4) (rv : Value) (n : Int) (l : List Int) (w : World) (hv : StAt w g sd V rv n) (hR : Q8 w b rv l) :
  Calls Tryz.prog 157 #[.pointer (some ⟨g, 0, none⟩)] w fun e w' => e = .returned (.int .u64 (sumP (IntKind.u64.wrap (Qhl sd V n + n)) l)) ∧ Below w.heap.size w w' := by
 have hu := Tryz.underlying274
 have hu2 := Tryz.underlying231
 obtain ⟨A, c, rfl, hlc⟩ := Kd.Q_slice hR
 have HR := QA hR
 have HV := QA hv
 obtain ⟨k0, k1, k2, k3, k4, k5, k6⟩ := StAt.cells hv
 have hvd : StAt w.drew g sd V (.slice A l.length c) n := hv.kept (Qcd (Below.refl _ _))
 obtain ⟨j0, j1, j2, j3, j4, j5, j6⟩ := StAt.cells hvd
 go_enter Tryz.func157, Tryz.ntmps157
 go_wp2_with fail
 go_region_held3 (fun w' => w'.cell? ⟨g, 5, none⟩ = some (.slice A l.length c) ∧ w'.cell? ⟨g, 6, none⟩ = some (.int .u64 n)) (first | exact ⟨j5, j6⟩ | exact ⟨i5, i6⟩) (first | (go_at_call 201; refine (st_start g sd V _ n w.drew hvd).mono ?_; rintro e w2 ⟨rfl, hb2⟩; have hv2 := hvd.kept hb2; obtain ⟨i0, i1, i2, i3, i4, i5, i6⟩ := StAt.cells hv2))
 have HQ2 := QA (show Q8 w2 b (.slice A l.length c) l from Kd.Q_below (Kd.Q_drew HR.out) hb2)
 have HB2 := QA (Qcf (Qcd (Below.refl w.heap.size w)) (Nat.le_refl _) hb2)
 clear j0 j1 j2 j3 j4 j5 j6 k0 k1 k2 k3 k4 k5 k6 hvd hv HV HR hR hb2 hv2 i0 i1 i2 i3 i4 i5 i6
 go_wp2_with fail
 obtain ⟨h0, hh0⟩ : ∃ h0, h0 = IntKind.u64.wrap (Qhl sd V n + n) := ⟨_, rfl⟩
 rw [← hh0]
 have HH := QA hh0
 clear hh0
 go_loopw [3, 4] (fun v3 v4 wr => ∃ (m : Nat) (l' : List Int) (h : Int) (A : Option Addr) (c : Nat), v3 = .int .u64 h ∧ v4 = .slice A l'.length c ∧ l'.length ≤ c ∧ l'.length ≤ l.length ∧ Aside0 (l'.length / 8 = m ∧ tail8 (l.length / 8) h0 l = tail8 m h l' ∧ l.drop (8 * (l.length / 8)) = l'.drop (8 * m)) ∧ Aside0 (Q8 wr b (.slice A l'.length c) l') ∧ Aside0 (Below w.heap.size w wr))
  (fun _ v4 _ => lenV v4)
 case atStart => exact ⟨_, l, h0, A, c, rfl, rfl, hlc, Nat.le_refl _, ⟨rfl, rfl, rfl⟩, HQ2, HB2⟩
 case round =>
  clear HQ2 HB2 hlc
  obtain ⟨m, l', h, A, c, rfl, rfl, hlc, hll, HM, HQ, HB⟩ := hrel
  by_cases h8 : 8 ≤ l'.length
  ·have h8i : (8 : Int) ≤ (l'.length : Int) := by omega
   obtain ⟨A', hcut, hA'⟩ := Qgj A l'.length c 8 8 rfl h8
   go_wp2_with (first | (go_at_call 200; refine (Qgk HQ.out h8).mono ?_; rintro e w7 ⟨rfl, hd⟩; have hd1 := hd.below; clear hd) | (go_at_call 199; refine (Qgl _ _ _).mono ?_; rintro e w8 ⟨rfl, hd⟩; have hd2 := hd.below; clear hd) | (go_at_call 202; refine (Qhm _ 27 ⟨by decide, by decide, by kernel_rfl⟩ _).mono ?_; rintro e w9 ⟨rfl, hd⟩; have hd3 := hd.below; clear hd))
   go_roundw
   case rel =>
    have hm := HM.out
    have hd : (l'.drop 8).length = l'.length - 8 := List.length_drop
    refine ⟨m - 1, l'.drop 8, one8 h l', A', c - 8, rfl, by rw [hd], by rw [hd]; omega, by rw [hd]; omega, ⟨by rw [hd]; omega, ?_, ?_⟩, ⟨?_⟩, ⟨?_⟩⟩
    ·rw [hm.2.1, show m = (m - 1) + 1 by omega]
     rfl
    ·rw [hm.2.2, List.drop_drop]
     congr 1
     omega
    ·rw [hd]
     exact hA' _ _ _ rfl (Kd.Q_below (Kd.Q_below (Kd.Q_below HQ.out hd1) hd2) hd3)
    ·exact Qcf (Qcf (Qcf HB.out HB.out.size hd1) (Nat.le_trans HB.out.size hd1.size) hd2) (Nat.le_trans (Nat.le_trans HB.out.size hd1.size) hd2.size) hd3
   case measure => simp [lenV]; omega
  ·have h8i : (l'.length : Int) < 8 := by omega
   by_cases h4 : 4 ≤ l'.length
   ·have h4i : (4 : Int) ≤ (l'.length : Int) := by omega
    obtain ⟨A3, n3, c3, hn3, hc3, hcut, hA'⟩ := q8_cut' A l'.length c 4 4 rfl h4 hlc
    have hn8 : n3 ≤ 8 := by omega
    have HN := QA hn3
    clear hn3
    go_wp2_with (first | (go_at_call 200; refine (num4_at HQ.out h4).mono ?_; rintro e w7 ⟨rfl, hd⟩; have hd1 := hd.below; clear hd) | (go_at_call 202; refine (Qhm _ 23 ⟨by decide, by decide, by kernel_rfl⟩ _).mono ?_; rintro e w9 ⟨rfl, hd⟩; have hd3 := hd.below; clear hd))
    have HQ3 := QA (hA' _ _ _ rfl (Kd.Q_below (Kd.Q_below HQ.out hd1) hd3))
    have HB3 := QA (Qcf (Qcf HB.out HB.out.size hd1) (Nat.le_trans HB.out.size hd1.size) hd3)
    clear hcut hA' hd1 hd3
    have HC3 := QA (Kd.Q_reads' HQ3.out)
    obtain ⟨R, hR⟩ : ∃ R, R = (l'.drop 4).foldl one1 (one4 h l') := ⟨_, rfl⟩
    have HRR := QA hR
    clear hR
    go_loopw [3, 6, 46] (fun v3 v6 v46 wi => ∃ (k : Nat) (iv x : Int), k ≤ n3 ∧ v46 = .int .i64 iv ∧ v3 = .int .u64 x ∧ Aside0 (iv = (k : Int)) ∧ Aside0 (((l'.drop 4).drop k).foldl one1 x = R) ∧ Aside0 (Below w9.heap.size w9 wi))
     (fun _ _ v46 _ => n3 - (intOf v46).toNat)
    case atStart => exact ⟨0, 0, _, Nat.zero_le _, rfl, rfl, ⟨rfl⟩, ⟨by rw [List.drop_zero]; exact HRR.out.symm⟩, ⟨Below.refl _ _⟩⟩
    case round =>
     obtain ⟨k, iv, x, hk, rfl, rfl, HK, HX, HBi⟩ := hrel
     by_cases hlt : k < n3
     ·have hge : 0 ≤ iv := by have := HK.out; omega
      have hl2 : iv < (n3 : Int) := by have := HK.out; omega
      obtain ⟨ad, hA3, hx0⟩ := Kd.at_int (Kd.C_below HC3.out.2.2 HBi.out) iv hge (by rw [← HC3.out.1]; exact hl2)
      have hA4 := hA3
      obtain ⟨y, hy⟩ : ∃ y, y = rd (l'.drop 4) iv := ⟨_, rfl⟩
      rw [← hy] at hx0
      have HY := QA hy
      have HA := QA hA4
      clear hy hA4
      subst hA3
      go_wp2_with (go_at_call 202; refine (Qhm _ 11 ⟨by decide, by decide, by kernel_rfl⟩ _).mono ?_; rintro e w11 ⟨rfl, hd⟩; have hd4 := hd.below; clear hd)
      go_roundw
      case rel => exact ⟨k + 1, iv + 1, one1 x y, by omega, by go_num, rfl, ⟨by have := HK.out; omega⟩, ⟨by
       have e1 : iv = (k : Int) := HK.out
       have hkl : k < (l'.drop 4).length := by have := HC3.out.1; omega
       have e2 : (l'.drop 4).drop k = rd (l'.drop 4) (k : Int) :: (l'.drop 4).drop (k + 1) := by
        rw [List.drop_eq_getElem_cons hkl]
        simp [rd, List.getD_eq_getElem?_getD, List.getElem?_eq_getElem hkl]
       have e3 := HX.out
       rw [e2, List.foldl_cons, ← e1, ← HY.out] at e3
       exact e3⟩, ⟨Qcf HBi.out HBi.out.size hd4⟩⟩
      case measure => simp [intOf]; omega
     ·obtain rfl : n3 = k := by omega
      have e1 : iv = _ := HK.out
      subst e1
      go_wp2_with fail
      go_ret
      have hL : (l'.drop 4).drop n3 = [] := List.drop_eq_nil_of_le (by have := HC3.out.1; omega)
      have hx := HX.out
      rw [hL] at hx
      have hx' : x = R := hx
      subst hx'
      have hm := HM.out
      have hm0 : m = 0 := by omega
      subst hm0
      refine ⟨?_, Qcf HB3.out (Nat.le_trans HB3.out.size (Nat.le_refl _)) HBi.out⟩
      have e5 : sumP h0 l = finP x := by
       rw [HRR.out]
       unfold sumP
       rw [hm.2.1, hm.2.2]
       simp only [tail8, Nat.mul_zero, List.drop_zero]
       first | rw [if_pos h4] | rw [if_neg h4]
      rw [← HH.out, e5]
      rfl
   ·have h4i : (l'.length : Int) < 4 := by omega
    go_wp2_with fail
    have HC3 := QA (Kd.Q_reads' HQ.out)
    obtain ⟨R, hR⟩ : ∃ R, R = (l').foldl one1 (h) := ⟨_, rfl⟩
    have HRR := QA hR
    clear hR
    go_loopw [3, 6, 46] (fun v3 v6 v46 wi => ∃ (k : Nat) (iv x : Int), k ≤ l'.length ∧ v46 = .int .i64 iv ∧ v3 = .int .u64 x ∧ Aside0 (iv = (k : Int)) ∧ Aside0 (((l').drop k).foldl one1 x = R) ∧ Aside0 (Below wr.heap.size wr wi))
     (fun _ _ v46 _ => l'.length - (intOf v46).toNat)
    case atStart => exact ⟨0, 0, _, Nat.zero_le _, rfl, rfl, ⟨rfl⟩, ⟨by rw [List.drop_zero]; exact HRR.out.symm⟩, ⟨Below.refl _ _⟩⟩
    case round =>
     obtain ⟨k, iv, x, hk, rfl, rfl, HK, HX, HBi⟩ := hrel
     by_cases hlt : k < l'.length
     ·have hge : 0 ≤ iv := by have := HK.out; omega
      have hl2 : iv < (l'.length : Int) := by have := HK.out; omega
      obtain ⟨ad, hA3, hx0⟩ := Kd.at_int (Kd.C_below HC3.out.2.2 HBi.out) iv hge (by rw [← HC3.out.1]; exact hl2)
      have hA4 := hA3
      obtain ⟨y, hy⟩ : ∃ y, y = rd (l') iv := ⟨_, rfl⟩
      rw [← hy] at hx0
      have HY := QA hy
      have HA := QA hA4
      clear hy hA4
      subst hA3
      go_wp2_with (go_at_call 202; refine (Qhm _ 11 ⟨by decide, by decide, by kernel_rfl⟩ _).mono ?_; rintro e w11 ⟨rfl, hd⟩; have hd4 := hd.below; clear hd)
      go_roundw
      case rel => exact ⟨k + 1, iv + 1, one1 x y, by omega, by go_num, rfl, ⟨by have := HK.out; omega⟩, ⟨by
       have e1 : iv = (k : Int) := HK.out
       have hkl : k < (l').length := by have := HC3.out.1; omega
       have e2 : (l').drop k = rd (l') (k : Int) :: (l').drop (k + 1) := by
        rw [List.drop_eq_getElem_cons hkl]
        simp [rd, List.getD_eq_getElem?_getD, List.getElem?_eq_getElem hkl]
       have e3 := HX.out
       rw [e2, List.foldl_cons, ← e1, ← HY.out] at e3
       exact e3⟩, ⟨Qcf HBi.out HBi.out.size hd4⟩⟩
      case measure => simp [intOf]; omega
     ·obtain rfl : k = l'.length := by omega
      have e1 : iv = _ := HK.out
      subst e1
      go_wp2_with fail
      go_ret
      have hL : (l').drop l'.length = [] := List.drop_eq_nil_of_le (by have := HC3.out.1; omega)
      have hx := HX.out
      rw [hL] at hx
      have hx' : x = R := hx
      subst hx'
      have hm := HM.out
      have hm0 : m = 0 := by omega
      subst hm0
      refine ⟨?_, Qcf HB.out (Nat.le_trans HB.out.size (Nat.le_refl _)) HBi.out⟩
      have e5 : sumP h0 l = finP x := by
       rw [HRR.out]
       unfold sumP
       rw [hm.2.1, hm.2.2]
       simp only [tail8, Nat.mul_zero, List.drop_zero]
       first | rw [if_pos h4] | rw [if_neg h4]
      rw [← HH.out, e5]
      rfl
def Qhn (sd : Int) (l : List Int) : Int :=
 sumP (IntKind.u64.wrap (Qhl sd (Qgh (l.length / 32) (IntKind.u64.wrap (IntKind.u64.wrap (sd + Q1) + Q2), IntKind.u64.wrap (sd + Q2), sd, IntKind.u64.wrap (sd - Q1)) l) l.length + l.length)) (l.drop (32 * (l.length / 32)))
set_option maxRecDepth 100000 in
set_option maxHeartbeats 4000000 in
theorem st_Write (b g : Nat) (sd : Int) (V : V4) (rv : Value) (A0 : Option Addr) (c0 : Nat) (l : List Int) (w : World) (hr0 : Kd.C (Kd.int .u8) w A0 l.length l) (hfar : ∀ ad, A0 = some ad → 0 < l.length → ad.block ≠ g) (hv : StAt w g sd V rv 0) (hR : R8 w b rv []) (hbg : b ≤ g) (hbw : b ≤ w.heap.size) (hl : l.length ≤ 140737488355328) :
  Calls Tryz.prog 156 #[.pointer (some ⟨g, 0, none⟩), .slice A0 l.length c0] w fun e w' => e = .returned (.pointer (some ⟨g, 0, none⟩)) ∧ (∃ rv', StAt w' g sd (Qgh (l.length / 32) V l) rv' l.length ∧ R8 w' b rv' (l.drop (32 * (l.length / 32)))) ∧ Below b w w' := by
 have hu := Tryz.underlying274
 have hu2 := Tryz.underlying231
 have hu3 := Tryz.underlying52
 obtain ⟨A1, n1, c1, rfl⟩ := R8.shape hR
 have c6 : w.cell? ⟨g, 6, none⟩ = some (.int .u64 0) := (Qcx hv 6).trans rfl
 have c5 : w.cell? ⟨g, 5, none⟩ = some (.slice A1 n1 c1) := (Qcx hv 5).trans rfl
 have f6 := Qcy hv 6
 have hw := IntWalk.u64_in (l.length : Int) (by omega)
 go_enter Tryz.func156, Tryz.ntmps156
 have hC1 : Kd.C (Kd.int .u8) (w.setCell ⟨g, 6, none⟩ (.int .u64 l.length)) A0 l.length l := Kd.C_keep (0 : Int) hr0 ((KeepBut.refl w g none).set_ 6 _) hfar
 have hv1 : StAt (w.setCell ⟨g, 6, none⟩ (.int .u64 l.length)) g sd V (.slice A1 n1 c1) l.length := Qcu hv 6 _
 have hR1 : R8 (w.setCell ⟨g, 6, none⟩ (.int .u64 l.length)) b (.slice A1 n1 c1) [] := hR.set hv (by decide) 6 _
 have hb1 : Below b w (w.setCell ⟨g, 6, none⟩ (.int .u64 l.length)) := Qga (Below.refl _ _) hbg
 have hz1 : (w.setCell ⟨g, 6, none⟩ (.int .u64 l.length)).heap.size = w.heap.size := by simp
 go_wp2_with (first | (at_builtin; refine Kd.R_append_row (Value.int .u8) (0 : Int) (h1 := fun _ => rfl) (w0 := w) b rfl (.tmp 20) (.tmp 21) 52 5 (.int .u8 0) 1 rfl Tryz.underlying52 Qft rfl (by decide) (.slice A1 n1 c1) [] l A0 l.length c0 (fun _ => True) rfl rfl (fun _ _ => trivial) ?hO ?hR ?hB ?hS ?hL ?_; (case hO => exact hR1); (case hR => exact hC1); (case hB => exact hb1); (case hS => rw [hz1]; exact hbw); (case hL => simp; omega); intro v2 w2 HR2 hb2 hg2 hat2; have hv2 := Qcz hv1 hg2 (hR1.clean hv1 (by decide)); simp only [List.nil_append] at HR2))
 have HV2 := QA (show StAt w2 g sd V (.slice A1 n1 c1) l.length from hv2)
 have HB2 := QA hb2
 obtain ⟨A2, cc2, rfl, hcc2, _⟩ := Kd.R_reads HR2
 have HQ2 := QA (Kd.Q_of_R HR2)
 clear hv2 hb2 HR2 hC1 hv1 hR1 hb1 hz1 c6 c5 f6 hr0 hfar hv hR hg2 hat2
 go_loopw [5] (fun v5 wr => ∃ (m : Nat) (l' : List Int) (V' : V4) (A : Option Addr) (c : Nat), v5 = .slice A l'.length c ∧ l'.length ≤ c ∧ l'.length ≤ l.length ∧ Aside0 (l'.length / 32 = m ∧ Qgh (l.length / 32) V l = Qgh m V' l' ∧ l.drop (32 * (l.length / 32)) = l'.drop (32 * m)) ∧ Aside0 (Q8 wr b (.slice A l'.length c) l') ∧ Aside0 (StAt wr g sd V' (.slice A1 n1 c1) l.length) ∧ Aside0 (Below b w wr))
  (fun v5 _ => lenV v5)
 case atStart => exact ⟨_, l, V, A2, cc2, rfl, hcc2, Nat.le_refl _, ⟨rfl, rfl, rfl⟩, HQ2, HV2, HB2⟩
 case round =>
  obtain ⟨m, l', V', A, c, rfl, hlc, hll, HM, HQ, HV, HB⟩ := hrel
  clear HQ2 HV2 HB2
  by_cases h32 : 32 ≤ l'.length
  ·have h32i : (32 : Int) ≤ (l'.length : Int) := by omega
   go_wp2_with fail
   go_loopw [6, 26] (fun v6 v26 wi => ∃ (i : Nat) (iv : Int), i ≤ 4 ∧ v26 = .int .i64 iv ∧ Aside0 (iv = (i : Int)) ∧ Aside0 (Q8 wi b (.slice A l'.length c) l') ∧ Aside0 (StAt wi g sd (Qgi i V' l') (.slice A1 n1 c1) l.length) ∧ Aside0 (Below b w wi))
    (fun _ v26 _ => 4 - (intOf v26).toNat)
   case atStart => exact ⟨0, 0, by omega, rfl, ⟨rfl⟩, HQ, HV, HB⟩
   case round =>
    obtain ⟨i, iv, hi, rfl, HI, HQi, HVi, HBi⟩ := hrel
    clear HQ HV HB
    by_cases h4 : i < 4
    ·have hk : i = 0 ∨ i = 1 ∨ i = 2 ∨ i = 3 := by omega
     rcases hk with rfl | rfl | rfl | rfl
     ·obtain rfl : iv = 0 := HI.out
      have cv : wr.cell? ⟨g, 1, none⟩ = some (.int .u64 V'.1) := (Qcx HVi.out 1).trans rfl
      have fv := Qcy HVi.out 1
      go_wp2_with fail
      obtain ⟨A', hcut, hA'⟩ := Qgj A l'.length c 0 0 rfl (by omega)
      have hwa : IntKind.i64.wrap 0 = 0 := IntWalk.i64_in 0 (by decide)
      have hq : ∀ q, Q8 (wr.drewN q) b (.slice A' (l'.length - 0) (c - 0)) (l'.drop 0) := fun q => hA' _ _ _ rfl (Kd.Q_drewN HQi.out q)
      have h8 : 8 ≤ (l'.drop 0).length := by rw [List.length_drop]; omega
      go_region_with (first | (go_at_call 200; refine (Qgk (hq _) h8).mono ?_; rintro e w7 ⟨rfl, hd⟩; obtain ⟨q, rfl⟩ := hd.out; clear hd) | (go_at_call 199; refine (Qgl _ _ _).mono ?_; rintro e w8 ⟨rfl, hd⟩; obtain ⟨q2, rfl⟩ := hd.out; clear hd))
      all_goals
       go_wp2_with fail
       go_roundw
       case rel => exact ⟨1, 1, by omega, by go_num, ⟨rfl⟩, ⟨Kd.Q_set (Kd.Q_drewN HQi.out _) (cells := #[.int .u64 sd, .int .u64 (Qgi 0 V' l').1, .int .u64 (Qgi 0 V' l').2.1, .int .u64 (Qgi 0 V' l').2.2.1, .int .u64 (Qgi 0 V' l').2.2.2, .slice A1 n1 c1, .int .u64 l.length]) (t := 274) HVi.out (by intro q hq; rcases List.mem_cons.1 hq with rfl | hq; decide; cases hq) _ _⟩, ⟨Qcu (w := wr.drewN _) HVi.out 1 _⟩, ⟨Qga (Qce HBi.out _) hbg⟩⟩
       case measure => simp [intOf]
     ·obtain rfl : iv = 1 := HI.out
      have cv : wr.cell? ⟨g, 2, none⟩ = some (.int .u64 V'.2.1) := (Qcx HVi.out 2).trans rfl
      have fv := Qcy HVi.out 2
      go_wp2_with fail
      obtain ⟨A', hcut, hA'⟩ := Qgj A l'.length c 8 8 rfl (by omega)
      have hwa : IntKind.i64.wrap 8 = 8 := IntWalk.i64_in 8 (by decide)
      have hq : ∀ q, Q8 (wr.drewN q) b (.slice A' (l'.length - 8) (c - 8)) (l'.drop 8) := fun q => hA' _ _ _ rfl (Kd.Q_drewN HQi.out q)
      have h8 : 8 ≤ (l'.drop 8).length := by rw [List.length_drop]; omega
      go_region_with (first | (go_at_call 200; refine (Qgk (hq _) h8).mono ?_; rintro e w7 ⟨rfl, hd⟩; obtain ⟨q, rfl⟩ := hd.out; clear hd) | (go_at_call 199; refine (Qgl _ _ _).mono ?_; rintro e w8 ⟨rfl, hd⟩; obtain ⟨q2, rfl⟩ := hd.out; clear hd))
      all_goals
       go_wp2_with fail
       go_roundw
       case rel => exact ⟨2, 2, by omega, by go_num, ⟨rfl⟩, ⟨Kd.Q_set (Kd.Q_drewN HQi.out _) (cells := #[.int .u64 sd, .int .u64 (Qgi 1 V' l').1, .int .u64 (Qgi 1 V' l').2.1, .int .u64 (Qgi 1 V' l').2.2.1, .int .u64 (Qgi 1 V' l').2.2.2, .slice A1 n1 c1, .int .u64 l.length]) (t := 274) HVi.out (by intro q hq; rcases List.mem_cons.1 hq with rfl | hq; decide; cases hq) _ _⟩, ⟨Qcu (w := wr.drewN _) HVi.out 2 _⟩, ⟨Qga (Qce HBi.out _) hbg⟩⟩
       case measure => simp [intOf]
     ·obtain rfl : iv = 2 := HI.out
      have cv : wr.cell? ⟨g, 3, none⟩ = some (.int .u64 V'.2.2.1) := (Qcx HVi.out 3).trans rfl
      have fv := Qcy HVi.out 3
      go_wp2_with fail
      obtain ⟨A', hcut, hA'⟩ := Qgj A l'.length c 16 16 rfl (by omega)
      have hwa : IntKind.i64.wrap 16 = 16 := IntWalk.i64_in 16 (by decide)
      have hq : ∀ q, Q8 (wr.drewN q) b (.slice A' (l'.length - 16) (c - 16)) (l'.drop 16) := fun q => hA' _ _ _ rfl (Kd.Q_drewN HQi.out q)
      have h8 : 8 ≤ (l'.drop 16).length := by rw [List.length_drop]; omega
      go_region_with (first | (go_at_call 200; refine (Qgk (hq _) h8).mono ?_; rintro e w7 ⟨rfl, hd⟩; obtain ⟨q, rfl⟩ := hd.out; clear hd) | (go_at_call 199; refine (Qgl _ _ _).mono ?_; rintro e w8 ⟨rfl, hd⟩; obtain ⟨q2, rfl⟩ := hd.out; clear hd))
      all_goals
       go_wp2_with fail
       go_roundw
       case rel => exact ⟨3, 3, by omega, by go_num, ⟨rfl⟩, ⟨Kd.Q_set (Kd.Q_drewN HQi.out _) (cells := #[.int .u64 sd, .int .u64 (Qgi 2 V' l').1, .int .u64 (Qgi 2 V' l').2.1, .int .u64 (Qgi 2 V' l').2.2.1, .int .u64 (Qgi 2 V' l').2.2.2, .slice A1 n1 c1, .int .u64 l.length]) (t := 274) HVi.out (by intro q hq; rcases List.mem_cons.1 hq with rfl | hq; decide; cases hq) _ _⟩, ⟨Qcu (w := wr.drewN _) HVi.out 3 _⟩, ⟨Qga (Qce HBi.out _) hbg⟩⟩
       case measure => simp [intOf]
     ·obtain rfl : iv = 3 := HI.out
      have cv : wr.cell? ⟨g, 4, none⟩ = some (.int .u64 V'.2.2.2) := (Qcx HVi.out 4).trans rfl
      have fv := Qcy HVi.out 4
      go_wp2_with fail
      obtain ⟨A', hcut, hA'⟩ := Qgj A l'.length c 24 24 rfl (by omega)
      have hwa : IntKind.i64.wrap 24 = 24 := IntWalk.i64_in 24 (by decide)
      have hq : ∀ q, Q8 (wr.drewN q) b (.slice A' (l'.length - 24) (c - 24)) (l'.drop 24) := fun q => hA' _ _ _ rfl (Kd.Q_drewN HQi.out q)
      have h8 : 8 ≤ (l'.drop 24).length := by rw [List.length_drop]; omega
      go_region_with (first | (go_at_call 200; refine (Qgk (hq _) h8).mono ?_; rintro e w7 ⟨rfl, hd⟩; obtain ⟨q, rfl⟩ := hd.out; clear hd) | (go_at_call 199; refine (Qgl _ _ _).mono ?_; rintro e w8 ⟨rfl, hd⟩; obtain ⟨q2, rfl⟩ := hd.out; clear hd))
      all_goals
       go_wp2_with fail
       go_roundw
       case rel => exact ⟨4, 4, by omega, by go_num, ⟨rfl⟩, ⟨Kd.Q_set (Kd.Q_drewN HQi.out _) (cells := #[.int .u64 sd, .int .u64 (Qgi 3 V' l').1, .int .u64 (Qgi 3 V' l').2.1, .int .u64 (Qgi 3 V' l').2.2.1, .int .u64 (Qgi 3 V' l').2.2.2, .slice A1 n1 c1, .int .u64 l.length]) (t := 274) HVi.out (by intro q hq; rcases List.mem_cons.1 hq with rfl | hq; decide; cases hq) _ _⟩, ⟨Qcu (w := wr.drewN _) HVi.out 4 _⟩, ⟨Qga (Qce HBi.out _) hbg⟩⟩
       case measure => simp [intOf]
    ·obtain rfl : i = 4 := by omega
     obtain rfl : iv = 4 := HI.out
     obtain ⟨A', hcut, hA'⟩ := Qgj A l'.length c 32 32 rfl h32
     go_wp2_with fail
     go_roundw
     case rel =>
      have e4 : Qgi 4 V' l' = Qgg V' l' := rfl
      have hm := HM.out
      have hd : (l'.drop 32).length = l'.length - 32 := List.length_drop
      refine ⟨m - 1, l'.drop 32, Qgg V' l', A', c - 32, by rw [hd], by rw [hd]; omega, by rw [hd]; omega, ⟨by rw [hd]; omega, ?_, ?_⟩, ⟨?_⟩, ⟨?_⟩, HBi⟩
      ·rw [hm.2.1, show m = (m - 1) + 1 by omega]
       rfl
      ·rw [hm.2.2, List.drop_drop]
       congr 1
       omega
      ·rw [hd]
       exact hA' _ _ _ rfl HQi.out
      ·exact HVi.out
     case measure => simp [lenV]; omega
  ·have h32i : (l'.length : Int) < 32 := by omega
   have hq' := Kd.Q_reads' HQ.out
   have cv : wr.cell? ⟨g, 5, none⟩ = some (.slice A1 n1 c1) := (Qcx HV.out 5).trans rfl
   go_wp2_with (first | (at_builtin; refine Kd.R_append_row (Value.int .u8) (0 : Int) (h1 := fun _ => rfl) (w0 := wr) b rfl (.const (.slice none 0 0)) (.tmp 50) 52 5 (.int .u8 0) 1 rfl Tryz.underlying52 Qft rfl (by decide) (.slice none 0 0) [] l' A l'.length c (fun _ => True) rfl rfl (fun _ _ => trivial) ?hO ?hR ?hB ?hS ?hL ?_; (case hO => exact Kd.R_nil _ _ _ _ _); (case hR => exact hq'.2.2); (case hB => exact Below.refl _ _); (case hS => exact Nat.le_trans hbw HB.out.size); (case hL => simp; omega); intro v3 w3 HR3 hb3 hg3 hat3; obtain ⟨A3, n3, c3, rfl⟩ := R8.shape HR3; have hv3 := Qcz (show wr.heap[g]? = _ from HV.out) hg3 (by simp [Value.ownBlock]); have fv := Qcy hv3 5; have cv3 : w3.cell? ⟨g, 5, none⟩ = some (.slice A1 n1 c1) := (Qcx hv3 5).trans rfl; (try simp only [List.nil_append] at HR3)))
   go_ret
   have hm := HM.out
   have hm0 : m = 0 := by omega
   subst hm0
   refine ⟨rfl, ⟨.slice A3 n3 c3, ?_, ?_⟩, Qga (HB.out.trans hb3) hbg⟩
   ·rw [hm.2.1]
    exact Qcu hv3 5 _
   ·rw [hm.2.2]
    simpa using R8.set HR3 hv3 (by decide) 5 _
set_option maxRecDepth 100000 in
set_option maxHeartbeats 1000000 in
theorem sum_of (a0 : Int) (A1 : Option Addr) (c1 : Nat) (l1 : List Int) (w : World) (hr1 : Kd.C (Kd.int .u8) w A1 l1.length l1) (hl : l1.length ≤ 140737488355328) :
  Calls Tryz.prog 101 #[.int .u64 a0, .slice A1 l1.length c1] w fun e w' => e = .returned (.int .u64 (Qhn a0 l1)) ∧ Below w.heap.size w w' := by
 go_enter Tryz.func101, Tryz.ntmps101
 go_wp2_with (first | (go_at_call 155; refine (st_New a0 w).mono ?_; rintro e w1 ⟨rfl, ⟨rv, hv, hR⟩, hb1⟩; have hv1 : StAt w1 w.heap.size a0 (IntKind.u64.wrap (IntKind.u64.wrap (a0 + Q1) + Q2), IntKind.u64.wrap (a0 + Q2), a0, IntKind.u64.wrap (a0 - Q1)) rv 0 := hv; have hr := Kd.C_below hr1 hb1; have hf := Kd.far_C (0 : Int) hr1 (Nat.le_refl w.heap.size)) | (go_at_call 156; refine (st_Write w.heap.size w.heap.size a0 _ rv A1 c1 l1 w1 hr hf hv1 hR (Nat.le_refl _) hb1.size hl).mono ?_; rintro e w2 ⟨rfl, ⟨rv2, hv2, hR2⟩, hb2⟩) | (go_at_call 157; refine (st_Sum w.heap.size w.heap.size a0 _ rv2 _ _ w2 hv2 (Kd.Q_of_R hR2)).mono ?_; rintro e w3 ⟨rfl, hb3⟩))
 go_ret
 exact ⟨rfl, (hb1.trans hb2).trans (Qgb hb3 (Nat.le_trans hb1.size hb2.size))⟩
theorem sum_of' (a0 : Int) (A1 : Option Addr) (c1 n : Nat) (l1 : List Int) (w : World) (hn : n = l1.length) (hr1 : Kd.C (Kd.int .u8) w A1 n l1) (hl : n ≤ 140737488355328) :
  Calls Tryz.prog 101 #[.int .u64 a0, .slice A1 n c1] w fun e w' => e = .returned (.int .u64 (Qhn a0 l1)) ∧ Below w.heap.size w w' := by
 subst hn
 exact sum_of a0 A1 c1 l1 w hr1 hl
set_option maxRecDepth 100000 in
set_option maxHeartbeats 1000000 in
theorem hash_of (s : ByteArray) (w : World) (hl : s.size ≤ 140737488355328) :
  Calls Tryz.prog 60 #[.string s] w fun e w' => e = .returned (.int .u64 (Qhn 0 (bytesOf s))) ∧ Below w.heap.size w w' := by
 have kb := fun W => Qco (P := Tryz.prog) 9 52 5 Tryz.underlying9 Tryz.underlying52 Tryz.underlying5 s W
 have hbb := Qcp (Below.refl w.heap.size w) (Nat.le_refl _) 5 s
 go_enter Tryz.func60, Tryz.ntmps60
 go_wp2_with (go_at_call 101; refine (sum_of' 0 _ _ s.size (bytesOf s) (Lib.bytesWorld w 5 s) (Qcm s).symm (bytes_C w s (by omega)) hl).mono ?_; rintro e w1 ⟨rfl, hb1⟩)
 go_ret
 exact ⟨rfl, Qcf hbb hbb.size hb1⟩
theorem u64_wrap (x : Int) : 0 ≤ IntKind.u64.wrap x ∧ IntKind.u64.wrap x < 18446744073709551616 := by
 simp [IntKind.wrap, IntKind.signed, IntKind.bits]
 omega
theorem u64_bits (op : BinOp) (x y : Int) : 0 ≤ Go.bits op .u64 x y ∧ Go.bits op .u64 x y < 18446744073709551616 := by
 unfold Go.bits
 split <;> exact u64_wrap _
theorem Qho (sd : Int) (l : List Int) : 0 ≤ Qhn sd l ∧ Qhn sd l < 18446744073709551616 := by
 unfold Qhn sumP finP
 split <;> exact u64_bits _ _ _
def Qhp (b : List Int) : List Int := Qgw (b ++ leb (Qhn 0 b) 8) ++ [0]
theorem Qhq : ∀ (n : Nat) (b : List Int), b.length ≤ n → (Qgw b).length ≤ 2 * b.length + 1
 | n, b, h => by
  rcases Int.lt_or_le (ixOf (b.take 254) 0) 0 with h0 | h0
  ·by_cases hl : 254 < b.length
   ·rw [Qha h0 hl]
    have hd : (b.drop 254).length < b.length := by rw [List.length_drop]; omega
    cases n with
    | zero => omega
    | succ n =>
     have := Qhq n (b.drop 254) (by omega)
     simp only [List.length_cons, List.length_append, List.length_take, List.length_drop] at this ⊢
     omega
   ·rw [Qhb h0 hl]
    simp
    omega
  ·obtain ⟨p, hp⟩ := Int.eq_ofNat_of_zero_le h0
   have h1 := (Qgu (b.take 254) 0).2
   rw [hp, List.length_take] at h1
   rw [Qgz hp]
   cases n with
   | zero => omega
   | succ n =>
    have := Qhq n (b.drop (p + 1)) (by rw [List.length_drop]; omega)
    simp only [List.length_cons, List.length_append, List.length_take, List.length_drop] at this ⊢
    omega
theorem R8.reads {W : World} {b : Nat} {v : Value} {xs : List Int} (h : R8 W b v xs) : ∃ A n c, v = .slice A n c ∧ Aside0 (n = xs.length) ∧ n ≤ c ∧ Kd.C (Kd.int .u8) W A n xs := by
 obtain ⟨A, c, e, h1, h2⟩ := Kd.R_reads h
 exact ⟨A, _, c, e, ⟨rfl⟩, h1, h2⟩
theorem stuff_at (A : Option Addr) (n c : Nat) (l : List Int) (w : World) (hC : Kd.C (Kd.int .u8) w A n l) (hc : n ≤ c) (hl : l.length ≤ 35184372088832) :
  Calls Tryz.prog 152 #[.slice A n c] w fun e w' => ∃ v0_ : Value, e = .returned (v0_) ∧ R8 w' w.heap.size v0_ (Qgw l) ∧ Below w.heap.size w w' := by
 have hn := hC.1
 subst hn
 exact stuff_of A c l w hC hc hl
theorem seal_len (l : List Int) : ([] ++ l ++ leb (Qhn 0 l) 8).length = l.length + 8 := by simp [Qfz]
set_option maxRecDepth 100000 in
set_option maxHeartbeats 2000000 in
theorem seal_of (A0 : Option Addr) (c0 : Nat) (l0 : List Int) (w : World) (hr0 : Kd.C (Kd.int .u8) w A0 l0.length l0) (hl : l0.length ≤ 35184372088824) :
  Calls Tryz.prog 96 #[.slice A0 l0.length c0] w fun e w' => ∃ v0_ : Value, e = .returned (v0_) ∧ R8 w' w.heap.size v0_ (Qhp l0) ∧ Below w.heap.size w w' := by
 have hI0 := QA (IsBuf.new w w.heap.size)
 have hb0 : Below w.heap.size w (w.alloc (.cells #[.slice none 0 0] 167)) := Qcc (Below.refl _ _) _
 have hz0 : w.heap.size ≤ (w.alloc (.cells #[.slice none 0 0] 167)).heap.size := hb0.size
 have hC0 := Kd.C_below hr0 hb0
 have hh := Qho 0 l0
 go_enter Tryz.func96, Tryz.ntmps96
 go_wp2_with (first
  | (go_at_call 150; refine (buf_Raw w.heap.size w.heap.size A0 c0 l0 [] _ hC0 (Nat.le_refl _) hz0 hI0.out (by simp; omega)).mono ?_; rintro e w1 ⟨rfl, hI1, hb1⟩; have hC1 := Kd.C_below hr0 (hb0.trans hb1.1))
  | (go_at_call 101; refine (sum_of 0 A0 c0 l0 w1 hC1 (by omega)).mono ?_; rintro e w2 ⟨rfl, hb2⟩; have hI2 := hI1.kept hb2)
  | (go_at_call 151; refine (Qgd w.heap.size w.heap.size _ _ w2 hh.1 hh.2 (Nat.le_refl _) (Nat.le_trans (Nat.le_trans hz0 hb1.size) hb2.size) hI2 (by simp; omega)).mono ?_; rintro e w3 ⟨rfl, hI3, hb3⟩)
  | (go_at_call 97; refine (Qge w.heap.size w.heap.size _ w3 hI3 (by rw [seal_len]; omega)).mono ?_; rintro e w4 ⟨v4, rfl, hR4, hb4⟩; obtain ⟨A4, n4, c4, rfl, hn4, hlc4, hC4⟩ := R8.reads hR4)
  | (go_at_call 152; refine (stuff_at A4 n4 c4 _ w4 hC4 hlc4 (by rw [seal_len]; omega)).mono ?_; rintro e w5 ⟨v5, rfl, hR5, hb5⟩; have HR5 := QA hR5; have hz5 : w.heap.size ≤ w5.heap.size := Nat.le_trans (Nat.le_trans (Nat.le_trans (Nat.le_trans (Nat.le_trans hz0 hb1.size) hb2.size) hb3.size) hb4.size) hb5.size; have hB5 := QA (show Below w.heap.size w w5 from ((((hb0.trans hb1.1).trans (Qgb hb2 (Nat.le_trans hz0 hb1.size))).trans hb3.1).trans (Qgb hb4 (Nat.le_trans (Nat.le_trans (Nat.le_trans hz0 hb1.size) hb2.size) hb3.size))).trans (Qgb hb5 (Nat.le_trans (Nat.le_trans (Nat.le_trans (Nat.le_trans hz0 hb1.size) hb2.size) hb3.size) hb4.size))); clear hR5)
  | (at_builtin; refine Kd.R_append (Kd.int .u8) (w0 := w) w.heap.size rfl (.tmp 10) (.tmp 11) 52 5 (.int .u8 0) 1 rfl Tryz.underlying52 Qft rfl (by decide) (by omega) v5 (Qgw ([] ++ l0 ++ leb (Qhn 0 l0) 8)) 0 [.int .u8 0] (fun _ => True) (fun _ => False) rfl ?ax ?aP (fun _ hk => hk.elim) ?aF ?aO ?aB ?aS ?aL ?_; (case ax => rfl); (case aP => rfl); (case aF => exact fun _ _ => trivial); (case aO => exact HR5.out.low (Nat.le_trans (Nat.le_trans (Nat.le_trans (Nat.le_trans hz0 hb1.size) hb2.size) hb3.size) hb4.size)); (case aB => exact hB5.out); (case aS => exact hz5); (case aL => have := Qhq _ ([] ++ l0 ++ leb (Qhn 0 l0) 8) (Nat.le_refl _); rw [seal_len] at this; omega); intro v6 w6 HR6 hb6 hg6 hat6))
 go_ret
 exact ⟨v6, rfl, HR6, hb6⟩
def Qbi.f (l0 : List Int) : Option (List Int) := if l0.length ≤ 35184372088824 then some (Qhp l0) else none
theorem Qbi.calls (A0 : Option Addr) (c0 : Nat) (l0 : List Int) (r : List Int) (w : World) (hr0 : Kd.C (Kd.int .u8) w A0 l0.length l0) (hc0 : l0.length ≤ c0) (h : Qbi.f l0 = some r) :
  Calls Tryz.prog 96 #[.slice A0 l0.length c0] w fun e w' => ∃ v0_ : Value, e = .returned (v0_) ∧ Kd.R (Kd.int .u8) 5 w' w.heap.size (fun _ => True) v0_ r ∧ Below w.heap.size w w' := by
 unfold Qbi.f at h
 by_cases hl : l0.length ≤ 35184372088824
 ·rw [if_pos hl] at h
  cases h
  exact seal_of A0 c0 l0 w hr0 hl
 ·rw [if_neg hl] at h; cases h
def Qhr (e s n : Int) : List Int := Qhp ([1, 2, e] ++ vput 9 s ++ vput 9 n)
def Qbg.f (a0_0 a0_1 a1 : Int) : Option (List Int × Int) :=
 (Qbk.f a0_0 a0_1 a1).bind fun e => if e = 0 then (if 0 ≤ a0_0 ∧ a0_0 < 256 ∧ 0 ≤ a0_1 ∧ a0_1 < 4294967296 ∧ 0 ≤ a1 ∧ a1 < 4294967296 then some (Qhr a0_0 a0_1 a1, 0) else none) else some ([], e)
theorem seal_at (A : Option Addr) (n c : Nat) (l : List Int) (w : World) (hC : Kd.C (Kd.int .u8) w A n l) (hl : l.length ≤ 35184372088824) :
  Calls Tryz.prog 96 #[.slice A n c] w fun e w' => ∃ v0_ : Value, e = .returned (v0_) ∧ R8 w' w.heap.size v0_ (Qhp l) ∧ Below w.heap.size w w' := by
 have hn := hC.1
 subst hn
 exact seal_of A c l w hC hl
theorem box2 {W : World} {B : Nat} {e s : Int} (h : W.heap[B]? = some (.cells #[.int .u8 e, .int .u32 s] 27 (0, 0))) : W.cell? ⟨B, 0, none⟩ = some (.int .u8 e) ∧ W.cell? ⟨B, 1, none⟩ = some (.int .u32 s) :=
 ⟨(Qcx h 0).trans rfl, (Qcx h 1).trans rfl⟩
set_option maxRecDepth 100000 in
set_option maxHeartbeats 2000000 in
theorem head_of (e s n : Int) (w : World) (hc : Qbk.f e s n = some 0) (he0 : 0 ≤ e) (he1 : e < 256) (hs0 : 0 ≤ s) (hs1 : s < 4294967296) (hn0 : 0 ≤ n) (hn1 : n < 4294967296) :
  Calls Tryz.prog 53 #[.agg #[.int .u8 e, .int .u32 s], .int .u32 n] w fun ee w' => ∃ v0_ : Value, ee = .returned (.tuple #[v0_, .int .i64 0]) ∧ R8 w' w.heap.size v0_ (Qhr e s n) ∧ Below w.heap.size w w' := by
 have hu := Tryz.underlying27
 have hl1 := Qhc 9 s
 have hl2 := Qhc 9 n
 have HC := QA hc
 clear hc
 have hba : Below w.heap.size w (w.alloc (.cells #[.int .u8 e, .int .u32 s] 27)) := Qcc (Below.refl _ _) _
 have hbn := Qdh w (.cells #[.int .u8 e, .int .u32 s] 27)
 go_enter Tryz.func53, Tryz.ntmps53
 go_wp2_with (first
  | (go_at_call 93; refine (Qbk.calls e s n 0 _ HC.out).mono ?_; rintro ee w1 ⟨rfl, hb1⟩; have hk1 := Qdg hbn hb1; have hw1 := QA (Qcf hba hba.size hb1); have hs1' := QA (show w.heap.size < w1.heap.size from Qcw hk1); have HI1 := QA (IsBuf.new w1 w.heap.size); have hk1' := Qdd hk1 (.cells #[.slice none 0 0] 167); obtain ⟨c0, c1⟩ := box2 hk1'; clear hk1 hb1 hbn hba))
 obtain ⟨W, hW⟩ : ∃ W, W = w1.alloc (.cells #[.slice none 0 0] 167) := ⟨_, rfl⟩
 have hbW : Below w1.heap.size w1 W := by rw [hW]; exact Qcc (Below.refl _ _) _
 rw [← hW] at hk1' c0 c1 HI1 ⊢
 clear hW
 have hkd := Qdg hk1' (Qcd (Below.refl W.heap.size W))
 have hId := HI1.out.kept (Qcd (Below.refl W.heap.size W))
 obtain ⟨j0, j1⟩ := box2 hkd
 have hg := Nat.le_of_lt hs1'.out
 have hzd : w.heap.size ≤ W.drew.heap.size := Nat.le_trans hg hbW.size
 have hne := Nat.ne_of_lt hs1'.out
 go_region_held3 (fun w' => w'.cell? ⟨w.heap.size, 0, none⟩ = some (.int .u8 e) ∧ w'.cell? ⟨w.heap.size, 1, none⟩ = some (.int .u32 s)) (first | exact ⟨j0, j1⟩ | exact ⟨i0, i1⟩ | exact ⟨i2, i3⟩ | exact ⟨i4, i5⟩) (first
  | (go_at_call_of 94 (Value.int .u8 1); refine (Qgc w.heap.size w1.heap.size 1 [] W.drew (by decide) (by decide) hg hzd hId (by simp)).mono ?_; rintro ee w2 ⟨rfl, hI2, hb2⟩; have hk2 := hb2.2 _ _ _ hkd (by decide) hne; obtain ⟨i0, i1⟩ := box2 hk2)
  | (go_at_call_of 94 (Value.int .u8 2); refine (Qgc w.heap.size w1.heap.size 2 ([] ++ [1]) w2 (by decide) (by decide) hg (Nat.le_trans hzd hb2.size) hI2 (by simp)).mono ?_; rintro ee w3 ⟨rfl, hI3, hb3⟩; have hk3 := hb3.2 _ _ _ hk2 (by decide) hne; obtain ⟨i2, i3⟩ := box2 hk3)
  | (go_at_call_of 94 (Value.int .u8 e); refine (Qgc w.heap.size w1.heap.size e ([] ++ [1] ++ [2]) w3 he0 he1 hg (Nat.le_trans (Nat.le_trans hzd hb2.size) hb3.size) hI3 (by simp)).mono ?_; rintro ee w4 ⟨rfl, hI4, hb4⟩; have hk4 := hb4.2 _ _ _ hk3 (by decide) hne; obtain ⟨i4, i5⟩ := box2 hk4))
 have hz4 : w.heap.size ≤ w4.heap.size := Nat.le_trans (Nat.le_trans (Nat.le_trans hzd hb2.size) hb3.size) hb4.size
 have HB4 := QA (show Below w.heap.size w w4 from ((((hw1.out.trans (Qgb hbW hg)).trans (Qgb (Qcd (Below.refl W.heap.size W)) (Nat.le_trans hg hbW.size))).trans hb2.1).trans hb3.1).trans hb4.1)
 clear i0 i1 i2 i3 j0 j1 hk2 hk3 hb2 hb3 hb4 hI2 hI3 hkd hId
 go_wp2_with (first
  | (go_at_call_of 95 (Value.int .u64 s); refine (Qhd w.heap.size w1.heap.size s _ w4 hs0 (by omega) hg hz4 hI4 (by simp)).mono ?_; rintro ee w5 ⟨⟨_, rfl⟩, hI5, hb5⟩)
  | (go_at_call_of 95 (Value.int .u64 n); refine (Qhd w.heap.size w1.heap.size n _ w5 hn0 (by omega) hg (Nat.le_trans hz4 hb5.size) hI5 (by simp; omega)).mono ?_; rintro ee w6 ⟨⟨_, rfl⟩, hI6, hb6⟩)
  | (go_at_call 97; refine (Qge w.heap.size w1.heap.size _ w6 hI6 (by simp; omega)).mono ?_; rintro ee w7 ⟨v7, rfl, hR7, hb7⟩; obtain ⟨A7, n7, c7, rfl, hn7, hlc7, hC7⟩ := R8.reads hR7)
  | (go_at_call 96; refine (seal_at A7 n7 c7 _ w7 hC7 (by simp; omega)).mono ?_; rintro ee w8 ⟨v8, rfl, hR8, hb8⟩))
 refine bodyPost_ret (results_tmp2 rfl _ _ _) rfl ?_
 have hz6 : w.heap.size ≤ w6.heap.size := Nat.le_trans (Nat.le_trans hz4 hb5.size) hb6.size
 have hz7 : w.heap.size ≤ w7.heap.size := Nat.le_trans hz6 hb7.size
 exact ⟨v8, rfl, R8.low hR8 hz7, (((HB4.out.trans hb5.1).trans hb6.1).trans (Qgb hb7 hz6)).trans (Qgb hb8 hz7)⟩
set_option maxRecDepth 100000 in
set_option maxHeartbeats 1000000 in
theorem head_not (e s n c : Int) (w : World) (hc : Qbk.f e s n = some c) (hn : c ≠ 0) :
  Calls Tryz.prog 53 #[.agg #[.int .u8 e, .int .u32 s], .int .u32 n] w fun ee w' => ∃ v0_ : Value, ee = .returned (.tuple #[v0_, .int .i64 c]) ∧ R8 w' w.heap.size v0_ [] ∧ Below w.heap.size w w' := by
 have hu := Tryz.underlying27
 have HC := QA hc
 clear hc
 have hn1 : (c == 0) = false := by simpa using hn
 have hn2 : (c != 0) = true := by simpa using hn
 have hba : Below w.heap.size w (w.alloc (.cells #[.int .u8 e, .int .u32 s] 27)) := Qcc (Below.refl _ _) _
 go_enter Tryz.func53, Tryz.ntmps53
 go_wp2_with (go_at_call 93; refine (Qbk.calls e s n c _ HC.out).mono ?_; rintro ee w1 ⟨rfl, hb1⟩)
 refine bodyPost_ret (results_tmp2 rfl _ _ _) rfl ?_
 exact ⟨_, rfl, Kd.R_nil _ _ _ _ _, Qcf hba hba.size hb1⟩
theorem Qbg.calls (a0_0 a0_1 a1 : Int) (r1 : List Int) (r2 : Int) (w : World) (h : Qbg.f a0_0 a0_1 a1 = some (r1, r2)) :
  Calls Tryz.prog 53 #[.agg #[.int .u8 a0_0, .int .u32 a0_1], .int .u32 a1] w fun e w' => ∃ v0_ : Value, e = .returned (.tuple #[v0_, .int .i64 r2]) ∧ Kd.R (Kd.int .u8) 5 w' w.heap.size (fun _ => True) v0_ r1 ∧ Below w.heap.size w w' := by
 unfold Qbg.f at h
 obtain ⟨c, hc, h⟩ := Option.bind_eq_some_iff.mp h
 by_cases h0 : c = 0
 ·subst h0
  rw [if_pos rfl] at h
  by_cases h1 : 0 ≤ a0_0 ∧ a0_0 < 256 ∧ 0 ≤ a0_1 ∧ a0_1 < 4294967296 ∧ 0 ≤ a1 ∧ a1 < 4294967296
  ·rw [if_pos h1] at h
   cases h
   exact head_of _ _ _ w hc h1.1 h1.2.1 h1.2.2.1 h1.2.2.2.1 h1.2.2.2.2.1 h1.2.2.2.2.2
  ·rw [if_neg h1] at h; cases h
 ·rw [if_neg h0] at h
  cases h
  exact head_not _ _ _ _ w hc h0
end Go.Proofs.YtnnofopfbeklbaaGreat.C
end
