/- Texts of this claim's author and of the print of its functions, merged by merge.py. -/
import Derived.Test.YtnnofopfbeklbaaGreatMC02
import Derived.Test.YtnnofopfbeklbaaGreatMC07
import Derived.Test.YtnnofopfbeklbaaGreatMC16
import Derived.Test.YtnnofopfbeklbaaGreatMC17
import Derived.Test.YtnnofopfbeklbaaGreatMC23
import Derived.Test.YtnnofopfbeklbaaGreatMC03
set_option linter.unusedVariables false
set_option linter.unusedSimpArgs false
section
namespace Go.Proofs.YtnnofopfbeklbaaGreat.C
open Go.RowKit Go.Proofs.YtnnofopfbeklbaaGreatW.PrintWords Go.Proofs.YtnnofopfbeklbaaGreatW.PrintLast Go.Proofs.YtnnofopfbeklbaaGreatW.PrintMore
attribute [local go_sem] Qfg Qfh Qfi Qfj Qfk Qfl Qfm Qfn
mutual
def Qap.j0 : Nat → Int → List (S39) → Bool → Option (Bool)
 | 0, _, _, _ => none
 | k + 1, x0, x1, x22 => if x22 = true then ((Qaq.f).bind fun t400 => (some t400)) else ((Qao.f x0).bind fun bt401 => ((Qbl.f k bt401.1 bt401.2 x1).bind fun bt404 => ((Qbm.f k bt401.1 bt401.2 x1).bind fun bt408 => ((Qbn.f k bt401.1 bt401.2 x1).bind fun bt412 => (if bt404.2 = bt408.2 then (Qap.j1 k x1 bt404.1 bt404.2 bt408.1 bt412.1 (bt404.2 != bt412.2) bt401.1 bt401.2) else (Qap.j1 k x1 bt404.1 bt404.2 bt408.1 bt412.1 true bt401.1 bt401.2))))))
def Qap.j1 : Nat → List (S39) → List Int → Int → List (S69) → Int → Bool → Int → Int → Option (Bool)
 | 0, _, _, _, _, _, _, _, _ => none
 | k + 1, x1, x6, x7, x8, x10, x51, x404000, x404001 => if x51 = true then (some false) else (if x7 = 0 then (if (x8.length : Int) = (x1.length : Int) then (if 0 ≤ x404000 then (Qap.j2 k x1 x6 x8 x10 ((x6.length : Int) != (shl .i64 (wrap64 (x10)) x404000)) x404000 x404001) else (none)) else (Qap.j2 k x1 x6 x8 x10 true x404000 x404001)) else (if (x6.length : Int) = 0 then (if (x8.length : Int) = 0 then (some (x10 == 0)) else (some false)) else (some false)))
def Qap.j2 : Nat → List (S39) → List Int → List (S69) → Int → Bool → Int → Int → Option (Bool)
 | 0, _, _, _, _, _, _, _ => none
 | k + 1, x1, x6, x8, x10, x80, x404000, x404001 => if x80 = true then (some false) else (Qap.l0 k x1 x6 x10 x8 (x8.length : Int) 0 x404000 x404001)
def Qap.l0 : Nat → List (S39) → List Int → Int → List (S69) → Int → Int → Int → Int → Option (Bool)
 | 0, _, _, _, _, _, _, _, _ => none
 | k + 1, x1, x6, x10, x81, x82, x83, x404000, x404001 => if x83 < x82 then (if 0 ≤ x83 then (if x83 < (x81.length : Int) then (if x83 < (x1.length : Int) then ((Qbc.f k ((Qfu x1 x83).f0) ((Qfu x1 x83).f1) ((Qfu x1 x83).f2) ((Qfu x1 x83).f3)).bind fun t417 => (if 0 ≤ x404000 then (if ((Qfy x81 x83).f0) ≥ x10 then (some false) else (if (wrap64 ((wrap64 ((shl .i64 (wrap64 ((Qfy x81 x83).f0)) x404000) + (wrap64 ((Qfy x81 x83).f1)))) + (t417.size : Int))) > (x6.length : Int) then (some false) else (if 0 ≤ (wrap64 ((shl .i64 (wrap64 ((Qfy x81 x83).f0)) x404000) + (wrap64 ((Qfy x81 x83).f1)))) then (if (wrap64 ((shl .i64 (wrap64 ((Qfy x81 x83).f0)) x404000) + (wrap64 ((Qfy x81 x83).f1)))) ≤ (wrap64 ((wrap64 ((shl .i64 (wrap64 ((Qfy x81 x83).f0)) x404000) + (wrap64 ((Qfy x81 x83).f1)))) + (t417.size : Int))) then (if (wrap64 ((wrap64 ((shl .i64 (wrap64 ((Qfy x81 x83).f0)) x404000) + (wrap64 ((Qfy x81 x83).f1)))) + (t417.size : Int))) ≤ (x6.length : Int) then (if (strOfNums ((x6.take ((wrap64 ((wrap64 ((shl .i64 (wrap64 ((Qfy x81 x83).f0)) x404000) + (wrap64 ((Qfy x81 x83).f1)))) + (t417.size : Int))) : Int).toNat).drop ((wrap64 ((shl .i64 (wrap64 ((Qfy x81 x83).f0)) x404000) + (wrap64 ((Qfy x81 x83).f1)))) : Int).toNat)).toList = t417.toList then (Qap.l0 k x1 x6 x10 x81 x82 (wrap64 (x83 + 1)) x404000 x404001) else (some false)) else (none)) else (none)) else (none)))) else (none))) else (none)) else (none)) else (none)) else (some true)
end
def Qap.f (k : Nat) (a0 : Int) (l1 : List (S39)) : Option (Bool) := (Qaq.f).bind fun t398 => (if t398 = true then ((Qam.f k l1 40 2000).bind fun t399 => (Qap.j0 k a0 l1 (!t399))) else (Qap.j0 k a0 l1 true))
set_option maxHeartbeats 8000000 in
set_option maxRecDepth 100000 in
theorem Qap.calls (k : Nat) (a0 : Int) (A1 : Option Addr) (c1 : Nat) (l1 : List (S39)) (r : Bool) (w : World) (hr1 : Kd.C k39 w A1 l1.length l1) (hc1 : l1.length ≤ c1) (h : Qap.f k a0 l1 = some r) :
  Calls Tryz.prog 6 #[.int .u8 a0, .slice A1 l1.length c1] w fun e w' => e = .returned (.bool r) ∧ Below w.heap.size w w' := by
 have hu27 := Tryz.underlying27
 have hu69 := Tryz.underlying69
 have hu39 := Tryz.underlying39
 have HR1 := QA hr1
 have HC1 := QA hc1
 clear hr1 hc1
 have HB := QA (Below.refl w.heap.size w)
 have H : ((Qaq.f).bind fun t398 => (if t398 = true then ((Qam.f k l1 40 2000).bind fun t399 => (Qap.j0 k a0 l1 (!t399))) else (Qap.j0 k a0 l1 true))) = some r := h
 clear h
 have HC3 := QA H
 clear H
 go_enter Tryz.func6, Tryz.ntmps6
 go_upto_region 1 with (fail)
 go_cut [22] (fun v22 wc => ∃ (kq : Nat) (x22_2 : Bool), v22 = .bool x22_2 ∧ Aside0 (Qap.j0 kq a0 l1 x22_2 = some r) ∧ Aside0 (kq ≤ k) ∧ Aside0 (Below w.heap.size w wc))
 case first =>
  have H := HC3.out
  clear HC3
  replace H := Option.bind_eq_some_iff.mp H
  obtain ⟨t398, A40, H⟩ := H
  replace H : (if t398 = true then ((Qam.f k l1 40 2000).bind fun t399 => (Qap.j0 k a0 l1 (!t399))) else (Qap.j0 k a0 l1 true)) = some r := H
  have A4 := QA A40
  clear A40
  by_cases c5 : t398 = true
  ·subst c5
   have H1 : ((Qam.f k l1 40 2000).bind fun t399 => (Qap.j0 k a0 l1 (!t399))) = some r := by rw [if_pos rfl] at H; exact H
   clear H
   have H := H1
   clear H1
   replace H := Option.bind_eq_some_iff.mp H
   obtain ⟨t399, A60, H⟩ := H
   replace H : (Qap.j0 k a0 l1 (!t399)) = some r := H
   have A6 := QA A60
   clear A60
   have H' := QA H
   clear H
   go_wp2_with (first | ((with_reducible refine Qfo (f := 32) rfl ?_); refine Qej (some 16) rfl rfl Tryz.func32 (by kernel_rfl) rfl #[] rfl (by (try simp only [List.map_toArray, List.map_cons, List.map_nil]); first | done | rfl | (simp only [List.length_drop, List.length_take]; rfl)) ?_; (with_reducible refine (Qaq.calls  true _ A4.out).mono ?_); rintro e w7 ⟨rfl, hb⟩; refine ⟨_, rfl, ?_⟩; have n0_ := QA (Qdo (by repeat (first | (with_reducible first | exact HB.out | apply Qcc | apply Qce | apply Qdt) | exact HB.out)) hb); clear HB; have HB := n0_; clear n0_; (try clear hb); (try clear hb2); (try clear hk); (try clear hi)) | (go_at_call 16; (with_reducible refine (Qam.calls k _ _ l1 40 2000 t399 _ ?side1 ?side2 A6.out).mono ?_); (case side1 => repeat (first | exact (Kd.C_below HR1.out HB.out) | (with_reducible refine Kd.C_alloc ?_ _) | (with_reducible refine Kd.C_drewN ?_ _) | (with_reducible refine Kd.C_drew ?_))); (case side2 => exact HC1.out); rintro e w8 ⟨rfl, hb⟩; have n0_ := QA (Qdo (by repeat (first | (with_reducible first | exact HB.out | apply Qcc | apply Qce | apply Qdt) | exact HB.out)) hb); clear HB; have HB := n0_; clear n0_; (try clear hb); (try clear hb2); (try clear hk); (try clear hi)))
   go_meet
   case rel => exact ⟨_, (!t399), (by first | rfl | (simp; done) | (simp [*]; done)), H', ⟨by first | omega | exact Nat.le_refl _⟩, ⟨by repeat (first | (with_reducible first | exact HB.out | apply Qcc | apply Qce | apply Qdt) | exact HB.out)⟩⟩
  ·replace c5 := Bool.eq_false_iff.mpr c5
   subst c5
   have H1 : (Qap.j0 k a0 l1 true) = some r := by rw [if_neg (show ¬ (false = true) by decide)] at H; exact H
   clear H
   have H := H1
   clear H1
   have H' := QA H
   clear H
   go_wp2_with (first | ((with_reducible refine Qfo (f := 32) rfl ?_); refine Qej (some 16) rfl rfl Tryz.func32 (by kernel_rfl) rfl #[] rfl (by (try simp only [List.map_toArray, List.map_cons, List.map_nil]); first | done | rfl | (simp only [List.length_drop, List.length_take]; rfl)) ?_; (with_reducible refine (Qaq.calls  false _ A4.out).mono ?_); rintro e w9 ⟨rfl, hb⟩; refine ⟨_, rfl, ?_⟩; have n0_ := QA (Qdo (by repeat (first | (with_reducible first | exact HB.out | apply Qcc | apply Qce | apply Qdt) | exact HB.out)) hb); clear HB; have HB := n0_; clear n0_; (try clear hb); (try clear hb2); (try clear hk); (try clear hi)))
   go_meet
   case rel => exact ⟨_, (true), (by first | rfl | (simp; done) | (simp [*]; done)), H', ⟨by first | omega | exact Nat.le_refl _⟩, ⟨by repeat (first | (with_reducible first | exact HB.out | apply Qcc | apply Qce | apply Qdt) | exact HB.out)⟩⟩
 case rest =>
  clear HC3
  try clear c1
  try clear c5
  obtain ⟨kq, x22_2, rfl, HA, HJ2, HB⟩ := hcut
  cases kq with
  | zero => exact absurd HA.out (by simp [Qap.j0])
  | succ kj2 =>
   have H := HA.out
   clear HA
   simp only [Qap.j0] at H
   by_cases c10 : x22_2 = true
   ·subst c10
    have H1 : ((Qaq.f).bind fun t400 => (some t400)) = some r := by rw [if_pos rfl] at H; exact H
    clear H
    have H := H1
    clear H1
    replace H := Option.bind_eq_some_iff.mp H
    obtain ⟨t400, A110, H⟩ := H
    replace H : (some t400) = some r := H
    have A11 := QA A110
    clear A110
    obtain rfl := Option.some.inj H
    go_wp2_with (first | ((with_reducible refine Qfo (f := 32) rfl ?_); refine Qej (some 23) rfl rfl Tryz.func32 (by kernel_rfl) rfl #[] rfl (by (try simp only [List.map_toArray, List.map_cons, List.map_nil]); first | done | rfl | (simp only [List.length_drop, List.length_take]; rfl)) ?_; (with_reducible refine (Qaq.calls  t400 _ A11.out).mono ?_); rintro e w12 ⟨rfl, hb⟩; refine ⟨_, rfl, ?_⟩; have n0_ := QA (Qdo (by repeat (first | (with_reducible first | exact HB.out | apply Qcc | apply Qce | apply Qdt) | exact HB.out)) hb); clear HB; have HB := n0_; clear n0_; (try clear hb); (try clear hb2); (try clear hk); (try clear hi)))
    go_ret
    exact ⟨by first | rfl | (simp [Qfr, Qfs] <;> rfl) | (simp [*, Qfr, Qfs] <;> rfl), by repeat (first | (with_reducible first | exact HB.out | apply Qcc | apply Qce | apply Qdt) | exact HB.out)⟩
   ·replace c10 := Bool.eq_false_iff.mpr c10
    subst c10
    have H1 : ((Qao.f a0).bind fun bt401 => ((Qbl.f kj2 bt401.1 bt401.2 l1).bind fun bt404 => ((Qbm.f kj2 bt401.1 bt401.2 l1).bind fun bt408 => ((Qbn.f kj2 bt401.1 bt401.2 l1).bind fun bt412 => (if bt404.2 = bt408.2 then (Qap.j1 kj2 l1 bt404.1 bt404.2 bt408.1 bt412.1 (bt404.2 != bt412.2) bt401.1 bt401.2) else (Qap.j1 kj2 l1 bt404.1 bt404.2 bt408.1 bt412.1 true bt401.1 bt401.2)))))) = some r := by rw [if_neg (show ¬ (false = true) by decide)] at H; exact H
    clear H
    have H := H1
    clear H1
    replace H := Option.bind_eq_some_iff.mp H
    obtain ⟨⟨t401, t402⟩, A130, H⟩ := H
    replace H : ((Qbl.f kj2 t401 t402 l1).bind fun bt404 => ((Qbm.f kj2 t401 t402 l1).bind fun bt408 => ((Qbn.f kj2 t401 t402 l1).bind fun bt412 => (if bt404.2 = bt408.2 then (Qap.j1 kj2 l1 bt404.1 bt404.2 bt408.1 bt412.1 (bt404.2 != bt412.2) t401 t402) else (Qap.j1 kj2 l1 bt404.1 bt404.2 bt408.1 bt412.1 true t401 t402))))) = some r := H
    have A13 := QA A130
    clear A130
    replace H := Option.bind_eq_some_iff.mp H
    obtain ⟨⟨t404, t407⟩, A140, H⟩ := H
    replace H : ((Qbm.f kj2 t401 t402 l1).bind fun bt408 => ((Qbn.f kj2 t401 t402 l1).bind fun bt412 => (if t407 = bt408.2 then (Qap.j1 kj2 l1 t404 t407 bt408.1 bt412.1 (t407 != bt412.2) t401 t402) else (Qap.j1 kj2 l1 t404 t407 bt408.1 bt412.1 true t401 t402)))) = some r := H
    have A14 := QA A140
    clear A140
    replace H := Option.bind_eq_some_iff.mp H
    obtain ⟨⟨t408, t411⟩, A150, H⟩ := H
    replace H : ((Qbn.f kj2 t401 t402 l1).bind fun bt412 => (if t407 = t411 then (Qap.j1 kj2 l1 t404 t407 t408 bt412.1 (t407 != bt412.2) t401 t402) else (Qap.j1 kj2 l1 t404 t407 t408 bt412.1 true t401 t402))) = some r := H
    have A15 := QA A150
    clear A150
    replace H := Option.bind_eq_some_iff.mp H
    obtain ⟨⟨t412, t413⟩, A160, H⟩ := H
    replace H : (if t407 = t411 then (Qap.j1 kj2 l1 t404 t407 t408 t412 (t407 != t413) t401 t402) else (Qap.j1 kj2 l1 t404 t407 t408 t412 true t401 t402)) = some r := H
    have A16 := QA A160
    clear A160
    have HC17 := QA H
    clear H
    go_upto_region 7 with (first | ((with_reducible refine Qfo (f := 17) rfl ?_); refine Qej (some 25) rfl rfl Tryz.func17 (by kernel_rfl) rfl #[.int .u8 a0] rfl (by (try simp only [List.map_toArray, List.map_cons, List.map_nil]); first | done | rfl | (simp only [List.length_drop, List.length_take]; rfl)) ?_; (with_reducible refine (Qao.calls a0 t401 t402 _ A13.out).mono ?_); rintro e w18 ⟨rfl, hb⟩; refine ⟨_, rfl, ?_⟩; have n0_ := QA (Qdo (by repeat (first | (with_reducible first | exact HB.out | apply Qcc | apply Qce | apply Qdt) | exact HB.out)) hb); clear HB; have HB := n0_; clear n0_; (try clear hb); (try clear hb2); (try clear hk); (try clear hi)) | ((with_reducible refine Qdw (N := 5) rfl ?_); (try (refine Qff (by rfl) ?_; dsimp only)); refine Qdv ?hg (N := 5) ?hd (cs := #[.int .u8 0, .int .u32 0]) (t := 27) ?hr ?_; (case hd => rfl); (case hg => rfl); (case hr => first | (go_simp; done) | (go_simp; rfl)); intro gb403 hg w19 hbox hb; have n0_ := QA (Qdo (by repeat (first | (with_reducible first | exact HB.out | apply Qcc | apply Qce | apply Qdt) | exact HB.out)) hb); have n1_ := QA (hbox); have n2_ := QA ((by rw [hg]; exact (Qdn (by repeat (first | (with_reducible first | exact HB.out | apply Qcc | apply Qce | apply Qdt) | exact HB.out))) : w.heap.size ≤ gb403)); have n3_ := QA ((by rw [hg]; exact (Qdn (by repeat (first | (with_reducible first | exact HB.out | apply Qcc | apply Qce | apply Qdt) | exact HB.out))) : w.heap.size ≤ gb403)); clear HB; have HB := n0_; have BK403 := n1_; have GW403 := n2_; have GE403 := n3_; clear n0_ n1_ n2_ n3_; clear hb hbox hg; have hcz20_0 : w19.cell? ⟨gb403, 0, none⟩ = some (.int .u8 0) := (Qcx BK403.out 0).trans rfl; have hcz20_1 : w19.cell? ⟨gb403, 1, none⟩ = some (.int .u32 0) := (Qcx BK403.out 1).trans rfl; have hfz20_0 := Qcy BK403.out 0; have hfz20_1 := Qcy BK403.out 1) | ((with_reducible refine Qfo (f := 33) rfl ?_); refine Qej (some 29) rfl rfl Tryz.func33 (by kernel_rfl) rfl #[.agg #[.int .u8 t401, .int .u32 t402], .slice A1 l1.length c1] rfl (by (try simp only [List.map_toArray, List.map_cons, List.map_nil]); first | done | rfl | (simp only [List.length_drop, List.length_take]; rfl)) ?_; (with_reducible refine (Qbl.calls kj2 t401 t402 _ _ l1 t404 t407 _ ?side1 ?side2 A14.out).mono ?_); (case side1 => exact Kd.C_below HR1.out (by repeat (first | (with_reducible first | exact HB.out | apply Qcc | apply Qce | apply Qdt | refine Qdp ?_ GE403.out) | exact HB.out))); (case side2 => exact HC1.out); rintro e w21 ⟨v405, rfl, ho0, hb⟩; refine ⟨_, rfl, ?_⟩; have n0_ := QA (Kd.R_lower ho0 (Qdn (by repeat (first | (with_reducible first | exact HB.out | apply Qcc | apply Qce | apply Qdt | refine Qdp ?_ GE403.out) | exact HB.out)))); have n1_ := QA (Qdg (g := gb403) (o := .cells #[.int .u8 t401, .int .u32 t402] 27 (0, 0)) (by (with_reducible repeat (first | apply Qdf | apply Qde | apply Qdd)); refine Qds (cs := #[.int .u8 t401, .int .u32 0]) ?_ 1 _ rfl; (with_reducible repeat (first | apply Qdf | apply Qde | apply Qdd)); refine Qds (cs := #[.int .u8 0, .int .u32 0]) ?_ 0 _ rfl; (with_reducible repeat (first | apply Qdf | apply Qde | apply Qdd)); exact BK403.out) hb); have n2_ := QA (Qdo (by repeat (first | (with_reducible first | exact HB.out | apply Qcc | apply Qce | apply Qdt | refine Qdp ?_ GE403.out) | exact HB.out)) hb); clear BK403; clear HB; have HO406 := n0_; have BK403 := n1_; have HB := n2_; clear n0_ n1_ n2_; (try clear hb); (try clear hb2); (try clear hk); (try clear hi); (try clear ho0); have hcz22_0 : w21.cell? ⟨gb403, 0, none⟩ = some (.int .u8 t401) := (Qcx BK403.out 0).trans rfl; have hcz22_1 : w21.cell? ⟨gb403, 1, none⟩ = some (.int .u32 t402) := (Qcx BK403.out 1).trans rfl; have hfz22_0 := Qcy BK403.out 0; have hfz22_1 := Qcy BK403.out 1) | ((with_reducible refine Qfo (f := 37) rfl ?_); refine Qej (some 35) rfl rfl Tryz.func37 (by kernel_rfl) rfl #[.agg #[.int .u8 t401, .int .u32 t402], .slice A1 l1.length c1] rfl (by (try simp only [List.map_toArray, List.map_cons, List.map_nil]); first | done | rfl | (simp only [List.length_drop, List.length_take]; rfl)) ?_; (with_reducible refine (Qbm.calls kj2 t401 t402 _ _ l1 t408 t411 _ ?side1 ?side2 A15.out).mono ?_); (case side1 => repeat (first | exact (Kd.C_below HR1.out HB.out) | (with_reducible refine Kd.C_alloc ?_ _) | (with_reducible refine Kd.C_drewN ?_ _) | (with_reducible refine Kd.C_drew ?_))); (case side2 => exact HC1.out); rintro e w23 ⟨v409, rfl, ho0, hb⟩; refine ⟨_, rfl, ?_⟩; have n0_ := QA (Kd.R_below (by (with_reducible repeat (first | apply Kd.R_alloc | apply Kd.R_drewN | apply Kd.R_drew)); exact HO406.out) hb); have n1_ := QA (Kd.R_lower ho0 (Qdn (by repeat (first | (with_reducible first | exact HB.out | apply Qcc | apply Qce | apply Qdt | refine Qdp ?_ GE403.out) | exact HB.out)))); have n2_ := QA (Qdg (g := gb403) (o := .cells #[.int .u8 t401, .int .u32 t402] 27 (0, 0)) (by (with_reducible repeat (first | apply Qdf | apply Qde | apply Qdd)); exact BK403.out) hb); have n3_ := QA (Qdo (by repeat (first | (with_reducible first | exact HB.out | apply Qcc | apply Qce | apply Qdt | refine Qdp ?_ GE403.out) | exact HB.out)) hb); clear HO406; clear BK403; clear HB; have HO406 := n0_; have HO410 := n1_; have BK403 := n2_; have HB := n3_; clear n0_ n1_ n2_ n3_; (try clear hb); (try clear hb2); (try clear hk); (try clear hi); (try clear ho0); have hcz24_0 : w23.cell? ⟨gb403, 0, none⟩ = some (.int .u8 t401) := (Qcx BK403.out 0).trans rfl; have hcz24_1 : w23.cell? ⟨gb403, 1, none⟩ = some (.int .u32 t402) := (Qcx BK403.out 1).trans rfl; have hfz24_0 := Qcy BK403.out 0; have hfz24_1 := Qcy BK403.out 1) | ((with_reducible refine Qfo (f := 38) rfl ?_); refine Qej (some 41) rfl rfl Tryz.func38 (by kernel_rfl) rfl #[.agg #[.int .u8 t401, .int .u32 t402], .slice A1 l1.length c1] rfl (by (try simp only [List.map_toArray, List.map_cons, List.map_nil]); first | done | rfl | (simp only [List.length_drop, List.length_take]; rfl)) ?_; (with_reducible refine (Qbn.calls kj2 t401 t402 _ _ l1 t412 t413 _ ?side1 ?side2 A16.out).mono ?_); (case side1 => repeat (first | exact (Kd.C_below HR1.out HB.out) | (with_reducible refine Kd.C_alloc ?_ _) | (with_reducible refine Kd.C_drewN ?_ _) | (with_reducible refine Kd.C_drew ?_))); (case side2 => exact HC1.out); rintro e w25 ⟨rfl, hb⟩; refine ⟨_, rfl, ?_⟩; have n0_ := QA (Kd.R_below (by (with_reducible repeat (first | apply Kd.R_alloc | apply Kd.R_drewN | apply Kd.R_drew)); exact HO406.out) hb); have n1_ := QA (Kd.R_below (by (with_reducible repeat (first | apply Kd.R_alloc | apply Kd.R_drewN | apply Kd.R_drew)); exact HO410.out) hb); have n2_ := QA (Qdg (g := gb403) (o := .cells #[.int .u8 t401, .int .u32 t402] 27 (0, 0)) (by (with_reducible repeat (first | apply Qdf | apply Qde | apply Qdd)); exact BK403.out) hb); have n3_ := QA (Qdo (by repeat (first | (with_reducible first | exact HB.out | apply Qcc | apply Qce | apply Qdt | refine Qdp ?_ GE403.out) | exact HB.out)) hb); clear HO406; clear HO410; clear BK403; clear HB; have HO406 := n0_; have HO410 := n1_; have BK403 := n2_; have HB := n3_; clear n0_ n1_ n2_ n3_; (try clear hb); (try clear hb2); (try clear hk); (try clear hi)))
    (try simp only [Act.put, List.setIfInBounds_toArray, List.set_cons_zero, List.set_cons_succ])
    go_cut [51] (fun v51 wc => ∃ (kq : Nat) (x51_16 : Bool), v51 = .bool x51_16 ∧ Aside0 (Qap.j1 kq l1 t404 t407 t408 t412 x51_16 t401 t402 = some r) ∧ Aside0 (kq ≤ kj2) ∧ Aside0 (Kd.R (Kd.int .u8) 5 wc w.heap.size (fun _ => True) v405 t404) ∧ Aside0 (Kd.R k69 69 wc w.heap.size (fun _ => True) v409 t408) ∧ Aside0 (wc.heap[gb403]? = some (.cells #[.int .u8 t401, .int .u32 t402] 27 (0, 0))) ∧ Aside0 (Below w.heap.size w wc))
    case first =>
     have H := HC17.out
     clear HC17
     by_cases c26 : t407 = t411
     ·rw [if_pos c26] at H
      have c26b0 : (t407 == t411) = true := beq_iff_eq.mpr c26
      have c26b1 : (t407 != t411) = false := bne_eq_false_iff_eq.mpr c26
      clear c26
      (first | rw [c26b0] | (simp only [Qek, Qel]; rw [c26b0]) | skip)
      have H' := QA H
      clear H
      go_wp2
      go_meet
      case rel => exact ⟨_, ((t407 != t413)), (by first | rfl | (simp; done) | (simp [*]; done)), H', ⟨by have := HJ2.out; first | omega | exact Nat.le_refl _⟩, ⟨by (with_reducible repeat (first | apply Kd.R_alloc | apply Kd.R_drewN | apply Kd.R_drew)); exact HO406.out⟩, ⟨by (with_reducible repeat (first | apply Kd.R_alloc | apply Kd.R_drewN | apply Kd.R_drew)); exact HO410.out⟩, ⟨by (with_reducible repeat (first | apply Qdf | apply Qde | apply Qdd)); exact BK403.out⟩, ⟨by repeat (first | (with_reducible first | exact HB.out | apply Qcc | apply Qce | apply Qdt | refine Qdp ?_ GE403.out) | exact HB.out)⟩⟩
     ·rw [if_neg c26] at H
      have c26b0 : (t407 == t411) = false := beq_eq_false_iff_ne.mpr c26
      have c26b1 : (t407 != t411) = true := bne_iff_ne.mpr c26
      (first | rw [c26b0] | (simp only [Qek, Qel]; rw [c26b0]) | skip)
      have H' := QA H
      clear H
      go_wp2
      go_meet
      case rel => exact ⟨_, (true), (by first | rfl | (simp; done) | (simp [*]; done)), H', ⟨by have := HJ2.out; first | omega | exact Nat.le_refl _⟩, ⟨by (with_reducible repeat (first | apply Kd.R_alloc | apply Kd.R_drewN | apply Kd.R_drew)); exact HO406.out⟩, ⟨by (with_reducible repeat (first | apply Kd.R_alloc | apply Kd.R_drewN | apply Kd.R_drew)); exact HO410.out⟩, ⟨by (with_reducible repeat (first | apply Qdf | apply Qde | apply Qdd)); exact BK403.out⟩, ⟨by repeat (first | (with_reducible first | exact HB.out | apply Qcc | apply Qce | apply Qdt | refine Qdp ?_ GE403.out) | exact HB.out)⟩⟩
    case rest =>
     clear HC17
     try clear c1
     try clear c5
     try clear c10
     try clear c26
     try clear c26b0
     try clear c26b1
     try clear hcz20_0
     try clear hcz20_1
     try clear hcz22_0
     try clear hcz22_1
     try clear hcz24_0
     try clear hcz24_1
     try clear hfz20_0
     try clear hfz20_1
     try clear hfz22_0
     try clear hfz22_1
     try clear hfz24_0
     try clear hfz24_1
     obtain ⟨kq, x51_16, rfl, HA, HJ16, HO_6, HO_8, BK403, HB⟩ := hcut
     cases kq with
     | zero => exact absurd HA.out (by simp [Qap.j1])
     | succ kj16 =>
      have H := HA.out
      clear HA
      simp only [Qap.j1] at H
      by_cases c27 : x51_16 = true
      ·subst c27
       have H1 : (some false) = some r := by rw [if_pos rfl] at H; exact H
       clear H
       have H := H1
       clear H1
       obtain rfl := Option.some.inj H
       go_wp2
       go_ret
       exact ⟨by first | rfl | (simp [Qfr, Qfs] <;> rfl) | (simp [*, Qfr, Qfs] <;> rfl), by repeat (first | (with_reducible first | exact HB.out | apply Qcc | apply Qce | apply Qdt | refine Qdp ?_ GE403.out) | exact HB.out)⟩
      ·replace c27 := Bool.eq_false_iff.mpr c27
       subst c27
       have H1 : (if t407 = 0 then (if (t408.length : Int) = (l1.length : Int) then (if 0 ≤ t401 then (Qap.j2 kj16 l1 t404 t408 t412 ((t404.length : Int) != (shl .i64 (wrap64 (t412)) t401)) t401 t402) else (none)) else (Qap.j2 kj16 l1 t404 t408 t412 true t401 t402)) else (if (t404.length : Int) = 0 then (if (t408.length : Int) = 0 then (some (t412 == 0)) else (some false)) else (some false))) = some r := by rw [if_neg (show ¬ (false = true) by decide)] at H; exact H
       clear H
       have H := H1
       clear H1
       by_cases c28 : t407 = 0
       ·rw [if_pos c28] at H
        have c28b0 : (t407 == 0) = true := beq_iff_eq.mpr c28
        have c28b1 : (t407 != 0) = false := bne_eq_false_iff_eq.mpr c28
        clear c28
        have HC29 := QA H
        clear H
        go_upto_region 11 with (fail)
        go_cut [80] (fun v80 wc => ∃ (kq : Nat) (x80_28 : Bool), v80 = .bool x80_28 ∧ Aside0 (Qap.j2 kq l1 t404 t408 t412 x80_28 t401 t402 = some r) ∧ Aside0 (kq ≤ kj16) ∧ Aside0 (Kd.R (Kd.int .u8) 5 wc w.heap.size (fun _ => True) v405 t404) ∧ Aside0 (Kd.R k69 69 wc w.heap.size (fun _ => True) v409 t408) ∧ Aside0 (wc.heap[gb403]? = some (.cells #[.int .u8 t401, .int .u32 t402] 27 (0, 0))) ∧ Aside0 (Below w.heap.size w wc))
        case first =>
         have H := HC29.out
         clear HC29
         by_cases c30 : (t408.length : Int) = (l1.length : Int)
         ·rw [if_pos c30] at H
          have c30b0 : ((t408.length : Int) == (l1.length : Int)) = true := beq_iff_eq.mpr c30
          have c30b1 : ((t408.length : Int) != (l1.length : Int)) = false := bne_eq_false_iff_eq.mpr c30
          have c30b2 : (t408.length == l1.length) = true := by first | simpa using c30 | (simp at c30 ⊢; omega)
          clear c30
          (first | rw [c30b0] | (simp only [Qek, Qel]; rw [c30b0]) | skip)
          by_cases c31 : 0 ≤ t401
          ·rw [if_pos c31] at H
           have c31b0 := eq_true c31
           have c31b1 : decide (0 ≤ t401) = true := decide_eq_true c31
           clear c31
           obtain ⟨ji32, hji32⟩ : ∃ j_ : Int, (shl .i64 (wrap64 (t412)) t401) = j_ := ⟨_, rfl⟩
           replace H : (Qap.j2 kj16 l1 t404 t408 t412 ((t404.length : Int) != (ji32)) t401 t402) = some r := by first | (rw [hji32] at H; exact H) | (simp only [hji32] at H ⊢; exact H)
           have hji32_ : (IntKind.i64.wrap ((wrap64 (t412)) * 2 ^ min t401.toNat 64)) = ji32 := hji32
           have hji32z : t401 ≤ 64 → (IntKind.i64.wrap ((wrap64 (t412)) * 2 ^ t401.toNat)) = ji32 := Qfq hji32
           have hji32y : (wrap64 ((wrap64 (t412)) * 2 ^ min t401.toNat 64)) = ji32 := (Qek _).symm.trans hji32_
           have hji32x : t401 ≤ 64 → (wrap64 ((wrap64 (t412)) * 2 ^ t401.toNat)) = ji32 := fun h_ => (Qek _).symm.trans (hji32z h_)
           have H' := QA H
           clear H
           obtain ⟨Ao33, co33, eo33⟩ := Kd.R_slice HO_8.out
           subst eo33
           obtain ⟨Ao34, co34, eo34⟩ := Kd.R_slice HO_6.out
           subst eo34
           have hcz35_0 : wc.cell? ⟨gb403, 0, none⟩ = some (.int .u8 t401) := (Qcx BK403.out 0).trans rfl
           have hcz35_1 : wc.cell? ⟨gb403, 1, none⟩ = some (.int .u32 t402) := (Qcx BK403.out 1).trans rfl
           have hfz35_0 := Qcy BK403.out 0
           have hfz35_1 := Qcy BK403.out 1
           go_wp2
           go_meet
           case rel => exact ⟨_, (((t404.length : Int) != (ji32))), (by first | rfl | (simp; done) | (simp only [← hji32] <;> (first | rfl | simp)) | (simp [*]; done)), H', ⟨by have := HJ2.out; have := HJ16.out; first | omega | exact Nat.le_refl _⟩, ⟨by (with_reducible repeat (first | apply Kd.R_alloc | apply Kd.R_drewN | apply Kd.R_drew)); exact HO_6.out⟩, ⟨by (with_reducible repeat (first | apply Kd.R_alloc | apply Kd.R_drewN | apply Kd.R_drew)); exact HO_8.out⟩, ⟨by (with_reducible repeat (first | apply Qdf | apply Qde | apply Qdd)); exact BK403.out⟩, ⟨by repeat (first | (with_reducible first | exact HB.out | apply Qcc | apply Qce | apply Qdt | refine Qdp ?_ GE403.out) | exact HB.out)⟩⟩
          ·rw [if_neg c31] at H
           exact absurd H (by simp)
         ·rw [if_neg c30] at H
          have c30b0 : ((t408.length : Int) == (l1.length : Int)) = false := beq_eq_false_iff_ne.mpr c30
          have c30b1 : ((t408.length : Int) != (l1.length : Int)) = true := bne_iff_ne.mpr c30
          have c30b2 : (t408.length == l1.length) = false := by first | simpa using c30 | (simp at c30 ⊢; omega)
          (first | rw [c30b0] | (simp only [Qek, Qel]; rw [c30b0]) | skip)
          have H' := QA H
          clear H
          obtain ⟨Ao36, co36, eo36⟩ := Kd.R_slice HO_8.out
          subst eo36
          go_wp2
          go_meet
          case rel => exact ⟨_, (true), (by first | rfl | (simp; done) | (simp [*]; done)), H', ⟨by have := HJ2.out; have := HJ16.out; first | omega | exact Nat.le_refl _⟩, ⟨by (with_reducible repeat (first | apply Kd.R_alloc | apply Kd.R_drewN | apply Kd.R_drew)); exact HO_6.out⟩, ⟨by (with_reducible repeat (first | apply Kd.R_alloc | apply Kd.R_drewN | apply Kd.R_drew)); exact HO_8.out⟩, ⟨by (with_reducible repeat (first | apply Qdf | apply Qde | apply Qdd)); exact BK403.out⟩, ⟨by repeat (first | (with_reducible first | exact HB.out | apply Qcc | apply Qce | apply Qdt | refine Qdp ?_ GE403.out) | exact HB.out)⟩⟩
        case rest =>
         clear HC29
         try clear c1
         try clear c5
         try clear c10
         try clear c26
         try clear c26b0
         try clear c26b1
         try clear c27
         try clear c28
         try clear c28b0
         try clear c28b1
         try clear c30
         try clear c30b0
         try clear c30b1
         try clear c30b2
         try clear c31
         try clear c31b0
         try clear c31b1
         try clear hcz20_0
         try clear hcz20_1
         try clear hcz22_0
         try clear hcz22_1
         try clear hcz24_0
         try clear hcz24_1
         try clear hcz35_0
         try clear hcz35_1
         try clear hfz20_0
         try clear hfz20_1
         try clear hfz22_0
         try clear hfz22_1
         try clear hfz24_0
         try clear hfz24_1
         try clear hfz35_0
         try clear hfz35_1
         obtain ⟨kq, x80_28, rfl, HA, HJ28, HO_6, HO_8, BK403, HB⟩ := hcut
         cases kq with
         | zero => exact absurd HA.out (by simp [Qap.j2])
         | succ kj28 =>
          have H := HA.out
          clear HA
          simp only [Qap.j2] at H
          by_cases c37 : x80_28 = true
          ·subst c37
           have H1 : (some false) = some r := by rw [if_pos rfl] at H; exact H
           clear H
           have H := H1
           clear H1
           obtain rfl := Option.some.inj H
           go_wp2
           go_ret
           exact ⟨by first | rfl | (simp [Qfr, Qfs] <;> rfl) | (simp [*, Qfr, Qfs] <;> rfl), by repeat (first | (with_reducible first | exact HB.out | apply Qcc | apply Qce | apply Qdt | refine Qdp ?_ GE403.out) | exact HB.out)⟩
          ·replace c37 := Bool.eq_false_iff.mpr c37
           subst c37
           have H1 : (Qap.l0 kj28 l1 t404 t412 t408 (t408.length : Int) 0 t401 t402) = some r := by rw [if_neg (show ¬ (false = true) by decide)] at H; exact H
           clear H
           have H := H1
           clear H1
           have H' := QA H
           clear H
           obtain ⟨Ao38, co38, eo38⟩ := Kd.R_slice HO_8.out
           subst eo38
           go_wp2
           go_loopg [83] kj28 (fun kq v83 w' => ∃ (x83_4 : Int), v83 = .int .i64 x83_4 ∧ Aside0 (Qap.l0 kq l1 t404 t412 t408 (t408.length : Int) x83_4 t401 t402 = some r) ∧ Aside0 (kq ≤ kj28) ∧ Aside0 (Kd.R (Kd.int .u8) 5 w' w.heap.size (fun _ => True) v405 t404) ∧ Aside0 (Kd.R k69 69 w' w.heap.size (fun _ => True) (.slice Ao38 t408.length co38) t408) ∧ Aside0 (w'.heap[gb403]? = some (.cells #[.int .u8 t401, .int .u32 t402] 27 (0, 0))) ∧ Aside0 (Below w.heap.size w w'))
           case atStart => exact ⟨(0), (by first | rfl | (simp; done) | (simp [*]; done)), H', ⟨Nat.le_refl _⟩, ⟨by (with_reducible repeat (first | apply Kd.R_alloc | apply Kd.R_drewN | apply Kd.R_drew)); exact HO_6.out⟩, ⟨by (with_reducible repeat (first | apply Kd.R_alloc | apply Kd.R_drewN | apply Kd.R_drew)); exact HO_8.out⟩, ⟨by (with_reducible repeat (first | apply Qdf | apply Qde | apply Qdd)); exact BK403.out⟩, ⟨by repeat (first | (with_reducible first | exact HB.out | apply Qcc | apply Qce | apply Qdt | refine Qdp ?_ GE403.out) | exact HB.out)⟩⟩
           case round =>
            clear H'
            try clear c1
            try clear c5
            try clear c10
            try clear c26
            try clear c26b0
            try clear c26b1
            try clear c27
            try clear c28
            try clear c28b0
            try clear c28b1
            try clear c30
            try clear c30b0
            try clear c30b1
            try clear c30b2
            try clear c31
            try clear c31b0
            try clear c31b1
            try clear c37
            try clear hcz20_0
            try clear hcz20_1
            try clear hcz22_0
            try clear hcz22_1
            try clear hcz24_0
            try clear hcz24_1
            try clear hcz35_0
            try clear hcz35_1
            try clear hfz20_0
            try clear hfz20_1
            try clear hfz22_0
            try clear hfz22_1
            try clear hfz24_0
            try clear hfz24_1
            try clear hfz35_0
            try clear hfz35_1
            obtain ⟨x83_4, rfl, HA, HK4, HO_6, HO_81, BK403, HB⟩ := hrel
            cases gk with
            | zero => exact absurd HA.out (by simp [Qap.l0])
            | succ k4 =>
             have H := HA.out
             clear HA
             simp only [Qap.l0] at H
             by_cases c39 : x83_4 < (t408.length : Int)
             ·rw [if_pos c39] at H
              have c39b0 : decide (x83_4 < (t408.length : Int)) = true := decide_eq_true c39
              clear c39
              by_cases c40 : 0 ≤ x83_4
              ·rw [if_pos c40] at H
               have c40b0 : decide (0 ≤ x83_4) = true := decide_eq_true c40
               clear c40
               by_cases c41 : x83_4 < (t408.length : Int)
               ·rw [if_pos c41] at H
                have c41b0 : decide (x83_4 < (t408.length : Int)) = true := decide_eq_true c41
                clear c41
                by_cases c42 : x83_4 < (l1.length : Int)
                ·rw [if_pos c42] at H
                 have c42b0 : decide (x83_4 < (l1.length : Int)) = true := decide_eq_true c42
                 clear c42
                 replace H := Option.bind_eq_some_iff.mp H
                 obtain ⟨t417, A430, H⟩ := H
                 replace H : (if 0 ≤ t401 then (if ((Qfy t408 x83_4).f0) ≥ t412 then (some false) else (if (wrap64 ((wrap64 ((shl .i64 (wrap64 ((Qfy t408 x83_4).f0)) t401) + (wrap64 ((Qfy t408 x83_4).f1)))) + (t417.size : Int))) > (t404.length : Int) then (some false) else (if 0 ≤ (wrap64 ((shl .i64 (wrap64 ((Qfy t408 x83_4).f0)) t401) + (wrap64 ((Qfy t408 x83_4).f1)))) then (if (wrap64 ((shl .i64 (wrap64 ((Qfy t408 x83_4).f0)) t401) + (wrap64 ((Qfy t408 x83_4).f1)))) ≤ (wrap64 ((wrap64 ((shl .i64 (wrap64 ((Qfy t408 x83_4).f0)) t401) + (wrap64 ((Qfy t408 x83_4).f1)))) + (t417.size : Int))) then (if (wrap64 ((wrap64 ((shl .i64 (wrap64 ((Qfy t408 x83_4).f0)) t401) + (wrap64 ((Qfy t408 x83_4).f1)))) + (t417.size : Int))) ≤ (t404.length : Int) then (if (strOfNums ((t404.take ((wrap64 ((wrap64 ((shl .i64 (wrap64 ((Qfy t408 x83_4).f0)) t401) + (wrap64 ((Qfy t408 x83_4).f1)))) + (t417.size : Int))) : Int).toNat).drop ((wrap64 ((shl .i64 (wrap64 ((Qfy t408 x83_4).f0)) t401) + (wrap64 ((Qfy t408 x83_4).f1)))) : Int).toNat)).toList = t417.toList then (Qap.l0 k4 l1 t404 t412 t408 (t408.length : Int) (wrap64 (x83_4 + 1)) t401 t402) else (some false)) else (none)) else (none)) else (none)))) else (none)) = some r := H
                 have A43 := QA A430
                 clear A430
                 by_cases c44 : 0 ≤ t401
                 ·rw [if_pos c44] at H
                  have c44b0 := eq_true c44
                  have c44b1 : decide (0 ≤ t401) = true := decide_eq_true c44
                  clear c44
                  obtain ⟨ji45, hji45⟩ : ∃ j_ : Int, (shl .i64 (wrap64 ((Qfy t408 x83_4).f0)) t401) = j_ := ⟨_, rfl⟩
                  replace H : (if ((Qfy t408 x83_4).f0) ≥ t412 then (some false) else (if (wrap64 ((wrap64 ((ji45) + (wrap64 ((Qfy t408 x83_4).f1)))) + (t417.size : Int))) > (t404.length : Int) then (some false) else (if 0 ≤ (wrap64 ((ji45) + (wrap64 ((Qfy t408 x83_4).f1)))) then (if (wrap64 ((ji45) + (wrap64 ((Qfy t408 x83_4).f1)))) ≤ (wrap64 ((wrap64 ((ji45) + (wrap64 ((Qfy t408 x83_4).f1)))) + (t417.size : Int))) then (if (wrap64 ((wrap64 ((ji45) + (wrap64 ((Qfy t408 x83_4).f1)))) + (t417.size : Int))) ≤ (t404.length : Int) then (if (strOfNums ((t404.take ((wrap64 ((wrap64 ((ji45) + (wrap64 ((Qfy t408 x83_4).f1)))) + (t417.size : Int))) : Int).toNat).drop ((wrap64 ((ji45) + (wrap64 ((Qfy t408 x83_4).f1)))) : Int).toNat)).toList = t417.toList then (Qap.l0 k4 l1 t404 t412 t408 (t408.length : Int) (wrap64 (x83_4 + 1)) t401 t402) else (some false)) else (none)) else (none)) else (none)))) = some r := by first | (rw [hji45] at H; exact H) | (simp only [hji45] at H ⊢; exact H)
                  (try rw [hji45] at A43)
                  have hji45_ : (IntKind.i64.wrap ((wrap64 ((Qfy t408 x83_4).f0)) * 2 ^ min t401.toNat 64)) = ji45 := hji45
                  have hji45z : t401 ≤ 64 → (IntKind.i64.wrap ((wrap64 ((Qfy t408 x83_4).f0)) * 2 ^ t401.toNat)) = ji45 := Qfq hji45
                  have hji45y : (wrap64 ((wrap64 ((Qfy t408 x83_4).f0)) * 2 ^ min t401.toNat 64)) = ji45 := (Qek _).symm.trans hji45_
                  have hji45x : t401 ≤ 64 → (wrap64 ((wrap64 ((Qfy t408 x83_4).f0)) * 2 ^ t401.toNat)) = ji45 := fun h_ => (Qek _).symm.trans (hji45z h_)
                  by_cases c46 : ((Qfy t408 x83_4).f0) ≥ t412
                  ·rw [if_pos c46] at H
                   have c46b0 : decide (t412 ≤ ((Qfy t408 x83_4).f0)) = true := decide_eq_true c46
                   clear c46
                   obtain rfl := Option.some.inj H
                   have p414 : 0 ≤ (x83_4 : Int) := of_decide_eq_true (by first | (with_reducible assumption) | assumption)
                   have q414 : x83_4 < (t408.length : Int) := of_decide_eq_true (by first | (with_reducible assumption) | assumption)
                   obtain ⟨ad414, e414, hx414_0, hx414_1⟩ := at_T69 (Kd.R_reads' HO_81.out).2.2 x83_4 p414 q414
                   cases e414
                   replace p414 := eq_true p414
                   replace q414 := eq_true q414
                   go_wp2_with (first | ((with_reducible refine Qdw (N := 13) rfl ?_); (try (refine Qff (by rfl) ?_; dsimp only)); refine Qdv ?hg (N := 13) ?hd (cs := #[.int .u32 0, .int .u32 0]) (t := 69) ?hr ?_; (case hd => rfl); (case hg => rfl); (case hr => first | (go_simp; done) | (go_simp; rfl)); intro gb415 hg w47 hbox hb; have n0_ := QA (Kd.R_below (by (with_reducible repeat (first | apply Kd.R_alloc | apply Kd.R_drewN | apply Kd.R_drew)); exact HO_6.out) hb); have n1_ := QA (Kd.R_below (Kd.R_elderB (by (with_reducible repeat (first | apply Kd.R_alloc | apply Kd.R_drewN | apply Kd.R_drew)); exact HO_81.out) gb415 (Nat.le_of_eq hg.symm)) hb); have n2_ := QA (Qdg (g := gb403) (o := .cells #[.int .u8 t401, .int .u32 t402] 27 (0, 0)) (by (with_reducible repeat (first | apply Qdf | apply Qde | apply Qdd)); exact BK403.out) hb); have n3_ := QA (Qdo (by repeat (first | (with_reducible first | exact HB.out | apply Qcc | apply Qce | apply Qdt | refine Qdp ?_ GE403.out) | exact HB.out)) hb); have n4_ := QA (hbox); have n5_ := QA ((by rw [hg]; exact (Qdn (by repeat (first | (with_reducible first | exact HB.out | apply Qcc | apply Qce | apply Qdt | refine Qdp ?_ GE403.out) | exact HB.out))) : w.heap.size ≤ gb415)); have n6_ := QA ((by rw [hg]; exact (Qdn (by repeat (first | (with_reducible first | exact HB.out | apply Qcc | apply Qce | apply Qdt | refine Qdp ?_ GE403.out) | exact HB.out))) : w.heap.size ≤ gb415)); have n7_ := QA ((by rw [hg]; exact Nat.ne_of_lt (Qcw (g := gb403) (o := .cells #[.int .u8 t401, .int .u32 t402] 27 (0, 0)) (by (with_reducible repeat (first | apply Qdf | apply Qde | apply Qdd)); exact BK403.out)) : gb403 ≠ gb415)); have n8_ := QA ((by rw [hg]; exact Nat.ne_of_gt (Qcw (g := gb403) (o := .cells #[.int .u8 t401, .int .u32 t402] 27 (0, 0)) (by (with_reducible repeat (first | apply Qdf | apply Qde | apply Qdd)); exact BK403.out)) : gb415 ≠ gb403)); clear HO_6; clear HO_81; clear BK403; clear HB; have HO_6 := n0_; have HO_81 := n1_; have BK403 := n2_; have HB := n3_; have BK415 := n4_; have GW415 := n5_; have GE415 := n6_; have NB403_415 := n7_; have NB415_403 := n8_; clear n0_ n1_ n2_ n3_ n4_ n5_ n6_ n7_ n8_; clear hb hbox hg; have hnb48 := NB415_403.out; have hnc48 := NB403_415.out; have hcz49_0 : w47.cell? ⟨gb415, 0, none⟩ = some (.int .u32 0) := (Qcx BK415.out 0).trans rfl; have hcz49_1 : w47.cell? ⟨gb415, 1, none⟩ = some (.int .u32 0) := (Qcx BK415.out 1).trans rfl; have hfz49_0 := Qcy BK415.out 0; have hfz49_1 := Qcy BK415.out 1; have p416 : 0 ≤ (x83_4 : Int) := of_decide_eq_true (by first | (with_reducible assumption) | assumption); have q416 : x83_4 < (l1.length : Int) := of_decide_eq_true (by first | (with_reducible assumption) | assumption); obtain ⟨ad416, e416, hx416_0, hx416_1, hx416_2, hx416_3⟩ := Qfv HR1.out x83_4 p416 q416; cases e416; have hn416_0 : ad416.block ≠ gb415 := Nat.ne_of_lt (Nat.lt_of_lt_of_le (by have := World.block_lt_of_cell? _ _ hx416_0; first | rwa [Qdq] at this | exact this) GW415.out); have hn416_1 : ad416.block ≠ gb415 := Nat.ne_of_lt (Nat.lt_of_lt_of_le (by have := World.block_lt_of_cell? _ _ hx416_0; first | rwa [Qdq] at this | exact this) GW415.out); replace hx416_0 := (HB.out.cell (World.block_lt_of_cell? w _ hx416_0)).trans hx416_0; replace hx416_1 := (HB.out.cell (World.block_lt_of_cell? w _ hx416_1)).trans hx416_1; replace hx416_2 := (HB.out.cell (World.block_lt_of_cell? w _ hx416_2)).trans hx416_2; replace hx416_3 := (HB.out.cell (World.block_lt_of_cell? w _ hx416_3)).trans hx416_3; replace hx416_0 := (Qdr (p := ⟨gb415, 0, none⟩) (by first | (rw [Qdq]; exact hn416_0) | (show (Addr.add _ _).block ≠ _; rw [Qdq]; exact hn416_0) | exact hn416_0) (.int .u32 ((Qfy t408 x83_4).f0))).trans hx416_0; replace hx416_1 := (Qdr (p := ⟨gb415, 0, none⟩) (by first | (rw [Qdq]; exact hn416_0) | (show (Addr.add _ _).block ≠ _; rw [Qdq]; exact hn416_0) | exact hn416_0) (.int .u32 ((Qfy t408 x83_4).f0))).trans hx416_1; replace hx416_2 := (Qdr (p := ⟨gb415, 0, none⟩) (by first | (rw [Qdq]; exact hn416_0) | (show (Addr.add _ _).block ≠ _; rw [Qdq]; exact hn416_0) | exact hn416_0) (.int .u32 ((Qfy t408 x83_4).f0))).trans hx416_2; replace hx416_3 := (Qdr (p := ⟨gb415, 0, none⟩) (by first | (rw [Qdq]; exact hn416_0) | (show (Addr.add _ _).block ≠ _; rw [Qdq]; exact hn416_0) | exact hn416_0) (.int .u32 ((Qfy t408 x83_4).f0))).trans hx416_3; replace hx416_0 := (Qdr (p := ⟨gb415, 1, none⟩) (by first | (rw [Qdq]; exact hn416_1) | (show (Addr.add _ _).block ≠ _; rw [Qdq]; exact hn416_1) | exact hn416_1) (.int .u32 ((Qfy t408 x83_4).f1))).trans hx416_0; replace hx416_1 := (Qdr (p := ⟨gb415, 1, none⟩) (by first | (rw [Qdq]; exact hn416_1) | (show (Addr.add _ _).block ≠ _; rw [Qdq]; exact hn416_1) | exact hn416_1) (.int .u32 ((Qfy t408 x83_4).f1))).trans hx416_1; replace hx416_2 := (Qdr (p := ⟨gb415, 1, none⟩) (by first | (rw [Qdq]; exact hn416_1) | (show (Addr.add _ _).block ≠ _; rw [Qdq]; exact hn416_1) | exact hn416_1) (.int .u32 ((Qfy t408 x83_4).f1))).trans hx416_2; replace hx416_3 := (Qdr (p := ⟨gb415, 1, none⟩) (by first | (rw [Qdq]; exact hn416_1) | (show (Addr.add _ _).block ≠ _; rw [Qdq]; exact hn416_1) | exact hn416_1) (.int .u32 ((Qfy t408 x83_4).f1))).trans hx416_3; clear hn416_0; clear hn416_1; replace p416 := eq_true p416; replace q416 := eq_true q416) | ((with_reducible refine Qfo (f := 22) rfl ?_); refine Qej (some 92) rfl rfl Tryz.func22 (by kernel_rfl) rfl #[.agg #[.bool ((Qfu l1 x83_4).f0), .int .u64 ((Qfu l1 x83_4).f1), .string ((Qfu l1 x83_4).f2), .string ((Qfu l1 x83_4).f3)]] rfl (by (try simp only [List.map_toArray, List.map_cons, List.map_nil]); first | done | rfl | (simp only [List.length_drop, List.length_take]; rfl)) ?_; (with_reducible refine (Qbc.calls k4 ((Qfu l1 x83_4).f0) ((Qfu l1 x83_4).f1) ((Qfu l1 x83_4).f2) ((Qfu l1 x83_4).f3) t417 _ A43.out).mono ?_); rintro e w50 ⟨rfl, hb⟩; refine ⟨_, rfl, ?_⟩; have n0_ := QA (Kd.R_below (by (with_reducible repeat (first | apply Kd.R_alloc | apply Kd.R_drewN | apply Kd.R_drew)); exact (Kd.R_mono (Kd.R_far (p := ⟨gb415, 1, none⟩) (Kd.R_far (p := ⟨gb415, 0, none⟩) (Kd.R_types HO_6.out BK415.out (by decide)) (fun _ hk => hk.2) (.int .u32 ((Qfy t408 x83_4).f0))) (fun _ hk => hk.2) (.int .u32 ((Qfy t408 x83_4).f1))) (fun _ h_ => h_.1))) hb); have n1_ := QA (Kd.R_below (by (with_reducible repeat (first | apply Kd.R_alloc | apply Kd.R_drewN | apply Kd.R_drew)); exact (Kd.R_mono (Kd.R_far (p := ⟨gb415, 1, none⟩) (Kd.R_far (p := ⟨gb415, 0, none⟩) (Kd.R_mono HO_81.out (fun k_ hk => (⟨hk, hk.2⟩ : _ ∧ k_ ≠ gb415))) (fun _ hk => hk.2) (.int .u32 ((Qfy t408 x83_4).f0))) (fun _ hk => hk.2) (.int .u32 ((Qfy t408 x83_4).f1))) (fun _ h_ => h_.1))) hb); have n2_ := QA (Qdg (g := gb403) (o := .cells #[.int .u8 t401, .int .u32 t402] 27 (0, 0)) (by (with_reducible repeat (first | apply Qdf | apply Qde | apply Qdd)); refine Qcv ?_ NB403_415.out _; (with_reducible repeat (first | apply Qdf | apply Qde | apply Qdd)); refine Qcv ?_ NB403_415.out _; (with_reducible repeat (first | apply Qdf | apply Qde | apply Qdd)); exact BK403.out) hb); have n3_ := QA (Qdg (g := gb415) (o := .cells #[.int .u32 ((Qfy t408 x83_4).f0), .int .u32 ((Qfy t408 x83_4).f1)] 69 (0, 0)) (by (with_reducible repeat (first | apply Qdf | apply Qde | apply Qdd)); refine Qds (cs := #[.int .u32 ((Qfy t408 x83_4).f0), .int .u32 0]) ?_ 1 _ rfl; (with_reducible repeat (first | apply Qdf | apply Qde | apply Qdd)); refine Qds (cs := #[.int .u32 0, .int .u32 0]) ?_ 0 _ rfl; (with_reducible repeat (first | apply Qdf | apply Qde | apply Qdd)); exact BK415.out) hb); have n4_ := QA (Qdo (by repeat (first | (with_reducible first | exact HB.out | apply Qcc | apply Qce | apply Qdt | refine Qdp ?_ GE403.out | refine Qdp ?_ GE415.out) | exact HB.out)) hb); clear HO_6; clear HO_81; clear BK403; clear BK415; clear HB; have HO_6 := n0_; have HO_81 := n1_; have BK403 := n2_; have BK415 := n3_; have HB := n4_; clear n0_ n1_ n2_ n3_ n4_; (try clear hb); (try clear hb2); (try clear hk); (try clear hi); have hcz51_0 : w50.cell? ⟨gb415, 0, none⟩ = some (.int .u32 ((Qfy t408 x83_4).f0)) := (Qcx BK415.out 0).trans rfl; have hcz51_1 : w50.cell? ⟨gb415, 1, none⟩ = some (.int .u32 ((Qfy t408 x83_4).f1)) := (Qcx BK415.out 1).trans rfl; have hfz51_0 := Qcy BK415.out 0; have hfz51_1 := Qcy BK415.out 1; have hcz52_0 : w50.cell? ⟨gb403, 0, none⟩ = some (.int .u8 t401) := (Qcx BK403.out 0).trans rfl; have hcz52_1 : w50.cell? ⟨gb403, 1, none⟩ = some (.int .u32 t402) := (Qcx BK403.out 1).trans rfl; have hfz52_0 := Qcy BK403.out 0; have hfz52_1 := Qcy BK403.out 1))
                   go_ret
                   exact ⟨by first | rfl | (simp [Qfr, Qfs] <;> rfl) | (simp only [← hji45]; first | rfl | (simp [Qfr, Qfs] <;> rfl)) | (simp [*, Qfr, Qfs] <;> rfl), by repeat (first | (with_reducible first | exact HB.out | apply Qcc | apply Qce | apply Qdt | refine Qdp ?_ GE403.out | refine Qdp ?_ GE415.out) | exact HB.out)⟩
                  ·rw [if_neg c46] at H
                   have c46b0 : decide (t412 ≤ ((Qfy t408 x83_4).f0)) = false := decide_eq_false c46
                   clear c46
                   by_cases c53 : (wrap64 ((wrap64 ((ji45) + (wrap64 ((Qfy t408 x83_4).f1)))) + (t417.size : Int))) > (t404.length : Int)
                   ·rw [if_pos c53] at H
                    have c53b0 : decide ((t404.length : Int) < (wrap64 ((wrap64 ((ji45) + (wrap64 ((Qfy t408 x83_4).f1)))) + (t417.size : Int)))) = true := decide_eq_true c53
                    clear c53
                    obtain rfl := Option.some.inj H
                    have p414 : 0 ≤ (x83_4 : Int) := of_decide_eq_true (by first | (with_reducible assumption) | assumption)
                    have q414 : x83_4 < (t408.length : Int) := of_decide_eq_true (by first | (with_reducible assumption) | assumption)
                    obtain ⟨ad414, e414, hx414_0, hx414_1⟩ := at_T69 (Kd.R_reads' HO_81.out).2.2 x83_4 p414 q414
                    cases e414
                    replace p414 := eq_true p414
                    replace q414 := eq_true q414
                    go_wp2_with (first | ((with_reducible refine Qdw (N := 13) rfl ?_); (try (refine Qff (by rfl) ?_; dsimp only)); refine Qdv ?hg (N := 13) ?hd (cs := #[.int .u32 0, .int .u32 0]) (t := 69) ?hr ?_; (case hd => rfl); (case hg => rfl); (case hr => first | (go_simp; done) | (go_simp; rfl)); intro gb415 hg w54 hbox hb; have n0_ := QA (Kd.R_below (by (with_reducible repeat (first | apply Kd.R_alloc | apply Kd.R_drewN | apply Kd.R_drew)); exact HO_6.out) hb); have n1_ := QA (Kd.R_below (Kd.R_elderB (by (with_reducible repeat (first | apply Kd.R_alloc | apply Kd.R_drewN | apply Kd.R_drew)); exact HO_81.out) gb415 (Nat.le_of_eq hg.symm)) hb); have n2_ := QA (Qdg (g := gb403) (o := .cells #[.int .u8 t401, .int .u32 t402] 27 (0, 0)) (by (with_reducible repeat (first | apply Qdf | apply Qde | apply Qdd)); exact BK403.out) hb); have n3_ := QA (Qdo (by repeat (first | (with_reducible first | exact HB.out | apply Qcc | apply Qce | apply Qdt | refine Qdp ?_ GE403.out) | exact HB.out)) hb); have n4_ := QA (hbox); have n5_ := QA ((by rw [hg]; exact (Qdn (by repeat (first | (with_reducible first | exact HB.out | apply Qcc | apply Qce | apply Qdt | refine Qdp ?_ GE403.out) | exact HB.out))) : w.heap.size ≤ gb415)); have n6_ := QA ((by rw [hg]; exact (Qdn (by repeat (first | (with_reducible first | exact HB.out | apply Qcc | apply Qce | apply Qdt | refine Qdp ?_ GE403.out) | exact HB.out))) : w.heap.size ≤ gb415)); have n7_ := QA ((by rw [hg]; exact Nat.ne_of_lt (Qcw (g := gb403) (o := .cells #[.int .u8 t401, .int .u32 t402] 27 (0, 0)) (by (with_reducible repeat (first | apply Qdf | apply Qde | apply Qdd)); exact BK403.out)) : gb403 ≠ gb415)); have n8_ := QA ((by rw [hg]; exact Nat.ne_of_gt (Qcw (g := gb403) (o := .cells #[.int .u8 t401, .int .u32 t402] 27 (0, 0)) (by (with_reducible repeat (first | apply Qdf | apply Qde | apply Qdd)); exact BK403.out)) : gb415 ≠ gb403)); clear HO_6; clear HO_81; clear BK403; clear HB; have HO_6 := n0_; have HO_81 := n1_; have BK403 := n2_; have HB := n3_; have BK415 := n4_; have GW415 := n5_; have GE415 := n6_; have NB403_415 := n7_; have NB415_403 := n8_; clear n0_ n1_ n2_ n3_ n4_ n5_ n6_ n7_ n8_; clear hb hbox hg; have hnb55 := NB415_403.out; have hnc55 := NB403_415.out; have hcz56_0 : w54.cell? ⟨gb415, 0, none⟩ = some (.int .u32 0) := (Qcx BK415.out 0).trans rfl; have hcz56_1 : w54.cell? ⟨gb415, 1, none⟩ = some (.int .u32 0) := (Qcx BK415.out 1).trans rfl; have hfz56_0 := Qcy BK415.out 0; have hfz56_1 := Qcy BK415.out 1; have p416 : 0 ≤ (x83_4 : Int) := of_decide_eq_true (by first | (with_reducible assumption) | assumption); have q416 : x83_4 < (l1.length : Int) := of_decide_eq_true (by first | (with_reducible assumption) | assumption); obtain ⟨ad416, e416, hx416_0, hx416_1, hx416_2, hx416_3⟩ := Qfv HR1.out x83_4 p416 q416; cases e416; have hn416_0 : ad416.block ≠ gb415 := Nat.ne_of_lt (Nat.lt_of_lt_of_le (by have := World.block_lt_of_cell? _ _ hx416_0; first | rwa [Qdq] at this | exact this) GW415.out); have hn416_1 : ad416.block ≠ gb415 := Nat.ne_of_lt (Nat.lt_of_lt_of_le (by have := World.block_lt_of_cell? _ _ hx416_0; first | rwa [Qdq] at this | exact this) GW415.out); replace hx416_0 := (HB.out.cell (World.block_lt_of_cell? w _ hx416_0)).trans hx416_0; replace hx416_1 := (HB.out.cell (World.block_lt_of_cell? w _ hx416_1)).trans hx416_1; replace hx416_2 := (HB.out.cell (World.block_lt_of_cell? w _ hx416_2)).trans hx416_2; replace hx416_3 := (HB.out.cell (World.block_lt_of_cell? w _ hx416_3)).trans hx416_3; replace hx416_0 := (Qdr (p := ⟨gb415, 0, none⟩) (by first | (rw [Qdq]; exact hn416_0) | (show (Addr.add _ _).block ≠ _; rw [Qdq]; exact hn416_0) | exact hn416_0) (.int .u32 ((Qfy t408 x83_4).f0))).trans hx416_0; replace hx416_1 := (Qdr (p := ⟨gb415, 0, none⟩) (by first | (rw [Qdq]; exact hn416_0) | (show (Addr.add _ _).block ≠ _; rw [Qdq]; exact hn416_0) | exact hn416_0) (.int .u32 ((Qfy t408 x83_4).f0))).trans hx416_1; replace hx416_2 := (Qdr (p := ⟨gb415, 0, none⟩) (by first | (rw [Qdq]; exact hn416_0) | (show (Addr.add _ _).block ≠ _; rw [Qdq]; exact hn416_0) | exact hn416_0) (.int .u32 ((Qfy t408 x83_4).f0))).trans hx416_2; replace hx416_3 := (Qdr (p := ⟨gb415, 0, none⟩) (by first | (rw [Qdq]; exact hn416_0) | (show (Addr.add _ _).block ≠ _; rw [Qdq]; exact hn416_0) | exact hn416_0) (.int .u32 ((Qfy t408 x83_4).f0))).trans hx416_3; replace hx416_0 := (Qdr (p := ⟨gb415, 1, none⟩) (by first | (rw [Qdq]; exact hn416_1) | (show (Addr.add _ _).block ≠ _; rw [Qdq]; exact hn416_1) | exact hn416_1) (.int .u32 ((Qfy t408 x83_4).f1))).trans hx416_0; replace hx416_1 := (Qdr (p := ⟨gb415, 1, none⟩) (by first | (rw [Qdq]; exact hn416_1) | (show (Addr.add _ _).block ≠ _; rw [Qdq]; exact hn416_1) | exact hn416_1) (.int .u32 ((Qfy t408 x83_4).f1))).trans hx416_1; replace hx416_2 := (Qdr (p := ⟨gb415, 1, none⟩) (by first | (rw [Qdq]; exact hn416_1) | (show (Addr.add _ _).block ≠ _; rw [Qdq]; exact hn416_1) | exact hn416_1) (.int .u32 ((Qfy t408 x83_4).f1))).trans hx416_2; replace hx416_3 := (Qdr (p := ⟨gb415, 1, none⟩) (by first | (rw [Qdq]; exact hn416_1) | (show (Addr.add _ _).block ≠ _; rw [Qdq]; exact hn416_1) | exact hn416_1) (.int .u32 ((Qfy t408 x83_4).f1))).trans hx416_3; clear hn416_0; clear hn416_1; replace p416 := eq_true p416; replace q416 := eq_true q416) | ((with_reducible refine Qfo (f := 22) rfl ?_); refine Qej (some 92) rfl rfl Tryz.func22 (by kernel_rfl) rfl #[.agg #[.bool ((Qfu l1 x83_4).f0), .int .u64 ((Qfu l1 x83_4).f1), .string ((Qfu l1 x83_4).f2), .string ((Qfu l1 x83_4).f3)]] rfl (by (try simp only [List.map_toArray, List.map_cons, List.map_nil]); first | done | rfl | (simp only [List.length_drop, List.length_take]; rfl)) ?_; (with_reducible refine (Qbc.calls k4 ((Qfu l1 x83_4).f0) ((Qfu l1 x83_4).f1) ((Qfu l1 x83_4).f2) ((Qfu l1 x83_4).f3) t417 _ A43.out).mono ?_); rintro e w57 ⟨rfl, hb⟩; refine ⟨_, rfl, ?_⟩; have n0_ := QA (Kd.R_below (by (with_reducible repeat (first | apply Kd.R_alloc | apply Kd.R_drewN | apply Kd.R_drew)); exact (Kd.R_mono (Kd.R_far (p := ⟨gb415, 1, none⟩) (Kd.R_far (p := ⟨gb415, 0, none⟩) (Kd.R_types HO_6.out BK415.out (by decide)) (fun _ hk => hk.2) (.int .u32 ((Qfy t408 x83_4).f0))) (fun _ hk => hk.2) (.int .u32 ((Qfy t408 x83_4).f1))) (fun _ h_ => h_.1))) hb); have n1_ := QA (Kd.R_below (by (with_reducible repeat (first | apply Kd.R_alloc | apply Kd.R_drewN | apply Kd.R_drew)); exact (Kd.R_mono (Kd.R_far (p := ⟨gb415, 1, none⟩) (Kd.R_far (p := ⟨gb415, 0, none⟩) (Kd.R_mono HO_81.out (fun k_ hk => (⟨hk, hk.2⟩ : _ ∧ k_ ≠ gb415))) (fun _ hk => hk.2) (.int .u32 ((Qfy t408 x83_4).f0))) (fun _ hk => hk.2) (.int .u32 ((Qfy t408 x83_4).f1))) (fun _ h_ => h_.1))) hb); have n2_ := QA (Qdg (g := gb403) (o := .cells #[.int .u8 t401, .int .u32 t402] 27 (0, 0)) (by (with_reducible repeat (first | apply Qdf | apply Qde | apply Qdd)); refine Qcv ?_ NB403_415.out _; (with_reducible repeat (first | apply Qdf | apply Qde | apply Qdd)); refine Qcv ?_ NB403_415.out _; (with_reducible repeat (first | apply Qdf | apply Qde | apply Qdd)); exact BK403.out) hb); have n3_ := QA (Qdg (g := gb415) (o := .cells #[.int .u32 ((Qfy t408 x83_4).f0), .int .u32 ((Qfy t408 x83_4).f1)] 69 (0, 0)) (by (with_reducible repeat (first | apply Qdf | apply Qde | apply Qdd)); refine Qds (cs := #[.int .u32 ((Qfy t408 x83_4).f0), .int .u32 0]) ?_ 1 _ rfl; (with_reducible repeat (first | apply Qdf | apply Qde | apply Qdd)); refine Qds (cs := #[.int .u32 0, .int .u32 0]) ?_ 0 _ rfl; (with_reducible repeat (first | apply Qdf | apply Qde | apply Qdd)); exact BK415.out) hb); have n4_ := QA (Qdo (by repeat (first | (with_reducible first | exact HB.out | apply Qcc | apply Qce | apply Qdt | refine Qdp ?_ GE403.out | refine Qdp ?_ GE415.out) | exact HB.out)) hb); clear HO_6; clear HO_81; clear BK403; clear BK415; clear HB; have HO_6 := n0_; have HO_81 := n1_; have BK403 := n2_; have BK415 := n3_; have HB := n4_; clear n0_ n1_ n2_ n3_ n4_; (try clear hb); (try clear hb2); (try clear hk); (try clear hi); have hcz58_0 : w57.cell? ⟨gb415, 0, none⟩ = some (.int .u32 ((Qfy t408 x83_4).f0)) := (Qcx BK415.out 0).trans rfl; have hcz58_1 : w57.cell? ⟨gb415, 1, none⟩ = some (.int .u32 ((Qfy t408 x83_4).f1)) := (Qcx BK415.out 1).trans rfl; have hfz58_0 := Qcy BK415.out 0; have hfz58_1 := Qcy BK415.out 1; have hcz59_0 : w57.cell? ⟨gb403, 0, none⟩ = some (.int .u8 t401) := (Qcx BK403.out 0).trans rfl; have hcz59_1 : w57.cell? ⟨gb403, 1, none⟩ = some (.int .u32 t402) := (Qcx BK403.out 1).trans rfl; have hfz59_0 := Qcy BK403.out 0; have hfz59_1 := Qcy BK403.out 1; obtain ⟨Ao60, co60, eo60⟩ := Kd.R_slice HO_6.out; subst eo60))
                    go_ret
                    exact ⟨by first | rfl | (simp [Qfr, Qfs] <;> rfl) | (simp only [← hji45]; first | rfl | (simp [Qfr, Qfs] <;> rfl)) | (simp [*, Qfr, Qfs] <;> rfl), by repeat (first | (with_reducible first | exact HB.out | apply Qcc | apply Qce | apply Qdt | refine Qdp ?_ GE403.out | refine Qdp ?_ GE415.out) | exact HB.out)⟩
                   ·rw [if_neg c53] at H
                    have c53b0 : decide ((t404.length : Int) < (wrap64 ((wrap64 ((ji45) + (wrap64 ((Qfy t408 x83_4).f1)))) + (t417.size : Int)))) = false := decide_eq_false c53
                    clear c53
                    obtain ⟨ji61, hji61⟩ : ∃ j_ : Int, (wrap64 ((ji45) + (wrap64 ((Qfy t408 x83_4).f1)))) = j_ := ⟨_, rfl⟩
                    replace H : (if 0 ≤ (ji61) then (if (ji61) ≤ (wrap64 ((ji61) + (t417.size : Int))) then (if (wrap64 ((ji61) + (t417.size : Int))) ≤ (t404.length : Int) then (if (strOfNums ((t404.take ((wrap64 ((ji61) + (t417.size : Int))) : Int).toNat).drop ((ji61) : Int).toNat)).toList = t417.toList then (Qap.l0 k4 l1 t404 t412 t408 (t408.length : Int) (wrap64 (x83_4 + 1)) t401 t402) else (some false)) else (none)) else (none)) else (none)) = some r := by first | (rw [hji61] at H; exact H) | (simp only [hji61] at H ⊢; exact H)
                    (try rw [hji61] at c53b0)
                    (try rw [hji61] at A43)
                    have hji61w : (IntKind.i64.wrap ((ji45) + (wrap64 ((Qfy t408 x83_4).f1)))) = ji61 := (Qek _).trans hji61
                    by_cases c62 : 0 ≤ (ji61)
                    ·rw [if_pos c62] at H
                     have c62b0 := eq_true c62
                     have c62b1 : decide (0 ≤ (ji61)) = true := decide_eq_true c62
                     clear c62
                     by_cases c63 : (ji61) ≤ (wrap64 ((ji61) + (t417.size : Int)))
                     ·rw [if_pos c63] at H
                      have c63b0 := eq_true c63
                      have c63b1 : decide ((ji61) ≤ (wrap64 ((ji61) + (t417.size : Int)))) = true := decide_eq_true c63
                      by_cases c64 : (wrap64 ((ji61) + (t417.size : Int))) ≤ (t404.length : Int)
                      ·rw [if_pos c64] at H
                       have c64b0 := eq_true c64
                       have c64b1 : decide ((wrap64 ((ji61) + (t417.size : Int))) ≤ (t404.length : Int)) = true := decide_eq_true c64
                       obtain ⟨y418, hy418⟩ : ∃ y_ : List Int, y_ = ((t404.take ((wrap64 ((ji61) + (t417.size : Int))) : Int).toNat).drop ((ji61) : Int).toNat) := ⟨_, rfl⟩
                       replace H : (if (strOfNums y418).toList = t417.toList then (Qap.l0 k4 l1 t404 t412 t408 (t408.length : Int) (wrap64 (x83_4 + 1)) t401 t402) else (some false)) = some r := by first | (rw [hy418]; with_reducible exact H) | (have H2_ := (Option.bind_some _ _).symm.trans H; rw [hy418]; with_reducible exact H2_) | (have H2_ := (Option.bind_some _ _).symm.trans H; with_reducible exact H2_) | with_reducible exact H | (rw [hy418]; exact H) | exact H
                       have Ny418 := QA hy418
                       clear hy418
                       by_cases c65 : (strOfNums y418).toList = t417.toList
                       ·rw [if_pos c65] at H
                        have c65b0 : ((strOfNums y418).toList == t417.toList) = true := beq_iff_eq.mpr c65
                        have c65b1 : ((strOfNums y418).toList != t417.toList) = false := bne_eq_false_iff_eq.mpr c65
                        clear c65
                        have H' := QA H
                        clear H
                        have p414 : 0 ≤ (x83_4 : Int) := of_decide_eq_true (by first | (with_reducible assumption) | assumption)
                        have q414 : x83_4 < (t408.length : Int) := of_decide_eq_true (by first | (with_reducible assumption) | assumption)
                        obtain ⟨ad414, e414, hx414_0, hx414_1⟩ := at_T69 (Kd.R_reads' HO_81.out).2.2 x83_4 p414 q414
                        cases e414
                        replace p414 := eq_true p414
                        replace q414 := eq_true q414
                        go_wp2_with (first | ((with_reducible refine Qdw (N := 13) rfl ?_); (try (refine Qff (by rfl) ?_; dsimp only)); refine Qdv ?hg (N := 13) ?hd (cs := #[.int .u32 0, .int .u32 0]) (t := 69) ?hr ?_; (case hd => rfl); (case hg => rfl); (case hr => first | (go_simp; done) | (go_simp; rfl)); intro gb415 hg w66 hbox hb; have n0_ := QA (Kd.R_below (by (with_reducible repeat (first | apply Kd.R_alloc | apply Kd.R_drewN | apply Kd.R_drew)); exact HO_6.out) hb); have n1_ := QA (Kd.R_below (Kd.R_elderB (by (with_reducible repeat (first | apply Kd.R_alloc | apply Kd.R_drewN | apply Kd.R_drew)); exact HO_81.out) gb415 (Nat.le_of_eq hg.symm)) hb); have n2_ := QA (Qdg (g := gb403) (o := .cells #[.int .u8 t401, .int .u32 t402] 27 (0, 0)) (by (with_reducible repeat (first | apply Qdf | apply Qde | apply Qdd)); exact BK403.out) hb); have n3_ := QA (Qdo (by repeat (first | (with_reducible first | exact HB.out | apply Qcc | apply Qce | apply Qdt | refine Qdp ?_ GE403.out) | exact HB.out)) hb); have n4_ := QA (hbox); have n5_ := QA ((by rw [hg]; exact (Qdn (by repeat (first | (with_reducible first | exact HB.out | apply Qcc | apply Qce | apply Qdt | refine Qdp ?_ GE403.out) | exact HB.out))) : w.heap.size ≤ gb415)); have n6_ := QA ((by rw [hg]; exact (Qdn (by repeat (first | (with_reducible first | exact HB.out | apply Qcc | apply Qce | apply Qdt | refine Qdp ?_ GE403.out) | exact HB.out))) : w.heap.size ≤ gb415)); have n7_ := QA ((by rw [hg]; exact Nat.ne_of_lt (Qcw (g := gb403) (o := .cells #[.int .u8 t401, .int .u32 t402] 27 (0, 0)) (by (with_reducible repeat (first | apply Qdf | apply Qde | apply Qdd)); exact BK403.out)) : gb403 ≠ gb415)); have n8_ := QA ((by rw [hg]; exact Nat.ne_of_gt (Qcw (g := gb403) (o := .cells #[.int .u8 t401, .int .u32 t402] 27 (0, 0)) (by (with_reducible repeat (first | apply Qdf | apply Qde | apply Qdd)); exact BK403.out)) : gb415 ≠ gb403)); clear HO_6; clear HO_81; clear BK403; clear HB; have HO_6 := n0_; have HO_81 := n1_; have BK403 := n2_; have HB := n3_; have BK415 := n4_; have GW415 := n5_; have GE415 := n6_; have NB403_415 := n7_; have NB415_403 := n8_; clear n0_ n1_ n2_ n3_ n4_ n5_ n6_ n7_ n8_; clear hb hbox hg; have hnb67 := NB415_403.out; have hnc67 := NB403_415.out; have hcz68_0 : w66.cell? ⟨gb415, 0, none⟩ = some (.int .u32 0) := (Qcx BK415.out 0).trans rfl; have hcz68_1 : w66.cell? ⟨gb415, 1, none⟩ = some (.int .u32 0) := (Qcx BK415.out 1).trans rfl; have hfz68_0 := Qcy BK415.out 0; have hfz68_1 := Qcy BK415.out 1; have p416 : 0 ≤ (x83_4 : Int) := of_decide_eq_true (by first | (with_reducible assumption) | assumption); have q416 : x83_4 < (l1.length : Int) := of_decide_eq_true (by first | (with_reducible assumption) | assumption); obtain ⟨ad416, e416, hx416_0, hx416_1, hx416_2, hx416_3⟩ := Qfv HR1.out x83_4 p416 q416; cases e416; have hn416_0 : ad416.block ≠ gb415 := Nat.ne_of_lt (Nat.lt_of_lt_of_le (by have := World.block_lt_of_cell? _ _ hx416_0; first | rwa [Qdq] at this | exact this) GW415.out); have hn416_1 : ad416.block ≠ gb415 := Nat.ne_of_lt (Nat.lt_of_lt_of_le (by have := World.block_lt_of_cell? _ _ hx416_0; first | rwa [Qdq] at this | exact this) GW415.out); replace hx416_0 := (HB.out.cell (World.block_lt_of_cell? w _ hx416_0)).trans hx416_0; replace hx416_1 := (HB.out.cell (World.block_lt_of_cell? w _ hx416_1)).trans hx416_1; replace hx416_2 := (HB.out.cell (World.block_lt_of_cell? w _ hx416_2)).trans hx416_2; replace hx416_3 := (HB.out.cell (World.block_lt_of_cell? w _ hx416_3)).trans hx416_3; replace hx416_0 := (Qdr (p := ⟨gb415, 0, none⟩) (by first | (rw [Qdq]; exact hn416_0) | (show (Addr.add _ _).block ≠ _; rw [Qdq]; exact hn416_0) | exact hn416_0) (.int .u32 ((Qfy t408 x83_4).f0))).trans hx416_0; replace hx416_1 := (Qdr (p := ⟨gb415, 0, none⟩) (by first | (rw [Qdq]; exact hn416_0) | (show (Addr.add _ _).block ≠ _; rw [Qdq]; exact hn416_0) | exact hn416_0) (.int .u32 ((Qfy t408 x83_4).f0))).trans hx416_1; replace hx416_2 := (Qdr (p := ⟨gb415, 0, none⟩) (by first | (rw [Qdq]; exact hn416_0) | (show (Addr.add _ _).block ≠ _; rw [Qdq]; exact hn416_0) | exact hn416_0) (.int .u32 ((Qfy t408 x83_4).f0))).trans hx416_2; replace hx416_3 := (Qdr (p := ⟨gb415, 0, none⟩) (by first | (rw [Qdq]; exact hn416_0) | (show (Addr.add _ _).block ≠ _; rw [Qdq]; exact hn416_0) | exact hn416_0) (.int .u32 ((Qfy t408 x83_4).f0))).trans hx416_3; replace hx416_0 := (Qdr (p := ⟨gb415, 1, none⟩) (by first | (rw [Qdq]; exact hn416_1) | (show (Addr.add _ _).block ≠ _; rw [Qdq]; exact hn416_1) | exact hn416_1) (.int .u32 ((Qfy t408 x83_4).f1))).trans hx416_0; replace hx416_1 := (Qdr (p := ⟨gb415, 1, none⟩) (by first | (rw [Qdq]; exact hn416_1) | (show (Addr.add _ _).block ≠ _; rw [Qdq]; exact hn416_1) | exact hn416_1) (.int .u32 ((Qfy t408 x83_4).f1))).trans hx416_1; replace hx416_2 := (Qdr (p := ⟨gb415, 1, none⟩) (by first | (rw [Qdq]; exact hn416_1) | (show (Addr.add _ _).block ≠ _; rw [Qdq]; exact hn416_1) | exact hn416_1) (.int .u32 ((Qfy t408 x83_4).f1))).trans hx416_2; replace hx416_3 := (Qdr (p := ⟨gb415, 1, none⟩) (by first | (rw [Qdq]; exact hn416_1) | (show (Addr.add _ _).block ≠ _; rw [Qdq]; exact hn416_1) | exact hn416_1) (.int .u32 ((Qfy t408 x83_4).f1))).trans hx416_3; clear hn416_0; clear hn416_1; replace p416 := eq_true p416; replace q416 := eq_true q416) | ((with_reducible refine Qfo (f := 22) rfl ?_); refine Qej (some 92) rfl rfl Tryz.func22 (by kernel_rfl) rfl #[.agg #[.bool ((Qfu l1 x83_4).f0), .int .u64 ((Qfu l1 x83_4).f1), .string ((Qfu l1 x83_4).f2), .string ((Qfu l1 x83_4).f3)]] rfl (by (try simp only [List.map_toArray, List.map_cons, List.map_nil]); first | done | rfl | (simp only [List.length_drop, List.length_take]; rfl)) ?_; (with_reducible refine (Qbc.calls k4 ((Qfu l1 x83_4).f0) ((Qfu l1 x83_4).f1) ((Qfu l1 x83_4).f2) ((Qfu l1 x83_4).f3) t417 _ A43.out).mono ?_); rintro e w69 ⟨rfl, hb⟩; refine ⟨_, rfl, ?_⟩; have n0_ := QA (Kd.R_below (by (with_reducible repeat (first | apply Kd.R_alloc | apply Kd.R_drewN | apply Kd.R_drew)); exact (Kd.R_mono (Kd.R_far (p := ⟨gb415, 1, none⟩) (Kd.R_far (p := ⟨gb415, 0, none⟩) (Kd.R_types HO_6.out BK415.out (by decide)) (fun _ hk => hk.2) (.int .u32 ((Qfy t408 x83_4).f0))) (fun _ hk => hk.2) (.int .u32 ((Qfy t408 x83_4).f1))) (fun _ h_ => h_.1))) hb); have n1_ := QA (Kd.R_below (by (with_reducible repeat (first | apply Kd.R_alloc | apply Kd.R_drewN | apply Kd.R_drew)); exact (Kd.R_mono (Kd.R_far (p := ⟨gb415, 1, none⟩) (Kd.R_far (p := ⟨gb415, 0, none⟩) (Kd.R_mono HO_81.out (fun k_ hk => (⟨hk, hk.2⟩ : _ ∧ k_ ≠ gb415))) (fun _ hk => hk.2) (.int .u32 ((Qfy t408 x83_4).f0))) (fun _ hk => hk.2) (.int .u32 ((Qfy t408 x83_4).f1))) (fun _ h_ => h_.1))) hb); have n2_ := QA (Qdg (g := gb403) (o := .cells #[.int .u8 t401, .int .u32 t402] 27 (0, 0)) (by (with_reducible repeat (first | apply Qdf | apply Qde | apply Qdd)); refine Qcv ?_ NB403_415.out _; (with_reducible repeat (first | apply Qdf | apply Qde | apply Qdd)); refine Qcv ?_ NB403_415.out _; (with_reducible repeat (first | apply Qdf | apply Qde | apply Qdd)); exact BK403.out) hb); have n3_ := QA (Qdg (g := gb415) (o := .cells #[.int .u32 ((Qfy t408 x83_4).f0), .int .u32 ((Qfy t408 x83_4).f1)] 69 (0, 0)) (by (with_reducible repeat (first | apply Qdf | apply Qde | apply Qdd)); refine Qds (cs := #[.int .u32 ((Qfy t408 x83_4).f0), .int .u32 0]) ?_ 1 _ rfl; (with_reducible repeat (first | apply Qdf | apply Qde | apply Qdd)); refine Qds (cs := #[.int .u32 0, .int .u32 0]) ?_ 0 _ rfl; (with_reducible repeat (first | apply Qdf | apply Qde | apply Qdd)); exact BK415.out) hb); have n4_ := QA (Qdo (by repeat (first | (with_reducible first | exact HB.out | apply Qcc | apply Qce | apply Qdt | refine Qdp ?_ GE403.out | refine Qdp ?_ GE415.out) | exact HB.out)) hb); clear HO_6; clear HO_81; clear BK403; clear BK415; clear HB; have HO_6 := n0_; have HO_81 := n1_; have BK403 := n2_; have BK415 := n3_; have HB := n4_; clear n0_ n1_ n2_ n3_ n4_; (try clear hb); (try clear hb2); (try clear hk); (try clear hi); have hcz70_0 : w69.cell? ⟨gb415, 0, none⟩ = some (.int .u32 ((Qfy t408 x83_4).f0)) := (Qcx BK415.out 0).trans rfl; have hcz70_1 : w69.cell? ⟨gb415, 1, none⟩ = some (.int .u32 ((Qfy t408 x83_4).f1)) := (Qcx BK415.out 1).trans rfl; have hfz70_0 := Qcy BK415.out 0; have hfz70_1 := Qcy BK415.out 1; have hcz71_0 : w69.cell? ⟨gb403, 0, none⟩ = some (.int .u8 t401) := (Qcx BK403.out 0).trans rfl; have hcz71_1 : w69.cell? ⟨gb403, 1, none⟩ = some (.int .u32 t402) := (Qcx BK403.out 1).trans rfl; have hfz71_0 := Qcy BK403.out 0; have hfz71_1 := Qcy BK403.out 1; obtain ⟨Ao72, co72, eo72⟩ := Kd.R_slice HO_6.out; subst eo72; have q73 : ((wrap64 ((ji61) + (t417.size : Int))) : Int) ≤ ((t404.length : Int) : Int) := of_decide_eq_true (by first | (with_reducible assumption) | assumption); obtain ⟨i073, hi073, _, hsz73, _⟩ := info_parts Qft; have hroom73 : t404.length ≤ co72 := (Kd.R_reads' HO_6.out).2.1; have hC73 : Kd.C (Kd.int .u8) _ Ao72 t404.length t404 := (Kd.R_reads' HO_6.out).2.2; have ql73 : ((ji61) : Int) ≤ ((wrap64 ((ji61) + (t417.size : Int))) : Int) := of_decide_eq_true (by first | (with_reducible assumption) | assumption); have q073 : (0 : Int) ≤ ((ji61) : Int) := of_decide_eq_true (by first | (with_reducible assumption) | assumption); have hcut73 := cut_mid (P := Tryz.prog) 52 5 .i64 .i64 Tryz.underlying52 hi073 1 hsz73 Ao72 t404.length co72 (ji61) (wrap64 ((ji61) + (t417.size : Int))) q073 ql73 q73 hroom73; have hr73 := Kd.C_mid (lo := ((ji61) : Int).toNat) (hi := ((wrap64 ((ji61) + (t417.size : Int))) : Int).toNat) (c := co72) hC73 (by omega) (by omega) hroom73; obtain ⟨A73, hA73⟩ : ∃ A1, A1 = (if co72 = ((ji61) : Int).toNat then Ao72 else (Ao72 : Option Addr).map (·.add (((ji61) : Int).toNat * 1))) := ⟨_, rfl⟩; obtain ⟨c73, hc73⟩ : ∃ c1, c1 = co72 - ((ji61) : Int).toNat := ⟨_, rfl⟩; have hy73 : y418.length = ((wrap64 ((ji61) + (t417.size : Int))) : Int).toNat - ((ji61) : Int).toNat := (by rw [Ny418.out, List.length_drop, List.length_take] <;> omega); rw [show ((t404).take ((wrap64 ((ji61) + (t417.size : Int))) : Int).toNat).drop ((ji61) : Int).toNat = y418 from Ny418.out.symm] at hr73; replace hr73 : Kd.C (Kd.int .u8) _ A73 y418.length y418 := (by rw [hA73]; exact hr73); rw [← hy73, ← hA73, ← hc73] at hcut73; have HR421 := QA hr73; have HC421 := QA (show y418.length ≤ c73 from by rw [hy73, hc73]; exact Nat.sub_le_sub_right (Nat.le_trans (by omega) hroom73) _); clear hr73 hC73 hroom73 hi073 hsz73 hc73; have KY73 := QA hy73; have KA73 := QA hA73; clear hy73 hA73; have KL73 := QA (show ((wrap64 ((ji61) + (t417.size : Int))) : Int).toNat ≤ t404.length from by omega); have KM73 := QA (show ((ji61) : Int).toNat ≤ ((wrap64 ((ji61) + (t417.size : Int))) : Int).toNat from by omega); replace q73 := eq_true q73; have hcv74 := Kd.C_string (P := Tryz.prog) (A := A73) (c := c73) Tryz.underlying52 Tryz.underlying5 Tryz.underlying9 (by repeat (first | (with_reducible exact HR421.out) | (with_reducible refine Kd.C_alloc ?_ _) | (with_reducible refine Kd.C_drewN ?_ _) | (with_reducible refine Kd.C_drew ?_) | exact HR421.out))))
                        go_roundg k4
                        case measure => have := HJ2.out; have := HJ16.out; have := HJ28.out; have := HK4.out; omega
                        case rel => exact ⟨(wrap64 (x83_4 + 1)), (by first | rfl | (simp; done) | (simp [*]; done)), H', ⟨by have := HJ2.out; have := HJ16.out; have := HJ28.out; have := HK4.out; omega⟩, ⟨by (with_reducible repeat (first | apply Kd.R_alloc | apply Kd.R_drewN | apply Kd.R_drew)); exact HO_6.out⟩, ⟨by (with_reducible repeat (first | apply Kd.R_alloc | apply Kd.R_drewN | apply Kd.R_drew)); exact Kd.R_mono HO_81.out (fun _ hk => trivial)⟩, ⟨by (with_reducible repeat (first | apply Qdf | apply Qde | apply Qdd)); exact BK403.out⟩, ⟨by repeat (first | (with_reducible first | exact HB.out | apply Qcc | apply Qce | apply Qdt | refine Qdp ?_ GE403.out | refine Qdp ?_ GE415.out) | exact HB.out)⟩⟩
                       ·rw [if_neg c65] at H
                        have c65b0 : ((strOfNums y418).toList == t417.toList) = false := beq_eq_false_iff_ne.mpr c65
                        have c65b1 : ((strOfNums y418).toList != t417.toList) = true := bne_iff_ne.mpr c65
                        obtain rfl := Option.some.inj H
                        have p414 : 0 ≤ (x83_4 : Int) := of_decide_eq_true (by first | (with_reducible assumption) | assumption)
                        have q414 : x83_4 < (t408.length : Int) := of_decide_eq_true (by first | (with_reducible assumption) | assumption)
                        obtain ⟨ad414, e414, hx414_0, hx414_1⟩ := at_T69 (Kd.R_reads' HO_81.out).2.2 x83_4 p414 q414
                        cases e414
                        replace p414 := eq_true p414
                        replace q414 := eq_true q414
                        go_wp2_with (first | ((with_reducible refine Qdw (N := 13) rfl ?_); (try (refine Qff (by rfl) ?_; dsimp only)); refine Qdv ?hg (N := 13) ?hd (cs := #[.int .u32 0, .int .u32 0]) (t := 69) ?hr ?_; (case hd => rfl); (case hg => rfl); (case hr => first | (go_simp; done) | (go_simp; rfl)); intro gb415 hg w75 hbox hb; have n0_ := QA (Kd.R_below (by (with_reducible repeat (first | apply Kd.R_alloc | apply Kd.R_drewN | apply Kd.R_drew)); exact HO_6.out) hb); have n1_ := QA (Kd.R_below (Kd.R_elderB (by (with_reducible repeat (first | apply Kd.R_alloc | apply Kd.R_drewN | apply Kd.R_drew)); exact HO_81.out) gb415 (Nat.le_of_eq hg.symm)) hb); have n2_ := QA (Qdg (g := gb403) (o := .cells #[.int .u8 t401, .int .u32 t402] 27 (0, 0)) (by (with_reducible repeat (first | apply Qdf | apply Qde | apply Qdd)); exact BK403.out) hb); have n3_ := QA (Qdo (by repeat (first | (with_reducible first | exact HB.out | apply Qcc | apply Qce | apply Qdt | refine Qdp ?_ GE403.out) | exact HB.out)) hb); have n4_ := QA (hbox); have n5_ := QA ((by rw [hg]; exact (Qdn (by repeat (first | (with_reducible first | exact HB.out | apply Qcc | apply Qce | apply Qdt | refine Qdp ?_ GE403.out) | exact HB.out))) : w.heap.size ≤ gb415)); have n6_ := QA ((by rw [hg]; exact (Qdn (by repeat (first | (with_reducible first | exact HB.out | apply Qcc | apply Qce | apply Qdt | refine Qdp ?_ GE403.out) | exact HB.out))) : w.heap.size ≤ gb415)); have n7_ := QA ((by rw [hg]; exact Nat.ne_of_lt (Qcw (g := gb403) (o := .cells #[.int .u8 t401, .int .u32 t402] 27 (0, 0)) (by (with_reducible repeat (first | apply Qdf | apply Qde | apply Qdd)); exact BK403.out)) : gb403 ≠ gb415)); have n8_ := QA ((by rw [hg]; exact Nat.ne_of_gt (Qcw (g := gb403) (o := .cells #[.int .u8 t401, .int .u32 t402] 27 (0, 0)) (by (with_reducible repeat (first | apply Qdf | apply Qde | apply Qdd)); exact BK403.out)) : gb415 ≠ gb403)); clear HO_6; clear HO_81; clear BK403; clear HB; have HO_6 := n0_; have HO_81 := n1_; have BK403 := n2_; have HB := n3_; have BK415 := n4_; have GW415 := n5_; have GE415 := n6_; have NB403_415 := n7_; have NB415_403 := n8_; clear n0_ n1_ n2_ n3_ n4_ n5_ n6_ n7_ n8_; clear hb hbox hg; have hnb76 := NB415_403.out; have hnc76 := NB403_415.out; have hcz77_0 : w75.cell? ⟨gb415, 0, none⟩ = some (.int .u32 0) := (Qcx BK415.out 0).trans rfl; have hcz77_1 : w75.cell? ⟨gb415, 1, none⟩ = some (.int .u32 0) := (Qcx BK415.out 1).trans rfl; have hfz77_0 := Qcy BK415.out 0; have hfz77_1 := Qcy BK415.out 1; have p416 : 0 ≤ (x83_4 : Int) := of_decide_eq_true (by first | (with_reducible assumption) | assumption); have q416 : x83_4 < (l1.length : Int) := of_decide_eq_true (by first | (with_reducible assumption) | assumption); obtain ⟨ad416, e416, hx416_0, hx416_1, hx416_2, hx416_3⟩ := Qfv HR1.out x83_4 p416 q416; cases e416; have hn416_0 : ad416.block ≠ gb415 := Nat.ne_of_lt (Nat.lt_of_lt_of_le (by have := World.block_lt_of_cell? _ _ hx416_0; first | rwa [Qdq] at this | exact this) GW415.out); have hn416_1 : ad416.block ≠ gb415 := Nat.ne_of_lt (Nat.lt_of_lt_of_le (by have := World.block_lt_of_cell? _ _ hx416_0; first | rwa [Qdq] at this | exact this) GW415.out); replace hx416_0 := (HB.out.cell (World.block_lt_of_cell? w _ hx416_0)).trans hx416_0; replace hx416_1 := (HB.out.cell (World.block_lt_of_cell? w _ hx416_1)).trans hx416_1; replace hx416_2 := (HB.out.cell (World.block_lt_of_cell? w _ hx416_2)).trans hx416_2; replace hx416_3 := (HB.out.cell (World.block_lt_of_cell? w _ hx416_3)).trans hx416_3; replace hx416_0 := (Qdr (p := ⟨gb415, 0, none⟩) (by first | (rw [Qdq]; exact hn416_0) | (show (Addr.add _ _).block ≠ _; rw [Qdq]; exact hn416_0) | exact hn416_0) (.int .u32 ((Qfy t408 x83_4).f0))).trans hx416_0; replace hx416_1 := (Qdr (p := ⟨gb415, 0, none⟩) (by first | (rw [Qdq]; exact hn416_0) | (show (Addr.add _ _).block ≠ _; rw [Qdq]; exact hn416_0) | exact hn416_0) (.int .u32 ((Qfy t408 x83_4).f0))).trans hx416_1; replace hx416_2 := (Qdr (p := ⟨gb415, 0, none⟩) (by first | (rw [Qdq]; exact hn416_0) | (show (Addr.add _ _).block ≠ _; rw [Qdq]; exact hn416_0) | exact hn416_0) (.int .u32 ((Qfy t408 x83_4).f0))).trans hx416_2; replace hx416_3 := (Qdr (p := ⟨gb415, 0, none⟩) (by first | (rw [Qdq]; exact hn416_0) | (show (Addr.add _ _).block ≠ _; rw [Qdq]; exact hn416_0) | exact hn416_0) (.int .u32 ((Qfy t408 x83_4).f0))).trans hx416_3; replace hx416_0 := (Qdr (p := ⟨gb415, 1, none⟩) (by first | (rw [Qdq]; exact hn416_1) | (show (Addr.add _ _).block ≠ _; rw [Qdq]; exact hn416_1) | exact hn416_1) (.int .u32 ((Qfy t408 x83_4).f1))).trans hx416_0; replace hx416_1 := (Qdr (p := ⟨gb415, 1, none⟩) (by first | (rw [Qdq]; exact hn416_1) | (show (Addr.add _ _).block ≠ _; rw [Qdq]; exact hn416_1) | exact hn416_1) (.int .u32 ((Qfy t408 x83_4).f1))).trans hx416_1; replace hx416_2 := (Qdr (p := ⟨gb415, 1, none⟩) (by first | (rw [Qdq]; exact hn416_1) | (show (Addr.add _ _).block ≠ _; rw [Qdq]; exact hn416_1) | exact hn416_1) (.int .u32 ((Qfy t408 x83_4).f1))).trans hx416_2; replace hx416_3 := (Qdr (p := ⟨gb415, 1, none⟩) (by first | (rw [Qdq]; exact hn416_1) | (show (Addr.add _ _).block ≠ _; rw [Qdq]; exact hn416_1) | exact hn416_1) (.int .u32 ((Qfy t408 x83_4).f1))).trans hx416_3; clear hn416_0; clear hn416_1; replace p416 := eq_true p416; replace q416 := eq_true q416) | ((with_reducible refine Qfo (f := 22) rfl ?_); refine Qej (some 92) rfl rfl Tryz.func22 (by kernel_rfl) rfl #[.agg #[.bool ((Qfu l1 x83_4).f0), .int .u64 ((Qfu l1 x83_4).f1), .string ((Qfu l1 x83_4).f2), .string ((Qfu l1 x83_4).f3)]] rfl (by (try simp only [List.map_toArray, List.map_cons, List.map_nil]); first | done | rfl | (simp only [List.length_drop, List.length_take]; rfl)) ?_; (with_reducible refine (Qbc.calls k4 ((Qfu l1 x83_4).f0) ((Qfu l1 x83_4).f1) ((Qfu l1 x83_4).f2) ((Qfu l1 x83_4).f3) t417 _ A43.out).mono ?_); rintro e w78 ⟨rfl, hb⟩; refine ⟨_, rfl, ?_⟩; have n0_ := QA (Kd.R_below (by (with_reducible repeat (first | apply Kd.R_alloc | apply Kd.R_drewN | apply Kd.R_drew)); exact (Kd.R_mono (Kd.R_far (p := ⟨gb415, 1, none⟩) (Kd.R_far (p := ⟨gb415, 0, none⟩) (Kd.R_types HO_6.out BK415.out (by decide)) (fun _ hk => hk.2) (.int .u32 ((Qfy t408 x83_4).f0))) (fun _ hk => hk.2) (.int .u32 ((Qfy t408 x83_4).f1))) (fun _ h_ => h_.1))) hb); have n1_ := QA (Kd.R_below (by (with_reducible repeat (first | apply Kd.R_alloc | apply Kd.R_drewN | apply Kd.R_drew)); exact (Kd.R_mono (Kd.R_far (p := ⟨gb415, 1, none⟩) (Kd.R_far (p := ⟨gb415, 0, none⟩) (Kd.R_mono HO_81.out (fun k_ hk => (⟨hk, hk.2⟩ : _ ∧ k_ ≠ gb415))) (fun _ hk => hk.2) (.int .u32 ((Qfy t408 x83_4).f0))) (fun _ hk => hk.2) (.int .u32 ((Qfy t408 x83_4).f1))) (fun _ h_ => h_.1))) hb); have n2_ := QA (Qdg (g := gb403) (o := .cells #[.int .u8 t401, .int .u32 t402] 27 (0, 0)) (by (with_reducible repeat (first | apply Qdf | apply Qde | apply Qdd)); refine Qcv ?_ NB403_415.out _; (with_reducible repeat (first | apply Qdf | apply Qde | apply Qdd)); refine Qcv ?_ NB403_415.out _; (with_reducible repeat (first | apply Qdf | apply Qde | apply Qdd)); exact BK403.out) hb); have n3_ := QA (Qdg (g := gb415) (o := .cells #[.int .u32 ((Qfy t408 x83_4).f0), .int .u32 ((Qfy t408 x83_4).f1)] 69 (0, 0)) (by (with_reducible repeat (first | apply Qdf | apply Qde | apply Qdd)); refine Qds (cs := #[.int .u32 ((Qfy t408 x83_4).f0), .int .u32 0]) ?_ 1 _ rfl; (with_reducible repeat (first | apply Qdf | apply Qde | apply Qdd)); refine Qds (cs := #[.int .u32 0, .int .u32 0]) ?_ 0 _ rfl; (with_reducible repeat (first | apply Qdf | apply Qde | apply Qdd)); exact BK415.out) hb); have n4_ := QA (Qdo (by repeat (first | (with_reducible first | exact HB.out | apply Qcc | apply Qce | apply Qdt | refine Qdp ?_ GE403.out | refine Qdp ?_ GE415.out) | exact HB.out)) hb); clear HO_6; clear HO_81; clear BK403; clear BK415; clear HB; have HO_6 := n0_; have HO_81 := n1_; have BK403 := n2_; have BK415 := n3_; have HB := n4_; clear n0_ n1_ n2_ n3_ n4_; (try clear hb); (try clear hb2); (try clear hk); (try clear hi); have hcz79_0 : w78.cell? ⟨gb415, 0, none⟩ = some (.int .u32 ((Qfy t408 x83_4).f0)) := (Qcx BK415.out 0).trans rfl; have hcz79_1 : w78.cell? ⟨gb415, 1, none⟩ = some (.int .u32 ((Qfy t408 x83_4).f1)) := (Qcx BK415.out 1).trans rfl; have hfz79_0 := Qcy BK415.out 0; have hfz79_1 := Qcy BK415.out 1; have hcz80_0 : w78.cell? ⟨gb403, 0, none⟩ = some (.int .u8 t401) := (Qcx BK403.out 0).trans rfl; have hcz80_1 : w78.cell? ⟨gb403, 1, none⟩ = some (.int .u32 t402) := (Qcx BK403.out 1).trans rfl; have hfz80_0 := Qcy BK403.out 0; have hfz80_1 := Qcy BK403.out 1; obtain ⟨Ao81, co81, eo81⟩ := Kd.R_slice HO_6.out; subst eo81; have q82 : ((wrap64 ((ji61) + (t417.size : Int))) : Int) ≤ ((t404.length : Int) : Int) := of_decide_eq_true (by first | (with_reducible assumption) | assumption); obtain ⟨i082, hi082, _, hsz82, _⟩ := info_parts Qft; have hroom82 : t404.length ≤ co81 := (Kd.R_reads' HO_6.out).2.1; have hC82 : Kd.C (Kd.int .u8) _ Ao81 t404.length t404 := (Kd.R_reads' HO_6.out).2.2; have ql82 : ((ji61) : Int) ≤ ((wrap64 ((ji61) + (t417.size : Int))) : Int) := of_decide_eq_true (by first | (with_reducible assumption) | assumption); have q082 : (0 : Int) ≤ ((ji61) : Int) := of_decide_eq_true (by first | (with_reducible assumption) | assumption); have hcut82 := cut_mid (P := Tryz.prog) 52 5 .i64 .i64 Tryz.underlying52 hi082 1 hsz82 Ao81 t404.length co81 (ji61) (wrap64 ((ji61) + (t417.size : Int))) q082 ql82 q82 hroom82; have hr82 := Kd.C_mid (lo := ((ji61) : Int).toNat) (hi := ((wrap64 ((ji61) + (t417.size : Int))) : Int).toNat) (c := co81) hC82 (by omega) (by omega) hroom82; obtain ⟨A82, hA82⟩ : ∃ A1, A1 = (if co81 = ((ji61) : Int).toNat then Ao81 else (Ao81 : Option Addr).map (·.add (((ji61) : Int).toNat * 1))) := ⟨_, rfl⟩; obtain ⟨c82, hc82⟩ : ∃ c1, c1 = co81 - ((ji61) : Int).toNat := ⟨_, rfl⟩; have hy82 : y418.length = ((wrap64 ((ji61) + (t417.size : Int))) : Int).toNat - ((ji61) : Int).toNat := (by rw [Ny418.out, List.length_drop, List.length_take] <;> omega); rw [show ((t404).take ((wrap64 ((ji61) + (t417.size : Int))) : Int).toNat).drop ((ji61) : Int).toNat = y418 from Ny418.out.symm] at hr82; replace hr82 : Kd.C (Kd.int .u8) _ A82 y418.length y418 := (by rw [hA82]; exact hr82); rw [← hy82, ← hA82, ← hc82] at hcut82; have HR421 := QA hr82; have HC421 := QA (show y418.length ≤ c82 from by rw [hy82, hc82]; exact Nat.sub_le_sub_right (Nat.le_trans (by omega) hroom82) _); clear hr82 hC82 hroom82 hi082 hsz82 hc82; have KY82 := QA hy82; have KA82 := QA hA82; clear hy82 hA82; have KL82 := QA (show ((wrap64 ((ji61) + (t417.size : Int))) : Int).toNat ≤ t404.length from by omega); have KM82 := QA (show ((ji61) : Int).toNat ≤ ((wrap64 ((ji61) + (t417.size : Int))) : Int).toNat from by omega); replace q82 := eq_true q82; have hcv83 := Kd.C_string (P := Tryz.prog) (A := A82) (c := c82) Tryz.underlying52 Tryz.underlying5 Tryz.underlying9 (by repeat (first | (with_reducible exact HR421.out) | (with_reducible refine Kd.C_alloc ?_ _) | (with_reducible refine Kd.C_drewN ?_ _) | (with_reducible refine Kd.C_drew ?_) | exact HR421.out))))
                        go_ret
                        exact ⟨by first | rfl | (simp [Qfr, Qfs] <;> rfl) | (simp only [← hji45, ← hji61]; first | rfl | (simp [Qfr, Qfs] <;> rfl)) | (simp [*, Qfr, Qfs] <;> rfl), by repeat (first | (with_reducible first | exact HB.out | apply Qcc | apply Qce | apply Qdt | refine Qdp ?_ GE403.out | refine Qdp ?_ GE415.out) | exact HB.out)⟩
                      ·rw [if_neg c64] at H
                       exact absurd H (by simp)
                     ·rw [if_neg c63] at H
                      exact absurd H (by simp)
                    ·rw [if_neg c62] at H
                     exact absurd H (by simp)
                 ·rw [if_neg c44] at H
                  exact absurd H (by simp)
                ·rw [if_neg c42] at H
                 exact absurd H (by simp)
               ·rw [if_neg c41] at H
                exact absurd H (by simp)
              ·rw [if_neg c40] at H
               exact absurd H (by simp)
             ·rw [if_neg c39] at H
              have c39b0 : decide (x83_4 < (t408.length : Int)) = false := decide_eq_false c39
              clear c39
              obtain rfl := Option.some.inj H
              go_wp2
              go_ret
              exact ⟨by first | rfl | (simp [Qfr, Qfs] <;> rfl) | (simp [*, Qfr, Qfs] <;> rfl), by repeat (first | (with_reducible first | exact HB.out | apply Qcc | apply Qce | apply Qdt | refine Qdp ?_ GE403.out) | exact HB.out)⟩
       ·rw [if_neg c28] at H
        have c28b0 : (t407 == 0) = false := beq_eq_false_iff_ne.mpr c28
        have c28b1 : (t407 != 0) = true := bne_iff_ne.mpr c28
        by_cases c84 : (t404.length : Int) = 0
        ·rw [if_pos c84] at H
         have c84b0 : ((t404.length : Int) == 0) = true := beq_iff_eq.mpr c84
         have c84b1 : ((t404.length : Int) != 0) = false := bne_eq_false_iff_eq.mpr c84
         clear c84
         by_cases c85 : (t408.length : Int) = 0
         ·rw [if_pos c85] at H
          have c85b0 : ((t408.length : Int) == 0) = true := beq_iff_eq.mpr c85
          have c85b1 : ((t408.length : Int) != 0) = false := bne_eq_false_iff_eq.mpr c85
          clear c85
          obtain rfl := Option.some.inj H
          obtain ⟨Ao86, co86, eo86⟩ := Kd.R_slice HO_6.out
          subst eo86
          obtain ⟨Ao87, co87, eo87⟩ := Kd.R_slice HO_8.out
          subst eo87
          go_wp2
          go_ret
          exact ⟨by first | rfl | (simp [Qfr, Qfs] <;> rfl) | (simp [*, Qfr, Qfs] <;> rfl), by repeat (first | (with_reducible first | exact HB.out | apply Qcc | apply Qce | apply Qdt | refine Qdp ?_ GE403.out) | exact HB.out)⟩
         ·rw [if_neg c85] at H
          have c85b0 : ((t408.length : Int) == 0) = false := beq_eq_false_iff_ne.mpr c85
          have c85b1 : ((t408.length : Int) != 0) = true := bne_iff_ne.mpr c85
          have c85b2 : ¬ (t408 = []) := fun h_ => c85 (by rw [h_]; rfl)
          obtain rfl := Option.some.inj H
          obtain ⟨Ao88, co88, eo88⟩ := Kd.R_slice HO_6.out
          subst eo88
          obtain ⟨Ao89, co89, eo89⟩ := Kd.R_slice HO_8.out
          subst eo89
          go_wp2
          go_ret
          exact ⟨by first | rfl | (simp [Qfr, Qfs] <;> rfl) | (simp [*, Qfr, Qfs] <;> rfl), by repeat (first | (with_reducible first | exact HB.out | apply Qcc | apply Qce | apply Qdt | refine Qdp ?_ GE403.out) | exact HB.out)⟩
        ·rw [if_neg c84] at H
         have c84b0 : ((t404.length : Int) == 0) = false := beq_eq_false_iff_ne.mpr c84
         have c84b1 : ((t404.length : Int) != 0) = true := bne_iff_ne.mpr c84
         have c84b2 : ¬ (t404 = []) := fun h_ => c84 (by rw [h_]; rfl)
         obtain rfl := Option.some.inj H
         obtain ⟨Ao90, co90, eo90⟩ := Kd.R_slice HO_6.out
         subst eo90
         go_wp2
         go_ret
         exact ⟨by first | rfl | (simp [Qfr, Qfs] <;> rfl) | (simp [*, Qfr, Qfs] <;> rfl), by repeat (first | (with_reducible first | exact HB.out | apply Qcc | apply Qce | apply Qdt | refine Qdp ?_ GE403.out) | exact HB.out)⟩
end Go.Proofs.YtnnofopfbeklbaaGreat.C
end
