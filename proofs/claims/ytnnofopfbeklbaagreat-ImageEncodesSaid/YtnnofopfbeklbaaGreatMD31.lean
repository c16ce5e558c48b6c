/- Texts of this claim's author and of the print of its functions, merged by merge.py. -/
import Derived.Test.YtnnofopfbeklbaaGreatMD03
import Derived.Test.YtnnofopfbeklbaaGreatMD18
import Derived.Test.YtnnofopfbeklbaaGreatMD30
import Derived.Test.YtnnofopfbeklbaaGreatMD09
import Derived.Test.YtnnofopfbeklbaaGreatMD00
import Derived.SizedLaws
import Derived.Deep.Slices
import Derived.Lib.SmallJoins
import Derived.ChangeArms
set_option linter.unusedVariables false
set_option linter.unusedSimpArgs false
set_option maxHeartbeats 8000000
set_option maxRecDepth 100000
section
namespace Go.Proofs.YtnnofopfbeklbaaGreat.C
open Go.RowKit Go.Proofs.YtnnofopfbeklbaaGreatW.PrintWords Go.Proofs.YtnnofopfbeklbaaGreatW.PrintLast Go.Proofs.YtnnofopfbeklbaaGreatW.PrintMore
attribute [local go_sem] Qgh Qgi Qgj Qgk Qgl Qgm Qgn Qgo
def Qap.j0 : Nat → Int → List (S39) → Bool → Option (Bool)
 | 0, _, _, _ => none
 | k + 1, x0, x1, x16 => if x16 = true then ((Qaq.f).bind fun t529 => (some t529)) else ((Qao.f x0).bind fun bt530 => ((Qci.f k bt530.1 bt530.2 x1).bind fun bt533 => ((Qby.f k bt530.1 bt530.2 x1).bind fun bt537 => (if (strOfNums bt533.1).toList = bt537.1.toList then (some (bt533.2 == bt537.2)) else (some false)))))
def Qap.f (k : Nat) (a0 : Int) (l1 : List (S39)) : Option (Bool) := (Qaq.f).bind fun t527 => (if t527 = true then ((Qam.f k l1 40 2000).bind fun t528 => (Qap.j0 k a0 l1 (!t528))) else (Qap.j0 k a0 l1 true))
theorem Qap.calls (k : Nat) (a0 : Int) (A1 : Option Addr) (c1 : Nat) (l1 : List (S39)) (r : Bool) (w : World) (hr1 : Kd.C k39 w A1 l1.length l1) (hc1 : l1.length ≤ c1) (h : Qap.f k a0 l1 = some r) :
  Calls Tryz.prog 4 #[.int .u8 a0, .slice A1 l1.length c1] w fun e w' => e = .returned (.bool r) ∧ Below w.heap.size w w' := by
 have hu27 := Tryz.underlying27
 have HR1 := QA hr1
 have HC1 := QA hc1
 clear hr1 hc1
 have HB := QA (Below.refl w.heap.size w)
 have H : ((Qaq.f).bind fun t527 => (if t527 = true then ((Qam.f k l1 40 2000).bind fun t528 => (Qap.j0 k a0 l1 (!t528))) else (Qap.j0 k a0 l1 true))) = some r := h
 clear h
 have HC3 := QA H
 clear H
 go_enter Tryz.func4, Tryz.ntmps4
 go_upto_region 1 with (fail)
 go_cut [16] (fun v16 wc => ∃ (kq : Nat) (x16_2 : Bool), v16 = .bool x16_2 ∧ Aside0 (Qap.j0 kq a0 l1 x16_2 = some r) ∧ Aside0 (kq ≤ k) ∧ Aside0 (Below w.heap.size w wc))
 case first =>
  have H := HC3.out
  clear HC3
  replace H := Option.bind_eq_some_iff.mp H
  obtain ⟨t527, A40, H⟩ := H
  replace H : (if t527 = true then ((Qam.f k l1 40 2000).bind fun t528 => (Qap.j0 k a0 l1 (!t528))) else (Qap.j0 k a0 l1 true)) = some r := H
  have A4 := QA A40
  clear A40
  by_cases c5 : t527 = true
  ·subst c5
   have H1 : ((Qam.f k l1 40 2000).bind fun t528 => (Qap.j0 k a0 l1 (!t528))) = some r := by rw [if_pos rfl] at H; exact H
   clear H
   have H := H1
   clear H1
   replace H := Option.bind_eq_some_iff.mp H
   obtain ⟨t528, A60, H⟩ := H
   replace H : (Qap.j0 k a0 l1 (!t528)) = some r := H
   have A6 := QA A60
   clear A60
   have H' := QA H
   clear H
   go_wp2_with (first | ((with_reducible refine Qgp (f := 32) rfl ?_); refine Qfg (some 10) rfl rfl Tryz.func32 qq_7 rfl #[] rfl qq_1 ?_; (with_reducible refine (Qaq.calls  true _ A4.out).mono ?_); rintro e w7 ⟨rfl, hb⟩; refine ⟨_, rfl, ?_⟩; have n0_ := QA (Qem qq_b hb); clear HB; have HB := n0_; clear n0_; (try clear hb); (try clear hb2); (try clear hk); (try clear hi)) | (go_at_call 16; (with_reducible refine (Qam.calls k _ _ l1 40 2000 t528 _ ?side1 ?side2 A6.out).mono ?_); (case side1 => repeat (first | exact (Kd.C_below HR1.out HB.out) | (with_reducible refine Kd.C_alloc ?_ _) | (with_reducible refine Kd.C_drewN ?_ _) | (with_reducible refine Kd.C_drew ?_))); (case side2 => exact HC1.out); rintro e w8 ⟨rfl, hb⟩; have n0_ := QA (Qem qq_b hb); clear HB; have HB := n0_; clear n0_; (try clear hb); (try clear hb2); (try clear hk); (try clear hi)))
   go_meet
   case rel => exact ⟨_, (!t528), qq_6, H', ⟨by first | omega | exact Nat.le_refl _⟩, ⟨qq_b⟩⟩
  ·replace c5 := Bool.eq_false_iff.mpr c5
   subst c5
   have H1 : (Qap.j0 k a0 l1 true) = some r := by rw [if_neg (show ¬ (false = true) by decide)] at H; exact H
   clear H
   have H := H1
   clear H1
   have H' := QA H
   clear H
   go_wp2_with (first | ((with_reducible refine Qgp (f := 32) rfl ?_); refine Qfg (some 10) rfl rfl Tryz.func32 qq_7 rfl #[] rfl qq_1 ?_; (with_reducible refine (Qaq.calls  false _ A4.out).mono ?_); rintro e w9 ⟨rfl, hb⟩; refine ⟨_, rfl, ?_⟩; have n0_ := QA (Qem qq_b hb); clear HB; have HB := n0_; clear n0_; (try clear hb); (try clear hb2); (try clear hk); (try clear hi)))
   go_meet
   case rel => exact ⟨_, (true), qq_6, H', ⟨by first | omega | exact Nat.le_refl _⟩, ⟨qq_b⟩⟩
 case rest =>
  clear HC3
  try clear c1
  try clear c5
  obtain ⟨kq, x16_2, rfl, HA, HJ2, HB⟩ := hcut
  cases kq with
  | zero => exact absurd HA.out (by simp [Qap.j0])
  | succ kj2 =>
   have H := HA.out
   clear HA
   simp only [Qap.j0] at H
   by_cases c10 : x16_2 = true
   ·subst c10
    have H1 : ((Qaq.f).bind fun t529 => (some t529)) = some r := by rw [if_pos rfl] at H; exact H
    clear H
    have H := H1
    clear H1
    replace H := Option.bind_eq_some_iff.mp H
    obtain ⟨t529, A110, H⟩ := H
    replace H : (some t529) = some r := H
    have A11 := QA A110
    clear A110
    obtain rfl := Option.some.inj H
    go_wp2_with (first | ((with_reducible refine Qgp (f := 32) rfl ?_); refine Qfg (some 17) rfl rfl Tryz.func32 qq_7 rfl #[] rfl qq_1 ?_; (with_reducible refine (Qaq.calls  t529 _ A11.out).mono ?_); rintro e w12 ⟨rfl, hb⟩; refine ⟨_, rfl, ?_⟩; have n0_ := QA (Qem qq_b hb); clear HB; have HB := n0_; clear n0_; (try clear hb); (try clear hb2); (try clear hk); (try clear hi)))
    go_ret
    exact ⟨by first | rfl | (simp [Qgu, Qgv] <;> rfl) | (simp [*, Qgu, Qgv] <;> rfl), qq_b⟩
   ·replace c10 := Bool.eq_false_iff.mpr c10
    subst c10
    have H1 : ((Qao.f a0).bind fun bt530 => ((Qci.f kj2 bt530.1 bt530.2 l1).bind fun bt533 => ((Qby.f kj2 bt530.1 bt530.2 l1).bind fun bt537 => (if (strOfNums bt533.1).toList = bt537.1.toList then (some (bt533.2 == bt537.2)) else (some false))))) = some r := by rw [if_neg (show ¬ (false = true) by decide)] at H; exact H
    clear H
    have H := H1
    clear H1
    replace H := Option.bind_eq_some_iff.mp H
    obtain ⟨⟨t530, t531⟩, A130, H⟩ := H
    replace H : ((Qci.f kj2 t530 t531 l1).bind fun bt533 => ((Qby.f kj2 t530 t531 l1).bind fun bt537 => (if (strOfNums bt533.1).toList = bt537.1.toList then (some (bt533.2 == bt537.2)) else (some false)))) = some r := H
    have A13 := QA A130
    clear A130
    replace H := Option.bind_eq_some_iff.mp H
    obtain ⟨⟨t533, t536⟩, A140, H⟩ := H
    replace H : ((Qby.f kj2 t530 t531 l1).bind fun bt537 => (if (strOfNums t533).toList = bt537.1.toList then (some (t536 == bt537.2)) else (some false))) = some r := H
    have A14 := QA A140
    clear A140
    replace H := Option.bind_eq_some_iff.mp H
    obtain ⟨⟨t537, t538⟩, A150, H⟩ := H
    replace H : (if (strOfNums t533).toList = t537.toList then (some (t536 == t538)) else (some false)) = some r := H
    have A15 := QA A150
    clear A150
    by_cases c16 : (strOfNums t533).toList = t537.toList
    ·rw [if_pos c16] at H
     have c16b0 : ((strOfNums t533).toList == t537.toList) = true := beq_iff_eq.mpr c16
     have c16b1 : ((strOfNums t533).toList != t537.toList) = false := bne_eq_false_iff_eq.mpr c16
     clear c16
     obtain rfl := Option.some.inj H
     go_wp2_with (first | ((with_reducible refine Qgp (f := 17) rfl ?_); refine Qfg (some 19) rfl rfl Tryz.func17 qq_7 rfl #[.int .u8 a0] rfl qq_1 ?_; (with_reducible refine (Qao.calls a0 t530 t531 _ A13.out).mono ?_); rintro e w17 ⟨rfl, hb⟩; refine ⟨_, rfl, ?_⟩; have n0_ := QA (Qem qq_b hb); clear HB; have HB := n0_; clear n0_; (try clear hb); (try clear hb2); (try clear hk); (try clear hi)) | ((with_reducible refine Qer (N := 5) rfl ?_); refine qq_e 5 #[.int .u8 0, .int .u32 0] 27 ?_; intro gb532 hg w18 hbox hb; have n0_ := QA (Qem qq_b hb); have n1_ := QA (hbox); have n2_ := QA ((qq_s hg : w.heap.size ≤ gb532)); have n3_ := QA ((qq_s hg : w.heap.size ≤ gb532)); clear HB; have HB := n0_; have BK532 := n1_; have GW532 := n2_; have GE532 := n3_; clear n0_ n1_ n2_ n3_; clear hb hbox hg; have hcz19_0 := qq_c (.int .u8 0) BK532.out 0 rfl; have hcz19_1 := qq_c (.int .u32 0) BK532.out 1 rfl; have hfz19_0 := Qdt BK532.out 0; have hfz19_1 := Qdt BK532.out 1) | ((with_reducible refine Qgp (f := 33) rfl ?_); refine Qfg (some 23) rfl rfl Tryz.func33 qq_7 rfl #[.agg #[.int .u8 t530, .int .u32 t531], .slice A1 l1.length c1] rfl qq_1 ?_; (with_reducible refine (Qci.calls kj2 t530 t531 _ _ l1 t533 t536 _ ?side1 ?side2 A14.out).mono ?_); (case side1 => exact Kd.C_below HR1.out qq_b); (case side2 => exact HC1.out); rintro e w20 ⟨v534, rfl, ho0, hb⟩; refine ⟨_, rfl, ?_⟩; have n0_ := QA (Kd.R_lower ho0 (Qel qq_b)); have n1_ := QA (Qeb (g := gb532) (o := .cells #[.int .u8 t530, .int .u32 t531] 27 (0, 0)) (by (with_reducible repeat (first | apply Qea | apply Qdz | apply Qdy)); refine Qep (cs := #[.int .u8 t530, .int .u32 0]) ?_ 1 _ rfl; (with_reducible repeat (first | apply Qea | apply Qdz | apply Qdy)); refine Qep (cs := #[.int .u8 0, .int .u32 0]) ?_ 0 _ rfl; (with_reducible repeat (first | apply Qea | apply Qdz | apply Qdy)); exact BK532.out) hb); have n2_ := QA (Qem qq_b hb); clear BK532; clear HB; have HO535 := n0_; have BK532 := n1_; have HB := n2_; clear n0_ n1_ n2_; (try clear hb); (try clear hb2); (try clear hk); (try clear hi); (try clear ho0); have hcz21_0 := qq_c (.int .u8 t530) BK532.out 0 rfl; have hcz21_1 := qq_c (.int .u32 t531) BK532.out 1 rfl; have hfz21_0 := Qdt BK532.out 0; have hfz21_1 := Qdt BK532.out 1) | ((with_reducible refine Qgp (f := 34) rfl ?_); refine Qfg (some 29) rfl rfl Tryz.func34 qq_7 rfl #[.agg #[.int .u8 t530, .int .u32 t531], .slice A1 l1.length c1] rfl qq_1 ?_; (with_reducible refine (Qby.calls kj2 t530 t531 _ _ l1 t537 t538 _ ?side1 ?side2 A15.out).mono ?_); (case side1 => repeat (first | exact (Kd.C_below HR1.out HB.out) | (with_reducible refine Kd.C_alloc ?_ _) | (with_reducible refine Kd.C_drewN ?_ _) | (with_reducible refine Kd.C_drew ?_))); (case side2 => exact HC1.out); rintro e w22 ⟨rfl, hb⟩; refine ⟨_, rfl, ?_⟩; have n0_ := QA (Kd.R_below qq_4 hb); have n1_ := QA (Qeb (g := gb532) (o := .cells #[.int .u8 t530, .int .u32 t531] 27 (0, 0)) qq_0 hb); have n2_ := QA (Qem qq_b hb); clear HO535; clear BK532; clear HB; have HO535 := n0_; have BK532 := n1_; have HB := n2_; clear n0_ n1_ n2_; (try clear hb); (try clear hb2); (try clear hk); (try clear hi); have hcv23 := Qdf (P := Tryz.prog) Tryz.underlying52 Tryz.underlying5 Tryz.underlying9 (Kd.own_of_R HO535.out)))
     go_ret
     exact ⟨by first | rfl | (simp [Qgu, Qgv] <;> rfl) | (simp [*, Qgu, Qgv] <;> rfl), qq_b⟩
    ·rw [if_neg c16] at H
     have c16b0 : ((strOfNums t533).toList == t537.toList) = false := beq_eq_false_iff_ne.mpr c16
     have c16b1 : ((strOfNums t533).toList != t537.toList) = true := bne_iff_ne.mpr c16
     obtain rfl := Option.some.inj H
     go_wp2_with (first | ((with_reducible refine Qgp (f := 17) rfl ?_); refine Qfg (some 19) rfl rfl Tryz.func17 qq_7 rfl #[.int .u8 a0] rfl qq_1 ?_; (with_reducible refine (Qao.calls a0 t530 t531 _ A13.out).mono ?_); rintro e w24 ⟨rfl, hb⟩; refine ⟨_, rfl, ?_⟩; have n0_ := QA (Qem qq_b hb); clear HB; have HB := n0_; clear n0_; (try clear hb); (try clear hb2); (try clear hk); (try clear hi)) | ((with_reducible refine Qer (N := 5) rfl ?_); refine qq_e 5 #[.int .u8 0, .int .u32 0] 27 ?_; intro gb532 hg w25 hbox hb; have n0_ := QA (Qem qq_b hb); have n1_ := QA (hbox); have n2_ := QA ((qq_s hg : w.heap.size ≤ gb532)); have n3_ := QA ((qq_s hg : w.heap.size ≤ gb532)); clear HB; have HB := n0_; have BK532 := n1_; have GW532 := n2_; have GE532 := n3_; clear n0_ n1_ n2_ n3_; clear hb hbox hg; have hcz26_0 := qq_c (.int .u8 0) BK532.out 0 rfl; have hcz26_1 := qq_c (.int .u32 0) BK532.out 1 rfl; have hfz26_0 := Qdt BK532.out 0; have hfz26_1 := Qdt BK532.out 1) | ((with_reducible refine Qgp (f := 33) rfl ?_); refine Qfg (some 23) rfl rfl Tryz.func33 qq_7 rfl #[.agg #[.int .u8 t530, .int .u32 t531], .slice A1 l1.length c1] rfl qq_1 ?_; (with_reducible refine (Qci.calls kj2 t530 t531 _ _ l1 t533 t536 _ ?side1 ?side2 A14.out).mono ?_); (case side1 => exact Kd.C_below HR1.out qq_b); (case side2 => exact HC1.out); rintro e w27 ⟨v534, rfl, ho0, hb⟩; refine ⟨_, rfl, ?_⟩; have n0_ := QA (Kd.R_lower ho0 (Qel qq_b)); have n1_ := QA (Qeb (g := gb532) (o := .cells #[.int .u8 t530, .int .u32 t531] 27 (0, 0)) (by (with_reducible repeat (first | apply Qea | apply Qdz | apply Qdy)); refine Qep (cs := #[.int .u8 t530, .int .u32 0]) ?_ 1 _ rfl; (with_reducible repeat (first | apply Qea | apply Qdz | apply Qdy)); refine Qep (cs := #[.int .u8 0, .int .u32 0]) ?_ 0 _ rfl; (with_reducible repeat (first | apply Qea | apply Qdz | apply Qdy)); exact BK532.out) hb); have n2_ := QA (Qem qq_b hb); clear BK532; clear HB; have HO535 := n0_; have BK532 := n1_; have HB := n2_; clear n0_ n1_ n2_; (try clear hb); (try clear hb2); (try clear hk); (try clear hi); (try clear ho0); have hcz28_0 := qq_c (.int .u8 t530) BK532.out 0 rfl; have hcz28_1 := qq_c (.int .u32 t531) BK532.out 1 rfl; have hfz28_0 := Qdt BK532.out 0; have hfz28_1 := Qdt BK532.out 1) | ((with_reducible refine Qgp (f := 34) rfl ?_); refine Qfg (some 29) rfl rfl Tryz.func34 qq_7 rfl #[.agg #[.int .u8 t530, .int .u32 t531], .slice A1 l1.length c1] rfl qq_1 ?_; (with_reducible refine (Qby.calls kj2 t530 t531 _ _ l1 t537 t538 _ ?side1 ?side2 A15.out).mono ?_); (case side1 => repeat (first | exact (Kd.C_below HR1.out HB.out) | (with_reducible refine Kd.C_alloc ?_ _) | (with_reducible refine Kd.C_drewN ?_ _) | (with_reducible refine Kd.C_drew ?_))); (case side2 => exact HC1.out); rintro e w29 ⟨rfl, hb⟩; refine ⟨_, rfl, ?_⟩; have n0_ := QA (Kd.R_below qq_4 hb); have n1_ := QA (Qeb (g := gb532) (o := .cells #[.int .u8 t530, .int .u32 t531] 27 (0, 0)) qq_0 hb); have n2_ := QA (Qem qq_b hb); clear HO535; clear BK532; clear HB; have HO535 := n0_; have BK532 := n1_; have HB := n2_; clear n0_ n1_ n2_; (try clear hb); (try clear hb2); (try clear hk); (try clear hi); have hcv30 := Qdf (P := Tryz.prog) Tryz.underlying52 Tryz.underlying5 Tryz.underlying9 (Kd.own_of_R HO535.out)))
     go_ret
     exact ⟨by first | rfl | (simp [Qgu, Qgv] <;> rfl) | (simp [*, Qgu, Qgv] <;> rfl), qq_b⟩
end Go.Proofs.YtnnofopfbeklbaaGreat.C
end
section
namespace Go.Proofs.YtnnofopfbeklbaaGreat.Open
open Go.RowKit Go.Proofs.YtnnofopfbeklbaaGreatW.PrintWords Go.ChangeShapes Go.WideShapes Go.Deep
structure Opens (P : Program) (t : TypeId) {α : Type} (d : Kd α) (G : α → Prop) : Prop where
  sz : P.cellsOf t = d.sz
  out : ∀ {H : Type} {enc : TypeId × Value → H} {w : World} {base : Nat} {spare : Nat → Bool} {held : Bool} {fuel : Nat} {cs : List Value} {x : DataW H × List MemPlace},
    DataW.trod enc P w base spare held fuel t cs = some x → (∀ n ∈ DataW.weights P t x.1, n ≤ reachBytes) → ∃ v, d.K w v cs ∧ G v
theorem opens_bool {P : Program} {t : TypeId} (ht : P.underlying t = some .bool) (hc : P.cellsOf t = 1) : Opens P t Kd.bool (fun _ => True) :=
 ⟨hc, fun h _ => by
  obtain ⟨b, rfl, _⟩ := DataW.trod_bool ht h
  exact ⟨b, rfl, trivial⟩⟩
theorem opens_int {P : Program} {t : TypeId} {k : IntKind} (ht : P.underlying t = some (.int k)) (hc : P.cellsOf t = 1) : Opens P t (Kd.int k) (fun n => (Lit.int k n).wf = true) :=
 ⟨hc, fun h _ => by
  obtain ⟨b, rfl, _, hw⟩ := DataW.trod_int ht h
  exact ⟨b, rfl, hw⟩⟩
theorem opens_string {P : Program} {t : TypeId} (ht : P.underlying t = some .string) (hc : P.cellsOf t = 1) : Opens P t Kd.string (fun s => s.size ≤ 140737488351232) :=
 ⟨hc, fun h hs => by
  obtain ⟨b, rfl, rfl, hw⟩ := DataW.trod_string ht h
  refine ⟨b, rfl, ?_⟩
  have := hs b.data.toList.length (by simp [DataW.weights])
  simpa [reachBytes] using this⟩
theorem Qju {H : Type} {P : Program} {e : TypeId} {n : Nat} : ∀ {ds : List (DataW H)} {d : DataW H}, d ∈ ds → n ∈ DataW.weights P e d → n ∈ DataW.weightsAll P e ds
 | [], _, h, _ => by simp at h
 | a :: r, d, h, hn => by
  simp only [DataW.weightsAll]
  rcases List.mem_cons.1 h with rfl | h
  ·exact List.mem_append_left _ hn
  ·exact List.mem_append_right _ (Qju h hn)
theorem opens_slice {P : Program} {t e : TypeId} {α : Type} {d : Kd α} {G : α → Prop} {B : Nat} (ht : P.underlying t = some (.slice e)) (hc : P.cellsOf t = 1) (hB : P.bytesOf e = B) (he : Opens P e d G) :
  Opens P t (Kd.slice e d) (fun xs => xs.length * B ≤ 140737488351232 ∧ ∀ x ∈ xs, G x) :=
 ⟨hc, fun {H enc w base spare held fuel cs x} h hs => by
  rcases open_slice ht h with ⟨rfl, rfl⟩ | ⟨a, len, cap, m, n, D, Pl, rfl, hb, hl, hm, hmm, rfl, hx⟩
  ·exact ⟨[], ⟨none, 0, rfl, Nat.zero_le _, rfl, by simp, fun hp => absurd hp (by simp)⟩, by simp, by simp⟩
  have hlm : len ≤ m := by rw [hmm]; split <;> omega
  have hw : ∀ i, i < len → ∃ v, (∃ cs', w.cells? base (a.add (i * P.cellsOf e)) (P.cellsOf e) = some cs' ∧ d.K w v cs') ∧ G v := by
   intro i hi
   obtain ⟨cs', h1, h2⟩ := hx i (by omega)
   obtain ⟨v, hv, hg⟩ := he.out h2 (fun q hq => hs q (by
    simp only [DataW.weights, ht]
    refine List.mem_cons_of_mem _ (List.mem_append_left _ (Qju (d := D i) ?_ hq))
    exact List.mem_map.2 ⟨i, List.mem_range.2 hi, rfl⟩))
   exact ⟨v, ⟨cs', h1, hv⟩, hg⟩
  have hw' : ∃ xs : List α, xs.length = len ∧ ∀ i p, xs[i]? = some p → (∃ cs', w.cells? base (a.add (i * P.cellsOf e)) (P.cellsOf e) = some cs' ∧ d.K w p cs') ∧ G p := by
   clear hs hx hmm hlm hm hl h
   induction len with
   | zero => exact ⟨[], rfl, by simp⟩
   | succ q ih =>
    obtain ⟨xs, hxl, hxs⟩ := ih (fun i hi => hw i (by omega))
    obtain ⟨v, hv⟩ := hw q (by omega)
    refine ⟨xs ++ [v], by simp [hxl], fun i p hp => ?_⟩
    rcases Nat.lt_or_ge i xs.length with hi | hi
    ·rw [List.getElem?_append_left hi] at hp
     exact hxs i p hp
    ·have : i = q := by
      have := (List.getElem?_eq_some_iff.1 hp).1
      simp at this
      omega
     subst this
     rw [← hxl] at hp
     have : v = p := by simpa using hp
     subst this
     exact hv
  obtain ⟨xs, hxl, hxs⟩ := hw'
  have hlen : len * B ≤ 140737488351232 := by
   have := hs ((((List.range len).map D).length + ((List.range (m - len)).map fun j => D (len + j)).length) * P.bytesOf e) (by simp [DataW.weights, ht])
   rw [hB] at this
   have h2 : (((List.range len).map D).length + ((List.range (m - len)).map fun j => D (len + j)).length) = m := by simp; omega
   rw [h2] at this
   have h3 : m * B ≤ 140737488351232 := by simpa [reachBytes] using this
   exact Nat.le_trans (Nat.mul_le_mul_right _ hlm) h3
  refine ⟨xs, ⟨some a, cap, by rw [hxl], by rw [hxl]; exact hl, rfl, ?_, fun hp => ⟨a, rfl, fun j p hj => ?_⟩⟩, by rw [hxl]; exact hlen, fun x hx => ?_⟩
  ·rw [hxl]
   exact Nat.le_trans hl (by simpa [maxLen] using hm)
  ·obtain ⟨⟨cs', h1, h2⟩, _⟩ := hxs j p hj
   obtain ⟨_, hcl, hcc⟩ := World.cells?_some h1
   refine ⟨cs', by rw [hcl, he.sz], h2, fun i u hu => ?_⟩
   have hi : i < P.cellsOf e := by rw [← hcl]; exact (List.getElem?_eq_some_iff.1 hu).1
   rw [he.sz] at hcc hi
   have := hcc i hi
   rw [Go.Deep.add_add] at this
   rw [this, hu]
  ·obtain ⟨i, hi⟩ := List.getElem?_of_mem hx
   exact (hxs i x hi).2⟩
structure OpensFs (P : Program) (ts : List TypeId) {α : Type} (d : Kd α) (G : α → Prop) : Prop where
  sz : (ts.map P.cellsOf).sum = d.sz
  out : ∀ {H : Type} {enc : TypeId × Value → H} {w : World} {base : Nat} {spare : Nat → Bool} {held : Bool} {fuel : Nat} {cs : List Value} {xs : List (DataW H × List MemPlace)},
    cs.length = (ts.map P.cellsOf).sum → xs.length = ts.length →
    (∀ i t, ts[i]? = some t → DataW.trod enc P w base spare held fuel t ((cs.drop ((ts.take i).map P.cellsOf).sum).take (P.cellsOf t)) = xs[i]?) →
    (∀ n ∈ DataW.weightsEach P ts (xs.map (·.1)), n ≤ reachBytes) → ∃ v, d.K w v cs ∧ G v
theorem OpensFs.one {P : Program} {t : TypeId} {α : Type} {d : Kd α} {G : α → Prop} (h : Opens P t d G) : OpensFs P [t] d G :=
 ⟨by simp [h.sz], fun {H enc w base spare held fuel cs xs} hl hx ht hs => by
  match xs, hx with
  | [x], _ =>
   have h0 := ht 0 t rfl
   simp at hl h0
   rw [List.take_of_length_le (by omega)] at h0
   exact h.out h0 (fun n hn => hs n (by simp [DataW.weightsEach, hn]))⟩
theorem OpensFs.cons {P : Program} {t : TypeId} {ts : List TypeId} {α β : Type} {d : Kd α} {G : α → Prop} {d' : Kd β} {G' : β → Prop} (h : Opens P t d G) (r : OpensFs P ts d' G') : OpensFs P (t :: ts) (Kd.pair d d') (fun x => G x.1 ∧ G' x.2) :=
 ⟨by simp [h.sz, r.sz, Kd.pair], fun {H enc w base spare held fuel cs xs} hl hx ht hs => by
  match xs, hx with
  | x :: xs, hx =>
   have h0 := ht 0 t rfl
   simp at hl h0 hx
   obtain ⟨a, ha, hga⟩ := h.out h0 (fun n hn => hs n (by simp [DataW.weightsEach, hn]))
   obtain ⟨b, hb, hgb⟩ := r.out (enc := enc) (w := w) (base := base) (spare := spare) (held := held) (fuel := fuel) (cs := cs.drop (P.cellsOf t)) (xs := xs) (by rw [List.length_drop]; omega) hx
    (fun i t' hi => by
     have := ht (i + 1) t' (by simpa using hi)
     simp only [List.take_succ_cons, List.map_cons, List.sum_cons, List.getElem?_cons_succ] at this
     rw [List.drop_drop]
     exact this)
    (fun n hn => hs n (by simp only [List.map_cons, DataW.weightsEach]; exact List.mem_append_right _ hn))
   exact ⟨(a, b), ⟨cs.take (P.cellsOf t), cs.drop (P.cellsOf t), by simp, ha, hb⟩, hga, hgb⟩⟩
def inLine (P : Program) : Nat → List Field → Bool
 | _, [] => true
 | o, f :: r => (f.offset == o) && inLine P (o + P.cellsOf f.type) r
theorem inLine_at {P : Program} : ∀ {fs : List Field} {o : Nat}, inLine P o fs = true → ∀ i f, fs[i]? = some f → f.offset = o + (((fs.map (·.type)).take i).map P.cellsOf).sum
 | [], _, _, i, f, h => by simp at h
 | g :: r, o, h, 0, f, hf => by
  simp [inLine] at h
  simp at hf
  subst hf
  simp [h.1]
 | g :: r, o, h, i + 1, f, hf => by
  simp [inLine] at h
  have := inLine_at h.2 i f (by simpa using hf)
  simp [this]
  omega
theorem opens_struct {P : Program} {t : TypeId} {fs : Array Field} {α β : Type} {d : Kd α} {G : α → Prop} (ht : P.underlying t = some (.struct fs)) (hl : inLine P 0 fs.toList = true) (hc : P.cellsOf t = d.sz)
  (r : OpensFs P (fs.toList.map (·.type)) d G) (f : β → α) (g : α → β) (hfg : ∀ a, f (g a) = a) : Opens P t (Kd.iso d f) (fun x => G (f x)) :=
 ⟨hc, fun {H enc w base spare held fuel cs x} h hs => by
  obtain ⟨xs, n, rfl, rfl, hcl, hxl, hx⟩ := DataW.trod_struct ht h
  obtain ⟨v, hv, hg⟩ := r.out (enc := enc) (w := w) (base := base) (spare := spare) (held := held) (fuel := n) (cs := cs) (xs := xs) (by rw [hcl, hc, r.sz]) (by simp [hxl])
   (fun i t' hi => by
    rw [List.getElem?_map] at hi
    cases hf : fs.toList[i]? with
    | none => simp [hf] at hi
    | some fd =>
     simp [hf] at hi
     subst hi
     have := hx i fd (by simpa using hf)
     rw [inLine_at hl i fd hf, Nat.zero_add] at this
     exact this)
   (fun q hq => hs q (by simp only [DataW.weights, ht]; exact hq))
  exact ⟨g v, by show d.K w (f (g v)) cs; rw [hfg]; exact hv, by show G (f (g v)); rw [hfg]; exact hg⟩⟩
theorem Qjv {H : Type} {P : Program} : ∀ {ts : List TypeId} {ds : List (DataW H)} {j : Nat} {t : TypeId} {d : DataW H}, (DataW.weightsEach P ts ds).all (· ≤ reachBytes) = true → ts[j]? = some t → ds[j]? = some d → ∀ n ∈ DataW.weights P t d, n ≤ reachBytes
 | [], _, _, _, _, _, h, _ => by simp at h
 | _ :: _, [], _, _, _, _, _, h => by simp at h
 | t0 :: ts, d0 :: ds, 0, t, d, hz, h1, h2 => by
  simp at h1 h2
  subst h1 h2
  intro n hn
  simp only [DataW.weightsEach] at hz
  exact of_decide_eq_true (List.all_eq_true.1 hz n (List.mem_append_left _ hn))
 | t0 :: ts, d0 :: ds, j + 1, t, d, hz, h1, h2 => by
  simp only [DataW.weightsEach] at hz
  refine Qjv (ts := ts) (ds := ds) (j := j) ?_ (by simpa using h1) (by simpa using h2)
  rw [List.all_append] at hz
  exact (Bool.and_eq_true _ _ ▸ hz).2
theorem arg_slice {H : Type} {enc : TypeId × Value → H} {P : Program} {w : World} {base : Nat} {spare : Nat → Bool} {held : Bool} {t e : TypeId} {α : Type} {d : Kd α} {G : List α → Prop} (op : Opens P t (Kd.slice e d) G) {a : Option Addr} {len cap : Nat} {x : DataW H} {ps : List MemPlace}
  (h : DataW.Trod enc P w base spare held t (.slice a len cap) x ps) (hs : ∀ n ∈ DataW.weights P t x, n ≤ reachBytes) : ∃ l : List α, len = l.length ∧ l.length ≤ cap ∧ d.C w a l.length l ∧ G l := by
 obtain ⟨fuel, hf⟩ := h
 obtain ⟨l, ⟨A, c, he, hc, hr⟩, hg⟩ := op.out hf hs
 have he' : [Value.slice a len cap] = [.slice A l.length c] := by simpa [Value.cells] using he
 simp only [List.cons.injEq, Value.slice.injEq, and_true] at he'
 obtain ⟨rfl, rfl, rfl⟩ := he'
 exact ⟨l, rfl, hc, hr, hg⟩
end Go.Proofs.YtnnofopfbeklbaaGreat.Open
end
section
namespace Go.Proofs.YtnnofopfbeklbaaGreat.C
open Go.RowKit Go.Proofs.YtnnofopfbeklbaaGreatW.PrintWords Go.Proofs.YtnnofopfbeklbaaGreatW.PrintLast Go.Proofs.YtnnofopfbeklbaaGreatW.PrintMore Go.Proofs.YtnnofopfbeklbaaGreat.Open
theorem opT4 : Opens Tryz.prog 4 Kd.bool (fun x => True) := opens_bool Tryz.underlying4 (by kernel_rfl)
theorem opT34 : Opens Tryz.prog 34 (Kd.int .u64) (fun x => (Lit.int .u64 x).wf = true) := opens_int Tryz.underlying34 (by kernel_rfl)
theorem opT9 : Opens Tryz.prog 9 Kd.string (fun x => x.size ≤ 140737488351232) := opens_string Tryz.underlying9 (by kernel_rfl)
def OG39 (x : S39) : Prop := True ∧ (Lit.int .u64 x.f1).wf = true ∧ x.f2.size ≤ 140737488351232 ∧ x.f3.size ≤ 140737488351232
theorem opT39 : Opens Tryz.prog 39 k39 (fun x => OG39 x) := opens_struct Tryz.underlying39 (by kernel_rfl) (by kernel_rfl) (OpensFs.cons opT4 (OpensFs.cons opT34 (OpensFs.cons opT9 (OpensFs.one opT9)))) (fun x : S39 => (x.f0, x.f1, x.f2, x.f3)) (fun p => ⟨p.1, p.2.1, p.2.2.1, p.2.2.2⟩) (fun _ => rfl)
theorem opT23 : Opens Tryz.prog 23 (Kd.slice 39 k39) (fun x => (x.length * 48 ≤ 140737488351232 ∧ ∀ z1 ∈ x, OG39 z1)) := opens_slice (B := 48) Tryz.underlying23 (by kernel_rfl) (by kernel_rfl) opT39
def Qap.Pure : Prop := ∀ (x0 : Int) (x1 : List (S39)), (Lit.int .u8 x0).wf = true → (x1.length * 48 ≤ 140737488351232 ∧ ∀ z2 ∈ x1, OG39 z2) → ∃ k, Qap.f k x0 x1 = some true
end Go.Proofs.YtnnofopfbeklbaaGreat.C
end
