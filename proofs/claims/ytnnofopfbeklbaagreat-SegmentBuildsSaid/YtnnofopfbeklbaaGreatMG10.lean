/- Texts of this claim's author and of the print of its functions, merged by merge.py. -/
import Derived.Test.YtnnofopfbeklbaaGreatMG02
import Derived.Test.YtnnofopfbeklbaaGreatMG09
import Derived.Shelf.SlSortCmp.NoneTotal
import Derived.Shelf.SlicesQ.IndexFunc
import Derived.Shelf.SlicesE.Clone
import Derived.Ground.SlsfProg
import Derived.Ground.SlgfProg
import Derived.Ground.SlgnProg
import Derived.Shelf.SlGeneric
import Derived.Test.YtnnofopfbeklbaaGreatProg
import Derived.Test.YtnnofopfbeklbaaGreatMG08
set_option linter.unusedVariables false
set_option linter.unusedSimpArgs false
set_option maxHeartbeats 8000000
set_option maxRecDepth 100000
section
namespace Go.Proofs.YtnnofopfbeklbaaGreat.C
open Go.RowKit Go.Proofs.YtnnofopfbeklbaaGreatW.PrintWords Go.Proofs.YtnnofopfbeklbaaGreatW.PrintLast Go.Proofs.YtnnofopfbeklbaaGreatW.PrintMore
attribute [local go_sem] Qfx Qfy Qfz Qga Qgb Qgc Qgd Qge
def Qcl.l0 : Nat → List (S117) → Int → Option (Bool)
 | 0, _, _ => none
 | k + 1, x0, x3 => if x3 < (x0.length : Int) then (if 0 ≤ (wrap64 (x3 - 1)) then (if (wrap64 (x3 - 1)) < (x0.length : Int) then (if 0 ≤ x3 then ((Qck.f k ((Qgn x0 (wrap64 (x3 - 1))).f0) ((Qgn x0 (wrap64 (x3 - 1))).f1) ((Qgn x0 x3).f0) ((Qgn x0 x3).f1)).bind fun t225 => (if t225 ≥ 0 then (some false) else (Qcl.l0 k x0 (wrap64 (x3 + 1))))) else (none)) else (none)) else (none)) else (some true)
def Qcl.f (k : Nat) (l0 : List (S117)) : Option (Bool) := Qcl.l0 k l0 1
def Qcl.T4 : Bool × List (List Nat × List Nat) := (true, [([], []), ([], []), ([1], [1]), ([0, 2], [0, 2]), ([3], [3]), ([], []), ([], []), ([5, 6], [5, 6]), ([7], [7]), ([4, 8], [4, 8]), ([9], [9])])
def Qcl.B4 : List Nat := [0, 0, 2, 7, 15, 0, 0, 96, 224, 511, 1023]
theorem Qcl.tab4 : rtab .any (Qfp Tryz.f160 4) = Qcl.T4 := by kernel_rfl
theorem Qcl.bits4 : Qfl Qcl.T4.2 Qcl.B4 = true := by kernel_rfl
theorem Qcl.calls (k : Nat) (A0 : Option Addr) (c0 : Nat) (l0 : List (S117)) (r : Bool) (w : World) (hr0 : Kd.C k117 w A0 l0.length l0) (hc0 : l0.length ≤ c0) (h : Qcl.f k l0 = some r) :
  Calls Tryz.prog 160 #[.slice A0 l0.length c0] w fun e w' => e = .returned (.bool r) ∧ Below w.heap.size w w' := by
 have hu117 := Tryz.underlying117
 have HR0 := QA hr0
 have HC0 := QA hc0
 clear hr0 hc0
 have HB := QA (Below.refl w.heap.size w)
 have H : (Qcl.l0 k l0 1) = some r := h
 clear h
 have H' := QA H
 clear H
 go_enter Tryz.func160, Tryz.ntmps160
 go_wp2
 go_loopg [3] k (fun kq v3 w' => ∃ (x3_1 : Int), v3 = .int .i64 x3_1 ∧ Aside0 (Qcl.l0 kq l0 x3_1 = some r) ∧ Aside0 (kq ≤ k) ∧ Aside0 (Below w.heap.size w w'))
 case atStart => exact ⟨(1), qq_5, H', ⟨Nat.le_refl _⟩, ⟨qq_b⟩⟩
 case round =>
  clear H'
  obtain ⟨x3_1, rfl, HA, HK1, HB⟩ := hrel
  cases gk with
  | zero => exact absurd HA.out (by simp [Qcl.l0])
  | succ k1 =>
   have H := HA.out
   clear HA
   simp only [Qcl.l0] at H
   by_cases c2 : x3_1 < (l0.length : Int)
   ·rw [if_pos c2] at H
    have c2b0 : decide (x3_1 < (l0.length : Int)) = true := decide_eq_true c2
    clear c2
    obtain ⟨ji3, hji3⟩ : ∃ j_ : Int, (wrap64 (x3_1 - 1)) = j_ := ⟨_, rfl⟩
    replace H : (if 0 ≤ (ji3) then (if (ji3) < (l0.length : Int) then (if 0 ≤ x3_1 then ((Qck.f k1 ((Qgn l0 (ji3)).f0) ((Qgn l0 (ji3)).f1) ((Qgn l0 x3_1).f0) ((Qgn l0 x3_1).f1)).bind fun t225 => (if t225 ≥ 0 then (some false) else (Qcl.l0 k1 l0 (wrap64 (x3_1 + 1))))) else (none)) else (none)) else (none)) = some r := by first | (rw [hji3] at H; exact H) | (simp only [hji3] at H ⊢; exact H)
    have hji3w : (IntKind.i64.wrap (x3_1 - 1)) = ji3 := (Qew _).trans hji3
    by_cases c4 : 0 ≤ (ji3)
    ·rw [if_pos c4] at H
     have c4b0 : decide (0 ≤ (ji3)) = true := decide_eq_true c4
     clear c4
     by_cases c5 : (ji3) < (l0.length : Int)
     ·rw [if_pos c5] at H
      have c5b0 : decide ((ji3) < (l0.length : Int)) = true := decide_eq_true c5
      clear c5
      by_cases c6 : 0 ≤ x3_1
      ·rw [if_pos c6] at H
       have c6b0 : decide (0 ≤ x3_1) = true := decide_eq_true c6
       clear c6
       replace H := Option.bind_eq_some_iff.mp H
       obtain ⟨t225, A70, H⟩ := H
       replace H : (if t225 ≥ 0 then (some false) else (Qcl.l0 k1 l0 (wrap64 (x3_1 + 1)))) = some r := H
       have A7 := QA A70
       clear A70
       by_cases c8 : t225 ≥ 0
       ·rw [if_pos c8] at H
        have c8b0 : decide (0 ≤ t225) = true := decide_eq_true c8
        clear c8
        obtain rfl := Option.some.inj H
        try go_wp2
        have n0_ := QA (Qee HB.out)
        clear HB
        have HB := n0_
        clear n0_
        have p223 : 0 ≤ ((ji3) : Int) := of_decide_eq_true qq_7
        have q223 : (ji3) < (l0.length : Int) := of_decide_eq_true qq_7
        obtain ⟨ad223, e223, hx223_0, hx223_1⟩ := Qgo HR0.out (ji3) p223 q223
        have hw223_1 := hx223_1
        have hw223_0 := hx223_0
        cases e223
        replace hx223_0 := qq_h HB.out hx223_0
        replace hx223_1 := qq_h HB.out hx223_1
        replace p223 := eq_true p223
        replace q223 := eq_true q223
        have p224 : 0 ≤ (x3_1 : Int) := of_decide_eq_true qq_7
        have q224 : x3_1 < (l0.length : Int) := of_decide_eq_true qq_7
        obtain ⟨ad224, e224, hx224_0, hx224_1⟩ := Qgo HR0.out x3_1 p224 q224
        have hw224_1 := hx224_1
        have hw224_0 := hx224_0
        obtain rfl : ad223 = ad224 := (by injection e224)
        replace hx224_0 := qq_h HB.out hx224_0
        replace hx224_1 := qq_h HB.out hx224_1
        replace p224 := eq_true p224
        replace q224 := eq_true q224
        refine Qen (n := 11) (S := fun w' => w'.cell? (ad223.add (((ji3)).toNat * 2)) = some (.int .u64 ((Qgn l0 (ji3)).f0)) ∧ w'.cell? ⟨(ad223.add (((ji3)).toNat * 2)).block, (ad223.add (((ji3)).toNat * 2)).off + 1, none⟩ = some (.int .u32 ((Qgn l0 (ji3)).f1)) ∧ w'.cell? (ad223.add ((x3_1).toNat * 2)) = some (.int .u64 ((Qgn l0 x3_1).f0)) ∧ w'.cell? ⟨(ad223.add ((x3_1).toNat * 2)).block, (ad223.add ((x3_1).toNat * 2)).off + 1, none⟩ = some (.int .u32 ((Qgn l0 x3_1).f1))) (ds := []) #[false, false, false, false, false, false, false, false, false, false, false] qq_6 rfl rfl ⟨((HB.out.cell (World.block_lt_of_cell? w _ hw223_0)).trans hw223_0), ((HB.out.cell (World.block_lt_of_cell? w _ hw223_1)).trans hw223_1), ((HB.out.cell (World.block_lt_of_cell? w _ hw224_0)).trans hw224_0), ((HB.out.cell (World.block_lt_of_cell? w _ hw224_1)).trans hw224_1)⟩ (fun hHeld => ?_); refine Qfn Qcl.tab4 Qcl.bits4 (fun HT_ HW_ => ?_)
        generalize wr.drew = w9 at HB hx223_0 hx223_1 hx224_0 hx224_1 hHeld ⊢
        refine Qeo (i := 0) (N := some 10) (v := ?_) (a' := ?_) #[true, false, false, false, false, false, false, false, false, false, false] rfl rfl (Qfh HT_.out qq_6) (fun _ _ _ h => h) (Or.inl ⟨by rfl, ?_⟩) ?_ ?_
        rotate_left
        ·intro w'
         go_simp
         with_reducible rfl
        rotate_left
        ·exact qq_2
        refine Qeo (i := 1) (N := some 11) (v := ?_) (a' := ?_) #[true, true, false, false, false, false, false, false, false, false, false] rfl rfl (Qfh HT_.out qq_6) (fun _ _ _ h => h) (Or.inl ⟨by rfl, ?_⟩) ?_ ?_
        rotate_left
        ·intro w'
         go_simp
         with_reducible rfl
        rotate_left
        ·exact qq_2
        refine Qeo (i := 2) (N := some 12) (v := ?_) (a' := ?_) #[true, true, true, false, false, false, false, false, false, false, false] rfl rfl (Qfh HT_.out qq_6) (fun _ _ _ h => h) (Or.inl ⟨by rfl, ?_⟩) ?_ ?_
        rotate_left
        ·intro w'
         go_simp
         with_reducible rfl
        rotate_left
        ·exact qq_2
        refine Qeo (i := 3) (N := some 13) (v := ?_) (a' := ?_) #[true, true, true, true, false, false, false, false, false, false, false] rfl rfl (Qfh HT_.out qq_6) (fun _ _ _ h => h) (Or.inl ⟨by rfl, ?_⟩) ?_ ?_
        rotate_left
        ·intro w'
         go_simp
         with_reducible rfl
        rotate_left
        ·exact qq_2
        refine Qeo (i := 5) (N := some 15) (v := ?_) (a' := ?_) #[true, true, true, true, false, true, false, false, false, false, false] rfl rfl (Qfh HT_.out qq_6) (fun _ _ _ h => h) (Or.inl ⟨by rfl, ?_⟩) ?_ ?_
        rotate_left
        ·intro w'
         go_simp
         with_reducible rfl
        rotate_left
        ·exact qq_2
        refine Qeo (i := 6) (N := some 16) (v := ?_) (a' := ?_) #[true, true, true, true, false, true, true, false, false, false, false] rfl rfl (Qfh HT_.out qq_6) (fun _ _ _ h => h) (Or.inl ⟨by rfl, ?_⟩) ?_ ?_
        rotate_left
        ·intro w'
         go_simp
         with_reducible rfl
        rotate_left
        ·exact qq_2
        refine Qeo (i := 7) (N := some 17) (v := ?_) (a' := ?_) #[true, true, true, true, false, true, true, true, false, false, false] rfl rfl (Qfh HT_.out qq_6) (fun _ _ _ h => h) (Or.inl ⟨by rfl, ?_⟩) ?_ ?_
        rotate_left
        ·intro w'
         go_simp
         with_reducible rfl
        rotate_left
        ·exact qq_2
        refine take_ (i := 4) (N := some 14) (v := ?_) (a' := ?_) #[true, true, true, true, true, true, true, true, false, false, false] rfl rfl (Qfm HT_.out HW_.out qq_6) (fun _ _ _ h => h) (Or.inl ⟨by rfl, ?_⟩) hHeld ?_ ?_
        rotate_left
        ·rintro w' ⟨s0, s1, s2, s3⟩
         go_simp
         with_reducible rfl
        rotate_left
        ·exact qq_2
        refine take_ (i := 8) (N := some 18) (v := ?_) (a' := ?_) #[true, true, true, true, true, true, true, true, true, false, false] rfl rfl (Qfm HT_.out HW_.out qq_6) (fun _ _ _ h => h) (Or.inl ⟨by rfl, ?_⟩) hHeld ?_ ?_
        rotate_left
        ·rintro w' ⟨s0, s1, s2, s3⟩
         go_simp
         with_reducible rfl
        rotate_left
        ·exact qq_2
        refine one_ (i := 9) (N := some 19) #[true, true, true, true, true, true, true, true, true, true, false] rfl rfl (Qfi HT_.out qq_6) (by decide) (fun K hK => ?_)
        refine Qet Tryz.func118 qq_6 rfl #[.agg #[.int .u64 ((Qgn l0 (ji3)).f0), .int .u32 ((Qgn l0 (ji3)).f1)], .agg #[.int .u64 ((Qgn l0 x3_1).f0), .int .u32 ((Qgn l0 x3_1).f1)]] (by rfl) rfl rfl (by (try simp only [List.map_toArray, List.map_cons, List.map_nil]); first | done | (simp only [hji3]; rfl) | rfl | (simp only [List.length_drop, List.length_take]; rfl)) ?_
        with_reducible refine (Qck.calls k1 ((Qgn l0 (ji3)).f0) ((Qgn l0 (ji3)).f1) ((Qgn l0 x3_1).f0) ((Qgn l0 x3_1).f1) t225 _ A7.out).mono ?_
        rintro e w10 ⟨rfl, hb⟩
        refine ⟨_, rfl, ?_⟩
        have n0_ := QA (Qea qq_b hb)
        clear HB
        have HB := n0_
        clear n0_
        (try clear hb)
        (try clear hb2)
        (try clear hk)
        (try clear hi)
        refine hK.out _ _ ⟨((HB.out.cell (World.block_lt_of_cell? w _ hw223_0)).trans hw223_0), ((HB.out.cell (World.block_lt_of_cell? w _ hw223_1)).trans hw223_1), ((HB.out.cell (World.block_lt_of_cell? w _ hw224_0)).trans hw224_0), ((HB.out.cell (World.block_lt_of_cell? w _ hw224_1)).trans hw224_1)⟩ (fun hHeld => ?_)
        clear hK K
        refine Qes (a' := ?_) ?_ ?_
        rotate_left
        ·show Act.put _ (some 19) _ = _
         simp only [Act.put, List.setIfInBounds_toArray, List.set_cons_zero, List.set_cons_succ, Qew, Qex]
         rfl
        refine Qeo (i := 10) (N := some 20) (v := ?_) (a' := ?_) #[true, true, true, true, true, true, true, true, true, true, true] rfl rfl (Qfh HT_.out qq_6) (fun _ _ _ h => h) (Or.inl ⟨by rfl, ?_⟩) ?_ ?_
        rotate_left
        ·intro w'
         go_simp
         with_reducible rfl
        rotate_left
        ·exact qq_2
        refine Qep (Qfk HT_.out qq_6) ?_
        try go_wp2
        go_ret
        exact ⟨by first | rfl | (simp [Qgi, Qgj] <;> rfl) | (simp only [← hji3]; first | rfl | (simp [Qgi, Qgj] <;> rfl)) | (simp [*, Qgi, Qgj] <;> rfl), qq_b⟩
       ·rw [if_neg c8] at H
        have c8b0 : decide (0 ≤ t225) = false := decide_eq_false c8
        clear c8
        have H' := QA H
        clear H
        try go_wp2
        have n0_ := QA (Qee HB.out)
        clear HB
        have HB := n0_
        clear n0_
        have p223 : 0 ≤ ((ji3) : Int) := of_decide_eq_true qq_7
        have q223 : (ji3) < (l0.length : Int) := of_decide_eq_true qq_7
        obtain ⟨ad223, e223, hx223_0, hx223_1⟩ := Qgo HR0.out (ji3) p223 q223
        have hw223_1 := hx223_1
        have hw223_0 := hx223_0
        cases e223
        replace hx223_0 := qq_h HB.out hx223_0
        replace hx223_1 := qq_h HB.out hx223_1
        replace p223 := eq_true p223
        replace q223 := eq_true q223
        have p224 : 0 ≤ (x3_1 : Int) := of_decide_eq_true qq_7
        have q224 : x3_1 < (l0.length : Int) := of_decide_eq_true qq_7
        obtain ⟨ad224, e224, hx224_0, hx224_1⟩ := Qgo HR0.out x3_1 p224 q224
        have hw224_1 := hx224_1
        have hw224_0 := hx224_0
        obtain rfl : ad223 = ad224 := (by injection e224)
        replace hx224_0 := qq_h HB.out hx224_0
        replace hx224_1 := qq_h HB.out hx224_1
        replace p224 := eq_true p224
        replace q224 := eq_true q224
        refine Qen (n := 11) (S := fun w' => w'.cell? (ad223.add (((ji3)).toNat * 2)) = some (.int .u64 ((Qgn l0 (ji3)).f0)) ∧ w'.cell? ⟨(ad223.add (((ji3)).toNat * 2)).block, (ad223.add (((ji3)).toNat * 2)).off + 1, none⟩ = some (.int .u32 ((Qgn l0 (ji3)).f1)) ∧ w'.cell? (ad223.add ((x3_1).toNat * 2)) = some (.int .u64 ((Qgn l0 x3_1).f0)) ∧ w'.cell? ⟨(ad223.add ((x3_1).toNat * 2)).block, (ad223.add ((x3_1).toNat * 2)).off + 1, none⟩ = some (.int .u32 ((Qgn l0 x3_1).f1))) (ds := []) #[false, false, false, false, false, false, false, false, false, false, false] qq_6 rfl rfl ⟨((HB.out.cell (World.block_lt_of_cell? w _ hw223_0)).trans hw223_0), ((HB.out.cell (World.block_lt_of_cell? w _ hw223_1)).trans hw223_1), ((HB.out.cell (World.block_lt_of_cell? w _ hw224_0)).trans hw224_0), ((HB.out.cell (World.block_lt_of_cell? w _ hw224_1)).trans hw224_1)⟩ (fun hHeld => ?_); refine Qfn Qcl.tab4 Qcl.bits4 (fun HT_ HW_ => ?_)
        generalize wr.drew = w11 at HB hx223_0 hx223_1 hx224_0 hx224_1 hHeld ⊢
        refine Qeo (i := 0) (N := some 10) (v := ?_) (a' := ?_) #[true, false, false, false, false, false, false, false, false, false, false] rfl rfl (Qfh HT_.out qq_6) (fun _ _ _ h => h) (Or.inl ⟨by rfl, ?_⟩) ?_ ?_
        rotate_left
        ·intro w'
         go_simp
         with_reducible rfl
        rotate_left
        ·exact qq_2
        refine Qeo (i := 1) (N := some 11) (v := ?_) (a' := ?_) #[true, true, false, false, false, false, false, false, false, false, false] rfl rfl (Qfh HT_.out qq_6) (fun _ _ _ h => h) (Or.inl ⟨by rfl, ?_⟩) ?_ ?_
        rotate_left
        ·intro w'
         go_simp
         with_reducible rfl
        rotate_left
        ·exact qq_2
        refine Qeo (i := 2) (N := some 12) (v := ?_) (a' := ?_) #[true, true, true, false, false, false, false, false, false, false, false] rfl rfl (Qfh HT_.out qq_6) (fun _ _ _ h => h) (Or.inl ⟨by rfl, ?_⟩) ?_ ?_
        rotate_left
        ·intro w'
         go_simp
         with_reducible rfl
        rotate_left
        ·exact qq_2
        refine Qeo (i := 3) (N := some 13) (v := ?_) (a' := ?_) #[true, true, true, true, false, false, false, false, false, false, false] rfl rfl (Qfh HT_.out qq_6) (fun _ _ _ h => h) (Or.inl ⟨by rfl, ?_⟩) ?_ ?_
        rotate_left
        ·intro w'
         go_simp
         with_reducible rfl
        rotate_left
        ·exact qq_2
        refine Qeo (i := 5) (N := some 15) (v := ?_) (a' := ?_) #[true, true, true, true, false, true, false, false, false, false, false] rfl rfl (Qfh HT_.out qq_6) (fun _ _ _ h => h) (Or.inl ⟨by rfl, ?_⟩) ?_ ?_
        rotate_left
        ·intro w'
         go_simp
         with_reducible rfl
        rotate_left
        ·exact qq_2
        refine Qeo (i := 6) (N := some 16) (v := ?_) (a' := ?_) #[true, true, true, true, false, true, true, false, false, false, false] rfl rfl (Qfh HT_.out qq_6) (fun _ _ _ h => h) (Or.inl ⟨by rfl, ?_⟩) ?_ ?_
        rotate_left
        ·intro w'
         go_simp
         with_reducible rfl
        rotate_left
        ·exact qq_2
        refine Qeo (i := 7) (N := some 17) (v := ?_) (a' := ?_) #[true, true, true, true, false, true, true, true, false, false, false] rfl rfl (Qfh HT_.out qq_6) (fun _ _ _ h => h) (Or.inl ⟨by rfl, ?_⟩) ?_ ?_
        rotate_left
        ·intro w'
         go_simp
         with_reducible rfl
        rotate_left
        ·exact qq_2
        refine take_ (i := 4) (N := some 14) (v := ?_) (a' := ?_) #[true, true, true, true, true, true, true, true, false, false, false] rfl rfl (Qfm HT_.out HW_.out qq_6) (fun _ _ _ h => h) (Or.inl ⟨by rfl, ?_⟩) hHeld ?_ ?_
        rotate_left
        ·rintro w' ⟨s0, s1, s2, s3⟩
         go_simp
         with_reducible rfl
        rotate_left
        ·exact qq_2
        refine take_ (i := 8) (N := some 18) (v := ?_) (a' := ?_) #[true, true, true, true, true, true, true, true, true, false, false] rfl rfl (Qfm HT_.out HW_.out qq_6) (fun _ _ _ h => h) (Or.inl ⟨by rfl, ?_⟩) hHeld ?_ ?_
        rotate_left
        ·rintro w' ⟨s0, s1, s2, s3⟩
         go_simp
         with_reducible rfl
        rotate_left
        ·exact qq_2
        refine one_ (i := 9) (N := some 19) #[true, true, true, true, true, true, true, true, true, true, false] rfl rfl (Qfi HT_.out qq_6) (by decide) (fun K hK => ?_)
        refine Qet Tryz.func118 qq_6 rfl #[.agg #[.int .u64 ((Qgn l0 (ji3)).f0), .int .u32 ((Qgn l0 (ji3)).f1)], .agg #[.int .u64 ((Qgn l0 x3_1).f0), .int .u32 ((Qgn l0 x3_1).f1)]] (by rfl) rfl rfl (by (try simp only [List.map_toArray, List.map_cons, List.map_nil]); first | done | (simp only [hji3]; rfl) | rfl | (simp only [List.length_drop, List.length_take]; rfl)) ?_
        with_reducible refine (Qck.calls k1 ((Qgn l0 (ji3)).f0) ((Qgn l0 (ji3)).f1) ((Qgn l0 x3_1).f0) ((Qgn l0 x3_1).f1) t225 _ A7.out).mono ?_
        rintro e w12 ⟨rfl, hb⟩
        refine ⟨_, rfl, ?_⟩
        have n0_ := QA (Qea qq_b hb)
        clear HB
        have HB := n0_
        clear n0_
        (try clear hb)
        (try clear hb2)
        (try clear hk)
        (try clear hi)
        refine hK.out _ _ ⟨((HB.out.cell (World.block_lt_of_cell? w _ hw223_0)).trans hw223_0), ((HB.out.cell (World.block_lt_of_cell? w _ hw223_1)).trans hw223_1), ((HB.out.cell (World.block_lt_of_cell? w _ hw224_0)).trans hw224_0), ((HB.out.cell (World.block_lt_of_cell? w _ hw224_1)).trans hw224_1)⟩ (fun hHeld => ?_)
        clear hK K
        refine Qes (a' := ?_) ?_ ?_
        rotate_left
        ·show Act.put _ (some 19) _ = _
         simp only [Act.put, List.setIfInBounds_toArray, List.set_cons_zero, List.set_cons_succ, Qew, Qex]
         rfl
        refine Qeo (i := 10) (N := some 20) (v := ?_) (a' := ?_) #[true, true, true, true, true, true, true, true, true, true, true] rfl rfl (Qfh HT_.out qq_6) (fun _ _ _ h => h) (Or.inl ⟨by rfl, ?_⟩) ?_ ?_
        rotate_left
        ·intro w'
         go_simp
         with_reducible rfl
        rotate_left
        ·exact qq_2
        refine Qep (Qfk HT_.out qq_6) ?_
        try go_wp2
        go_roundg k1
        case measure => have := HK1.out; omega
        case rel => exact ⟨(wrap64 (x3_1 + 1)), qq_5, H', ⟨by have := HK1.out; omega⟩, ⟨qq_b⟩⟩
      ·rw [if_neg c6] at H
       exact absurd H (by simp)
     ·rw [if_neg c5] at H
      exact absurd H (by simp)
    ·rw [if_neg c4] at H
     exact absurd H (by simp)
   ·rw [if_neg c2] at H
    have c2b0 : decide (x3_1 < (l0.length : Int)) = false := decide_eq_false c2
    clear c2
    obtain rfl := Option.some.inj H
    go_wp2
    go_ret
    exact ⟨by first | rfl | (simp [Qgi, Qgj] <;> rfl) | (simp [*, Qgi, Qgj] <;> rfl), qq_b⟩
end Go.Proofs.YtnnofopfbeklbaaGreat.C
end
section
namespace Go.Proofs
open Go.Shelf
def Tryz.sortEnt_ren : Go.Shelf.Ren := ⟨fun | 6 => 117 | 15 => 164 | 14 => 163 | 28 => 213 | 29 => 214 | 20 => 205 | 21 => 206 | 22 => 207 | 23 => 208 | 24 => 209 | 25 => 210 | 26 => 211 | 27 => 212 | 46 => 227 | 47 => 228 | 48 => 229 | 49 => 230 | 50 => 231 | 57 => 239 | n => n, fun | 22 => 106 | 24 => 117 | 25 => 186 | 3 => 3 | 39 => 223 | 0 => 0 | 53 => 22 | 55 => 34 | 4 => 4 | 46 => 279 | 45 => 278 | 50 => 283 | 5 => 5 | 9 => 9 | 66 => 300 | 70 => 303 | 76 => 310 | 77 => 311 | n => n, fun | n => n⟩
theorem Tryz.sortEnt : Go.Proofs.SlLaysF0.n6 Tryz.prog Tryz.sortEnt_ren := {
 mixed := by kernel_rfl
 f6 := ⟨Tryz.f117.name, by decide, Tryz.func117.trans (congrArg some (by kernel_rfl))⟩
 f14 := ⟨Tryz.f163.name, by decide, Tryz.func163.trans (congrArg some (by kernel_rfl))⟩
 f15 := Tryz.func164.trans (congrArg some (by kernel_rfl))
 f20 := ⟨Tryz.f205.name, by decide, Tryz.func205.trans (congrArg some (by kernel_rfl))⟩
 f21 := ⟨Tryz.f206.name, by decide, Tryz.func206.trans (congrArg some (by kernel_rfl))⟩
 f22 := ⟨Tryz.f207.name, by decide, Tryz.func207.trans (congrArg some (by kernel_rfl))⟩
 f23 := ⟨Tryz.f208.name, by decide, Tryz.func208.trans (congrArg some (by kernel_rfl))⟩
 f24 := ⟨Tryz.f209.name, by decide, Tryz.func209.trans (congrArg some (by kernel_rfl))⟩
 f25 := ⟨Tryz.f210.name, by decide, Tryz.func210.trans (congrArg some (by kernel_rfl))⟩
 f26 := ⟨Tryz.f211.name, by decide, Tryz.func211.trans (congrArg some (by kernel_rfl))⟩
 f27 := ⟨Tryz.f212.name, by decide, Tryz.func212.trans (congrArg some (by kernel_rfl))⟩
 f28 := Tryz.func213.trans (congrArg some (by kernel_rfl))
 f29 := Tryz.func214.trans (congrArg some (by kernel_rfl))
 f46 := ⟨Tryz.f227.name, by decide, Tryz.func227.trans (congrArg some (by kernel_rfl))⟩
 f47 := Tryz.func228.trans (congrArg some (by kernel_rfl))
 f48 := Tryz.func229.trans (congrArg some (by kernel_rfl))
 f49 := ⟨Tryz.f230.name, by decide, Tryz.func230.trans (congrArg some (by kernel_rfl))⟩
 f50 := ⟨Tryz.f231.name, by decide, Tryz.func231.trans (congrArg some (by kernel_rfl))⟩
 f57 := ⟨Tryz.f239.name, by decide, Tryz.func239.trans (congrArg some (by kernel_rfl))⟩
 t0 := Tryz.underlying0
 a0 := Tryz.isAgg0
 z0 := Tryz.sizeOf0
 v0 := Tryz.zeroValue0
 t3 := Tryz.underlying3
 a3 := Tryz.isAgg3
 z3 := Tryz.sizeOf3
 v3 := Tryz.zeroValue3
 t4 := Tryz.underlying4
 a4 := Tryz.isAgg4
 z4 := Tryz.sizeOf4
 v4 := Tryz.zeroValue4
 t5 := Tryz.underlying5
 a5 := Tryz.isAgg5
 z5 := Tryz.sizeOf5
 v5 := Tryz.zeroValue5
 t9 := Tryz.underlying9
 a9 := Tryz.isAgg9
 z9 := Tryz.sizeOf9
 v9 := Tryz.zeroValue9
 t22 := Tryz.underlying106
 a22 := Tryz.isAgg106
 z22 := Tryz.sizeOf106
 v22 := Tryz.zeroValue106
 t25 := Tryz.underlying186
 a25 := Tryz.isAgg186
 z25 := Tryz.sizeOf186
 v25 := Tryz.zeroValue186
 t39 := Tryz.underlying223
 a39 := Tryz.isAgg223
 z39 := Tryz.sizeOf223
 v39 := Tryz.zeroValue223
 t45 := Tryz.underlying278
 a45 := Tryz.isAgg278
 z45 := Tryz.sizeOf278
 v45 := Tryz.zeroValue278
 t46 := Tryz.underlying279
 a46 := Tryz.isAgg279
 z46 := Tryz.sizeOf279
 v46 := Tryz.zeroValue279
 t50 := Tryz.underlying283
 a50 := Tryz.isAgg283
 z50 := Tryz.sizeOf283
 v50 := Tryz.zeroValue283
 t53 := Tryz.underlying22
 a53 := Tryz.isAgg22
 z53 := Tryz.sizeOf22
 v53 := Tryz.zeroValue22
 t55 := Tryz.underlying34
 a55 := Tryz.isAgg34
 z55 := Tryz.sizeOf34
 v55 := Tryz.zeroValue34
 t66 := Tryz.underlying300
 a66 := Tryz.isAgg300
 z66 := Tryz.sizeOf300
 v66 := Tryz.zeroValue300
 t70 := Tryz.underlying303
 a70 := Tryz.isAgg303
 z70 := Tryz.sizeOf303
 v70 := Tryz.zeroValue303
 t76 := Tryz.underlying310
 a76 := Tryz.isAgg310
 z76 := Tryz.sizeOf310
 v76 := Tryz.zeroValue310
 t77 := Tryz.underlying311
 a77 := Tryz.isAgg311
 z77 := Tryz.sizeOf311
 v77 := Tryz.zeroValue311 }
def Tryz.hasEnt_ren : Go.Shelf.Ren := ⟨fun | 8 => 161 | 6 => 203 | n => n, fun | 22 => 106 | 23 => 117 | 25 => 233 | 4 => 4 | 3 => 3 | 0 => 0 | n => n, fun | n => n⟩
theorem Tryz.hasEnt : Go.Proofs.SlLaysH0.n8 Tryz.prog Tryz.hasEnt_ren := {
 mixed := by kernel_rfl
 f6 := ⟨Tryz.f203.name, by decide, Tryz.func203.trans (congrArg some (by kernel_rfl))⟩
 f8 := ⟨Tryz.f161.name, by decide, Tryz.func161.trans (congrArg some (by kernel_rfl))⟩
 t0 := Tryz.underlying0
 a0 := Tryz.isAgg0
 z0 := Tryz.sizeOf0
 v0 := Tryz.zeroValue0
 t3 := Tryz.underlying3
 a3 := Tryz.isAgg3
 z3 := Tryz.sizeOf3
 v3 := Tryz.zeroValue3
 t4 := Tryz.underlying4
 a4 := Tryz.isAgg4
 z4 := Tryz.sizeOf4
 v4 := Tryz.zeroValue4
 t22 := Tryz.underlying106
 a22 := Tryz.isAgg106
 z22 := Tryz.sizeOf106
 v22 := Tryz.zeroValue106
 t25 := Tryz.underlying233
 a25 := Tryz.isAgg233
 z25 := Tryz.sizeOf233
 v25 := Tryz.zeroValue233 }
def Tryz.cloneEnt_ren : Go.Shelf.Ren := ⟨fun | 41 => 116 | n => n, fun | 22 => 106 | 23 => 117 | 4 => 4 | n => n, fun | n => n⟩
theorem Tryz.cloneEnt : Go.Proofs.SlLaysE0.n41 Tryz.prog Tryz.cloneEnt_ren := {
 mixed := by kernel_rfl
 f41 := ⟨Tryz.f116.name, by decide, Tryz.func116.trans (congrArg some (by kernel_rfl))⟩
 t4 := Tryz.underlying4
 a4 := Tryz.isAgg4
 z4 := Tryz.sizeOf4
 v4 := Tryz.zeroValue4
 t22 := Tryz.underlying106
 a22 := Tryz.isAgg106
 z22 := Tryz.sizeOf106
 v22 := Tryz.zeroValue106 }
end Go.Proofs
end
section
namespace Go.Proofs.YtnnofopfbeklbaaGreat.C
open Go.RowKit Go.Proofs.YtnnofopfbeklbaaGreatW.PrintWords Go.Proofs.YtnnofopfbeklbaaGreatW.PrintLast Go.Proofs.YtnnofopfbeklbaaGreatW.PrintMore
open Go.Sort
abbrev Ent := S117
def cfE (x y : Ent) : Int := if x.f0 < y.f0 then -1 else if y.f0 < x.f0 then 1 else if x.f1 < y.f1 then -1 else if y.f1 < x.f1 then 1 else 0
def ci (a b : Int) : Int := if a < b then -1 else if b < a then 1 else 0
theorem cmp64_is (a b : Int) : Qaf.f a b = some (ci a b) := by
 unfold Qaf.f Qai.f ci
 simp
 split
 ·rfl
 ·split <;> rfl
theorem cmp32_is (a b : Int) : Qae.f a b = some (ci a b) := by
 unfold Qae.f Qah.f ci
 simp
 split
 ·rfl
 ·split <;> rfl
def orI (a b : Int) : Int := if a = 0 then b else a
theorem or_is (a b : Int) : Qag.f 4 [a, b] = some (orI a b) := by
 have r0 : YtnnofopfbeklbaaGreatW.PrintWords.rd [a, b] 0 = a := rfl
 have r1 : YtnnofopfbeklbaaGreatW.PrintWords.rd [a, b] 1 = b := rfl
 simp [Qag.f, Qag.l0, wrap64, r0, r1, orI]
 split
 ·split <;> simp_all
 ·rfl
theorem cfE_is (x y : Ent) : orI (ci x.f0 y.f0) (ci x.f1 y.f1) = cfE x y := by
 unfold orI ci cfE
 by_cases h1 : x.f0 < y.f0
 ·simp [h1]
 ·by_cases h2 : y.f0 < x.f0 <;> simp [h1, h2]
def Gr (w w' : World) : Prop := ∃ q os, w' = grow (w.drewN q) os
theorem Gr.refl (w : World) : Gr w w := ⟨0, #[], by simp; rfl⟩
theorem Gr.drewN {w w' : World} (h : Gr w w') (n : Nat) : Gr w (w'.drewN n) := by
 obtain ⟨q, os, rfl⟩ := h
 exact ⟨q + n, os, by simp [grow, World.drewN, Nat.add_assoc]⟩
theorem Gr.drew {w w' : World} (h : Gr w w') : Gr w w'.drew := h.drewN 1
theorem Gr.alloc {w w' : World} (h : Gr w w') (o : Obj) : Gr w (w'.alloc o) := by
 obtain ⟨q, os, rfl⟩ := h
 exact ⟨q, os ++ #[o], by rw [alloc_eq_grow, grow_grow]⟩
theorem Gr.trans {a b c : World} (h : Gr a b) (k : Gr b c) : Gr a c := by
 obtain ⟨q, os, rfl⟩ := h
 obtain ⟨q', os', rfl⟩ := k
 exact ⟨q + q', os ++ os', by simp [grow, World.drewN, Nat.add_assoc, Array.append_assoc]⟩
theorem Gr.drawn {w w' w2 : World} (h : Gr w w') (k : Drawn0 w' w2) : Gr w w2 := by
 obtain ⟨n, rfl⟩ := k.out
 exact h.drewN n
theorem cmp64_at (a b : Int) (W : World) : Calls Tryz.prog 166 #[.int .u64 a, .int .u64 b] W fun e w' => e = .returned (.int .i64 (ci a b)) ∧ Drawn0 W w' := Qaf.calls a b _ W (cmp64_is a b)
theorem cmp32_at (a b : Int) (W : World) : Calls Tryz.prog 167 #[.int .u32 a, .int .u32 b] W fun e w' => e = .returned (.int .i64 (ci a b)) ∧ Drawn0 W w' := Qae.calls a b _ W (cmp32_is a b)
theorem or_at (a b : Int) (W : World) : Calls Tryz.prog 165 #[.slice (some ⟨W.heap.size, 0, none⟩) 2 2] (W.alloc (.cells #[.int .i64 a, .int .i64 b] 3)) fun e w' => e = .returned (.int .i64 (orI a b)) ∧ Drawn0 (W.alloc (.cells #[.int .i64 a, .int .i64 b] 3)) w' := by
 have hC : Kd.C (Kd.int .i64) (W.alloc (.cells #[.int .i64 a, .int .i64 b] 3)) (some ⟨W.heap.size, 0, none⟩) [a, b].length [a, b] :=
  Kd.C_of_reads (d := (0 : Int)) ⟨rfl, by simp, fun _ => ⟨_, rfl, fun j hj => by
   have hj' : j < 2 := hj
   have hb := Qdj (Qdu W (.cells #[.int .i64 a, .int .i64 b] 3)) j
   rw [Qcu, hb]
   have : j = 0 ∨ j = 1 := by omega
   rcases this with rfl | rfl <;> rfl⟩⟩
 exact Qag.calls 4 _ 2 [a, b] _ _ hC (by simp) (or_is a b)
theorem cmp_gr (x y : Ent) (w : World) : Calls Tryz.prog 118 #[.agg #[.int .u64 x.f0, .int .u32 x.f1], .agg #[.int .u64 y.f0, .int .u32 y.f1]] w fun e w' => e = .returned (.int .i64 (cfE x y)) ∧ Gr w w' := by
 have hu := Tryz.underlying117
 have b1 := Qdu w (.cells #[.int .u64 x.f0, .int .u32 x.f1] 117)
 have b1' := Qdq b1 (.cells #[.int .u64 y.f0, .int .u32 y.f1] 117)
 have b2 := Qdu (w.alloc (.cells #[.int .u64 x.f0, .int .u32 x.f1] 117)) (.cells #[.int .u64 y.f0, .int .u32 y.f1] 117)
 have hg : Gr w ((w.alloc (.cells #[.int .u64 x.f0, .int .u32 x.f1] 117)).alloc (.cells #[.int .u64 y.f0, .int .u32 y.f1] 117)) := ((Gr.refl w).alloc _).alloc _
 rw [World.size_alloc] at b2
 obtain ⟨W, hW⟩ : ∃ W, W = (w.alloc (.cells #[.int .u64 x.f0, .int .u32 x.f1] 117)).alloc (.cells #[.int .u64 y.f0, .int .u32 y.f1] 117) := ⟨_, rfl⟩
 rw [← hW] at b1' b2 hg
 have c0 : W.cell? ⟨w.heap.size, 0, none⟩ = some (.int .u64 x.f0) := (Qdj b1' 0).trans rfl
 have c1 : W.cell? ⟨w.heap.size, 1, none⟩ = some (.int .u32 x.f1) := (Qdj b1' 1).trans rfl
 have c2 : W.cell? ⟨w.heap.size + 1, 0, none⟩ = some (.int .u64 y.f0) := (Qdj b2 0).trans rfl
 have c3 : W.cell? ⟨w.heap.size + 1, 1, none⟩ = some (.int .u32 y.f1) := (Qdj b2 1).trans rfl
 have HW := QA hW
 clear hW b1 b1' b2
 go_enter Tryz.func118, Tryz.ntmps118
 go_wp2_with fail
 rw [← HW.out]
 go_region_held3 (fun w' => w'.cell? ⟨w.heap.size, 0, none⟩ = some (.int .u64 x.f0) ∧ w'.cell? ⟨w.heap.size, 1, none⟩ = some (.int .u32 x.f1) ∧ w'.cell? ⟨w.heap.size + 1, 0, none⟩ = some (.int .u64 y.f0) ∧ w'.cell? ⟨w.heap.size + 1, 1, none⟩ = some (.int .u32 y.f1)) (go_keep) (first
  | (go_at_call 166; refine (cmp64_at _ _ _).mono ?_; rintro e w7 ⟨rfl, hd⟩; obtain ⟨q1, rfl⟩ := hd.out; clear hd)
  | (go_at_call 167; refine (cmp32_at _ _ _).mono ?_; rintro e w7 ⟨rfl, hd⟩; obtain ⟨q2, rfl⟩ := hd.out; clear hd)
  | (go_at_call 165; refine (or_at _ _ _).mono ?_; rintro e w7 ⟨rfl, hd⟩; obtain ⟨q3, rfl⟩ := hd.out; clear hd))
 all_goals
  go_wp2
  go_ret
  refine ⟨by (rw [← cfE_is]; rfl), ?_⟩
  repeat (first | exact hg | apply Gr.drewN | apply Gr.drew | apply Gr.alloc)
end Go.Proofs.YtnnofopfbeklbaaGreat.C
end
