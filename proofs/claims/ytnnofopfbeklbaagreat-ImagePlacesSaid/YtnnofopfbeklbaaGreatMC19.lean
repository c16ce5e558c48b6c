/- Texts of this claim's author and of the print of its functions, merged by merge.py. -/
import Derived.Test.YtnnofopfbeklbaaGreatMC02
import Derived.Test.YtnnofopfbeklbaaGreatMC18
set_option linter.unusedVariables false
set_option linter.unusedSimpArgs false
section
namespace Go.Proofs.YtnnofopfbeklbaaGreat.C
open Go.RowKit Go.Proofs.YtnnofopfbeklbaaGreatW.PrintWords Go.Proofs.YtnnofopfbeklbaaGreatW.PrintLast Go.Proofs.YtnnofopfbeklbaaGreatW.PrintMore
attribute [local go_sem] Qfg Qfh Qfi Qfj Qfk Qfl Qfm Qfn
def Qaf.f (a0 : Int) (a1 : Int) : Option (Int) := (Qai.f a0).bind fun t209 => ((Qai.f a1).bind fun t210 => (if t209 = true then (if t210 = true then (some 0) else (some (-1))) else (if t210 = true then (some 1) else (if a0 < a1 then (some (-1)) else (if a0 > a1 then (some 1) else (some 0))))))
set_option maxHeartbeats 8000000 in
set_option maxRecDepth 100000 in
theorem Qaf.calls (a0 : Int) (a1 : Int) (r : Int) (w : World) (h : Qaf.f a0 a1 = some r) :
  Calls Tryz.prog 166 #[.int .u64 a0, .int .u64 a1] w fun e w' => e = .returned (.int .i64 r) ∧ Drawn0 w w' := by
 have H : ((Qai.f a0).bind fun t209 => ((Qai.f a1).bind fun t210 => (if t209 = true then (if t210 = true then (some 0) else (some (-1))) else (if t210 = true then (some 1) else (if a0 < a1 then (some (-1)) else (if a0 > a1 then (some 1) else (some 0))))))) = some r := h
 clear h
 replace H := Option.bind_eq_some_iff.mp H
 obtain ⟨t209, A30, H⟩ := H
 replace H : ((Qai.f a1).bind fun t210 => (if t209 = true then (if t210 = true then (some 0) else (some (-1))) else (if t210 = true then (some 1) else (if a0 < a1 then (some (-1)) else (if a0 > a1 then (some 1) else (some 0)))))) = some r := H
 have A3 := QA A30
 clear A30
 replace H := Option.bind_eq_some_iff.mp H
 obtain ⟨t210, A40, H⟩ := H
 replace H : (if t209 = true then (if t210 = true then (some 0) else (some (-1))) else (if t210 = true then (some 1) else (if a0 < a1 then (some (-1)) else (if a0 > a1 then (some 1) else (some 0))))) = some r := H
 have A4 := QA A40
 clear A40
 by_cases c5 : t209 = true
 ·subst c5
  have H1 : (if t210 = true then (some 0) else (some (-1))) = some r := by rw [if_pos rfl] at H; exact H
  clear H
  have H := H1
  clear H1
  by_cases c6 : t210 = true
  ·subst c6
   have H1 : (some 0) = some r := by rw [if_pos rfl] at H; exact H
   clear H
   have H := H1
   clear H1
   obtain rfl := Option.some.inj H
   go_enter Tryz.func166, Tryz.ntmps166
   go_wp2_with (first | ((with_reducible refine Qfo (f := 215) rfl ?_); refine Qej (some 8) rfl rfl Tryz.func215 (by kernel_rfl) rfl #[.int .u64 a0] rfl (by (try simp only [List.map_toArray, List.map_cons, List.map_nil]); first | done | rfl | (simp only [List.length_drop, List.length_take]; rfl)) ?_; (with_reducible refine (Qai.calls a0 true _ A3.out).mono ?_); rintro e w' ⟨rfl, ⟨nd, rfl⟩⟩; refine ⟨_, rfl, ?_⟩) | ((with_reducible refine Qfo (f := 215) rfl ?_); refine Qej (some 10) rfl rfl Tryz.func215 (by kernel_rfl) rfl #[.int .u64 a1] rfl (by (try simp only [List.map_toArray, List.map_cons, List.map_nil]); first | done | rfl | (simp only [List.length_drop, List.length_take]; rfl)) ?_; (with_reducible refine (Qai.calls a1 true _ A4.out).mono ?_); rintro e w' ⟨rfl, ⟨nd, rfl⟩⟩; refine ⟨_, rfl, ?_⟩))
   go_ret
   exact ⟨by first | rfl | (simp; done) | (simp [*]; done), by repeat (first | exact Drawn0.refl _ | apply Drawn0.step)⟩
  ·replace c6 := Bool.eq_false_iff.mpr c6
   subst c6
   have H1 : (some (-1)) = some r := by rw [if_neg (show ¬ (false = true) by decide)] at H; exact H
   clear H
   have H := H1
   clear H1
   obtain rfl := Option.some.inj H
   go_enter Tryz.func166, Tryz.ntmps166
   go_wp2_with (first | ((with_reducible refine Qfo (f := 215) rfl ?_); refine Qej (some 8) rfl rfl Tryz.func215 (by kernel_rfl) rfl #[.int .u64 a0] rfl (by (try simp only [List.map_toArray, List.map_cons, List.map_nil]); first | done | rfl | (simp only [List.length_drop, List.length_take]; rfl)) ?_; (with_reducible refine (Qai.calls a0 true _ A3.out).mono ?_); rintro e w' ⟨rfl, ⟨nd, rfl⟩⟩; refine ⟨_, rfl, ?_⟩) | ((with_reducible refine Qfo (f := 215) rfl ?_); refine Qej (some 10) rfl rfl Tryz.func215 (by kernel_rfl) rfl #[.int .u64 a1] rfl (by (try simp only [List.map_toArray, List.map_cons, List.map_nil]); first | done | rfl | (simp only [List.length_drop, List.length_take]; rfl)) ?_; (with_reducible refine (Qai.calls a1 false _ A4.out).mono ?_); rintro e w' ⟨rfl, ⟨nd, rfl⟩⟩; refine ⟨_, rfl, ?_⟩))
   go_ret
   exact ⟨by first | rfl | (simp; done) | (simp [*]; done), by repeat (first | exact Drawn0.refl _ | apply Drawn0.step)⟩
 ·replace c5 := Bool.eq_false_iff.mpr c5
  subst c5
  have H1 : (if t210 = true then (some 1) else (if a0 < a1 then (some (-1)) else (if a0 > a1 then (some 1) else (some 0)))) = some r := by rw [if_neg (show ¬ (false = true) by decide)] at H; exact H
  clear H
  have H := H1
  clear H1
  by_cases c7 : t210 = true
  ·subst c7
   have H1 : (some 1) = some r := by rw [if_pos rfl] at H; exact H
   clear H
   have H := H1
   clear H1
   obtain rfl := Option.some.inj H
   go_enter Tryz.func166, Tryz.ntmps166
   go_wp2_with (first | ((with_reducible refine Qfo (f := 215) rfl ?_); refine Qej (some 8) rfl rfl Tryz.func215 (by kernel_rfl) rfl #[.int .u64 a0] rfl (by (try simp only [List.map_toArray, List.map_cons, List.map_nil]); first | done | rfl | (simp only [List.length_drop, List.length_take]; rfl)) ?_; (with_reducible refine (Qai.calls a0 false _ A3.out).mono ?_); rintro e w' ⟨rfl, ⟨nd, rfl⟩⟩; refine ⟨_, rfl, ?_⟩) | ((with_reducible refine Qfo (f := 215) rfl ?_); refine Qej (some 10) rfl rfl Tryz.func215 (by kernel_rfl) rfl #[.int .u64 a1] rfl (by (try simp only [List.map_toArray, List.map_cons, List.map_nil]); first | done | rfl | (simp only [List.length_drop, List.length_take]; rfl)) ?_; (with_reducible refine (Qai.calls a1 true _ A4.out).mono ?_); rintro e w' ⟨rfl, ⟨nd, rfl⟩⟩; refine ⟨_, rfl, ?_⟩))
   go_ret
   exact ⟨by first | rfl | (simp; done) | (simp [*]; done), by repeat (first | exact Drawn0.refl _ | apply Drawn0.step)⟩
  ·replace c7 := Bool.eq_false_iff.mpr c7
   subst c7
   have H1 : (if a0 < a1 then (some (-1)) else (if a0 > a1 then (some 1) else (some 0))) = some r := by rw [if_neg (show ¬ (false = true) by decide)] at H; exact H
   clear H
   have H := H1
   clear H1
   by_cases c8 : a0 < a1
   ·rw [if_pos c8] at H
    have c8b0 : decide (a0 < a1) = true := decide_eq_true c8
    clear c8
    obtain rfl := Option.some.inj H
    go_enter Tryz.func166, Tryz.ntmps166
    go_wp2_with (first | ((with_reducible refine Qfo (f := 215) rfl ?_); refine Qej (some 8) rfl rfl Tryz.func215 (by kernel_rfl) rfl #[.int .u64 a0] rfl (by (try simp only [List.map_toArray, List.map_cons, List.map_nil]); first | done | rfl | (simp only [List.length_drop, List.length_take]; rfl)) ?_; (with_reducible refine (Qai.calls a0 false _ A3.out).mono ?_); rintro e w' ⟨rfl, ⟨nd, rfl⟩⟩; refine ⟨_, rfl, ?_⟩) | ((with_reducible refine Qfo (f := 215) rfl ?_); refine Qej (some 10) rfl rfl Tryz.func215 (by kernel_rfl) rfl #[.int .u64 a1] rfl (by (try simp only [List.map_toArray, List.map_cons, List.map_nil]); first | done | rfl | (simp only [List.length_drop, List.length_take]; rfl)) ?_; (with_reducible refine (Qai.calls a1 false _ A4.out).mono ?_); rintro e w' ⟨rfl, ⟨nd, rfl⟩⟩; refine ⟨_, rfl, ?_⟩))
    go_ret
    exact ⟨by first | rfl | (simp; done) | (simp [*]; done), by repeat (first | exact Drawn0.refl _ | apply Drawn0.step)⟩
   ·rw [if_neg c8] at H
    have c8b0 : decide (a0 < a1) = false := decide_eq_false c8
    clear c8
    by_cases c9 : a0 > a1
    ·rw [if_pos c9] at H
     have c9b0 : decide (a1 < a0) = true := decide_eq_true c9
     clear c9
     obtain rfl := Option.some.inj H
     go_enter Tryz.func166, Tryz.ntmps166
     go_wp2_with (first | ((with_reducible refine Qfo (f := 215) rfl ?_); refine Qej (some 8) rfl rfl Tryz.func215 (by kernel_rfl) rfl #[.int .u64 a0] rfl (by (try simp only [List.map_toArray, List.map_cons, List.map_nil]); first | done | rfl | (simp only [List.length_drop, List.length_take]; rfl)) ?_; (with_reducible refine (Qai.calls a0 false _ A3.out).mono ?_); rintro e w' ⟨rfl, ⟨nd, rfl⟩⟩; refine ⟨_, rfl, ?_⟩) | ((with_reducible refine Qfo (f := 215) rfl ?_); refine Qej (some 10) rfl rfl Tryz.func215 (by kernel_rfl) rfl #[.int .u64 a1] rfl (by (try simp only [List.map_toArray, List.map_cons, List.map_nil]); first | done | rfl | (simp only [List.length_drop, List.length_take]; rfl)) ?_; (with_reducible refine (Qai.calls a1 false _ A4.out).mono ?_); rintro e w' ⟨rfl, ⟨nd, rfl⟩⟩; refine ⟨_, rfl, ?_⟩))
     go_ret
     exact ⟨by first | rfl | (simp; done) | (simp [*]; done), by repeat (first | exact Drawn0.refl _ | apply Drawn0.step)⟩
    ·rw [if_neg c9] at H
     have c9b0 : decide (a1 < a0) = false := decide_eq_false c9
     clear c9
     obtain rfl := Option.some.inj H
     go_enter Tryz.func166, Tryz.ntmps166
     go_wp2_with (first | ((with_reducible refine Qfo (f := 215) rfl ?_); refine Qej (some 8) rfl rfl Tryz.func215 (by kernel_rfl) rfl #[.int .u64 a0] rfl (by (try simp only [List.map_toArray, List.map_cons, List.map_nil]); first | done | rfl | (simp only [List.length_drop, List.length_take]; rfl)) ?_; (with_reducible refine (Qai.calls a0 false _ A3.out).mono ?_); rintro e w' ⟨rfl, ⟨nd, rfl⟩⟩; refine ⟨_, rfl, ?_⟩) | ((with_reducible refine Qfo (f := 215) rfl ?_); refine Qej (some 10) rfl rfl Tryz.func215 (by kernel_rfl) rfl #[.int .u64 a1] rfl (by (try simp only [List.map_toArray, List.map_cons, List.map_nil]); first | done | rfl | (simp only [List.length_drop, List.length_take]; rfl)) ?_; (with_reducible refine (Qai.calls a1 false _ A4.out).mono ?_); rintro e w' ⟨rfl, ⟨nd, rfl⟩⟩; refine ⟨_, rfl, ?_⟩))
     go_ret
     exact ⟨by first | rfl | (simp; done) | (simp [*]; done), by repeat (first | exact Drawn0.refl _ | apply Drawn0.step)⟩
def Qby.f (k : Nat) (a0_0 : Int) (a0_1 : Int) (a1_0 : Int) (a1_1 : Int) : Option (Int) := (Qaf.f a0_0 a1_0).bind fun t215 => ((Qae.f a0_1 a1_1).bind fun t216 => ((Qag.f k (([t215, t216] : List Int))).bind fun t220 => (some t220)))
def Qby.T1 : Bool × List (List Nat × List Nat) := (true, [([], []), ([0], [0]), ([], []), ([2], [2]), ([1, 3], [1, 3]), ([], []), ([5], [5]), ([], []), ([7], [7]), ([6, 8, 4], [6, 8]), ([4, 9], [4, 9]), ([10, 9], [10]), ([11, 11, 0, 1, 2, 3, 4, 5, 6, 7, 8, 9, 10, 11], [11])])
def Qby.B1 : List Nat := [0, 1, 0, 4, 15, 0, 32, 0, 128, 511, 1023, 2047, 4095]
theorem Qby.tab1 : rtab .any (opsOf Tryz.f118 1) = Qby.T1 := by kernel_rfl
theorem Qby.bits1 : Qey Qby.T1.2 Qby.B1 = true := by kernel_rfl
set_option maxHeartbeats 8000000 in
set_option maxRecDepth 100000 in
theorem Qby.calls (k : Nat) (a0_0 : Int) (a0_1 : Int) (a1_0 : Int) (a1_1 : Int) (r : Int) (w : World) (h : Qby.f k a0_0 a0_1 a1_0 a1_1 = some r) :
  Calls Tryz.prog 118 #[.agg #[.int .u64 a0_0, .int .u32 a0_1], .agg #[.int .u64 a1_0, .int .u32 a1_1]] w fun e w' => e = .returned (.int .i64 r) ∧ Below w.heap.size w w' := by
 have hu117 := Tryz.underlying117
 have HB := QA (Below.refl w.heap.size w)
 have H : ((Qaf.f a0_0 a1_0).bind fun t215 => ((Qae.f a0_1 a1_1).bind fun t216 => ((Qag.f k (([t215, t216] : List Int))).bind fun t220 => (some t220)))) = some r := h
 clear h
 replace H := Option.bind_eq_some_iff.mp H
 obtain ⟨t215, A30, H⟩ := H
 replace H : ((Qae.f a0_1 a1_1).bind fun t216 => ((Qag.f k (([t215, t216] : List Int))).bind fun t220 => (some t220))) = some r := H
 have A3 := QA A30
 clear A30
 replace H := Option.bind_eq_some_iff.mp H
 obtain ⟨t216, A40, H⟩ := H
 replace H : ((Qag.f k (([t215, t216] : List Int))).bind fun t220 => (some t220)) = some r := H
 have A4 := QA A40
 clear A40
 obtain ⟨y217, hy217⟩ : ∃ y_ : List Int, y_ = (([t215, t216] : List Int)) := ⟨_, rfl⟩
 replace H : ((Qag.f k y217).bind fun t220 => (some t220)) = some r := by first | (rw [hy217]; with_reducible exact H) | (have H2_ := (Option.bind_some _ _).symm.trans H; rw [hy217]; with_reducible exact H2_) | (have H2_ := (Option.bind_some _ _).symm.trans H; with_reducible exact H2_) | with_reducible exact H | (rw [hy217]; exact H) | exact H
 have Ny217 := QA hy217
 clear hy217
 replace H := Option.bind_eq_some_iff.mp H
 obtain ⟨t220, A50, H⟩ := H
 replace H : (some t220) = some r := H
 have A5 := QA A50
 clear A50
 obtain rfl := Option.some.inj H
 go_enter Tryz.func118, Tryz.ntmps118
 try go_wp2_with (first | ((with_reducible refine Qdw (N := 2) rfl ?_); refine Qdv ?hg (N := 2) ?hd (cs := #[.int .u64 a0_0, .int .u32 a0_1]) (t := 117) ?hr ?_; (case hd => rfl); (case hg => rfl); (case hr => first | (go_simp; done) | (go_simp; rfl)); intro gb213 hg w6 hbox hb; have n0_ := QA (Qdo (by repeat (first | (with_reducible first | exact HB.out | apply Qcc | apply Qce | apply Qdt) | exact HB.out)) hb); have n1_ := QA (hbox); have n2_ := QA ((by rw [hg]; exact (Qdn (by repeat (first | (with_reducible first | exact HB.out | apply Qcc | apply Qce | apply Qdt) | exact HB.out))) : w.heap.size ≤ gb213)); have n3_ := QA ((by rw [hg]; exact (Qdn (by repeat (first | (with_reducible first | exact HB.out | apply Qcc | apply Qce | apply Qdt) | exact HB.out))) : w.heap.size ≤ gb213)); clear HB; have HB := n0_; have BK213 := n1_; have GW213 := n2_; have GE213 := n3_; clear n0_ n1_ n2_ n3_; clear hb hbox hg) | ((with_reducible refine Qdw (N := 3) rfl ?_); refine Qdv ?hg (N := 3) ?hd (cs := #[.int .u64 a1_0, .int .u32 a1_1]) (t := 117) ?hr ?_; (case hd => rfl); (case hg => rfl); (case hr => first | (go_simp; done) | (go_simp; rfl)); intro gb214 hg w7 hbox hb; have n0_ := QA (Qdg (g := gb213) (o := .cells #[.int .u64 a0_0, .int .u32 a0_1] 117 (0, 0)) (by (with_reducible repeat (first | apply Qdf | apply Qde | apply Qdd)); exact BK213.out) hb); have n1_ := QA (Qdo (by repeat (first | (with_reducible first | exact HB.out | apply Qcc | apply Qce | apply Qdt | refine Qdp ?_ GE213.out) | exact HB.out)) hb); have n2_ := QA (hbox); have n3_ := QA ((by rw [hg]; exact (Qdn (by repeat (first | (with_reducible first | exact HB.out | apply Qcc | apply Qce | apply Qdt | refine Qdp ?_ GE213.out) | exact HB.out))) : w.heap.size ≤ gb214)); have n4_ := QA ((by rw [hg]; exact (Qdn (by repeat (first | (with_reducible first | exact HB.out | apply Qcc | apply Qce | apply Qdt | refine Qdp ?_ GE213.out) | exact HB.out))) : w.heap.size ≤ gb214)); have n5_ := QA ((by rw [hg]; exact Nat.ne_of_lt (Qcw (g := gb213) (o := .cells #[.int .u64 a0_0, .int .u32 a0_1] 117 (0, 0)) (by (with_reducible repeat (first | apply Qdf | apply Qde | apply Qdd)); exact BK213.out)) : gb213 ≠ gb214)); have n6_ := QA ((by rw [hg]; exact Nat.ne_of_gt (Qcw (g := gb213) (o := .cells #[.int .u64 a0_0, .int .u32 a0_1] 117 (0, 0)) (by (with_reducible repeat (first | apply Qdf | apply Qde | apply Qdd)); exact BK213.out)) : gb214 ≠ gb213)); clear BK213; clear HB; have BK213 := n0_; have HB := n1_; have BK214 := n2_; have GW214 := n3_; have GE214 := n4_; have NB213_214 := n5_; have NB214_213 := n6_; clear n0_ n1_ n2_ n3_ n4_ n5_ n6_; clear hb hbox hg))
 have n0_ := QA (Qde BK213.out)
 have n1_ := QA (Qde BK214.out)
 have n2_ := QA (Qdt HB.out)
 clear BK213
 clear BK214
 clear HB
 have BK213 := n0_
 have BK214 := n1_
 have HB := n2_
 clear n0_ n1_ n2_
 refine Qee (n := 13) (S := fun w' => w'.cell? ⟨gb213, 0, none⟩ = some (.int .u64 a0_0) ∧ w'.cell? ⟨gb213, 1, none⟩ = some (.int .u32 a0_1) ∧ w'.cell? ⟨gb214, 0, none⟩ = some (.int .u64 a1_0) ∧ w'.cell? ⟨gb214, 1, none⟩ = some (.int .u32 a1_1)) (ds := []) #[false, false, false, false, false, false, false, false, false, false, false, false, false] (by kernel_rfl) rfl rfl ⟨(Qcx BK213.out 0).trans rfl, (Qcx BK213.out 1).trans rfl, (Qcx BK214.out 0).trans rfl, (Qcx BK214.out 1).trans rfl⟩ (fun hHeld => ?_); refine Qfa Qby.tab1 Qby.bits1 (fun HT_ HW_ => ?_)
 generalize w7.drew = w8 at BK213 BK214 HB hHeld ⊢
 refine Qef (i := 0) (N := some 5) (v := ?_) (a' := ?_) #[true, false, false, false, false, false, false, false, false, false, false, false, false] rfl rfl (Qev HT_.out (by kernel_rfl)) (fun _ _ _ h => h) (Or.inl ⟨by rfl, ?_⟩) ?_ ?_
 rotate_left
 ·intro w'
  go_simp
  with_reducible rfl
 rotate_left
 ·simp only [Act.put, List.setIfInBounds_toArray, List.set_cons_zero, List.set_cons_succ, Qek, Qel]
  rfl
 refine Qef (i := 2) (N := some 7) (v := ?_) (a' := ?_) #[true, false, true, false, false, false, false, false, false, false, false, false, false] rfl rfl (Qev HT_.out (by kernel_rfl)) (fun _ _ _ h => h) (Or.inl ⟨by rfl, ?_⟩) ?_ ?_
 rotate_left
 ·intro w'
  go_simp
  with_reducible rfl
 rotate_left
 ·simp only [Act.put, List.setIfInBounds_toArray, List.set_cons_zero, List.set_cons_succ, Qek, Qel]
  rfl
 refine Qef (i := 5) (N := some 10) (v := ?_) (a' := ?_) #[true, false, true, false, false, true, false, false, false, false, false, false, false] rfl rfl (Qev HT_.out (by kernel_rfl)) (fun _ _ _ h => h) (Or.inl ⟨by rfl, ?_⟩) ?_ ?_
 rotate_left
 ·intro w'
  go_simp
  with_reducible rfl
 rotate_left
 ·simp only [Act.put, List.setIfInBounds_toArray, List.set_cons_zero, List.set_cons_succ, Qek, Qel]
  rfl
 refine Qef (i := 7) (N := some 12) (v := ?_) (a' := ?_) #[true, false, true, false, false, true, false, true, false, false, false, false, false] rfl rfl (Qev HT_.out (by kernel_rfl)) (fun _ _ _ h => h) (Or.inl ⟨by rfl, ?_⟩) ?_ ?_
 rotate_left
 ·intro w'
  go_simp
  with_reducible rfl
 rotate_left
 ·simp only [Act.put, List.setIfInBounds_toArray, List.set_cons_zero, List.set_cons_succ, Qek, Qel]
  rfl
 refine take_ (i := 1) (N := some 6) (v := ?_) (a' := ?_) #[true, true, true, false, false, true, false, true, false, false, false, false, false] rfl rfl (Qez HT_.out HW_.out (by kernel_rfl)) (fun _ _ _ h => h) (Or.inl ⟨by rfl, ?_⟩) hHeld ?_ ?_
 rotate_left
 ·rintro w' ⟨s0, s1, s2, s3⟩
  go_simp
  with_reducible rfl
 rotate_left
 ·simp only [Act.put, List.setIfInBounds_toArray, List.set_cons_zero, List.set_cons_succ, Qek, Qel]
  rfl
 refine take_ (i := 3) (N := some 8) (v := ?_) (a' := ?_) #[true, true, true, true, false, true, false, true, false, false, false, false, false] rfl rfl (Qez HT_.out HW_.out (by kernel_rfl)) (fun _ _ _ h => h) (Or.inl ⟨by rfl, ?_⟩) hHeld ?_ ?_
 rotate_left
 ·rintro w' ⟨s0, s1, s2, s3⟩
  go_simp
  with_reducible rfl
 rotate_left
 ·simp only [Act.put, List.setIfInBounds_toArray, List.set_cons_zero, List.set_cons_succ, Qek, Qel]
  rfl
 refine take_ (i := 6) (N := some 11) (v := ?_) (a' := ?_) #[true, true, true, true, false, true, true, true, false, false, false, false, false] rfl rfl (Qez HT_.out HW_.out (by kernel_rfl)) (fun _ _ _ h => h) (Or.inl ⟨by rfl, ?_⟩) hHeld ?_ ?_
 rotate_left
 ·rintro w' ⟨s0, s1, s2, s3⟩
  go_simp
  with_reducible rfl
 rotate_left
 ·simp only [Act.put, List.setIfInBounds_toArray, List.set_cons_zero, List.set_cons_succ, Qek, Qel]
  rfl
 refine take_ (i := 8) (N := some 13) (v := ?_) (a' := ?_) #[true, true, true, true, false, true, true, true, true, false, false, false, false] rfl rfl (Qez HT_.out HW_.out (by kernel_rfl)) (fun _ _ _ h => h) (Or.inl ⟨by rfl, ?_⟩) hHeld ?_ ?_
 rotate_left
 ·rintro w' ⟨s0, s1, s2, s3⟩
  go_simp
  with_reducible rfl
 rotate_left
 ·simp only [Act.put, List.setIfInBounds_toArray, List.set_cons_zero, List.set_cons_succ, Qek, Qel]
  rfl
 refine one_ (i := 4) (N := some 9) #[true, true, true, true, true, true, true, true, true, false, false, false, false] rfl rfl (Qew HT_.out (by kernel_rfl)) (by decide) (fun K hK => ?_)
 refine Qei Tryz.func166 (by kernel_rfl) rfl #[.int .u64 a0_0, .int .u64 a1_0] (by rfl) rfl rfl (by (try simp only [List.map_toArray, List.map_cons, List.map_nil]); first | done | rfl | (simp only [List.length_drop, List.length_take]; rfl)) ?_
 with_reducible refine (Qaf.calls a0_0 a1_0 t215 _ A3.out).mono ?_
 rintro e w' ⟨rfl, ⟨nd, rfl⟩⟩
 refine ⟨_, rfl, ?_⟩
 refine hK.out _ _ ⟨(Qcx BK213.out 0).trans rfl, (Qcx BK213.out 1).trans rfl, (Qcx BK214.out 0).trans rfl, (Qcx BK214.out 1).trans rfl⟩ (fun hHeld => ?_)
 clear hK K
 refine Qeh (a' := ?_) ?_ ?_
 rotate_left
 ·show Act.put _ (some 9) _ = _
  simp only [Act.put, List.setIfInBounds_toArray, List.set_cons_zero, List.set_cons_succ, Qek, Qel]
  rfl
 refine one_ (i := 9) (N := some 14) #[true, true, true, true, true, true, true, true, true, true, false, false, false] rfl rfl (Qew HT_.out (by kernel_rfl)) (by decide) (fun K hK => ?_)
 refine Qei Tryz.func167 (by kernel_rfl) rfl #[.int .u32 a0_1, .int .u32 a1_1] (by rfl) rfl rfl (by (try simp only [List.map_toArray, List.map_cons, List.map_nil]); first | done | rfl | (simp only [List.length_drop, List.length_take]; rfl)) ?_
 with_reducible refine (Qae.calls a0_1 a1_1 t216 _ A4.out).mono ?_
 rintro e w' ⟨rfl, ⟨nd, rfl⟩⟩
 refine ⟨_, rfl, ?_⟩
 refine hK.out _ _ ⟨(Qcx BK213.out 0).trans rfl, (Qcx BK213.out 1).trans rfl, (Qcx BK214.out 0).trans rfl, (Qcx BK214.out 1).trans rfl⟩ (fun hHeld => ?_)
 clear hK K
 refine Qeh (a' := ?_) ?_ ?_
 rotate_left
 ·show Act.put _ (some 14) _ = _
  simp only [Act.put, List.setIfInBounds_toArray, List.set_cons_zero, List.set_cons_succ, Qek, Qel]
  rfl
 refine one_ (i := 10) (N := some 15) #[true, true, true, true, true, true, true, true, true, true, true, false, false] rfl rfl (Qew HT_.out (by kernel_rfl)) (by decide) (fun K hK => ?_)
 refine Kd.R_lit_step (Kd.int .i64) _ 3 ?hg (N := 15) ?hd (xs := ([t215, t216] : List Int)) (inner := [.int .i64 t215, .int .i64 t216]) (ok := fun _ => True) (okp := fun _ => True) ?hr ?hp (fun _ hk => hk) trivial (Below.refl _ _) (Nat.le_refl _) (by simp) ?_; (case hd => rfl); (case hg => rfl); (case hr => first | (go_simp; done) | (go_simp; rfl)); (case hp => exact (Reps.one (show Kd.M (Kd.int .i64) _ _ _ t215 [.int .i64 t215] from rfl) (Reps.one (show Kd.M (Kd.int .i64) _ _ _ t216 [.int .i64 t216] from rfl) (Reps.none _ _))))
 intro v218 w9 ho10 hb hg_ hnew_
 clear hg_ hnew_
 (first | rw [← Ny217.out] at ho10 | (simp only [Int.reduceToNat] at ho10; rw [← Ny217.out] at ho10))
 have n0_ := QA (Kd.R_lower ho10 (Qdn (by repeat (first | (with_reducible first | exact HB.out | apply Qcc | apply Qce | apply Qdt | refine Qdp ?_ GE213.out | refine Qdp ?_ GE214.out) | exact HB.out))))
 have n1_ := QA (Qdg (g := gb213) (o := .cells #[.int .u64 a0_0, .int .u32 a0_1] 117 (0, 0)) (by (with_reducible repeat (first | apply Qdf | apply Qde | apply Qdd)); exact BK213.out) hb)
 have n2_ := QA (Qdg (g := gb214) (o := .cells #[.int .u64 a1_0, .int .u32 a1_1] 117 (0, 0)) (by (with_reducible repeat (first | apply Qdf | apply Qde | apply Qdd)); exact BK214.out) hb)
 have n3_ := QA (Qdo (by repeat (first | (with_reducible first | exact HB.out | apply Qcc | apply Qce | apply Qdt | refine Qdp ?_ GE213.out | refine Qdp ?_ GE214.out) | exact HB.out)) hb)
 clear BK213
 clear BK214
 clear HB
 have HO219 := n0_
 have BK213 := n1_
 have BK214 := n2_
 have HB := n3_
 clear n0_ n1_ n2_ n3_
 clear hb ho10
 obtain ⟨Ao11, co11, eo11⟩ := Kd.R_slice HO219.out
 (first | subst eo11 | (injection eo11 with f1_ f2_ f3_; have f4_ := f1_.symm; have f5_ := f3_.symm; clear f1_ f2_ f3_; subst f4_; subst f5_))
 refine hK.out _ _ ⟨(Qcx BK213.out 0).trans rfl, (Qcx BK213.out 1).trans rfl, (Qcx BK214.out 0).trans rfl, (Qcx BK214.out 1).trans rfl⟩ (fun hHeld => ?_)
 clear hK K
 refine Qeh (a' := ?_) ?_ ?_
 rotate_left
 ·show Act.put _ (some 15) _ = _
  simp only [Act.put, List.setIfInBounds_toArray, List.set_cons_zero, List.set_cons_succ, Qek, Qel]
  rfl
 refine one_ (i := 11) (N := some 16) #[true, true, true, true, true, true, true, true, true, true, true, true, false] rfl rfl (Qew HT_.out (by kernel_rfl)) (by decide) (fun K hK => ?_)
 refine Qei Tryz.func165 (by kernel_rfl) rfl #[.slice Ao11 y217.length co11] (by rfl) rfl rfl (by (try simp only [List.map_toArray, List.map_cons, List.map_nil]); first | done | rfl | (simp only [List.length_drop, List.length_take]; rfl)) ?_
 with_reducible refine (Qag.calls k _ _ y217 t220 _ ?side1 ?side2 A5.out).mono ?_
 (case side1 => repeat (first | exact (Kd.R_reads' HO219.out).2.2 | (with_reducible refine Kd.C_alloc ?_ _) | (with_reducible refine Kd.C_drewN ?_ _) | (with_reducible refine Kd.C_drew ?_)))
 (case side2 => exact (Kd.R_reads' HO219.out).2.1)
 rintro e w' ⟨rfl, ⟨nd, rfl⟩⟩
 refine ⟨_, rfl, ?_⟩
 refine hK.out _ _ ⟨(Qcx BK213.out 0).trans rfl, (Qcx BK213.out 1).trans rfl, (Qcx BK214.out 0).trans rfl, (Qcx BK214.out 1).trans rfl⟩ (fun hHeld => ?_)
 clear hK K
 refine Qeh (a' := ?_) ?_ ?_
 rotate_left
 ·show Act.put _ (some 16) _ = _
  simp only [Act.put, List.setIfInBounds_toArray, List.set_cons_zero, List.set_cons_succ, Qek, Qel]
  rfl
 refine Qef (i := 12) (N := some 4) (v := ?_) (a' := ?_) #[true, true, true, true, true, true, true, true, true, true, true, true, true] rfl rfl (Qev HT_.out (by kernel_rfl)) (fun _ _ _ h => h) (Or.inl ⟨by rfl, ?_⟩) ?_ ?_
 rotate_left
 ·intro w'
  go_simp
  with_reducible rfl
 rotate_left
 ·simp only [Act.put, List.setIfInBounds_toArray, List.set_cons_zero, List.set_cons_succ, Qek, Qel]
  rfl
 refine done_ (Qex HT_.out (by kernel_rfl)) ?_
 try go_wp2
 go_ret
 exact ⟨by first | rfl | (simp [Qfr, Qfs] <;> rfl) | (simp [*, Qfr, Qfs] <;> rfl), by repeat (first | (with_reducible first | exact HB.out | apply Qcc | apply Qce | apply Qdt | refine Qdp ?_ GE213.out | refine Qdp ?_ GE214.out) | exact HB.out)⟩
end Go.Proofs.YtnnofopfbeklbaaGreat.C
end
