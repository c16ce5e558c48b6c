/- The law's row, out of its pure statement and the walks. -/
import Derived.Test.YteaocbonofboeaaGreatRows
import Derived.Test.YteaocbonofboeaaGreatMC27
import Derived.Test.YteaocbonofboeaaGreatMC28
import Derived.WalkKit
import Derived.ProofKit
import Derived.OpenShut
import Derived.ShutString
import Derived.ChangeOld
import Derived.Below
import Derived.SizedLaws
set_option linter.unusedVariables false
set_option linter.unusedSimpArgs false
set_option maxHeartbeats 8000000
set_option maxRecDepth 100000
namespace Go.Proofs.YteaocbonofboeaaGreat.damageApplies
open Go.ChangeShapes Go.WideShapes Go.ChangeAt Go.RowKit Go.Proofs.YteaocbonofboeaaGreat.Open Go.Proofs.YteaocbonofboeaaGreat.C Go.Proofs.YteaocbonofboeaaGreatW.PrintWords
open Go.ChangeMaps (open_string shut_string)
theorem own : ownKnob Tryz.prog.godebug = none := by kernel_rfl
theorem laidOut : laidOutB Tryz.prog = true := by kernel_rfl
set_option maxRecDepth 100000 in
theorem lifted (os : Os) (started : os.Started) (H : Type) (enc : TypeId × Value → H) :
  ReturnsInHanded {} Tryz.checked os 6 .any (Rows.damageAppliesSpec.pre6 enc Tryz.prog Tryz.f6 Rows.damageAppliesRow.domain false) (Rows.damageAppliesSpec.post enc Tryz.prog Tryz.f6 false true false false) := by
 refine returnsInHanded_of_change_sized (C := Tryz.checked) own started (by kernel_rfl) Tryz.func6
  (ChangeSpec.witness6 (enc := enc) (C := Tryz.checked) false ⟨#[], #[.slice none 0 0, .agg #[.slice none 0 0, .int .i64 0], .int .i64 0, .int .i64 0], []⟩ 8 (by kernel_rfl) (by kernel_rfl) (by kernel_rfl) (by kernel_rfl)) ?_
 intro W base args ds gs before hval0 hW hcnd hsz0 _
 have hsz : (DataW.weightsEach Tryz.prog (Tryz.f6.params.toList ++ Rows.damageAppliesSpec.plain.varTypes Tryz.prog) (ds ++ gs)).all (· ≤ reachBytes) = true := hsz0
 have hval : ∀ (j : Nat) t v, Tryz.f6.params[j]? = some t → args[j]? = some v → Value.okWide Tryz.prog W .any base t v := hval0
 have hW' := hW
 obtain ⟨p, q, hA0, hV, rfl, hfz, hnd⟩ := hW
 have hA : DataW.TrodAll enc Tryz.prog W 0 (fun _ => true) true Tryz.f6.params.toList args.toList ds p := hA0
 rw [Tryz.params6] at hA hval hsz
 obtain ⟨v0, vs0, d0, ds0, p0, q0, hargs, rfl, rfl, h0, r0⟩ := trodAll_cons hA
 obtain ⟨v1, vs1, d1, ds1, p1, q1, rfl, rfl, rfl, h1, r1⟩ := trodAll_cons r0
 obtain ⟨v2, vs2, d2, ds2, p2, q2, rfl, rfl, rfl, h2, r2⟩ := trodAll_cons r1
 obtain ⟨v3, vs3, d3, ds3, p3, q3, rfl, rfl, rfl, h3, r3⟩ := trodAll_cons r2
 obtain ⟨rfl, rfl, rfl⟩ := trodAll_nil r3
 obtain rfl : args = #[v0, v1, v2, v3] := by cases args; simp_all
 obtain ⟨rfl, rfl⟩ := trodVars_none hV
 have lt0 : ∀ x ∈ p0, x.block < W.heap.size := by obtain ⟨m, hm⟩ := h0; exact DataW.trod_lt m _ _ _ hm
 obtain ⟨a0, len0, cap0, rfl⟩ := okWide_slice Tryz.underlying40 (hval 0 40 v0 rfl rfl)
 obtain ⟨x0, rfl, hc0, hr0, hG0⟩ := Qwa opT40 h0 (Qvz hsz (j := 0) (t := 40) rfl rfl)
 have lt1 : ∀ x ∈ p1, x.block < W.heap.size := by obtain ⟨m, hm⟩ := h1; exact DataW.trod_lt m _ _ _ hm
 obtain ⟨cs1, rfl, hz1⟩ := okWide_struct Tryz.underlying81 (hval 1 81 v1 rfl rfl)
 obtain ⟨x1, hk1, hG1⟩ := arg_agg opT81 h1 (Qvz hsz (j := 1) (t := 81) rfl rfl)
 obtain ⟨A1_0, c1_0, he1, hc1_0, hr1_0⟩ := Qje hk1
 obtain rfl := Qwb he1
 have lt2 : ∀ x ∈ p2, x.block < W.heap.size := by obtain ⟨m, hm⟩ := h2; exact DataW.trod_lt m _ _ _ hm
 obtain ⟨x2, rfl, rfl, rfl, hG2⟩ := open_int Tryz.underlying3 (hval 2 3 v2 rfl rfl) h2
 have lt3 : ∀ x ∈ p3, x.block < W.heap.size := by obtain ⟨m, hm⟩ := h3; exact DataW.trod_lt m _ _ _ hm
 obtain ⟨x3, rfl, rfl, rfl, hG3⟩ := open_int Tryz.underlying3 (hval 3 3 v3 rfl rfl) h3
 clear hA0 hval0 hsz0 hsz
 obtain ⟨k, hP⟩ := Pure.DamageApplies x0 x1 x2 x3 hG0 hG1 hG2 hG3
 refine (Qaw.calls k _ _ x0 _ _ x1.f0 x1.f1 x2 x3 true W hr0 hc0 hr1_0 hc1_0 hP).mono fun e W' ⟨he, bel0⟩ => ?_
 have bel := bel0
 subst he
 exact ⟨_, rfl, _, _, _, [], _, [], hW', trodAll_mk1 (shut_bool Tryz.underlying4 _), (trodAll_cons_mk (Below.trod laidOut (by kernel_rfl) (of_decide_eq_true (by kernel_rfl)) h0 bel lt0) (trodAll_cons_mk (Below.trod laidOut (by kernel_rfl) (of_decide_eq_true (by kernel_rfl)) h1 bel lt1) (trodAll_cons_mk (Below.trod laidOut (by kernel_rfl) (of_decide_eq_true (by kernel_rfl)) h2 bel lt2) (trodAll_cons_mk (Below.trod laidOut (by kernel_rfl) (of_decide_eq_true (by kernel_rfl)) h3 bel lt3) trodAll_mk0)))), rfl, bel.frame _, fun h => by cases h⟩
theorem namedF : Tryz.pinned.checked.prog.funcNamed Rows.damageAppliesRow.func = some 6 := by kernel_rfl
theorem closedF : joinedFacts Tryz.pinned.checked.prog 6 Tryz.f6 Rows.damageAppliesSpec Rows.damageAppliesRow = true := by kernel_rfl
theorem instF : Tryz.f6.isInstance Tryz.pinned.checked.prog Rows.damageAppliesRow.origin Rows.damageAppliesRow.targs := of_decide_eq_true (by kernel_rfl)
theorem wrapF : Tryz.f6.isWrapper Tryz.pinned.checked.prog Rows.damageAppliesRow.wrapper Rows.damageAppliesRow.mainSum := by unfold Func.isWrapper; first | (rw [if_pos (by decide +kernel)]; kernel_rfl) | (rw [if_neg (by decide +kernel)]; exact ⟨rfl, rfl⟩)
theorem over : Rows.damageAppliesRow.holds Tryz.pinned (OpenSpec.ofChange Rows.damageAppliesSpec) :=
 OpenClaim.holds_of_wide 6 Tryz.f6 rfl rfl rfl rfl rfl rfl rfl ⟨rfl, rfl, rfl, rfl, rfl⟩ rfl rfl rfl rfl rfl namedF Tryz.func6 closedF instF wrapF
  (fun os started H enc _ => lifted os started H enc)
theorem proved : Rows.DamageAppliesSaid := over
#print axioms proved
end Go.Proofs.YteaocbonofboeaaGreat.damageApplies
namespace Go.Proofs.YteaocbonofboeaaGreat
theorem damageApplies_holds : Rows.DamageAppliesSaid := damageApplies.proved
end Go.Proofs.YteaocbonofboeaaGreat
