/- The law's row, out of its pure statement and the walks. -/
import Derived.Test.YtepkfjmjidjedaaGreatRows
import Derived.Test.YtepkfjmjidjedaaGreatMB18
import Derived.WalkKit
import Derived.ProofKit
import Derived.OpenShut
import Derived.ShutString
import Derived.ChangeOld
import Derived.Below
import Derived.SizedLaws
set_option linter.unusedVariables false
set_option linter.unusedSimpArgs false
set_option maxHeartbeats 8000000
set_option maxRecDepth 100000
namespace Go.Proofs.YtepkfjmjidjedaaGreat.migrateBack
open Go.ChangeShapes Go.WideShapes Go.ChangeAt Go.RowKit Go.Proofs.YtepkfjmjidjedaaGreat.Open Go.Proofs.YtepkfjmjidjedaaGreat.C Go.Proofs.YtepkfjmjidjedaaGreatW.PrintWords
open Go.ChangeMaps (open_string shut_string)
theorem own : ownKnob Tryz.prog.godebug = none := by kernel_rfl
theorem laidOut : laidOutB Tryz.prog = true := by kernel_rfl
set_option maxRecDepth 100000 in
theorem lifted (os : Os) (started : os.Started) (H : Type) (enc : TypeId × Value → H) :
  ReturnsInHanded {} Tryz.checked os 8 .any (Rows.migrateBackSpec.pre6 enc Tryz.prog Tryz.f8 Rows.migrateBackRow.domain false) (Rows.migrateBackSpec.post enc Tryz.prog Tryz.f8 false true false false) := by
 refine returnsInHanded_of_change_sized (C := Tryz.checked) own started (by kernel_rfl) Tryz.func8
  (ChangeSpec.witness6 (enc := enc) (C := Tryz.checked) false ⟨#[], #[.slice none 0 0], []⟩ 8 (by kernel_rfl) (by kernel_rfl) (by kernel_rfl) (by kernel_rfl)) ?_
 intro W base args ds gs before hval0 hW hcnd hsz0 _
 have hsz : (DataW.weightsEach Tryz.prog (Tryz.f8.params.toList ++ Rows.migrateBackSpec.plain.varTypes Tryz.prog) (ds ++ gs)).all (· ≤ reachBytes) = true := hsz0
 have hval : ∀ (j : Nat) t v, Tryz.f8.params[j]? = some t → args[j]? = some v → Value.okWide Tryz.prog W .any base t v := hval0
 have hW' := hW
 obtain ⟨p, q, hA0, hV, rfl, hfz, hnd⟩ := hW
 have hA : DataW.TrodAll enc Tryz.prog W 0 (fun _ => true) true Tryz.f8.params.toList args.toList ds p := hA0
 rw [Tryz.params8] at hA hval hsz
 obtain ⟨v0, vs0, d0, ds0, p0, q0, hargs, rfl, rfl, h0, r0⟩ := trodAll_cons hA
 obtain ⟨rfl, rfl, rfl⟩ := trodAll_nil r0
 obtain rfl : args = #[v0] := by cases args; simp_all
 obtain ⟨rfl, rfl⟩ := trodVars_none hV
 have lt0 : ∀ x ∈ p0, x.block < W.heap.size := by obtain ⟨m, hm⟩ := h0; exact DataW.trod_lt m _ _ _ hm
 obtain ⟨a0, len0, cap0, rfl⟩ := okWide_slice Tryz.underlying22 (hval 0 22 v0 rfl rfl)
 obtain ⟨x0, rfl, hc0, hr0, hG0⟩ := Qtj opT22 h0 (Qti hsz (j := 0) (t := 22) rfl rfl)
 clear hA0 hval0 hsz0 hsz
 obtain ⟨k, hP⟩ := Pure.MigrateBack x0 hG0
 refine (Qau.calls k _ _ x0 true W hr0 hc0 hP).mono fun e W' ⟨he, bel0⟩ => ?_
 have bel := bel0
 subst he
 exact ⟨_, rfl, _, _, _, [], _, [], hW', trodAll_mk1 (shut_bool Tryz.underlying4 _), (trodAll_cons_mk (Below.trod laidOut (by kernel_rfl) (of_decide_eq_true (by kernel_rfl)) h0 bel lt0) trodAll_mk0), rfl, bel.frame _, fun h => by cases h⟩
theorem namedF : Tryz.pinned.checked.prog.funcNamed Rows.migrateBackRow.func = some 8 := by kernel_rfl
theorem closedF : joinedFacts Tryz.pinned.checked.prog 8 Tryz.f8 Rows.migrateBackSpec Rows.migrateBackRow = true := by kernel_rfl
theorem instF : Tryz.f8.isInstance Tryz.pinned.checked.prog Rows.migrateBackRow.origin Rows.migrateBackRow.targs := of_decide_eq_true (by kernel_rfl)
theorem wrapF : Tryz.f8.isWrapper Tryz.pinned.checked.prog Rows.migrateBackRow.wrapper Rows.migrateBackRow.mainSum := by unfold Func.isWrapper; first | (rw [if_pos (by decide +kernel)]; kernel_rfl) | (rw [if_neg (by decide +kernel)]; exact ⟨rfl, rfl⟩)
theorem over : Rows.migrateBackRow.holds Tryz.pinned (OpenSpec.ofChange Rows.migrateBackSpec) :=
 OpenClaim.holds_of_wide 8 Tryz.f8 rfl rfl rfl rfl rfl rfl rfl ⟨rfl, rfl, rfl, rfl, rfl⟩ rfl rfl rfl rfl rfl namedF Tryz.func8 closedF instF wrapF
  (fun os started H enc _ => lifted os started H enc)
theorem proved : Rows.MigrateBackSaid := over
#print axioms proved
end Go.Proofs.YtepkfjmjidjedaaGreat.migrateBack
namespace Go.Proofs.YtepkfjmjidjedaaGreat
theorem migrateBack_holds : Rows.MigrateBackSaid := migrateBack.proved
end Go.Proofs.YtepkfjmjidjedaaGreat
