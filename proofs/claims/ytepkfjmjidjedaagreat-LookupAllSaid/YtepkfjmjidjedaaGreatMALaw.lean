/- The law's row, out of its pure statement and the walks. -/
import Derived.Test.YtepkfjmjidjedaaGreatRows
import Derived.Test.YtepkfjmjidjedaaGreatMA20
import Derived.Test.YtepkfjmjidjedaaGreatMA21
import Derived.WalkKit
import Derived.ProofKit
import Derived.OpenShut
import Derived.ShutString
import Derived.ChangeOld
import Derived.Below
import Derived.SizedLaws
set_option linter.unusedVariables false
set_option linter.unusedSimpArgs false
set_option maxHeartbeats 8000000
set_option maxRecDepth 100000
namespace Go.Proofs.YtepkfjmjidjedaaGreat.lookupAll
open Go.ChangeShapes Go.WideShapes Go.ChangeAt Go.RowKit Go.Proofs.YtepkfjmjidjedaaGreat.Open Go.Proofs.YtepkfjmjidjedaaGreat.C Go.Proofs.YtepkfjmjidjedaaGreatW.PrintWords
open Go.ChangeMaps (open_string shut_string)
theorem own : ownKnob Tryz.prog.godebug = none := by kernel_rfl
theorem laidOut : laidOutB Tryz.prog = true := by kernel_rfl
set_option maxRecDepth 100000 in
theorem lifted (os : Os) (started : os.Started) (H : Type) (enc : TypeId × Value → H) :
  ReturnsInHanded {} Tryz.checked os 9 .any (Rows.lookupAllSpec.pre6 enc Tryz.prog Tryz.f9 Rows.lookupAllRow.domain false) (Rows.lookupAllSpec.post enc Tryz.prog Tryz.f9 false true false false) := by
 refine returnsInHanded_of_change_sized (C := Tryz.checked) own started (by kernel_rfl) Tryz.func9
  (ChangeSpec.witness6 (enc := enc) (C := Tryz.checked) false ⟨#[], #[.int .u8 0, .slice none 0 0], []⟩ 8 (by kernel_rfl) (by kernel_rfl) (by kernel_rfl) (by kernel_rfl)) ?_
 intro W base args ds gs before hval0 hW hcnd hsz0 _
 have hsz : (DataW.weightsEach Tryz.prog (Tryz.f9.params.toList ++ Rows.lookupAllSpec.plain.varTypes Tryz.prog) (ds ++ gs)).all (· ≤ reachBytes) = true := hsz0
 have hval : ∀ (j : Nat) t v, Tryz.f9.params[j]? = some t → args[j]? = some v → Value.okWide Tryz.prog W .any base t v := hval0
 have hW' := hW
 obtain ⟨p, q, hA0, hV, rfl, hfz, hnd⟩ := hW
 have hA : DataW.TrodAll enc Tryz.prog W 0 (fun _ => true) true Tryz.f9.params.toList args.toList ds p := hA0
 rw [Tryz.params9] at hA hval hsz
 obtain ⟨v0, vs0, d0, ds0, p0, q0, hargs, rfl, rfl, h0, r0⟩ := trodAll_cons hA
 obtain ⟨v1, vs1, d1, ds1, p1, q1, rfl, rfl, rfl, h1, r1⟩ := trodAll_cons r0
 obtain ⟨rfl, rfl, rfl⟩ := trodAll_nil r1
 obtain rfl : args = #[v0, v1] := by cases args; simp_all
 obtain ⟨rfl, rfl⟩ := trodVars_none hV
 have lt0 : ∀ x ∈ p0, x.block < W.heap.size := by obtain ⟨m, hm⟩ := h0; exact DataW.trod_lt m _ _ _ hm
 obtain ⟨x0, rfl, rfl, rfl, hG0⟩ := open_int Tryz.underlying5 (hval 0 5 v0 rfl rfl) h0
 have lt1 : ∀ x ∈ p1, x.block < W.heap.size := by obtain ⟨m, hm⟩ := h1; exact DataW.trod_lt m _ _ _ hm
 obtain ⟨a1, len1, cap1, rfl⟩ := okWide_slice Tryz.underlying22 (hval 1 22 v1 rfl rfl)
 obtain ⟨x1, rfl, hc1, hr1, hG1⟩ := Quh opT22 h1 (Qug hsz (j := 1) (t := 22) rfl rfl)
 clear hA0 hval0 hsz0 hsz
 obtain ⟨k, hP⟩ := Pure.LookupAll x0 x1 hG0 hG1
 refine (Qav.calls k x0 _ _ x1 true W hr1 hc1 hP).mono fun e W' ⟨he, bel0⟩ => ?_
 have bel := bel0
 subst he
 exact ⟨_, rfl, _, _, _, [], _, [], hW', trodAll_mk1 (shut_bool Tryz.underlying4 _), (trodAll_cons_mk (Below.trod laidOut (by kernel_rfl) (of_decide_eq_true (by kernel_rfl)) h0 bel lt0) (trodAll_cons_mk (Below.trod laidOut (by kernel_rfl) (of_decide_eq_true (by kernel_rfl)) h1 bel lt1) trodAll_mk0)), rfl, bel.frame _, fun h => by cases h⟩
theorem namedF : Tryz.pinned.checked.prog.funcNamed Rows.lookupAllRow.func = some 9 := by kernel_rfl
theorem closedF : joinedFacts Tryz.pinned.checked.prog 9 Tryz.f9 Rows.lookupAllSpec Rows.lookupAllRow = true := by kernel_rfl
theorem instF : Tryz.f9.isInstance Tryz.pinned.checked.prog Rows.lookupAllRow.origin Rows.lookupAllRow.targs := of_decide_eq_true (by kernel_rfl)
theorem wrapF : Tryz.f9.isWrapper Tryz.pinned.checked.prog Rows.lookupAllRow.wrapper Rows.lookupAllRow.mainSum := by unfold Func.isWrapper; first | (rw [if_pos (by decide +kernel)]; kernel_rfl) | (rw [if_neg (by decide +kernel)]; exact ⟨rfl, rfl⟩)
theorem over : Rows.lookupAllRow.holds Tryz.pinned (OpenSpec.ofChange Rows.lookupAllSpec) :=
 OpenClaim.holds_of_wide 9 Tryz.f9 rfl rfl rfl rfl rfl rfl rfl ⟨rfl, rfl, rfl, rfl, rfl⟩ rfl rfl rfl rfl rfl namedF Tryz.func9 closedF instF wrapF
  (fun os started H enc _ => lifted os started H enc)
theorem proved : Rows.LookupAllSaid := over
#print axioms proved
end Go.Proofs.YtepkfjmjidjedaaGreat.lookupAll
namespace Go.Proofs.YtepkfjmjidjedaaGreat
theorem lookupAll_holds : Rows.LookupAllSaid := lookupAll.proved
end Go.Proofs.YtepkfjmjidjedaaGreat
