/- What the arguments of the laws read as. -/
import Derived.Test.YtbcccobbmphaeaaQ0
import Derived.Test.YtbcccobbmphaeaaOpen
namespace Go.Proofs.Ytbcccobbmphaeaa.Q
open Go.RowKit Go.Proofs.YtbcccobbmphaeaaW.PrintWords Go.Proofs.YtbcccobbmphaeaaW.PrintLast Go.Proofs.YtbcccobbmphaeaaW.PrintMore Go.Proofs.Ytbcccobbmphaeaa.Open
set_option linter.unusedVariables false
set_option linter.unusedSimpArgs false
theorem opT4 : Opens Try.prog 4 Kd.bool (fun x => True) := opens_bool Try.underlying4 (by kernel_rfl)
theorem opT23 : Opens Try.prog 23 (Kd.int .u64) (fun x => (Lit.int .u64 x).wf = true) := opens_int Try.underlying23 (by kernel_rfl)
theorem opT9 : Opens Try.prog 9 Kd.string (fun x => x.size ≤ 140737488351232) := opens_string Try.underlying9 (by kernel_rfl)
def OG25 (x : S25) : Prop := True ∧ (Lit.int .u64 x.f1).wf = true ∧ x.f2.size ≤ 140737488351232 ∧ x.f3.size ≤ 140737488351232
theorem opT25 : Opens Try.prog 25 k25 (fun x => OG25 x) := opens_struct Try.underlying25 (by kernel_rfl) (by kernel_rfl) (OpensFs.cons opT4 (OpensFs.cons opT23 (OpensFs.cons opT9 (OpensFs.one opT9)))) (fun x : S25 => (x.f0, x.f1, x.f2, x.f3)) (fun p => ⟨p.1, p.2.1, p.2.2.1, p.2.2.2⟩) (fun _ => rfl)
theorem opT22 : Opens Try.prog 22 (Kd.slice 25 k25) (fun x => (x.length * 48 ≤ 140737488351232 ∧ ∀ z1 ∈ x, OG25 z1)) := opens_slice (B := 48) Try.underlying22 (by kernel_rfl) (by kernel_rfl) opT25
end Go.Proofs.Ytbcccobbmphaeaa.Q
