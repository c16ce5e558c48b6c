/- The statement of the law over lists and numbers alone. -/
import Derived.Test.YtbcccobbmphaeaaQOG
import Derived.Test.YtbcccobbmphaeaaQ5
namespace Go.Proofs.Ytbcccobbmphaeaa.Q
open Go.RowKit Go.Proofs.YtbcccobbmphaeaaW.PrintWords Go.Proofs.YtbcccobbmphaeaaW.PrintLast Go.Proofs.YtbcccobbmphaeaaW.PrintMore Go.Proofs.Ytbcccobbmphaeaa.Open
set_option linter.unusedVariables false
set_option linter.unusedSimpArgs false
/-- The one pure statement of fasciclelaw18_FoldSame. -/
def fasciclelaw18_FoldSame.Pure : Prop := ∀ (x0 : List (S25)) (x1 : List (S25)), (x0.length * 48 ≤ 140737488351232 ∧ ∀ z2 ∈ x0, OG25 z2) → (x1.length * 48 ≤ 140737488351232 ∧ ∀ z2 ∈ x1, OG25 z2) → ∃ k, fasciclelaw18_FoldSame.f k x0 x1 = some true
end Go.Proofs.Ytbcccobbmphaeaa.Q
