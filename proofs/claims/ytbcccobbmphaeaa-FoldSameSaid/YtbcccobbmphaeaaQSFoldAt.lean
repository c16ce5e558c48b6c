/- The statement of the law over lists and numbers alone. -/
import Derived.Test.YtbcccobbmphaeaaQOG
import Derived.Test.YtbcccobbmphaeaaQ4
namespace Go.Proofs.Ytbcccobbmphaeaa.Q
open Go.RowKit Go.Proofs.YtbcccobbmphaeaaW.PrintWords Go.Proofs.YtbcccobbmphaeaaW.PrintLast Go.Proofs.YtbcccobbmphaeaaW.PrintMore Go.Proofs.Ytbcccobbmphaeaa.Open
set_option linter.unusedVariables false
set_option linter.unusedSimpArgs false
/-- The one pure statement of fasciclelaw18_FoldAt. -/
def fasciclelaw18_FoldAt.Pure : Prop := ∀ (x0 : List (S25)) (x1 : ByteArray), (x0.length * 48 ≤ 140737488351232 ∧ ∀ z2 ∈ x0, OG25 z2) → x1.size ≤ 140737488351232 → ∃ k, fasciclelaw18_FoldAt.f k x0 x1 = some true
end Go.Proofs.Ytbcccobbmphaeaa.Q
