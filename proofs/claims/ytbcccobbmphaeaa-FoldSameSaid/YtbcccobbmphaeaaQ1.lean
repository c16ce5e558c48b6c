/- Go functions as Lean functions, and that their calls come to these, for every input that reads so; by the program hprint.py of this claim's author over the kit's print. -/
import Derived.Test.YtbcccobbmphaeaaQ0
namespace Go.Proofs.Ytbcccobbmphaeaa.Q
open Go.RowKit Go.Proofs.YtbcccobbmphaeaaW.PrintWords Go.Proofs.YtbcccobbmphaeaaW.PrintLast Go.Proofs.YtbcccobbmphaeaaW.PrintMore
attribute [local go_sem] max2_int min2_int max_two min_two max_three min_three max_four min_four   -- for this text's walks alone
set_option linter.unusedVariables false
set_option linter.unusedSimpArgs false

theorem eqA25 (d : Nat) (w : World) (x0 y0 : Bool) (x1 y1 : Int) (x2 y2 : ByteArray) (x3 y3 : ByteArray) :
    (Op.equalIn (d + 2) 25 (.agg #[.bool x0, .int .u64 x1, .string x2, .string x3]) (.agg #[.bool y0, .int .u64 y1, .string y2, .string y3])).run Try.prog w = .ok (x0 == y0 && (x1 == y1 && (x2.toList == y2.toList && (x3.toList == y3.toList)))) w := by
  refine eqA_of Try.underlying25 (by kernel_rfl) ?_
  refine eqf_cons (by rfl) (by go_simp; rfl) (by go_simp; rfl) (by go_simp) ?_
  refine eqf_cons (by rfl) (by go_simp; rfl) (by go_simp; rfl) (by go_simp) ?_
  refine eqf_cons (by rfl) (by go_simp; rfl) (by go_simp; rfl) (by go_simp) ?_
  exact eqf_last (by rfl) (by go_simp; rfl) (by go_simp; rfl) (by go_simp)
end Go.Proofs.Ytbcccobbmphaeaa.Q
