-- written by a program of this session (wip/src/print2.py)
import Derived.Test.YtkehfdadplpaeaaDoorPFnExactParseLinex0
namespace Go.Proofs.YtkehfdadplpaeaaDoor.PFnExactParseLine
open Go.RowKit Go.Proofs.YtkehfdadplpaeaaDoorW.PrintWords Go.Proofs.YtkehfdadplpaeaaDoorW.PrintLast Go.Proofs.YtkehfdadplpaeaaDoorW.PrintMore
attribute [local go_sem] max2_int min2_int max_two min_two max_three min_three max_four min_four   -- for this text's walks alone
set_option linter.unusedVariables false
set_option linter.unusedSimpArgs false

theorem eqA77 (d : Nat) (w : World) (x0 y0 : Bool) (x1 y1 : ByteArray) :
    (Op.equalIn (d + 2) 77 (.agg #[.bool x0, .string x1]) (.agg #[.bool y0, .string y1])).run Tryd.prog w = .ok (x0 == y0 && (x1.toList == y1.toList)) w := by
  refine eqA_of Tryd.underlying77 (by kernel_rfl) ?_
  refine eqf_cons (by rfl) (by go_simp; rfl) (by go_simp; rfl) (by go_simp) ?_
  exact eqf_last (by rfl) (by go_simp; rfl) (by go_simp; rfl) (by go_simp)
end Go.Proofs.YtkehfdadplpaeaaDoor.PFnExactParseLine
