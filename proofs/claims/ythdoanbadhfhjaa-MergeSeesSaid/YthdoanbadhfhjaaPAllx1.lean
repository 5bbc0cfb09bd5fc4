-- Laid by ownprint.py (a program of the session, in wip/tools), out of the translation: Lean checks it.
import Derived.Test.YthdoanbadhfhjaaPAllx0
import Derived.Test.YthdoanbadhfhjaaGv
namespace Go.Proofs.Ythdoanbadhfhjaa.PAll
open Go.RowKit Go.Proofs.YthdoanbadhfhjaaW.PrintWords Go.Proofs.YthdoanbadhfhjaaW.PrintLast Go.Proofs.YthdoanbadhfhjaaW.PrintMore
attribute [local go_sem] max2_int min2_int max_two min_two max_three min_three max_four min_four   -- for this text's walks alone
set_option linter.unusedVariables false
set_option linter.unusedSimpArgs false

theorem eqA36 (d : Nat) (w : World) (x0 y0 : ByteArray) (x1 y1 : Int) (x2 y2 : Bool) (x3 y3 : ByteArray) :
    (Op.equalIn (d + 2) 36 (.agg #[.string x0, .int .i64 x1, .bool x2, .string x3]) (.agg #[.string y0, .int .i64 y1, .bool y2, .string y3])).run Try.prog w = .ok (x0.toList == y0.toList && (x1 == y1 && (x2 == y2 && (x3.toList == y3.toList)))) w := by
  refine eqA_of Try.underlying36 (by kernel_rfl) ?_
  refine eqf_cons (by rfl) (by go_simp; rfl) (by go_simp; rfl) (by go_simp) ?_
  refine eqf_cons (by rfl) (by go_simp; rfl) (by go_simp; rfl) (by go_simp) ?_
  refine eqf_cons (by rfl) (by go_simp; rfl) (by go_simp; rfl) (by go_simp) ?_
  exact eqf_last (by rfl) (by go_simp; rfl) (by go_simp; rfl) (by go_simp)
end Go.Proofs.Ythdoanbadhfhjaa.PAll
