-- Made by xprint.py (this session's own driver of the kit's print) out of the translation; Lean checks it.
import Derived.Test.YtfhjndnempmcaaaXx0
namespace Go.Proofs.Ytfhjndnempmcaaa.X
open Go.Proofs.Ytfhjndnempmcaaa
open Go.RowKit Go.Proofs.YtfhjndnempmcaaaW.PrintWords Go.Proofs.YtfhjndnempmcaaaW.PrintLast Go.Proofs.YtfhjndnempmcaaaW.PrintMore
attribute [local go_sem] max2_int min2_int max_two min_two max_three min_three max_four min_four   -- for this text's walks alone
set_option linter.unusedVariables false
set_option linter.unusedSimpArgs false

theorem eqA37 (d : Nat) (w : World) (x0 y0 : Bool) (x1 y1 : Bool) (x2 y2 : Bool) (x3 y3 : Bool) :
    (Op.equalIn (d + 2) 37 (.agg #[.bool x0, .bool x1, .bool x2, .bool x3]) (.agg #[.bool y0, .bool y1, .bool y2, .bool y3])).run Try.prog w = .ok (x0 == y0 && (x1 == y1 && (x2 == y2 && (x3 == y3)))) w := by
  refine XArr.eqArr_of (sz := 1) Try.underlying37 (fun W => by kernel_rfl) ?_
  show (XArr.eqEls _ _ _ _ _ [0, 1, 2, 3]).run _ _ = _
  refine XArr.eqe_cons (by go_simp; rfl) (by go_simp; rfl) (by go_simp) ?_
  refine XArr.eqe_cons (by go_simp; rfl) (by go_simp; rfl) (by go_simp) ?_
  refine XArr.eqe_cons (by go_simp; rfl) (by go_simp; rfl) (by go_simp) ?_
  exact XArr.eqe_last (by go_simp; rfl) (by go_simp; rfl) (by go_simp)
end Go.Proofs.Ytfhjndnempmcaaa.X
