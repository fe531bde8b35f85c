/- FnExactSegTurn returns true at every three points: the program's SegTurn returns what the reference's returns. No condition. -/
import Derived.Test.YticcpiehhklcgaaBFnExactSegTurn
namespace Go.Proofs.Yticcpiehhklcgaa.Pure
open Go.RowKit Go.Proofs.Yticcpiehhklcgaa.PFnExactSegTurn Go.Proofs.YticcpiehhklcgaaW.PrintWords Go.Proofs.YticcpiehhklcgaaW.PrintLast Go.Proofs.YticcpiehhklcgaaW.PrintMore
open Go.Proofs.Yticcpiehhklcgaa
set_option linter.unusedVariables false
set_option linter.unusedSimpArgs false
theorem FnExactSegTurn (a b : Int) (_ : (Lit.int .i64 a).wf = true ∧ (Lit.int .i64 b).wf = true) (c d : Int) (_ : (Lit.int .i64 c).wf = true ∧ (Lit.int .i64 d).wf = true) (e f : Int) (_ : (Lit.int .i64 e).wf = true ∧ (Lit.int .i64 f).wf = true) :
    ∃ k, laws_FnExactSegTurn.f k a b c d e f = some true := by
  refine ⟨1, ?_⟩
  unfold laws_FnExactSegTurn.f
  simp [toPt_tells, sSegTurn_tells, iSegTurn_tells]
end Go.Proofs.Yticcpiehhklcgaa.Pure
