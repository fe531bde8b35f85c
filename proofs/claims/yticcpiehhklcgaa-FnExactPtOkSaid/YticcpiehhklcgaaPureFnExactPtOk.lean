/- FnExactPtOk returns true at every point: the program's PtOk returns what the reference's returns. No condition. -/
import Derived.Test.YticcpiehhklcgaaBFnExactPtOk
namespace Go.Proofs.Yticcpiehhklcgaa.Pure
open Go.RowKit Go.Proofs.Yticcpiehhklcgaa.PFnExactPtOk Go.Proofs.YticcpiehhklcgaaW.PrintWords Go.Proofs.YticcpiehhklcgaaW.PrintLast Go.Proofs.YticcpiehhklcgaaW.PrintMore
open Go.Proofs.Yticcpiehhklcgaa
set_option linter.unusedVariables false
set_option linter.unusedSimpArgs false
theorem FnExactPtOk (a b : Int) (_ : (Lit.int .i64 a).wf = true ∧ (Lit.int .i64 b).wf = true) : laws_FnExactPtOk.f a b = some true := by
  unfold laws_FnExactPtOk.f
  simp [toPt_tells, sPtOk_tells, iPtOk_tells]
end Go.Proofs.Yticcpiehhklcgaa.Pure
