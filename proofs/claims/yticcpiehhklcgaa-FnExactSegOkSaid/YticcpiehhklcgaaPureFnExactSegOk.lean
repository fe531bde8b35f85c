/- FnExactSegOk returns true at every segment: the program's SegOk returns what the reference's returns. No condition. -/
import Derived.Test.YticcpiehhklcgaaBFnExactSegOk
namespace Go.Proofs.Yticcpiehhklcgaa.Pure
open Go.RowKit Go.Proofs.Yticcpiehhklcgaa.PFnExactSegOk Go.Proofs.YticcpiehhklcgaaW.PrintWords Go.Proofs.YticcpiehhklcgaaW.PrintLast Go.Proofs.YticcpiehhklcgaaW.PrintMore
open Go.Proofs.Yticcpiehhklcgaa
set_option linter.unusedVariables false
set_option linter.unusedSimpArgs false
theorem FnExactSegOk (a b c d : Int) (_ : ((Lit.int .i64 a).wf = true ∧ (Lit.int .i64 b).wf = true) ∧ (Lit.int .i64 c).wf = true ∧ (Lit.int .i64 d).wf = true) : laws_FnExactSegOk.f a b c d = some true := by
  unfold laws_FnExactSegOk.f
  simp [toSeg_tells, sSegOk_tells, iSegOk_tells]
end Go.Proofs.Yticcpiehhklcgaa.Pure
