/- FnExactSegHas returns true at every segment and point: the program's SegHas returns what the reference's returns. No condition. -/
import Derived.Test.YticcpiehhklcgaaBFnExactSegHas
namespace Go.Proofs.Yticcpiehhklcgaa.Pure
open Go.RowKit Go.Proofs.Yticcpiehhklcgaa.PFnExactSegHas Go.Proofs.YticcpiehhklcgaaW.PrintWords Go.Proofs.YticcpiehhklcgaaW.PrintLast Go.Proofs.YticcpiehhklcgaaW.PrintMore
open Go.Proofs.Yticcpiehhklcgaa
set_option linter.unusedVariables false
set_option linter.unusedSimpArgs false
theorem FnExactSegHas (a b c d : Int) (_ : ((Lit.int .i64 a).wf = true ∧ (Lit.int .i64 b).wf = true) ∧ (Lit.int .i64 c).wf = true ∧ (Lit.int .i64 d).wf = true) (e f : Int) (_ : (Lit.int .i64 e).wf = true ∧ (Lit.int .i64 f).wf = true) :
    ∃ k, laws_FnExactSegHas.f k a b c d e f = some true := by
  refine ⟨1, ?_⟩
  unfold laws_FnExactSegHas.f
  simp [toPt_tells, toSeg_tells, sSegHas_tells, iSegHas_tells]
end Go.Proofs.Yticcpiehhklcgaa.Pure
