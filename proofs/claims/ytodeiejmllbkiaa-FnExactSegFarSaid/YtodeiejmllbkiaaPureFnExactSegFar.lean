/- FnExactSegFar returns true at every segment and point: the program's SegFar returns what the reference's returns. No condition. -/
import Derived.Test.YtodeiejmllbkiaaBFnExactSegFar
namespace Go.Proofs.Ytodeiejmllbkiaa.Pure
open Go.RowKit Go.Proofs.Ytodeiejmllbkiaa.PA Go.Proofs.YtodeiejmllbkiaaW.PrintWords Go.Proofs.YtodeiejmllbkiaaW.PrintLast Go.Proofs.YtodeiejmllbkiaaW.PrintMore
open Go.Proofs.Ytodeiejmllbkiaa
set_option linter.unusedVariables false
set_option linter.unusedSimpArgs false
theorem FnExactSegFar (a b c d : Int) (_ : ((Lit.int .i64 a).wf = true ∧ (Lit.int .i64 b).wf = true) ∧ (Lit.int .i64 c).wf = true ∧ (Lit.int .i64 d).wf = true) (e f : Int) (_ : (Lit.int .i64 e).wf = true ∧ (Lit.int .i64 f).wf = true) :
    ∃ k, laws_FnExactSegFar.f k a b c d e f = some true := by
  refine ⟨1000, ?_⟩
  unfold laws_FnExactSegFar.f
  simp [toPt_tells, toSeg_tells, sSegFar_tells 1000 (Nat.le_refl _), iSegFar_tells, eqFrac_tells]
end Go.Proofs.Ytodeiejmllbkiaa.Pure
