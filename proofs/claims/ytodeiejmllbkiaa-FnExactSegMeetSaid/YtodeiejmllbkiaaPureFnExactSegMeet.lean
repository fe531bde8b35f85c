/- FnExactSegMeet returns true at every two segments: the program's SegMeet returns what the reference's returns. No condition. -/
import Derived.Test.YtodeiejmllbkiaaBFnExactSegMeet
namespace Go.Proofs.Ytodeiejmllbkiaa.Pure
open Go.RowKit Go.Proofs.Ytodeiejmllbkiaa.PFnExactSegMeet Go.Proofs.YtodeiejmllbkiaaW.PrintWords Go.Proofs.YtodeiejmllbkiaaW.PrintLast Go.Proofs.YtodeiejmllbkiaaW.PrintMore
open Go.Proofs.Ytodeiejmllbkiaa
set_option linter.unusedVariables false
set_option linter.unusedSimpArgs false
theorem FnExactSegMeet (a b c d : Int) (_ : ((Lit.int .i64 a).wf = true ∧ (Lit.int .i64 b).wf = true) ∧ (Lit.int .i64 c).wf = true ∧ (Lit.int .i64 d).wf = true) (e f g i : Int) (_ : ((Lit.int .i64 e).wf = true ∧ (Lit.int .i64 f).wf = true) ∧ (Lit.int .i64 g).wf = true ∧ (Lit.int .i64 i).wf = true) :
    ∃ k, laws_FnExactSegMeet.f k a b c d e f g i = some true := by
  refine ⟨3, ?_⟩
  unfold laws_FnExactSegMeet.f
  simp [toSeg_tells, sSegMeet_tells, iSegMeet_tells]
end Go.Proofs.Ytodeiejmllbkiaa.Pure
