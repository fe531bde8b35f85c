/- FnExactFracOf returns true at every two integers: the program's FracOf returns what the reference's returns. No condition. -/
import Derived.Test.YticcpiehhklcgaaBFnExactFracOf
namespace Go.Proofs.Yticcpiehhklcgaa.Pure
open Go.RowKit Go.Proofs.Yticcpiehhklcgaa.PFnExactFracOf Go.Proofs.YticcpiehhklcgaaW.PrintWords Go.Proofs.YticcpiehhklcgaaW.PrintLast Go.Proofs.YticcpiehhklcgaaW.PrintMore
open Go.Proofs.Yticcpiehhklcgaa
set_option linter.unusedVariables false
set_option linter.unusedSimpArgs false
theorem FnExactFracOf : laws_FnExactFracOf.Pure := by
  intro n d _ _
  refine ⟨100000, ?_⟩
  unfold laws_FnExactFracOf.f
  simp only [sFracOf_tells 100000 n d (by omega), iFracOf_tells 100000 n d (by omega), eqFrac_tells, Option.bind_some]
  simp
end Go.Proofs.Yticcpiehhklcgaa.Pure
