/- FnExactConstants returns true: each exported constant has the value that the reference gives. No condition. -/
import Derived.Test.YticcpiehhklcgaaBFnExactConstants
namespace Go.Proofs.Yticcpiehhklcgaa.Pure
open Go.RowKit Go.Proofs.Yticcpiehhklcgaa.PFnExactConstants Go.Proofs.YticcpiehhklcgaaW.PrintWords Go.Proofs.YticcpiehhklcgaaW.PrintLast Go.Proofs.YticcpiehhklcgaaW.PrintMore
open Go.Proofs.Yticcpiehhklcgaa
set_option linter.unusedVariables false
set_option linter.unusedSimpArgs false
theorem FnExactConstants : laws_FnExactConstants.Pure := rfl
end Go.Proofs.Yticcpiehhklcgaa.Pure
