import Derived.Test.YticcpiehhklcgaaPFnExactConstantsx1
import Derived.Test.YticcpiehhklcgaaGeo1
namespace Go.Proofs.Yticcpiehhklcgaa.Pure
open Go.RowKit Go.Proofs.Yticcpiehhklcgaa.PFnExactConstants Go.Proofs.YticcpiehhklcgaaW.PrintWords Go.Proofs.YticcpiehhklcgaaW.PrintLast Go.Proofs.YticcpiehhklcgaaW.PrintMore
open Go.Proofs.Yticcpiehhklcgaa
set_option linter.unusedVariables false
set_option linter.unusedSimpArgs false

end Go.Proofs.Yticcpiehhklcgaa.Pure
