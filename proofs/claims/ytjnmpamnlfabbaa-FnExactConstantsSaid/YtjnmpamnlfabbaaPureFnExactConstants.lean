/- Every exported constant of the program is the document's: the law FnExactConstants answers true; no condition. -/
import Derived.Test.YtjnmpamnlfabbaaPFnExactConstantsx1
namespace Go.Proofs.Ytjnmpamnlfabbaa.Pure
open Go.RowKit Go.Proofs.Ytjnmpamnlfabbaa.PFnExactConstants Go.Proofs.YtjnmpamnlfabbaaW.PrintWords Go.Proofs.YtjnmpamnlfabbaaW.PrintLast Go.Proofs.YtjnmpamnlfabbaaW.PrintMore
set_option linter.unusedVariables false
set_option linter.unusedSimpArgs false

theorem FnExactConstants : laws_FnExactConstants.Pure := rfl

end Go.Proofs.Ytjnmpamnlfabbaa.Pure
