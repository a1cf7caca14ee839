
/- Plain laws: the relation of two items as the program tells it. No condition beyond those of each theorem. -/
import Derived.Test.YtcignnfdpgeogaaPJgood
set_option linter.unusedVariables false
set_option linter.unusedSectionVars false
set_option linter.unusedSimpArgs false
set_option maxRecDepth 100000
namespace Go.Proofs.Ytcignnfdpgeogaa
open Go Go.V Go.Proofs

end Go.Proofs.Ytcignnfdpgeogaa
