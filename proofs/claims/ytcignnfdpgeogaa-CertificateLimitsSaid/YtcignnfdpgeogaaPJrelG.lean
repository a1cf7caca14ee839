
/- Plain laws: the relation of two items of a valid job. No condition beyond those of each theorem. -/
import Derived.Test.YtcignnfdpgeogaaPJrelfn
set_option linter.unusedVariables false
set_option linter.unusedSectionVars false
set_option linter.unusedSimpArgs false
set_option maxRecDepth 100000
namespace Go.Proofs.Ytcignnfdpgeogaa
open Go Go.V Go.Proofs

end Go.Proofs.Ytcignnfdpgeogaa
