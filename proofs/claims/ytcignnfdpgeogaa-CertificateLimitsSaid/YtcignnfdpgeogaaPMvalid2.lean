
/- Plain laws: which plans are valid, for the program. No condition beyond those of each theorem. -/
import Derived.Test.YtcignnfdpgeogaaPMvalid
set_option linter.unusedVariables false
set_option maxRecDepth 100000
namespace Go.Proofs.Ytcignnfdpgeogaa
open Go Go.V Go.Proofs

end Go.Proofs.Ytcignnfdpgeogaa
