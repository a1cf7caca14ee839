
/- Walks, printed by program: each function returns what the partial function of the same name returns. Conditions: those of each theorem. -/
import Derived.Test.YtcignnfdpgeogaaGT
import Derived.Test.YtcignnfdpgeogaaGgen
set_option linter.unusedVariables false
set_option linter.unusedSimpArgs false
set_option maxRecDepth 4000
namespace Go.Proofs.Ytcignnfdpgeogaa
open Go Go.V Go.Proofs
end Go.Proofs.Ytcignnfdpgeogaa
