
/- Walks, printed by program: each function returns what the partial function of the same name returns. Conditions: those of each theorem. -/
import Derived.Test.YtlgdhajakblkaaaGreatDoorGT
import Derived.Test.YtlgdhajakblkaaaGreatDoorC
set_option linter.unusedVariables false
set_option linter.unusedSimpArgs false
set_option maxRecDepth 4000
namespace Go.Proofs.YtlgdhajakblkaaaGreatDoor
open Go Go.V Go.Proofs Go.IntKind
def top_awake : Option Bool :=
some true
theorem top_awake_w (b a) (c : top_awake = some b) : CallVC Tryz.prog 22 [] a fun d e => d = .bool b ∧ Ev [] a e := by
 cases c
 exact Go.E.yes_ok hmx (by kernel_rfl) (L := 2000) (k := 60) (by kernel_rfl) a
end Go.Proofs.YtlgdhajakblkaaaGreatDoor
