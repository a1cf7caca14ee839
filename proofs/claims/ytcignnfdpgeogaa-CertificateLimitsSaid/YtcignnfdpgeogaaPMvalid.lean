
/- Plain laws: which plans are valid, for the program and for the reference. No condition beyond those of each theorem. -/
import Derived.Test.YtcignnfdpgeogaaPJref0
import Derived.Test.YtcignnfdpgeogaaPKcode
import Derived.Test.YtcignnfdpgeogaaGrollin
set_option linter.unusedVariables false
set_option maxRecDepth 100000
namespace Go.Proofs.Ytcignnfdpgeogaa
open Go Go.V Go.Proofs


/-- A job and a plan that fit. -/
structure Good (items : List Item) (wt S : Int) (codes : List Int) : Prop where
  job : JobGood items wt
  st : 0 ≤ S ∧ S ≤ 12
  cl : codes.length = items.length
  code : ∀ (i : Nat) (x : Item) (c : Int), items[i]? = some x → codes[i]? = some c → 0 ≤ c ∧ c < ((2 ^ S.toNat : Nat) : Int) ∧ isN x.2.2.1.toNat wt.toNat c.toNat = true


end Go.Proofs.Ytcignnfdpgeogaa
