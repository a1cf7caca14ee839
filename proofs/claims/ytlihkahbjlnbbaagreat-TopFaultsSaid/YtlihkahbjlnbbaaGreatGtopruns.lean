
/- Walks, printed by program: each function returns what the partial function of the same name returns. Conditions: those of each theorem. -/
import Derived.Test.YtlihkahbjlnbbaaGreatGT
import Derived.Test.YtlihkahbjlnbbaaGreatEX
set_option linter.unusedVariables false
set_option linter.unusedSimpArgs false
set_option maxRecDepth 4000
namespace Go.Proofs.YtlihkahbjlnbbaaGreat
open Go Go.V Go.Proofs Go.IntKind
def M3q:Option Bool:=
some true
theorem M3r (b a)(c:M3q=some b):Md Tryz.prog 9 [] a fun d e=>d=.bool b∧Ev [] a e:=by
 cases c;exact Go.E.Mbl hmx (by kernel_rfl) (L:=2000) (k:=60) (by kernel_rfl) a
end Go.Proofs.YtlihkahbjlnbbaaGreat
