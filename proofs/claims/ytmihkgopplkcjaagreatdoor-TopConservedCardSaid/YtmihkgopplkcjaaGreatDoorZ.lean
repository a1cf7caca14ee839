/- Part Z of the proof of TopConserved: what the row goes by. No condition. -/
import Derived.Deep.Slices
import Derived.WalkKit
import Derived.ProofKit
import Derived.OpenShut
import Derived.ShutString
import Derived.ChangeOld
import Derived.Below
import Derived.LaidMore
import Derived.Lay
import Derived.MakeChecks
import Derived.SevenTiedAt
import Derived.Lib.LaidTab
import Derived.Test.YtmihkgopplkcjaaGreatDoorRows
import Derived.Test.YtmihkgopplkcjaaGreatDoorCards
import Derived.Test.YtmihkgopplkcjaaGreatDoorTie
set_option linter.all false
set_option maxRecDepth 1000000
set_option maxHeartbeats 0
namespace Go.Proofs.YtmihkgopplkcjaaGreatDoor.topConserved
open Go.ChangeShapes Go.WideShapes Go.ChangeAt Go.RowKit
theorem fU:Tryz.pinned.checked.prog.funcs.any Func.goes=false:=by kernel_rfl
theorem fV (P:Program)(c:OpenClaim)(h:P.funcs.any Func.goes=false)(hs:c.start=.entering):false=c.goesBy P:=by
 have k:∀ f,P.goes f=false:=λf=>by
  unfold Program.goes;rw [h,Bool.and_false,Bool.or_false,List.any_eq_false];intro g _;cases e:P.funcs[g]? with
  | none=>simp
  | some fn=>
   obtain ⟨hg,e2⟩:=Array.getElem?_eq_some_iff.1 e;have:=Array.any_eq_false.1 h g hg;rw [e2] at this;simpa using this
 unfold OpenClaim.goesBy Program.goesAt Program.goesFrom;rw [hs];cases P.funcNamed c.func <;> simp [k]
theorem fG:false=Rows.topConservedRow.goesBy Tryz.pinned.checked.prog:=fV _ _ fU rfl
end Go.Proofs.YtmihkgopplkcjaaGreatDoor.topConserved
