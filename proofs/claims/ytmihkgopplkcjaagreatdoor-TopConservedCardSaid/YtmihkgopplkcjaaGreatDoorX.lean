/- Part X of the proof of TopConserved: facts of the row and of the program. No condition. -/
import Derived.Deep.Slices
import Derived.WalkKit
import Derived.ProofKit
import Derived.OpenShut
import Derived.ShutString
import Derived.ChangeOld
import Derived.Below
import Derived.LaidMore
import Derived.Lay
import Derived.MakeChecks
import Derived.SevenTiedAt
import Derived.Lib.LaidTab
import Derived.Test.YtmihkgopplkcjaaGreatDoorRows
import Derived.Test.YtmihkgopplkcjaaGreatDoorCards
import Derived.Test.YtmihkgopplkcjaaGreatDoorTie
set_option linter.all false
set_option maxRecDepth 1000000
set_option maxHeartbeats 0
namespace Go.Proofs.YtmihkgopplkcjaaGreatDoor.topConserved
open Go.ChangeShapes Go.WideShapes Go.ChangeAt Go.RowKit
theorem fW:Rows.topConservedRow.wfByText (OpenSpec.ofChange Rows.topConservedSpec)=true:=by kernel_rfl
theorem fM:Tryz.pinned.checked.prog.mainIs=some (true, ("2c768dd19365d0d8d09f17850e421225301ed254e81e8c6ed252ff9ec96fa0aa").toList):=by kernel_rfl
theorem fF:Tryz.prog.funcNamed "humpyard/humpyardtop.TopConserved" = some 3 := by kernel_rfl
theorem fS:([22].all λu=>!Tryz.prog.wantsStandIn u)=true:=by kernel_rfl
end Go.Proofs.YtmihkgopplkcjaaGreatDoor.topConserved
