/- Part Z of the proof of TopConserved: what the row goes by. No condition. -/
import Derived.Deep.Slices
import Derived.WalkKit
import Derived.ProofKit
import Derived.OpenShut
import Derived.ShutString
import Derived.ChangeOld
import Derived.Below
import Derived.LaidMore
import Derived.Lay
import Derived.MakeChecks
import Derived.SevenTiedAt
import Derived.Lib.LaidTab
import Derived.Test.YtmihkgopplkcjaaGreatDoorRows
import Derived.Test.YtmihkgopplkcjaaGreatDoorCards
import Derived.Test.YtmihkgopplkcjaaGreatDoorTie
set_option linter.all false
set_option maxRecDepth 1000000
set_option maxHeartbeats 0
namespace Go.Proofs.YtmihkgopplkcjaaGreatDoor.topConserved
open Go.ChangeShapes Go.WideShapes Go.ChangeAt Go.RowKit
theorem fG:false=Rows.topConservedRow.goesBy Tryz.pinned.checked.prog:=by kernel_rfl
end Go.Proofs.YtmihkgopplkcjaaGreatDoor.topConserved
