/- Part W of the proof of TopConserved: the row holds. No condition. -/
import Derived.Deep.Slices
import Derived.WalkKit
import Derived.ProofKit
import Derived.OpenShut
import Derived.ShutString
import Derived.ChangeOld
import Derived.Below
import Derived.LaidMore
import Derived.Lay
import Derived.MakeChecks
import Derived.SevenTiedAt
import Derived.Lib.LaidTab
import Derived.Test.YtmihkgopplkcjaaGreatDoorRows
import Derived.Test.YtmihkgopplkcjaaGreatDoorCards
import Derived.Test.YtmihkgopplkcjaaGreatDoorTie
import Derived.Test.YtmihkgopplkcjaaGreatDoorS
import Derived.Test.YtmihkgopplkcjaaGreatDoorU
set_option linter.all false
set_option maxRecDepth 1000000
set_option maxHeartbeats 0
namespace Go.Proofs.YtmihkgopplkcjaaGreatDoor.topConserved
open Go.V Go.E
open Go.ChangeShapes Go.WideShapes Go.ChangeAt Go.RowKit
theorem over:Rows.topConservedRow.holds Tryz.pinned (OpenSpec.ofChange Rows.topConservedSpec):=
 OpenClaim.holds_of_wide 3 Tryz.f3 rfl rfl rfl rfl rfl rfl rfl ⟨rfl,rfl,rfl,rfl,rfl⟩ rfl rfl rfl rfl rfl (by kernel_rfl) Tryz.func3 closed
  (M1s (by kernel_rfl)) (by unfold Func.isWrapper;first | (rw [M1d (by decide +kernel)];kernel_rfl) | (rw [M1e (by decide +kernel)];exact ⟨rfl,rfl⟩))
  (λos A H enc _=>yf os A H enc)
end Go.Proofs.YtmihkgopplkcjaaGreatDoor.topConserved
