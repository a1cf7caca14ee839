/- Part Q of the proof of TopConserved: closed facts of the row. No condition. -/
import Derived.KernelRfl
import Derived.Test.YtmihkgopplkcjaaGreatDoorRows
set_option linter.all false
set_option maxRecDepth 1000000
set_option maxHeartbeats 0
namespace Go.Proofs.YtmihkgopplkcjaaGreatDoor.topConserved
theorem pV:(Rows.topConservedRow.inPlace==Tryz.pinned.checked.prog.inPlace 3)=true:=by kernel_rfl
theorem pW:(Rows.topConservedRow.unfollowed==Tryz.pinned.checked.prog.unfollowed 3)=true:=by kernel_rfl
theorem pX:(Rows.topConservedRow.recurses==Tryz.pinned.checked.prog.recurses 3)=true:=by kernel_rfl
theorem pY:(Rows.topConservedRow.named==Tryz.pinned.checked.prog.varsNamed 3)=true:=by kernel_rfl
end Go.Proofs.YtmihkgopplkcjaaGreatDoor.topConserved
