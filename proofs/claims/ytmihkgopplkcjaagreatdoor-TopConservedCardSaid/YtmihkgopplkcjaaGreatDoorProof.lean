/- The law TopConserved answers true for every input, and every argument reads afterwards as it read before; the listed table is tied to the program's text. No condition beyond the card's. -/
import Derived.Deep.Slices
import Derived.WalkKit
import Derived.ProofKit
import Derived.OpenShut
import Derived.ShutString
import Derived.ChangeOld
import Derived.Below
import Derived.LaidMore
import Derived.Lay
import Derived.MakeChecks
import Derived.SevenTiedAt
import Derived.Lib.LaidTab
import Derived.Test.YtmihkgopplkcjaaGreatDoorRows
import Derived.Test.YtmihkgopplkcjaaGreatDoorCards
import Derived.Test.YtmihkgopplkcjaaGreatDoorTie
import Derived.Test.YtmihkgopplkcjaaGreatDoorW
import Derived.Test.YtmihkgopplkcjaaGreatDoorX
import Derived.Test.YtmihkgopplkcjaaGreatDoorY
import Derived.Test.YtmihkgopplkcjaaGreatDoorZ
set_option linter.all false
set_option maxRecDepth 1000000
set_option maxHeartbeats 0
namespace Go.Proofs.YtmihkgopplkcjaaGreatDoor.topConserved
open Go.V Go.E
open Go.ChangeShapes Go.WideShapes Go.ChangeAt Go.RowKit
theorem proved:Rows.TopConservedCardSaid:=
 Claim7.holds_tied_plain_at .later [] [.data] true (true, "2c768dd19365d0d8d09f17850e421225301ed254e81e8c6ed252ff9ec96fa0aa") false over (λ_ h => by cases h) fW (λ_ h => by cases h) topConserved_row_tie rfl ⟨rfl, rfl⟩ fM rfl
  (λf fn hf hfn=>by
   obtain rfl : f = 3 := M1x (fF.symm.trans hf) |>.symm
   obtain rfl:fn=Tryz.f3:=(M1x (Tryz.func3.symm.trans hfn)).symm;exact ⟨fL,λj t ht=>by
    rw [Tryz.params3] at ht;have hm:t∈[22]:=by simpa using Array.mem_of_getElem? ht
    have hall:=fS
    exact (show Tryz.prog.wantsStandIn t=false by simpa using M1R.1 hall t hm)⟩)
  fG
#print axioms proved
end Go.Proofs.YtmihkgopplkcjaaGreatDoor.topConserved
