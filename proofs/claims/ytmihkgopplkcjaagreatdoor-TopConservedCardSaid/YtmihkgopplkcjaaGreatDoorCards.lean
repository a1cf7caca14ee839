/-
  DERIVED. GIVEN WITH THE SEED: THE CARDS: each row of YtmihkgopplkcjaaGreatDoorRows.lean that lists a variable, with what it lists TIED to the program's text (the seventh form; the later family's looks); each row that meets fmt, with fmt's text TOLD by the authors' own Lean function (tested against real Go, not proved from fmt's source: count such statements apart). THE CARD IS WHAT COUNTS. Prove the row's statement (the work); the ties are given (YtmihkgopplkcjaaGreatDoorTie.lean); close each card by the builder's one call (the guide's Derived/Test/ToyasCard.lean, 'card_holds'). Laid BY PROGRAM, IN A SANDBOX (cutbox-door.mjs). By AI agents, Wed Nov 11 2026. No macro, syntax, notation, axiom, sorry.
-/
import Derived.Test.YtmihkgopplkcjaaGreatDoorRows
import GoSem.ClaimSeven
namespace Go.Proofs.YtmihkgopplkcjaaGreatDoor
namespace Rows

/-- THE TIED CARD OF 'humpyardtop.TopConserved'. -/
def topConservedCard : Claim7 := { stood := { row := topConservedRow, standIns := [], harness := (true, "2c768dd19365d0d8d09f17850e421225301ed254e81e8c6ed252ff9ec96fa0aa"), looks := false }, kinds := [], alts := [], laidByText := true, laidKinds := [.data], laidTests := true, laidLooks := .later }
def TopConservedCardSaid : Prop := Claim7.holds Tryz.pinned (.plain (OpenSpec.ofChange topConservedSpec)) topConservedCard

/-- THE SECOND FORM's CARD OF 'humpyardtop.TopConserved'. -/
def topConservedUptoCard : Claim7 := { stood := { row := topConservedUptoRow, standIns := [], harness := (true, "2c768dd19365d0d8d09f17850e421225301ed254e81e8c6ed252ff9ec96fa0aa"), looks := false }, kinds := [], alts := [], laidByText := true, laidKinds := [.data], laidTests := true, laidLooks := .later }
def TopConservedUptoCardSaid : Prop := Claim7.holds Tryz.pinned (.plain (OpenSpec.upto topConservedSpec)) topConservedUptoCard
end Rows
end Go.Proofs.YtmihkgopplkcjaaGreatDoor
