/-
  DERIVED. GIVEN WITH THE SEED: THE CARDS: each row of YtlgdhajakblkaaaGreatDoorRows.lean that lists a variable, with what it lists TIED to the program's text (the seventh form; the later family's looks); each row that meets fmt, with fmt's text TOLD by the authors' own Lean function (tested against real Go, not proved from fmt's source: count such statements apart). THE CARD IS WHAT COUNTS. Prove the row's statement (the work); the ties are given (YtlgdhajakblkaaaGreatDoorTie.lean); close each card by the builder's one call (the guide's Derived/Test/ToyasCard.lean, 'card_holds'). Laid BY PROGRAM, IN A SANDBOX (cutbox-door.mjs). By AI agents, Wed Nov 11 2026. No macro, syntax, notation, axiom, sorry.
-/
import Derived.Test.YtlgdhajakblkaaaGreatDoorRows
import GoSem.ClaimSeven
namespace Go.Proofs.YtlgdhajakblkaaaGreatDoor
namespace Rows

/-- THE TIED CARD OF 'humpyardtop.TopHump'. -/
def topHumpCard : Claim7 := { stood := { row := topHumpRow, standIns := [], harness := (true, "9cc95fd976fc7bdbdcada6cec8f5ca84eab9fec99bbf7bf2ff101d540fd63fad"), looks := true }, kinds := [], alts := [], laidByText := true, laidKinds := [.data, .data, .data, .data, .sentinel, .sentinel, .pinned], laidTests := true, laidLooks := .later }
def TopHumpCardSaid : Prop := Claim7.holds Tryz.pinned (.plain (OpenSpec.ofChange topHumpSpec)) topHumpCard

/-- THE SECOND FORM's CARD OF 'humpyardtop.TopHump'. -/
def topHumpUptoCard : Claim7 := { stood := { row := topHumpUptoRow, standIns := [], harness := (true, "9cc95fd976fc7bdbdcada6cec8f5ca84eab9fec99bbf7bf2ff101d540fd63fad"), looks := true }, kinds := [], alts := [], laidByText := true, laidKinds := [.data, .data, .data, .data, .sentinel, .sentinel, .pinned], laidTests := true, laidLooks := .later }
def TopHumpUptoCardSaid : Prop := Claim7.holds Tryz.pinned (.plain (OpenSpec.upto topHumpSpec)) topHumpUptoCard
end Rows
end Go.Proofs.YtlgdhajakblkaaaGreatDoor
