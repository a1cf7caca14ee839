/-
  No cell of these rows narrows 'for every input' (looked for: loops, veiled, ifaces, maps, wideKeys, modest, calm, conditions, laid).
  DERIVED. THE GIVEN ROWS OF THIS SEAT. 4 by the template 'for every input the law returns true; each argument reads behind the call as it read before'; 0 by the template 'total and deterministic' (their statements: YtdjadgodphfihaaTotals.lean).
  GIVEN WITH THE SEED: the statements are not yours to turn. If you find one false, say at which input.
  Laid BY PROGRAM, IN A SANDBOX (cutbox-rows.mjs): the forced cells as the released guide's own fill.sh prints them over the translation 05fb87290694aee3… (all of the seat's roots in one cut). By AI agents, Wed Nov 11 2026. No macro, syntax, notation, axiom, sorry.
-/
import Derived.Test.YtdjadgodphfihaaChecked
import GoSem.Claim
import GoSem.ClaimJoined
import GoSem.ClaimMapViews
import Derived.JoinedTies
import Derived.KernelRfl
namespace Go.Proofs.Ytdjadgodphfihaa
/- THE CELL 'sum', in the pinned program and in every row, IS THE sha256 OF THE DUMP (.gsa) THAT YtdjadgodphfihaaProg.lean LOADS. Nothing in Lean hashes anything: it is a label: what it is worth is what the hold of that sum in a sandbox is worth. -/
noncomputable def Try.pinned : Pinned := { name := "ytdjadgodphfihaa", sum := "05fb87290694aee323882e849943b37fe9fd320f759ae2ed935c15ded1af9a8e", checked := Try.checked }
namespace Rows
def none {H : Type} : Left H := { results := [], args := [] }

/-- 'humpyardlaw41.ConnectionExact': WHATEVER THE INPUT: true; the input reads as it did. -/
def connectionExactSpec : ChangeSpec := { name := "connectionExact", fn := fun _ => fun
  | [d1, d2, d3] => { results := [.lit (.bool true)], args := [d1, d2, d3] }
  | _ => none }
def connectionExactRow : OpenClaim := { program := "ytdjadgodphfihaa", sum := "05fb87290694aee323882e849943b37fe9fd320f759ae2ed935c15ded1af9a8e", func := "humpyard/humpyardlaw41.ConnectionExact", spec := "connectionExact", recurses := true, apart := false }
def ConnectionExactSaid : Prop := connectionExactRow.holds Try.pinned (OpenSpec.ofChange connectionExactSpec)

/-- ITS FALSE NEIGHBOUR: 'it returns false'. Refute it at one input. -/
def connectionExactWrong : ChangeSpec := { name := "connectionExact", fn := fun _ => fun
  | [d1, d2, d3] => { results := [.lit (.bool false)], args := [d1, d2, d3] }
  | _ => none }
def ConnectionExactWrongFalsely : Prop := connectionExactRow.holds Try.pinned (OpenSpec.ofChange connectionExactWrong)

/-- 'humpyardlaw41.ConnectionBest': WHATEVER THE INPUT: true; the input reads as it did. -/
def connectionBestSpec : ChangeSpec := { name := "connectionBest", fn := fun _ => fun
  | [d] => { results := [.lit (.bool true)], args := [d] }
  | _ => none }
def connectionBestRow : OpenClaim := { program := "ytdjadgodphfihaa", sum := "05fb87290694aee323882e849943b37fe9fd320f759ae2ed935c15ded1af9a8e", func := "humpyard/humpyardlaw41.ConnectionBest", spec := "connectionBest", recurses := true, apart := false }
def ConnectionBestSaid : Prop := connectionBestRow.holds Try.pinned (OpenSpec.ofChange connectionBestSpec)

/-- ITS FALSE NEIGHBOUR: 'it returns false'. Refute it at one input. -/
def connectionBestWrong : ChangeSpec := { name := "connectionBest", fn := fun _ => fun
  | [d] => { results := [.lit (.bool false)], args := [d] }
  | _ => none }
def ConnectionBestWrongFalsely : Prop := connectionBestRow.holds Try.pinned (OpenSpec.ofChange connectionBestWrong)

/-- 'humpyardlaw41.ConnectionSaves': WHATEVER THE INPUT: true; the input reads as it did. -/
def connectionSavesSpec : ChangeSpec := { name := "connectionSaves", fn := fun _ => fun
  | [d1, d2, d3] => { results := [.lit (.bool true)], args := [d1, d2, d3] }
  | _ => none }
def connectionSavesRow : OpenClaim := { program := "ytdjadgodphfihaa", sum := "05fb87290694aee323882e849943b37fe9fd320f759ae2ed935c15ded1af9a8e", func := "humpyard/humpyardlaw41.ConnectionSaves", spec := "connectionSaves", recurses := true, apart := false }
def ConnectionSavesSaid : Prop := connectionSavesRow.holds Try.pinned (OpenSpec.ofChange connectionSavesSpec)

/-- ITS FALSE NEIGHBOUR: 'it returns false'. Refute it at one input. -/
def connectionSavesWrong : ChangeSpec := { name := "connectionSaves", fn := fun _ => fun
  | [d1, d2, d3] => { results := [.lit (.bool false)], args := [d1, d2, d3] }
  | _ => none }
def ConnectionSavesWrongFalsely : Prop := connectionSavesRow.holds Try.pinned (OpenSpec.ofChange connectionSavesWrong)

/-- 'humpyardlaw41.ConnectionWaits': WHATEVER THE INPUT: true; the input reads as it did. -/
def connectionWaitsSpec : ChangeSpec := { name := "connectionWaits", fn := fun _ => fun
  | [d1, d2, d3] => { results := [.lit (.bool true)], args := [d1, d2, d3] }
  | _ => none }
def connectionWaitsRow : OpenClaim := { program := "ytdjadgodphfihaa", sum := "05fb87290694aee323882e849943b37fe9fd320f759ae2ed935c15ded1af9a8e", func := "humpyard/humpyardlaw41.ConnectionWaits", spec := "connectionWaits", recurses := true, apart := false }
def ConnectionWaitsSaid : Prop := connectionWaitsRow.holds Try.pinned (OpenSpec.ofChange connectionWaitsSpec)

/-- ITS FALSE NEIGHBOUR: 'it returns false'. Refute it at one input. -/
def connectionWaitsWrong : ChangeSpec := { name := "connectionWaits", fn := fun _ => fun
  | [d1, d2, d3] => { results := [.lit (.bool false)], args := [d1, d2, d3] }
  | _ => none }
def ConnectionWaitsWrongFalsely : Prop := connectionWaitsRow.holds Try.pinned (OpenSpec.ofChange connectionWaitsWrong)

/- THE SECOND FORM. 'bulk': how many values and letters a reading holds, each counted each time it is reached (what is shared counts as often as it is met; a slice's spare places count too). A statement '..UptoSaid' is the law's where the arguments, and the package variables that the reading takes, are together of bulk at most 1048576: NARROWER than '..Said'. Prove '..Said' where nothing that the law and all that it calls make is longer than what came in: it says more and counts as full. Else prove '..UptoSaid'. A law counts once. -/
mutual
def uptoBulk {H : Type} : DataW H → Nat
  | .lit (.string bytes) => bytes.length + 1
  | .lit _ => 1
  | .nil => 1
  | .ptr d => uptoBulk d + 1
  | .slice elems spare => uptoBulkAll elems + uptoBulkAll spare + 1
  | .agg parts => uptoBulkAll parts + 1
  | .iface _ d => uptoBulk d + 1
  | .map entries => uptoBulkEntries entries + 1
  | .held _ => 1
def uptoBulkAll {H : Type} : List (DataW H) → Nat
  | [] => 0
  | d :: r => uptoBulk d + uptoBulkAll r
def uptoBulkEntries {H : Type} : List (Lit × DataW H) → Nat
  | [] => 0
  | x :: r => uptoBulkEntry x + uptoBulkEntries r
def uptoBulkEntry {H : Type} : Lit × DataW H → Nat
  | (.string bytes, d) => bytes.length + uptoBulk d + 1
  | (_, d) => uptoBulk d + 1
 end
def uptoSmall : (H : Type) → List (DataW H) → Bool := fun _ ds => decide (uptoBulkAll ds ≤ 1048576)
def OpenSpec.upto (s : _root_.Go.ChangeSpec) : _root_.Go.OpenSpec := { _root_.Go.OpenSpec.ofChange s with cond := some uptoSmall }

/-- 'humpyardlaw41.ConnectionExact', WHERE WHAT IT READS IS OF BULK AT MOST 1048576: true; the input reads as it did. -/
def connectionExactUptoRow : OpenClaim := { program := "ytdjadgodphfihaa", sum := "05fb87290694aee323882e849943b37fe9fd320f759ae2ed935c15ded1af9a8e", func := "humpyard/humpyardlaw41.ConnectionExact", spec := "connectionExact", recurses := true, apart := false, narrowed := true }
def ConnectionExactUptoSaid : Prop := connectionExactUptoRow.holds Try.pinned (OpenSpec.upto connectionExactSpec)

/-- 'humpyardlaw41.ConnectionBest', WHERE WHAT IT READS IS OF BULK AT MOST 1048576: true; the input reads as it did. -/
def connectionBestUptoRow : OpenClaim := { program := "ytdjadgodphfihaa", sum := "05fb87290694aee323882e849943b37fe9fd320f759ae2ed935c15ded1af9a8e", func := "humpyard/humpyardlaw41.ConnectionBest", spec := "connectionBest", recurses := true, apart := false, narrowed := true }
def ConnectionBestUptoSaid : Prop := connectionBestUptoRow.holds Try.pinned (OpenSpec.upto connectionBestSpec)

/-- 'humpyardlaw41.ConnectionSaves', WHERE WHAT IT READS IS OF BULK AT MOST 1048576: true; the input reads as it did. -/
def connectionSavesUptoRow : OpenClaim := { program := "ytdjadgodphfihaa", sum := "05fb87290694aee323882e849943b37fe9fd320f759ae2ed935c15ded1af9a8e", func := "humpyard/humpyardlaw41.ConnectionSaves", spec := "connectionSaves", recurses := true, apart := false, narrowed := true }
def ConnectionSavesUptoSaid : Prop := connectionSavesUptoRow.holds Try.pinned (OpenSpec.upto connectionSavesSpec)

/-- 'humpyardlaw41.ConnectionWaits', WHERE WHAT IT READS IS OF BULK AT MOST 1048576: true; the input reads as it did. -/
def connectionWaitsUptoRow : OpenClaim := { program := "ytdjadgodphfihaa", sum := "05fb87290694aee323882e849943b37fe9fd320f759ae2ed935c15ded1af9a8e", func := "humpyard/humpyardlaw41.ConnectionWaits", spec := "connectionWaits", recurses := true, apart := false, narrowed := true }
def ConnectionWaitsUptoSaid : Prop := connectionWaitsUptoRow.holds Try.pinned (OpenSpec.upto connectionWaitsSpec)

end Rows
end Go.Proofs.Ytdjadgodphfihaa
