/-
  No cell of these rows narrows 'for every input' (looked for: loops, veiled, ifaces, maps, wideKeys, modest, calm, conditions, laid).
  DERIVED. THE GIVEN ROWS OF THIS SEAT. 6 by the template 'for every input the law returns true; each argument reads behind the call as it read before'; 0 by the template 'total and deterministic' (their statements: YteimkmjnjnaifaaTotals.lean).
  GIVEN WITH THE SEED: the statements are not yours to turn. If you find one false, say at which input.
  Laid BY PROGRAM, IN A SANDBOX (cutbox-rows.mjs): the forced cells as the released guide's own fill.sh prints them over the translation 95f59fd803252728… (all of the seat's roots in one cut). By AI agents, Wed Nov 11 2026. No macro, syntax, notation, axiom, sorry.
-/
import Derived.Test.YteimkmjnjnaifaaChecked
import GoSem.Claim
import GoSem.ClaimJoined
import GoSem.ClaimMapViews
import Derived.JoinedTies
import Derived.KernelRfl
namespace Go.Proofs.Yteimkmjnjnaifaa
/- THE CELL 'sum', in the pinned program and in every row, IS THE sha256 OF THE DUMP (.gsa) THAT YteimkmjnjnaifaaProg.lean LOADS. Nothing in Lean hashes anything: it is a label: what it is worth is what the hold of that sum in a sandbox is worth. -/
noncomputable def Try.pinned : Pinned := { name := "yteimkmjnjnaifaa", sum := "95f59fd803252728f6f1fa59515fe26e2287647e350b676376d85f2562855ac0", checked := Try.checked }
namespace Rows
def none {H : Type} : Left H := { results := [], args := [] }

/-- 'humpyardlaw02.WagonnumberOneDigit': WHATEVER THE INPUT: true; the input reads as it did. -/
def wagonnumberOneDigitSpec : ChangeSpec := { name := "wagonnumberOneDigit", fn := fun _ => fun
  | [d1, d2, d3] => { results := [.lit (.bool true)], args := [d1, d2, d3] }
  | _ => none }
def wagonnumberOneDigitRow : OpenClaim := { program := "yteimkmjnjnaifaa", sum := "95f59fd803252728f6f1fa59515fe26e2287647e350b676376d85f2562855ac0", func := "humpyard/humpyardlaw02.WagonnumberOneDigit", spec := "wagonnumberOneDigit", unfollowed := true, recurses := true, apart := false }
def WagonnumberOneDigitSaid : Prop := wagonnumberOneDigitRow.holds Try.pinned (OpenSpec.ofChange wagonnumberOneDigitSpec)

/-- ITS FALSE NEIGHBOUR: 'it returns false'. Refute it at one input. -/
def wagonnumberOneDigitWrong : ChangeSpec := { name := "wagonnumberOneDigit", fn := fun _ => fun
  | [d1, d2, d3] => { results := [.lit (.bool false)], args := [d1, d2, d3] }
  | _ => none }
def WagonnumberOneDigitWrongFalsely : Prop := wagonnumberOneDigitRow.holds Try.pinned (OpenSpec.ofChange wagonnumberOneDigitWrong)

/-- 'humpyardlaw02.WagonnumberPlaces': WHATEVER THE INPUT: true; the input reads as it did. -/
def wagonnumberPlacesSpec : ChangeSpec := { name := "wagonnumberPlaces", fn := fun _ => fun
  | [d] => { results := [.lit (.bool true)], args := [d] }
  | _ => none }
def wagonnumberPlacesRow : OpenClaim := { program := "yteimkmjnjnaifaa", sum := "95f59fd803252728f6f1fa59515fe26e2287647e350b676376d85f2562855ac0", func := "humpyard/humpyardlaw02.WagonnumberPlaces", spec := "wagonnumberPlaces", unfollowed := true, recurses := true, apart := false }
def WagonnumberPlacesSaid : Prop := wagonnumberPlacesRow.holds Try.pinned (OpenSpec.ofChange wagonnumberPlacesSpec)

/-- ITS FALSE NEIGHBOUR: 'it returns false'. Refute it at one input. -/
def wagonnumberPlacesWrong : ChangeSpec := { name := "wagonnumberPlaces", fn := fun _ => fun
  | [d] => { results := [.lit (.bool false)], args := [d] }
  | _ => none }
def WagonnumberPlacesWrongFalsely : Prop := wagonnumberPlacesRow.holds Try.pinned (OpenSpec.ofChange wagonnumberPlacesWrong)

/-- 'humpyardlaw02.WagonnumberExchange': WHATEVER THE INPUT: true; the input reads as it did. -/
def wagonnumberExchangeSpec : ChangeSpec := { name := "wagonnumberExchange", fn := fun _ => fun
  | [d1, d2] => { results := [.lit (.bool true)], args := [d1, d2] }
  | _ => none }
def wagonnumberExchangeRow : OpenClaim := { program := "yteimkmjnjnaifaa", sum := "95f59fd803252728f6f1fa59515fe26e2287647e350b676376d85f2562855ac0", func := "humpyard/humpyardlaw02.WagonnumberExchange", spec := "wagonnumberExchange", unfollowed := true, recurses := true, apart := false }
def WagonnumberExchangeSaid : Prop := wagonnumberExchangeRow.holds Try.pinned (OpenSpec.ofChange wagonnumberExchangeSpec)

/-- ITS FALSE NEIGHBOUR: 'it returns false'. Refute it at one input. -/
def wagonnumberExchangeWrong : ChangeSpec := { name := "wagonnumberExchange", fn := fun _ => fun
  | [d1, d2] => { results := [.lit (.bool false)], args := [d1, d2] }
  | _ => none }
def WagonnumberExchangeWrongFalsely : Prop := wagonnumberExchangeRow.holds Try.pinned (OpenSpec.ofChange wagonnumberExchangeWrong)

/-- 'humpyardlaw02.WagonnumberRepairs': WHATEVER THE INPUT: true; the input reads as it did. -/
def wagonnumberRepairsSpec : ChangeSpec := { name := "wagonnumberRepairs", fn := fun _ => fun
  | [d] => { results := [.lit (.bool true)], args := [d] }
  | _ => none }
def wagonnumberRepairsRow : OpenClaim := { program := "yteimkmjnjnaifaa", sum := "95f59fd803252728f6f1fa59515fe26e2287647e350b676376d85f2562855ac0", func := "humpyard/humpyardlaw02.WagonnumberRepairs", spec := "wagonnumberRepairs", unfollowed := true, recurses := true, apart := false }
def WagonnumberRepairsSaid : Prop := wagonnumberRepairsRow.holds Try.pinned (OpenSpec.ofChange wagonnumberRepairsSpec)

/-- ITS FALSE NEIGHBOUR: 'it returns false'. Refute it at one input. -/
def wagonnumberRepairsWrong : ChangeSpec := { name := "wagonnumberRepairs", fn := fun _ => fun
  | [d] => { results := [.lit (.bool false)], args := [d] }
  | _ => none }
def WagonnumberRepairsWrongFalsely : Prop := wagonnumberRepairsRow.holds Try.pinned (OpenSpec.ofChange wagonnumberRepairsWrong)

/-- 'humpyardlaw02.WagonnumberExact': WHATEVER THE INPUT: true; the input reads as it did. -/
def wagonnumberExactSpec : ChangeSpec := { name := "wagonnumberExact", fn := fun _ => fun
  | [d1, d2] => { results := [.lit (.bool true)], args := [d1, d2] }
  | _ => none }
def wagonnumberExactRow : OpenClaim := { program := "yteimkmjnjnaifaa", sum := "95f59fd803252728f6f1fa59515fe26e2287647e350b676376d85f2562855ac0", func := "humpyard/humpyardlaw02.WagonnumberExact", spec := "wagonnumberExact", unfollowed := true, recurses := true, apart := false }
def WagonnumberExactSaid : Prop := wagonnumberExactRow.holds Try.pinned (OpenSpec.ofChange wagonnumberExactSpec)

/-- ITS FALSE NEIGHBOUR: 'it returns false'. Refute it at one input. -/
def wagonnumberExactWrong : ChangeSpec := { name := "wagonnumberExact", fn := fun _ => fun
  | [d1, d2] => { results := [.lit (.bool false)], args := [d1, d2] }
  | _ => none }
def WagonnumberExactWrongFalsely : Prop := wagonnumberExactRow.holds Try.pinned (OpenSpec.ofChange wagonnumberExactWrong)

/-- 'humpyardlaw02.WagonnumberText': WHATEVER THE INPUT: true; the input reads as it did. -/
def wagonnumberTextSpec : ChangeSpec := { name := "wagonnumberText", fn := fun _ => fun
  | [d1, d2] => { results := [.lit (.bool true)], args := [d1, d2] }
  | _ => none }
def wagonnumberTextRow : OpenClaim := { program := "yteimkmjnjnaifaa", sum := "95f59fd803252728f6f1fa59515fe26e2287647e350b676376d85f2562855ac0", func := "humpyard/humpyardlaw02.WagonnumberText", spec := "wagonnumberText", unfollowed := true, recurses := true, apart := false }
def WagonnumberTextSaid : Prop := wagonnumberTextRow.holds Try.pinned (OpenSpec.ofChange wagonnumberTextSpec)

/-- ITS FALSE NEIGHBOUR: 'it returns false'. Refute it at one input. -/
def wagonnumberTextWrong : ChangeSpec := { name := "wagonnumberText", fn := fun _ => fun
  | [d1, d2] => { results := [.lit (.bool false)], args := [d1, d2] }
  | _ => none }
def WagonnumberTextWrongFalsely : Prop := wagonnumberTextRow.holds Try.pinned (OpenSpec.ofChange wagonnumberTextWrong)

/- THE SECOND FORM. 'bulk': how many values and letters a reading holds, each counted each time it is reached (what is shared counts as often as it is met; a slice's spare places count too). A statement '..UptoSaid' is the law's where the arguments, and the package variables that the reading takes, are together of bulk at most 1048576: NARROWER than '..Said'. Prove '..Said' where nothing that the law and all that it calls make is longer than what came in: it says more and counts as full. Else prove '..UptoSaid'. A law counts once. -/
mutual
def uptoBulk {H : Type} : DataW H → Nat
  | .lit (.string bytes) => bytes.length + 1
  | .lit _ => 1
  | .nil => 1
  | .ptr d => uptoBulk d + 1
  | .slice elems spare => uptoBulkAll elems + uptoBulkAll spare + 1
  | .agg parts => uptoBulkAll parts + 1
  | .iface _ d => uptoBulk d + 1
  | .map entries => uptoBulkEntries entries + 1
  | .held _ => 1
def uptoBulkAll {H : Type} : List (DataW H) → Nat
  | [] => 0
  | d :: r => uptoBulk d + uptoBulkAll r
def uptoBulkEntries {H : Type} : List (Lit × DataW H) → Nat
  | [] => 0
  | x :: r => uptoBulkEntry x + uptoBulkEntries r
def uptoBulkEntry {H : Type} : Lit × DataW H → Nat
  | (.string bytes, d) => bytes.length + uptoBulk d + 1
  | (_, d) => uptoBulk d + 1
 end
def uptoSmall : (H : Type) → List (DataW H) → Bool := fun _ ds => decide (uptoBulkAll ds ≤ 1048576)
def OpenSpec.upto (s : _root_.Go.ChangeSpec) : _root_.Go.OpenSpec := { _root_.Go.OpenSpec.ofChange s with cond := some uptoSmall }

/-- 'humpyardlaw02.WagonnumberOneDigit', WHERE WHAT IT READS IS OF BULK AT MOST 1048576: true; the input reads as it did. -/
def wagonnumberOneDigitUptoRow : OpenClaim := { program := "yteimkmjnjnaifaa", sum := "95f59fd803252728f6f1fa59515fe26e2287647e350b676376d85f2562855ac0", func := "humpyard/humpyardlaw02.WagonnumberOneDigit", spec := "wagonnumberOneDigit", unfollowed := true, recurses := true, apart := false, narrowed := true }
def WagonnumberOneDigitUptoSaid : Prop := wagonnumberOneDigitUptoRow.holds Try.pinned (OpenSpec.upto wagonnumberOneDigitSpec)

/-- 'humpyardlaw02.WagonnumberPlaces', WHERE WHAT IT READS IS OF BULK AT MOST 1048576: true; the input reads as it did. -/
def wagonnumberPlacesUptoRow : OpenClaim := { program := "yteimkmjnjnaifaa", sum := "95f59fd803252728f6f1fa59515fe26e2287647e350b676376d85f2562855ac0", func := "humpyard/humpyardlaw02.WagonnumberPlaces", spec := "wagonnumberPlaces", unfollowed := true, recurses := true, apart := false, narrowed := true }
def WagonnumberPlacesUptoSaid : Prop := wagonnumberPlacesUptoRow.holds Try.pinned (OpenSpec.upto wagonnumberPlacesSpec)

/-- 'humpyardlaw02.WagonnumberExchange', WHERE WHAT IT READS IS OF BULK AT MOST 1048576: true; the input reads as it did. -/
def wagonnumberExchangeUptoRow : OpenClaim := { program := "yteimkmjnjnaifaa", sum := "95f59fd803252728f6f1fa59515fe26e2287647e350b676376d85f2562855ac0", func := "humpyard/humpyardlaw02.WagonnumberExchange", spec := "wagonnumberExchange", unfollowed := true, recurses := true, apart := false, narrowed := true }
def WagonnumberExchangeUptoSaid : Prop := wagonnumberExchangeUptoRow.holds Try.pinned (OpenSpec.upto wagonnumberExchangeSpec)

/-- 'humpyardlaw02.WagonnumberRepairs', WHERE WHAT IT READS IS OF BULK AT MOST 1048576: true; the input reads as it did. -/
def wagonnumberRepairsUptoRow : OpenClaim := { program := "yteimkmjnjnaifaa", sum := "95f59fd803252728f6f1fa59515fe26e2287647e350b676376d85f2562855ac0", func := "humpyard/humpyardlaw02.WagonnumberRepairs", spec := "wagonnumberRepairs", unfollowed := true, recurses := true, apart := false, narrowed := true }
def WagonnumberRepairsUptoSaid : Prop := wagonnumberRepairsUptoRow.holds Try.pinned (OpenSpec.upto wagonnumberRepairsSpec)

/-- 'humpyardlaw02.WagonnumberExact', WHERE WHAT IT READS IS OF BULK AT MOST 1048576: true; the input reads as it did. -/
def wagonnumberExactUptoRow : OpenClaim := { program := "yteimkmjnjnaifaa", sum := "95f59fd803252728f6f1fa59515fe26e2287647e350b676376d85f2562855ac0", func := "humpyard/humpyardlaw02.WagonnumberExact", spec := "wagonnumberExact", unfollowed := true, recurses := true, apart := false, narrowed := true }
def WagonnumberExactUptoSaid : Prop := wagonnumberExactUptoRow.holds Try.pinned (OpenSpec.upto wagonnumberExactSpec)

/-- 'humpyardlaw02.WagonnumberText', WHERE WHAT IT READS IS OF BULK AT MOST 1048576: true; the input reads as it did. -/
def wagonnumberTextUptoRow : OpenClaim := { program := "yteimkmjnjnaifaa", sum := "95f59fd803252728f6f1fa59515fe26e2287647e350b676376d85f2562855ac0", func := "humpyard/humpyardlaw02.WagonnumberText", spec := "wagonnumberText", unfollowed := true, recurses := true, apart := false, narrowed := true }
def WagonnumberTextUptoSaid : Prop := wagonnumberTextUptoRow.holds Try.pinned (OpenSpec.upto wagonnumberTextSpec)

end Rows
end Go.Proofs.Yteimkmjnjnaifaa
