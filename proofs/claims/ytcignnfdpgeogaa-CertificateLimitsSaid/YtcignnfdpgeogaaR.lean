
/- What any argument that came in reads as: integers, bools, strings, slices and structs of them. No condition. -/
import Derived.Test.YtcignnfdpgeogaaH
import Derived.Deep.Slices
namespace Go.V
open Go

/-! ### Any argument that came in -/

/-- What is read as a value of type t is encoded by e; Q holds of the data. -/
def RD {α : Type} (P : Program) (e : Enc α) (t : TypeId) (Q : α → Prop) : Prop := ∀ (H : Type) (enc : TypeId × Value → H) (W : World) (base : Nat) (sp : Nat → Bool) (held : Bool) (fuel : Nat) (cs : List Value) (x : DataW H × List MemPlace),
  DataW.trod enc P W base sp held fuel t cs = some x → ∃ d, e.R W [] cs d ∧ Q d
theorem rd_int {P : Program} {t : TypeId} {k : IntKind} (ht : P.underlying t = some (.int k)) : RD P (eInt k) t (fun n => (Lit.int k n).wf = true) := by
  intro H enc W base sp held fuel cs x h
  obtain ⟨n, rfl, _, hw⟩ := DataW.trod_int ht h
  exact ⟨n, rfl, hw⟩

end Go.V
