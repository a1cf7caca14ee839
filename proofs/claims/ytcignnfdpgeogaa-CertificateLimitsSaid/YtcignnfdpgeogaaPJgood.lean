
/- Plain laws: valid jobs. No condition beyond those of each theorem. -/
import Derived.Test.YtcignnfdpgeogaaPJrel
set_option linter.unusedVariables false
set_option linter.unusedSectionVars false
set_option linter.unusedSimpArgs false
set_option maxRecDepth 100000
namespace Go.Proofs.Ytcignnfdpgeogaa
open Go Go.V Go.Proofs

theorem bOf_range {its : List Item} (h : ∀ x ∈ its, 0 ≤ x.2.1 ∧ x.2.1 ≤ 31) (i : Nat) : 0 ≤ bOf its i ∧ bOf its i ≤ 31 := by
  unfold bOf
  cases hx : its[i]? with
  | none => simp
  | some a => exact h a (List.mem_of_getElem? hx)
theorem JobGood.b {its : List Item} {wt : Int} (h : JobGood its wt) (i : Nat) : 0 ≤ bOf its i ∧ bOf its i ≤ 31 :=
  bOf_range (fun x hx => by obtain ⟨i, hi, rfl⟩ := List.getElem_of_mem hx; exact (h.it i _ (List.getElem?_eq_getElem hi)).2.1) i
theorem valid_good {its : List Item} {wt : Int} (h : JobGood its wt) : job_Valid its wt = some 0 := by
  obtain ⟨e, h1, h2⟩ := jobvalid_spec its wt
  rcases h2 with ⟨rfl, _⟩ | ⟨_, h3⟩
  · exact h1
  · exact absurd h h3

end Go.Proofs.Ytcignnfdpgeogaa
