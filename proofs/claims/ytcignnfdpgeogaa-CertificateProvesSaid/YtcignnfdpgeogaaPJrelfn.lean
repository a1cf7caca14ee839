/- Plain laws: the relation of two items as the program tells it. No condition beyond those of each theorem. -/
import Derived.Test.YtcignnfdpgeogaaPJgood
set_option linter.unusedVariables false
set_option linter.unusedSectionVars false
set_option linter.unusedSimpArgs false
set_option maxRecDepth 100000
namespace Go.Proofs.Ytcignnfdpgeogaa
open Go Go.V Go.Proofs

theorem relation_ok (its : List Item) (wt : Int) (x y : Nat) (hx : x < its.length) (hy : y < its.length) : job_relation its wt (x : Int) (y : Int) = some (rel its x y) := by
  unfold job_relation rel
  rw [idx_nat, idx_nat, List.getElem?_eq_getElem hx, List.getElem?_eq_getElem hy]
  simp only [Option.bind_some]
  generalize its[x] = a
  generalize its[y] = b
  unfold job_relation_J4 job_relation_J9 relI
  by_cases h1 : a.1 = b.1
  · by_cases h2 : a.2.1 ≥ b.2.1
    · simp [h1, h2]
    · by_cases h3 : y < x
      · have h3' : (y : Int) < x := by omega
        have h2' : ¬ b.2.1 ≤ a.2.1 := by omega
        simp [h1, h2', h3]
      · have h2' : ¬ b.2.1 ≤ a.2.1 := by omega
        simp [h1, h2', h3]
  · simp [h1]

end Go.Proofs.Ytcignnfdpgeogaa
