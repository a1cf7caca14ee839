/- Plain laws: the relation of two items of a valid job. No condition beyond those of each theorem. -/
import Derived.Test.YtcignnfdpgeogaaPJrelfn
set_option linter.unusedVariables false
set_option linter.unusedSectionVars false
set_option linter.unusedSimpArgs false
set_option maxRecDepth 100000
namespace Go.Proofs.Ytcignnfdpgeogaa
open Go Go.V Go.Proofs

theorem Relation_good {its : List Item} {wt : Int} (h : JobGood its wt) (x y : Nat) (hx : x < its.length) (hy : y < its.length) : job_Relation its wt (x : Int) (y : Int) = some (rel its x y, 0) := by
  have hl := h.len
  unfold job_Relation
  rw [valid_good h]
  simp only [Option.bind_some, bne_self_eq_false, Bool.false_eq_true, if_false]
  rw [job_in_ok, job_in_ok, wr_id (by omega) (by omega)]
  simp only [Option.bind_some]
  rw [if_neg (by simp; omega), if_neg (by simp; omega), relation_ok its wt x y hx hy]
  rfl

end Go.Proofs.Ytcignnfdpgeogaa
