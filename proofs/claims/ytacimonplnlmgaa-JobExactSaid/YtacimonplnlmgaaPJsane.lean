/- Plain laws: the levels of a valid job; the examples of the chapter. No condition beyond those of each theorem. -/
import Derived.Test.YtacimonplnlmgaaPJgood
import Derived.Test.YtacimonplnlmgaaGlaw11sane
set_option linter.unusedVariables false
set_option linter.unusedSectionVars false
set_option linter.unusedSimpArgs false
set_option maxRecDepth 100000
namespace Go.Proofs.Ytacimonplnlmgaa
open Go Go.V Go.Proofs

theorem Relation_good {its : List Item} {wt : Int} (h : JobGood its wt) (x y : Nat) (hx : x < its.length) (hy : y < its.length) : job_Relation its wt (x : Int) (y : Int) = some (rel its x y, 0) := by
  have hl := h.len
  unfold job_Relation
  rw [valid_good h]
  simp only [Option.bind_some, bne_self_eq_false, Bool.false_eq_true, if_false]
  rw [job_in_ok, job_in_ok, wr_id (by omega) (by omega)]
  simp only [Option.bind_some]
  rw [if_neg (by simp; omega), if_neg (by simp; omega), relation_ok its wt x y hx hy]
  rfl

def IT : List Item := [(0, 1, 0, 80), (0, 3, 0, 80), (0, 0, 0, 80), (0, 2, 0, 80)]
theorem levels_IT : job_levels IT 12 = some [1, 2, 0, 1] := by
  have hb : ∀ i, 0 ≤ bOf IT i ∧ bOf IT i ≤ 31 := bOf_range (by decide)
  obtain ⟨v, h1, h2, _⟩ := levels_ok IT 12 (by decide) hb
  have h3 : IsLev IT [1, 2, 0, 1] := ⟨rfl, by decide⟩
  rw [h1, lev_unique (fun i => (hb i).1) h2 h3]
theorem valid_IT : job_Valid IT 12 = some 0 := by decide +kernel
theorem Levels_IT : job_Levels IT 12 = some ([1, 2, 0, 1], 0) := by
  unfold job_Levels
  rw [valid_IT, levels_IT]
  rfl
theorem Deepest_IT : job_Deepest IT 12 = some ([2, 0, 3, 1], 0) := by
  unfold job_Deepest
  rw [valid_IT, levels_IT]
  decide +kernel
theorem Sorted_IT : job_Sorted IT 12 [[2, 0, 3, 1]] = some (true, 0) := by decide +kernel
theorem four_IT : law11_four = some (IT, 12) := rfl
theorem ints_same (a : List Int) (h : a.length < 4611686018427387904) : gen_Ints a a = some true := by rw [ints_ok a a h]; simp
theorem sane11_ok : law11_sane = some true := by
  unfold law11_sane
  rw [four_IT]
  simp only [obind, Levels_IT, Deepest_IT, Sorted_IT]
  rw [if_pos (by decide), ints_same _ (by simp)]
  simp only [obind]
  rw [if_pos trivial, if_pos (by decide), ints_same _ (by simp)]
  simp only [obind]
  rw [if_pos trivial, if_pos (by decide)]
end Go.Proofs.Ytacimonplnlmgaa
