
/- Plain law: the reference makes the same proofs. No condition beyond those of each theorem. -/
import Derived.Test.YtcignnfdpgeogaaPCcheck0
import Derived.Test.YtcignnfdpgeogaaPKref13a
import Derived.Test.YtcignnfdpgeogaaGr15
set_option linter.unusedVariables false
set_option linter.unusedSectionVars false
set_option linter.unusedSimpArgs false
set_option maxRecDepth 100000
namespace Go.Proofs.Ytcignnfdpgeogaa
open Go Go.V Go.Proofs
theorem rMake_same {its : List Item} {wt : Int} (hg : JobGood its wt) : r15_Make its wt = certificate_Make its wt := by
  obtain ⟨p, e1, e2⟩ := Least_ok hg
  obtain ⟨q, f1, f2⟩ := rLeast_ok hg
  have e := spec_uniq hg e2 f2
  subst e
  obtain ⟨w, w1, w2, _⟩ := wit_same hg
  obtain ⟨w', w3, w4⟩ := Witness_ok hg
  rw [w1] at w3
  cases w3
  unfold certificate_Make r15_Make
  rw [e1, f1]
  simp only [obind]
  rw [w1, w2]
  rcases e2 with ⟨v, S, m, hv, rfl, hm, hS⟩ | ⟨rfl, hs⟩
  · simp only [obind, bne_self_eq_false, Bool.false_eq_true, if_false]
    rcases w4 with ⟨v', hv', h0, h3⟩ | ⟨_, hs⟩
    · rw [h0]; rfl
    · exact absurd hv (hs.none (fun i => (hg.b i).1) v)
  · rfl
end Go.Proofs.Ytcignnfdpgeogaa
