
/- Plain laws: the examples of the chapter on certificates; spoiled proofs. No condition beyond those of each theorem. -/
import Derived.Test.YtcignnfdpgeogaaPCcheck0
import Derived.Test.YtcignnfdpgeogaaGlaw15sane
import Derived.Test.YtcignnfdpgeogaaGlaw15spoil
set_option linter.unusedVariables false
set_option linter.unusedSectionVars false
set_option linter.unusedSimpArgs false
set_option maxRecDepth 100000
namespace Go.Proofs.Ytcignnfdpgeogaa
open Go Go.V Go.Proofs

theorem good_of {its : List Item} {wt : Int} (h : job_Valid its wt = some 0) : JobGood its wt := by
  obtain ⟨e, h1, h2⟩ := jobvalid_spec its wt
  rw [h] at h1
  cases h1
  rcases h2 with ⟨_, h2⟩ | ⟨h2, _⟩
  · exact h2
  · exact absurd rfl h2
def IT : List Item := [(0, 1, 0, 80), (0, 3, 0, 80), (0, 0, 0, 80), (0, 2, 0, 80)]
theorem valid_IT : JobGood IT 12 := good_of (by decide +kernel)
theorem lst_IT : IsLst IT 12 [1, 2, 0, 1] := ⟨rfl, by decide +kernel⟩
theorem mx_IT : IsMx [1, 2, 0, 1] 2 := by
  refine ⟨fun y => ?_, .inr ⟨1, by decide, rfl⟩⟩
  match y with
  | 0 => decide
  | 1 => decide
  | 2 => decide
  | 3 => decide
  | y + 4 => exact (by decide : (0 : Int) ≤ 2)
theorem Make_IT : ∃ w, certificate_Make IT 12 = some (((2, [1, 2, 0, 1]), w), 0) := by
  rcases Make_ok0 valid_IT with ⟨v, S, m, w, hv, hm, hS, _, _, h, _⟩ | h
  · have e := lst_unique (fun i => (valid_IT.b i).1) lst_IT hv
    subst e
    have e := hm.uniq mx_IT
    subst e
    have e := long_unique hS ⟨2, rfl, by omega, by decide, .inr (by decide)⟩
    subst e
    exact ⟨w, h⟩
  · obtain ⟨p, e1, e2⟩ := Least_ok valid_IT
    unfold certificate_Make at h
    rw [e1] at h
    rcases e2 with ⟨v, S, m, hv, rfl, _⟩ | ⟨_, hs⟩
    · simp only [obind, bne_self_eq_false, Bool.false_eq_true, if_false] at h
      obtain ⟨w, w1, w2⟩ := Witness_ok valid_IT
      rw [w1] at h
      rcases w2 with ⟨_, _, w0, _⟩ | ⟨_, hs⟩
      · rw [obind, w0] at h
        simp at h
      · exact absurd lst_IT (hs.none (fun i => (valid_IT.b i).1) _)
    · exact absurd lst_IT (hs.none (fun i => (valid_IT.b i).1) _)
theorem four_IT : law15_four = some (IT, 12) := rfl
theorem proof_eq (S : Int) (v c : List Int) : law15_proof S v c = some ((S, v), c) := rfl
theorem Check1 : certificate_Check IT 12 2 [1, 2, 0, 1] [2, 0, 3, 1] = some 0 := by decide +kernel
theorem Check2 : certificate_Check IT 12 2 [1, 2, 0, 1] [2, 0] = some 17 := by decide +kernel
theorem Check3 : certificate_Check IT 12 2 [1, 1, 0, 1] [2, 0, 3, 1] = some 12 := by decide +kernel
theorem Check4 : certificate_Check IT 12 2 [1, 3, 0, 1] [2, 0, 3, 1] = some 0 := by decide +kernel
theorem Encode1 : certificate_Encode 1 [1] [0] = some ([1, 1, 0, 1, 1, 0], 0) := by decide +kernel
theorem Bytes1 : gen_Bytes [1, 1, 0, 1, 1, 0] [1, 1, 0, 1, 1, 0] = some true := by decide +kernel
theorem sane15_ok : law15_sane = some true := by
  obtain ⟨w, hw⟩ := Make_IT
  unfold law15_sane
  simp only [obind, four_IT, proof_eq, hw, Check1, Check2, Check3, Check4, Encode1, Bytes1]
  rfl

/-! ### Spoiled proofs -/
end Go.Proofs.Ytcignnfdpgeogaa
