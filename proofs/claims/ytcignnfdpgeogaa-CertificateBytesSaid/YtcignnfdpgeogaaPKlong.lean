
/- Plain laws: bit lengths of the reference. No condition beyond those of each theorem. -/
import Derived.Test.YtcignnfdpgeogaaPKsteps
set_option linter.unusedVariables false
set_option linter.unusedSectionVars false
set_option linter.unusedSimpArgs false
set_option maxRecDepth 100000
namespace Go.Proofs.Ytcignnfdpgeogaa
open Go Go.V Go.Proofs

theorem rlong_ok (k : Nat) (hk : k < 4096) : ∃ d, r12_Long (k : Int) = some d ∧ LongSpec k d := by
  obtain ⟨d, h1, h2⟩ := steps_loop k hk
  refine ⟨d, ?_, h2⟩
  unfold r12_Long
  have e : ∀ (m : Nat) (s : Int × Int), 0 ≤ s.1 → s.1 < 4096 → loopN r12_Long_L1 m s = loopN code_Steps_L4 m s := by
    intro m
    induction m with
    | zero => intro s _ _; rfl
    | succ m ih =>
      rintro ⟨a, n⟩ h3 h4
      simp only at h3 h4
      have e1 : IntKind.i64.wrap (Int.tdiv a 2) = Int.fdiv a (2 ^ (min (Int.toNat (1)) IntKind.i64.bits)) := by
        have := pow_nat 1 (by omega)
        rw [show (1 : Int) = ((1 : Nat) : Int) from rfl, this, Int.fdiv_eq_ediv_of_nonneg _ (by omega), Int.tdiv_eq_ediv_of_nonneg h3, wr_id (by omega) (by omega)]
        rfl
      have e2 : r12_Long_L1 (a, n) = code_Steps_L4 (a, n) := by
        unfold r12_Long_L1 code_Steps_L4
        simp only [e1]
      simp only [loopN, e2]
      unfold code_Steps_L4
      by_cases h5 : a > 0
      · simp only
        rw [if_pos (dpos h5)]
        simp only [Option.bind_some]
        have e3 : 0 ≤ Int.tdiv a 2 ∧ Int.tdiv a 2 < 4096 := by rw [Int.tdiv_eq_ediv_of_nonneg h3]; omega
        rw [wr_id (by omega) (by omega)] at e1
        apply ih
        · simp only; rw [← e1]; exact e3.1
        · simp only; rw [← e1]; exact e3.2
      · simp only
        rw [if_neg (dneg h5)]
        rfl
  have h3 : loop r12_Long_L1 ((k : Int), 0) = some d := by
    unfold loop at h1 ⊢
    rw [e _ _ (by simp only; omega) (by simp only; omega), h1]
  rw [h3]
  rfl
end Go.Proofs.Ytcignnfdpgeogaa
