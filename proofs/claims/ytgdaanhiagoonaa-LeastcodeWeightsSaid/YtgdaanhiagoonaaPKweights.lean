/- Plain law of LeastcodeWeights: with a greater weight no code is greater. No condition. -/
import Derived.Test.YtgdaanhiagoonaaPKuse
import Derived.Test.YtgdaanhiagoonaaGLeastcodeWeights
set_option linter.unusedVariables false
set_option linter.unusedSectionVars false
set_option linter.unusedSimpArgs false
set_option maxRecDepth 100000
namespace Go.Proofs.Ytgdaanhiagoonaa
open Go Go.V Go.Proofs

theorem JobGood.wt' {its : List Item} {wt w : Int} (h : JobGood its wt) (hw : 0 ≤ w ∧ w ≤ 12) : JobGood its w := ⟨h.len, hw, h.it, h.asc⟩

theorem weights_ok (l : List Int) : law13_LeastcodeWeights l = some true := by
  unfold law13_LeastcodeWeights gen_New
  simp only [obind]
  obtain ⟨its, wt, k, h1, k0, k1, _, hg, _⟩ := job_ok l 0 14 (by omega) (by omega)
  have hw := hg.w
  rw [h1]
  simp only [obind]
  obtain ⟨a, h2, a0, a1⟩ := next_ok l k 4 (by omega) (by omega) (by omega) (by omega)
  rcases Least_cases hg with ⟨v, S, m, hv, e1, hm, hS⟩ | ⟨e1, hs⟩
  · rw [e1]
    simp only [obind]
    rw [h2]
    simp only [obind]
    rw [wr_id (n := wt + a) (by omega) (by omega)]
    obtain ⟨w', hw', hww⟩ : ∃ w', (if wt + a < 12 then wt + a else 12) = w' ∧ (wt ≤ w' ∧ w' ≤ 12) := ⟨_, rfl, by split <;> omega⟩
    rw [hw']
    have hg' := hg.wt' (w := w') (by omega)
    have hu : Upper its w' v := fun y hy => by
      have e := hv.eq y hy
      have := nx_le (needU_nn its v y) (Int.le_refl _) (hg.r y) (w := wt) (w' := w') (by omega) (by rw [e])
      rw [e] at this
      exact this
    rcases Least_cases hg' with ⟨v', S', m', hv', e2, hm', hS'⟩ | ⟨_, hs⟩
    · rw [e2]
      have hle : ∀ y, y < its.length → v'.getD y 0 ≤ v.getD y 0 := upper_le hg' hu hv'
      have hvl := hv.len
      have hvl' := hv'.len
      have hmm : m' ≤ m := by
        rcases hm'.2 with q | ⟨y, q1, q2⟩
        · omega
        · have := hle y (by omega)
          have := hm.1 y
          omega
      have hSS := long_mono hmm hS' hS
      simp only [obind, bne_self_eq_false, Bool.false_eq_true, if_false]
      rw [if_neg (by rw [hvl, hvl']; simp), if_neg (dneg (by omega))]
      have h := loop_count (law13_LeastcodeWeights_L34 ((S, v), 0) ((S', v'), 0)) (.inr ()) 0 its.length (by have := hg.len; omega) (by have := hg.len; omega) (fun y _ hy => by
        have := hle y hy
        have := hg.len
        unfold law13_LeastcodeWeights_L34
        simp only [hvl]
        rw [if_pos (dpos (by omega)), idx_getD (by omega)]
        simp only [obind]
        rw [idx_getD (by omega)]
        simp only [obind]
        rw [if_neg (dneg (by omega)), wr_id (by omega) (by omega)]) (by
        unfold law13_LeastcodeWeights_L34
        simp only [hvl]
        rw [if_neg (dneg (by omega))])
      rw [show ((0 : Nat) : Int) = 0 from rfl] at h
      rw [h]
      simp only [obind]
      rw [sane13_ok]
      rfl
    · exact absurd hs (upper_free hg' hu)
  · rw [e1]
    simp only [obind]
    rw [h2]
    simp only [obind]
    rw [wr_id (n := wt + a) (by omega) (by omega)]
    obtain ⟨w', hw', hww⟩ : ∃ w', (if wt + a < 12 then wt + a else 12) = w' ∧ (wt ≤ w' ∧ w' ≤ 12) := ⟨_, rfl, by split <;> omega⟩
    rw [hw']
    obtain ⟨p, e2, _⟩ := Least_ok (hg.wt' (w := w') (by omega))
    rw [e2]
    simp only [obind]
    rw [if_pos (by decide), if_pos (by decide), sane13_ok]
    rfl
end Go.Proofs.Ytgdaanhiagoonaa
