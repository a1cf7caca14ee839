/- Plain laws: a job that was spoiled, and numbers of a range. No condition beyond those of each theorem. -/
import Derived.Test.YtcignnfdpgeogaaPJvalid
set_option linter.unusedVariables false
set_option linter.unusedSectionVars false
set_option linter.unusedSimpArgs false
set_option maxRecDepth 100000
namespace Go.Proofs.Ytcignnfdpgeogaa
open Go Go.V Go.Proofs

theorem spoil_ok (l : List Int) (k : Int) (its : List Item) (wt : Int) (hk : 0 ≤ k ∧ k ≤ 1000000000) (hl : its.length ≤ 1000) : ∃ its' wt' k', gen_Maker_SpoilJob l k its wt = some ((its', wt'), k') ∧ its'.length = its.length ∧ k ≤ k' ∧ k' ≤ k + 10 := by
  have j13 : ∀ (k1 : Int) (t : Bool), k ≤ k1 → k1 ≤ k + 2 → (t = false → 0 < its.length) → ∃ its' wt' k', gen_Maker_SpoilJob_J13 l its wt k1 t = some ((its', wt'), k') ∧ its'.length = its.length ∧ k ≤ k' ∧ k' ≤ k + 10 := by
    intro k1 t h1 h2 ht
    unfold gen_Maker_SpoilJob_J13
    cases t with
    | true =>
      obtain ⟨v, e, _⟩ := pick_ok l k1 [(-1), 13, 12, 0] (by omega) (by omega) (by decide) (by decide)
      rw [if_pos rfl, e]
      exact ⟨_, _, _, rfl, rfl, by omega, by omega⟩
    | false =>
      have hp := ht rfl
      rw [if_neg (by decide)]
      simp only [List.nil_append]
      obtain ⟨i, e1, i0, i1⟩ := next_ok l k1 its.length (by omega) (by omega) (by omega) (by omega)
      obtain ⟨x, _, ex⟩ := idx_of its i i0 i1
      obtain ⟨v, e2, v0, v1⟩ := next_ok l (k1 + 1) 4 (by omega) (by omega) (by omega) (by omega)
      obtain ⟨a, ea, _⟩ := pick_ok l (k1 + 1 + 1) [(-1), 15, 16] (by omega) (by omega) (by decide) (by decide)
      obtain ⟨b, eb, _⟩ := pick_ok l (k1 + 1 + 1) [(-1), 31, 32] (by omega) (by omega) (by decide) (by decide)
      obtain ⟨c, ec, _⟩ := pick_ok l (k1 + 1 + 1) [(-1), 0, 5, 12, 13] (by omega) (by omega) (by decide) (by decide)
      obtain ⟨d, ed, _⟩ := pick_ok l (k1 + 1 + 1) [0, 1, 400, 401] (by omega) (by omega) (by decide) (by decide)
      rw [e1]
      simp only [Option.bind_some, ex, e2]
      by_cases h0 : v = 0
      · rw [if_pos (by simp [h0]), ea]
        exact ⟨_, _, _, rfl, by simp, by omega, by omega⟩
      · rw [if_neg (by simpa using h0)]
        by_cases h1' : v = 1
        · rw [if_pos (by simp [h1']), eb]
          exact ⟨_, _, _, rfl, by simp, by omega, by omega⟩
        · rw [if_neg (by simpa using h1')]
          by_cases h2' : v = 2
          · rw [if_pos (by simp [h2']), ec]
            exact ⟨_, _, _, rfl, by simp, by omega, by omega⟩
          · rw [if_neg (by simpa using h2'), ed]
            exact ⟨_, _, _, rfl, by simp, by omega, by omega⟩
  unfold gen_Maker_SpoilJob
  rw [if_pos (by simp only [List.length_nil]; omega)]
  simp only [List.nil_append]
  by_cases h0 : its.length = 0
  · rw [if_pos (by simp [h0])]
    exact j13 k true (by omega) (by omega) (fun h => by cases h)
  · rw [if_neg (by simpa using (by omega : ¬ (its.length : Int) = 0))]
    obtain ⟨v, e, _⟩ := next_ok l k 8 hk.1 (by omega) (by omega) (by omega)
    rw [e]
    simp only [Option.bind_some]
    exact j13 (k + 1) (v == 0) (by omega) (by omega) (fun _ => by omega)

end Go.Proofs.Ytcignnfdpgeogaa
