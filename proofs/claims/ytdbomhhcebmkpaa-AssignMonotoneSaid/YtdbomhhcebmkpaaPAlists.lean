/- The maker of loads and tracks; the examples. Conditions: those of each theorem. -/
import Derived.Test.YtdbomhhcebmkpaaPAasg
import Derived.Test.YtdbomhhcebmkpaaGlaw16lists
import Derived.Test.YtdbomhhcebmkpaaGlaw16sane
set_option linter.unusedVariables false
set_option linter.unusedSimpArgs false
namespace Go.Proofs.Ytdbomhhcebmkpaa
open Go Go.V Go.Proofs

theorem sane16 : law16_sane = some true := by decide +kernel

theorem list_a (l : List Int) (k n : Int) (hk : 0 ≤ k) (hk2 : k ≤ 100000000) (hn : 0 ≤ n) (hn2 : n ≤ 1000) :
    ∃ k' a, loop (law16_lists_L6 l) (k, ([] : List Int), n) = some (k', a) ∧ k ≤ k' ∧ k' ≤ k + n ∧ (a.length : Int) = n ∧ ∀ x ∈ a, 0 ≤ x ∧ x ≤ 38400 := by
  obtain ⟨d, h1, h2⟩ := loop_inv (step := law16_lists_L6 l) (fun s => k ≤ s.1 ∧ s.1 ≤ k + (n - s.2.2) ∧ 0 ≤ s.2.2 ∧ s.2.2 ≤ n ∧ (s.2.1.length : Int) = n - s.2.2 ∧ ∀ x ∈ s.2.1, 0 ≤ x ∧ x ≤ 38400) (fun s => s.2.2.toNat)
    (fun d => k ≤ d.1 ∧ d.1 ≤ k + n ∧ (d.2.length : Int) = n ∧ ∀ x ∈ d.2, 0 ≤ x ∧ x ≤ 38400) (by
      rintro ⟨e, d, i⟩ ⟨h1, h2, h3, h4, h5, h6⟩
      dsimp only at h1 h2 h3 h4 h5 h6 ⊢
      unfold law16_lists_L6
      dsimp only
      by_cases hi : i > 0
      · left
        obtain ⟨v, e1, e2⟩ := pick_ok l e [0, 1, 5, 8, 8, 12, 20] (by omega) (by omega) (by decide) (by decide)
        rw [if_pos (dpos hi), e1]
        simp only [Option.bind_some]
        rw [if_pos (by simp only [List.length_singleton]; omega), wr_id (by omega) (by omega)]
        refine ⟨_, rfl, ⟨by dsimp only; omega, by dsimp only; omega, by dsimp only; omega, by dsimp only; omega, by simp; omega, fun x hx => ?_⟩, by dsimp only; omega⟩
        simp only [List.mem_append, List.mem_singleton] at hx
        rcases hx with hx | rfl
        · exact h6 x hx
        · simp only [List.mem_cons, List.not_mem_nil, or_false] at e2; omega
      · right
        rw [if_neg (dneg hi)]
        exact ⟨_, rfl, h1, by dsimp only; omega, by dsimp only; omega, h6⟩) (k, ([] : List Int), n) ⟨by dsimp only; omega, by dsimp only; omega, hn, by dsimp only; omega, by simp, fun x hx => by cases hx⟩ (by dsimp only; omega)
  exact ⟨d.1, d.2, h1, h2⟩
theorem list_b (l : List Int) (k n : Int) (hk : 0 ≤ k) (hk2 : k ≤ 100000000) (hn : 0 ≤ n) (hn2 : n ≤ 1000) :
    ∃ k' a, loop (law16_lists_L19 l) (k, ([] : List Int), n) = some (k', a) ∧ k ≤ k' ∧ k' ≤ k + n ∧ (a.length : Int) = n ∧ ∀ x ∈ a, 1 ≤ x ∧ x ≤ 30 := by
  obtain ⟨d, h1, h2⟩ := loop_inv (step := law16_lists_L19 l) (fun s => k ≤ s.1 ∧ s.1 ≤ k + (n - s.2.2) ∧ 0 ≤ s.2.2 ∧ s.2.2 ≤ n ∧ (s.2.1.length : Int) = n - s.2.2 ∧ ∀ x ∈ s.2.1, 1 ≤ x ∧ x ≤ 30) (fun s => s.2.2.toNat)
    (fun d => k ≤ d.1 ∧ d.1 ≤ k + n ∧ (d.2.length : Int) = n ∧ ∀ x ∈ d.2, 1 ≤ x ∧ x ≤ 30) (by
      rintro ⟨e, d, i⟩ ⟨h1, h2, h3, h4, h5, h6⟩
      dsimp only at h1 h2 h3 h4 h5 h6 ⊢
      unfold law16_lists_L19
      dsimp only
      by_cases hi : i > 0
      · left
        obtain ⟨v, e1, e2⟩ := pick_ok l e [1, 5, 8, 8, 12, 20, 30] (by omega) (by omega) (by decide) (by decide)
        rw [if_pos (dpos hi), e1]
        simp only [Option.bind_some]
        rw [if_pos (by simp only [List.length_singleton]; omega), wr_id (by omega) (by omega)]
        refine ⟨_, rfl, ⟨by dsimp only; omega, by dsimp only; omega, by dsimp only; omega, by dsimp only; omega, by simp; omega, fun x hx => ?_⟩, by dsimp only; omega⟩
        simp only [List.mem_append, List.mem_singleton] at hx
        rcases hx with hx | rfl
        · exact h6 x hx
        · simp only [List.mem_cons, List.not_mem_nil, or_false] at e2; omega
      · right
        rw [if_neg (dneg hi)]
        exact ⟨_, rfl, h1, by dsimp only; omega, by dsimp only; omega, h6⟩) (k, ([] : List Int), n) ⟨by dsimp only; omega, by dsimp only; omega, hn, by dsimp only; omega, by simp, fun x hx => by cases hx⟩ (by dsimp only; omega)
  exact ⟨d.1, d.2, h1, h2⟩
/-- Loads and tracks are valid and few. -/
theorem lists_ok (l : List Int) (k n : Int) (hk : 0 ≤ k) (hk2 : k ≤ 1000000) (hn : 0 ≤ n) (hn2 : n ≤ 8) :
    ∃ a b k', law16_lists l k n = some (a, b, k') ∧ k ≤ k' ∧ k' ≤ k + 100 ∧ Vd a b ∧ a.length ≤ n ∧ b.length ≤ n + 2 ∧ ∀ x ∈ b, x ≤ 30 := by
  obtain ⟨v, e1, e2, e3⟩ := next_ok l k (n + 1) hk (by omega) (by omega) (by omega)
  obtain ⟨k1, a, e4, e5, e6, e7, e8⟩ := list_a l (k + 1) v (by omega) (by omega) e2 (by omega)
  obtain ⟨u, f1, f2, f3⟩ := next_ok l k1 (n + 3) (by omega) (by omega) (by omega) (by omega)
  obtain ⟨k2, b, f4, f5, f6, f7, f8⟩ := list_b l (k1 + 1) u (by omega) (by omega) f2 (by omega)
  refine ⟨a, b, k2, ?_, by omega, by omega, ⟨by omega, by omega, e8, fun x hx => by have := f8 x hx; omega⟩, by omega, by omega, fun x hx => (f8 x hx).2⟩
  unfold law16_lists
  rw [wr_id (by omega) (by omega), e1]
  simp only [Option.bind_some]
  rw [e4]
  simp only [Option.bind_some]
  rw [wr_id (by omega) (by omega), f1]
  simp only [Option.bind_some]
  rw [f4]
  rfl
theorem from_ok (l : List Int) (k a b : Int) (hk : 0 ≤ k) (hk2 : k ≤ 100000000) (hab : a ≤ b) (ha : -1000000 ≤ a) (hb : b ≤ 1000000) : ∃ v, gen_Maker_From l k a b = some (v, k + 1) ∧ a ≤ v ∧ v ≤ b := by
  unfold gen_Maker_From
  rw [wr_id (n := b - a) (by omega) (by omega), wr_id (n := b - a + 1) (by omega) (by omega)]
  obtain ⟨v, e1, e2, e3⟩ := next_ok l k (b - a + 1) hk (by omega) (by omega) (by omega)
  rw [e1]
  simp only [Option.bind_some]
  rw [wr_id (by omega) (by omega)]
  exact ⟨_, rfl, by omega, by omega⟩
end Go.Proofs.Ytdbomhhcebmkpaa
