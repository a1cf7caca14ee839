/- Plain law of AssignExact: all functions answer as the reference does, for made and arbitrary lists. No condition. -/
import Derived.Test.YtdbomhhcebmkpaaPAlists
import Derived.Test.YtdbomhhcebmkpaaPAdual
import Derived.Test.YtdbomhhcebmkpaaGAssignExact
set_option linter.unusedVariables false
namespace Go.Proofs.Ytdbomhhcebmkpaa
open Go Go.V Go.Proofs
theorem match_small (a b : List Int) : ∃ r, assign_Match a b = some r ∧ r16_Match a b = some r ∧ r.1.length ≤ 32 ∧ r.2.1.length ≤ 32 := by
  obtain ⟨r, h1, h2, h3⟩ := match_eq a b
  refine ⟨r, h1, h2, ?_⟩
  by_cases hV : Vd a b
  · rcases match_two hV with ⟨l, h4, h5⟩ | ⟨l, h4, h5⟩
    · rw [h4] at h1; cases h1
      exact ⟨by rw [h5.ll]; exact hV.1, by simp⟩
    · rw [h4] at h1; cases h1
      exact ⟨by simp, Nat.le_trans (rfs_len h5) hV.1⟩
  · obtain ⟨e1, e2, _⟩ := h3 hV
    rw [e1, e2]; simp
theorem exact_ok (a b l r : List Int) : law16_exact a b l r = some true := by
  obtain ⟨x, h1, h2, h3, h4⟩ := match_small a b
  obtain ⟨v, h5⟩ := fits_total a b l
  obtain ⟨u, h6⟩ := refuses_total a b r
  unfold law16_exact
  rw [h1]
  simp only [Option.bind_some]
  rw [h2]
  simp only [Option.bind_some]
  rw [ints_ok _ _ (by omega), ints_ok _ _ (by omega), fits_eq, h5, refuses_eq, h6]
  simp
theorem aexact_ok (t a b l r : List Int) : law16_AssignExact t a b l r = some true := by
  unfold law16_AssignExact gen_New
  simp only [Option.bind_some]
  obtain ⟨d, h1, rfl⟩ := loop_inv (step := law16_AssignExact_L11 (t, 0)) (fun s => ∃ i : Nat, s.2 = (i : Int) ∧ i ≤ 5 ∧ 0 ≤ s.1 ∧ s.1 ≤ 1000 * i) (fun s => 5 - s.2.toNat) (fun d => d = .inr ()) (by
    rintro ⟨k, _⟩ ⟨i, rfl, hi, hk, hk2⟩
    dsimp only at hk hk2 ⊢
    unfold law16_AssignExact_L11
    dsimp only
    by_cases hlt : i < 5
    · left
      rw [if_pos (dpos (by omega))]
      obtain ⟨a, b, k1, e1, e2, e3, hV, hal, hbl, _⟩ := lists_ok t k 6 (by omega) (by omega) (by omega) (by omega)
      rw [e1]
      simp only [Option.bind_some]
      obtain ⟨x, _, h2, h3, h4⟩ := match_small a b
      rw [h2]
      simp only [Option.bind_some]
      rw [if_pos (by simp; omega), if_pos (by simp; omega)]
      have fin : ∀ (a b l r : List Int) (y : (List Int) × (List Int) × Int) (k2 : Int), y.1 = a → 0 ≤ k2 → k2 ≤ 1000 * i + 500 → ∃ s', law16_AssignExact_J49 (i : Int) y l r k2 b = some (.next s') ∧ (∃ j : Nat, s'.2 = (j : Int) ∧ j ≤ 5 ∧ 0 ≤ s'.1 ∧ s'.1 ≤ 1000 * j) ∧ 5 - s'.2.toNat < 5 - ((i : Int)).toNat := by
        intro a b l r y k2 _ hk3 hk4
        unfold law16_AssignExact_J49
        rw [exact_ok]
        simp only [Option.bind_some]
        rw [if_neg (by decide), wk1 (by omega)]
        exact ⟨_, rfl, ⟨i + 1, rfl, by omega, by dsimp only; omega, by dsimp only; omega⟩, by dsimp only; omega⟩
      have j50 : ∀ (l r : List Int) (k2 : Int) (c : Bool), (c = true → 0 < b.length) → 0 ≤ k2 → k2 ≤ 1000 * i + 400 → ∃ s', law16_AssignExact_J50 (t, 0) (i : Int) (a, b, k1) l k2 r c = some (.next s') ∧ (∃ j : Nat, s'.2 = (j : Int) ∧ j ≤ 5 ∧ 0 ≤ s'.1 ∧ s'.1 ≤ 1000 * j) ∧ 5 - s'.2.toNat < 5 - ((i : Int)).toNat := by
        intro l r k2 c hc hk3 hk4
        unfold law16_AssignExact_J50
        cases c with
        | false => rw [if_neg (by decide)]; exact fin _ _ _ _ _ _ rfl (by omega) (by omega)
        | true =>
          have := hc rfl
          rw [if_pos rfl]
          obtain ⟨v, f1, f2⟩ := next_nat t k2 b.length (by omega) (by omega) (by omega) (by omega)
          rw [f1]
          simp only [Option.bind_some]
          obtain ⟨u, f3, _⟩ := pick_ok t (k2 + 1) [0, -1, 38400, 38401] (by omega) (by omega) (by decide) (by decide)
          rw [f3]
          simp only [Option.bind_some]
          rw [vw_idx (by omega : v < b.length)]
          simp only [Option.bind_some]
          exact fin _ _ _ _ _ _ rfl (by omega) (by omega)
      have j38 : ∀ (l r : List Int) (k2 : Int), 0 ≤ k2 → k2 ≤ 1000 * i + 400 → ∃ s', law16_AssignExact_J38 (t, 0) (i : Int) (a, b, k1) l k2 r = some (.next s') ∧ (∃ j : Nat, s'.2 = (j : Int) ∧ j ≤ 5 ∧ 0 ≤ s'.1 ∧ s'.1 ≤ 1000 * j) ∧ 5 - s'.2.toNat < 5 - ((i : Int)).toNat := by
        intro l r k2 hk3 hk4
        unfold law16_AssignExact_J38
        split
        · refine j50 _ _ _ _ (fun h => ?_) hk3 hk4
          have := of_decide_eq_true h
          dsimp only at this; omega
        · exact j50 _ _ _ _ (fun h => by cases h) hk3 hk4
      have j39 : ∀ (l : List Int) (k2 : Int) (c : Bool), (c = true → 0 < x.2.1.length) → 0 ≤ k2 → k2 ≤ 1000 * i + 300 → ∃ s', law16_AssignExact_J39 (t, 0) (i : Int) (a, b, k1) x k2 l c = some (.next s') ∧ (∃ j : Nat, s'.2 = (j : Int) ∧ j ≤ 5 ∧ 0 ≤ s'.1 ∧ s'.1 ≤ 1000 * j) ∧ 5 - s'.2.toNat < 5 - ((i : Int)).toNat := by
        intro l k2 c hc hk3 hk4
        unfold law16_AssignExact_J39
        cases c with
        | false => rw [if_neg (by decide)]; exact j38 _ _ _ (by omega) (by omega)
        | true =>
          have := hc rfl
          rw [if_pos rfl, List.nil_append]
          obtain ⟨v, f1, f2⟩ := next_nat t k2 x.2.1.length (by omega) (by omega) (by omega) (by omega)
          rw [f1]
          simp only [Option.bind_some]
          obtain ⟨u, f3, _⟩ := from_ok t (k2 + 1) (-1) a.length (by omega) (by omega) (by omega) (by omega) (by omega)
          rw [f3]
          simp only [Option.bind_some]
          rw [vw_idx (by omega : v < x.2.1.length)]
          simp only [Option.bind_some]
          exact j38 _ _ _ (by omega) (by omega)
      have j27 : ∀ (l : List Int) (k2 : Int), 0 ≤ k2 → k2 ≤ 1000 * i + 300 → ∃ s', law16_AssignExact_J27 (t, 0) (i : Int) (a, b, k1) x k2 l = some (.next s') ∧ (∃ j : Nat, s'.2 = (j : Int) ∧ j ≤ 5 ∧ 0 ≤ s'.1 ∧ s'.1 ≤ 1000 * j) ∧ 5 - s'.2.toNat < 5 - ((i : Int)).toNat := by
        intro l k2 hk3 hk4
        unfold law16_AssignExact_J27
        split
        · refine j39 _ _ _ (fun h => ?_) hk3 hk4
          have := of_decide_eq_true h
          rw [List.nil_append] at this; omega
        · exact j39 _ _ _ (fun h => by cases h) hk3 hk4
      have j28 : ∀ (c : Bool), (c = true → 0 < x.1.length) → ∃ s', law16_AssignExact_J28 (t, 0) (i : Int) (a, b, k1) x c = some (.next s') ∧ (∃ j : Nat, s'.2 = (j : Int) ∧ j ≤ 5 ∧ 0 ≤ s'.1 ∧ s'.1 ≤ 1000 * j) ∧ 5 - s'.2.toNat < 5 - ((i : Int)).toNat := by
        intro c hc
        unfold law16_AssignExact_J28
        cases c with
        | false => rw [if_neg (by decide)]; exact j27 _ _ (by dsimp only; omega) (by dsimp only; omega)
        | true =>
          have := hc rfl
          rw [if_pos rfl, List.nil_append]
          obtain ⟨v, f1, f2⟩ := next_nat t k1 x.1.length (by omega) (by omega) (by omega) (by omega)
          rw [f1]
          simp only [Option.bind_some]
          obtain ⟨u, f3, _⟩ := from_ok t (k1 + 1) (-1) b.length (by omega) (by omega) (by omega) (by omega) (by omega)
          rw [f3]
          simp only [Option.bind_some]
          rw [vw_idx (by omega : v < x.1.length)]
          simp only [Option.bind_some]
          exact j27 _ _ (by omega) (by omega)
      split
      · refine j28 _ fun h => ?_
        have := of_decide_eq_true h
        rw [List.nil_append] at this; omega
      · exact j28 _ (fun h => by cases h)
    · right
      rw [if_neg (dneg (by omega))]
      exact ⟨_, rfl, rfl⟩) (0, 0) ⟨0, rfl, by omega, by omega, by omega⟩ (by dsimp only; omega)
  rw [h1]
  simp only [Option.bind_some]
  split
  · rfl
  · rw [exact_ok]
    simp only [Option.bind_some]
    rw [if_pos trivial, sane16]
    rfl
end Go.Proofs.Ytdbomhhcebmkpaa
