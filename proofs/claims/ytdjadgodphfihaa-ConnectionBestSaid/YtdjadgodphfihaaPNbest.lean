/- Plain law of ConnectionBest: no departure costs less than the best one, and none that is earlier costs as little. No condition. -/
import Derived.Test.YtdjadgodphfihaaPNconn
import Derived.Test.YtdjadgodphfihaaGConnectionBest
set_option linter.unusedVariables false
set_option linter.unusedSectionVars false
set_option linter.unusedSimpArgs false
set_option maxRecDepth 100000
namespace Go.Proofs.Ytdjadgodphfihaa
open Go Go.V Go.Proofs

theorem connBest_ok (l : List Int) : law41_ConnectionBest l = some true := by
  unfold law41_ConnectionBest gen_New
  simp only [obind]
  obtain ⟨P, L, rd, mi, ms, k, h1, hc, _, _⟩ := made_ok l
  have hp := hc.p
  have hl := hc.l
  rw [h1]
  simp only [obind]
  obtain ⟨b, h2, hb, hmin⟩ := Best_good hc
  have hbr := svs_range hc hb
  rw [h2]
  simp only [obind, bne_self_eq_false, Bool.false_eq_true, if_false]
  rw [if_neg (dneg (by omega)), if_neg (dneg (by omega))]
  obtain ⟨d, g1, g2⟩ := loop_inv (step := law41_ConnectionBest_L15 ((P, L, rd, mi, ms), k) (b, cost P rd mi ms b, 0)) (fun s => P ≤ s ∧ s ≤ L + 1) (fun s => (L + 1 - s).toNat) (fun d => d = .inr ()) (by
    intro t ht
    unfold law41_ConnectionBest_L15
    simp only
    by_cases h : t ≤ L
    · obtain ⟨s, s1, s2, s3⟩ := down_cost hc (t - P).toNat t (by omega) h
      obtain ⟨m1, m2⟩ := hmin s s1
      rw [if_pos (dpos h), Cost_good hc t ⟨ht.1, h⟩]
      simp only [obind, bne_self_eq_false, Bool.false_eq_true, if_false]
      rw [if_neg (dneg (by omega)), wr_id (by omega) (by omega)]
      have hnx : ∃ s', (some (.next (t + 1)) : Option (Step Int (Unit ⊕ Unit))) = some (.next s') ∧ (P ≤ s' ∧ s' ≤ L + 1) ∧ (L + 1 - s').toNat < (L + 1 - t).toNat := ⟨_, rfl, by omega, by omega⟩
      by_cases hlt : t < b
      · have hne : ¬ cost P rd mi ms t = cost P rd mi ms b := fun e => by
          have := m2 (by omega)
          omega
        rw [if_pos (dpos hlt), if_neg (by rw [beq_iff_eq]; exact hne), if_neg (by rw [beq_iff_eq]; omega)]
        exact .inl hnx
      · rw [if_neg (dneg hlt)]
        by_cases he : t = b
        · subst he
          rw [if_pos (by simp), if_neg (by simp)]
          exact .inl hnx
        · rw [if_neg (by rw [beq_iff_eq]; exact he)]
          exact .inl hnx
    · rw [if_neg (dneg h)]
      exact .inr ⟨_, rfl, rfl⟩) P ⟨Int.le_refl _, by omega⟩ (by omega)
  rw [g1, g2]
  simp only [obind]
  rw [sane41_ok]
  rfl
end Go.Proofs.Ytdjadgodphfihaa
