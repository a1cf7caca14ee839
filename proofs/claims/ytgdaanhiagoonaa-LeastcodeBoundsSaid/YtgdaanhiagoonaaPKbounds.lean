/- Plain law of LeastcodeBounds: the witness is a chain whose bound is the greatest code, and no chain has a greater bound. No condition. -/
import Derived.Test.YtgdaanhiagoonaaPKchain
import Derived.Test.YtgdaanhiagoonaaGLeastcodeBounds
set_option linter.unusedVariables false
set_option linter.unusedSectionVars false
set_option linter.unusedSimpArgs false
set_option maxRecDepth 100000
namespace Go.Proofs.Ytgdaanhiagoonaa
open Go Go.V Go.Proofs

theorem KO22_ok (v : List Int) (S e : Int) (hl : v.length ≤ 1000) (hc : C12 v) : ∃ m : Nat, loop (law13_LeastcodeBounds_L22 ((S, v), e)) (0, 0) = some (m : Int) ∧ IsMx v m := by
  obtain ⟨d, h1, h2⟩ := loop_inv (step := law13_LeastcodeBounds_L22 ((S, v), e)) (fun s => ∃ (i m : Nat), s = ((m : Int), (i : Int)) ∧ i ≤ v.length ∧ (∀ y, y < i → v.getD y 0 ≤ m) ∧ (m = 0 ∨ ∃ y, y < v.length ∧ v.getD y 0 = m)) (fun s => v.length - s.2.toNat)
    (fun d => ∃ m : Nat, d = (m : Int) ∧ IsMx v m) (by
    rintro _ ⟨i, m, rfl, hi, hm, hat⟩
    unfold law13_LeastcodeBounds_L22
    simp only
    by_cases h : i < v.length
    · obtain ⟨c0, c1⟩ := hc i
      rw [if_pos (dpos (by omega)), idx_getD h]
      simp only [obind]
      rw [wr_id (by omega) (by omega)]
      by_cases hgt : v.getD i 0 > m
      · refine .inl ⟨_, rfl, ⟨i + 1, (v.getD i 0).toNat, ?_, by omega, fun y hy => ?_, .inr ⟨i, by omega, by omega⟩⟩, by simp only; omega⟩
        · rw [if_pos hgt, show (((v.getD i 0).toNat : Nat) : Int) = v.getD i 0 by omega]; rfl
        · by_cases q : y = i
          · subst q; omega
          · have := hm y (by omega); omega
      · refine .inl ⟨_, rfl, ⟨i + 1, m, by rw [if_neg hgt]; rfl, by omega, fun y hy => ?_, hat⟩, by simp only; omega⟩
        by_cases q : y = i
        · subst q; omega
        · exact hm y (by omega)
    · rw [if_neg (dneg (by omega))]
      refine .inr ⟨_, rfl, m, rfl, fun y => ?_, hat⟩
      by_cases q : y < v.length
      · exact hm y (by omega)
      · rw [List.getD_eq_getElem?_getD, List.getElem?_eq_none (by omega)]
        show (0 : Int) ≤ m
        omega) (0, 0) ⟨0, 0, rfl, by omega, fun y h => by omega, .inl rfl⟩ (by simp; omega)
  obtain ⟨m, rfl, h3⟩ := h2
  exact ⟨m, h1, h3⟩

theorem bounds_ok (l : List Int) : law13_LeastcodeBounds l = some true := by
  unfold law13_LeastcodeBounds gen_New
  simp only [obind]
  obtain ⟨its, wt, k, h1, k0, k1, _, hg, _⟩ := job_ok l 0 16 (by omega) (by omega)
  have hl := hg.len
  rw [h1]
  simp only [obind]
  rcases Least_cases hg with ⟨v, S, m, hv, e1, hm, hS⟩ | ⟨e1, hs⟩
  · have hvl := hv.len
    have hc := hv.c12 hg
    rw [e1]
    simp only [obind, bne_self_eq_false, Bool.false_eq_true, if_false]
    obtain ⟨m', e2, hm'⟩ := KO22_ok v S 0 (by omega) hc
    have e := hm.uniq hm'
    subst e
    rw [e2]
    simp only [obind]
    have hW : ∃ w, leastcode_Witness its wt = some (w, 0) ∧ leastcode_Bound its wt w = some ((m : Int), 0) := by
      obtain ⟨⟨w, we⟩, w1, w2⟩ := Witness_ok hg
      rcases w2 with ⟨v', hv', rfl, w3⟩ | ⟨_, hs⟩
      · have e := lst_unique (fun i => (hg.b i).1) hv hv'
        subst e
        refine ⟨w, w1, ?_⟩
        rcases w3 with ⟨w3, w4⟩ | ⟨y0, w3, w4⟩
        · simp only at w4
          subst w4
          have hm0 : m = 0 := by
            rcases hm.2 with q | ⟨y, q, _⟩
            · exact q
            · omega
          subst hm0
          rcases Bound_ok hg [] (by simp) with ⟨_, h⟩ | ⟨h, _⟩
          · exact h
          · exact absurd ⟨fun i h => by simp at h, fun i h => by simp at h⟩ h
        · simp only at w4
          subst w4
          obtain ⟨b1, b2, b3⟩ := wit_bound hg hv y0 (by have := w3.1; omega)
          rcases Bound_ok hg _ (by omega : (castL (down2 its v 40 y0).reverse).length ≤ 1000) with ⟨_, h⟩ | ⟨h, _⟩
          · rw [h, b3]
            have hmx : v.getD y0 0 = m := by
              have q1 := hm.1 y0
              have q0 := hc y0
              rcases hm.2 with q | ⟨y, q, q2⟩
              · omega
              · have := w3.2.1 y q
                omega
            rw [hmx]
          · exact absurd b1 h
      · exact absurd hv (hs.none (fun i => (hg.b i).1) v)
    obtain ⟨w, w1, w2⟩ := hW
    rw [w1]
    simp only [obind]
    rw [w2]
    simp only [obind, bne_self_eq_false, Bool.false_eq_true, if_false]
    obtain ⟨d, g1, g2⟩ := loop_inv (step := law13_LeastcodeBounds_L32 (l, 0) ((its, wt), k) (m : Int)) (fun s => ∃ (i : Nat) (q : Int), s = (q, (i : Int)) ∧ i ≤ 5 ∧ 0 ≤ q ∧ q ≤ 100000 + 1000 * i) (fun s => 5 - s.2.toNat)
      (fun d => d = .inr ()) (by
      rintro _ ⟨i, q, rfl, hi, q0, q1⟩
      unfold law13_LeastcodeBounds_L32
      simp only
      by_cases h : i < 5
      · obtain ⟨c, k', e3, e4, e5, e6⟩ := chain_ok l q its wt (by omega) (by omega)
        rw [if_pos (dpos (by omega)), e3]
        simp only [obind]
        rw [wr_id (n := (i : Int) + 1) (by omega) (by omega)]
        rcases Bound_ok hg c (by omega) with ⟨hC, h⟩ | ⟨_, h⟩
        · obtain ⟨b0, b1, b2, b3⟩ := bdr_le hg hv hC c.length (Nat.le_refl _)
          have hble : (bdr its wt c c.length).1 ≤ m := by
            by_cases hz : 0 < c.length
            · have := b2 hz
              have := hm.1 (c.getD (c.length - 1) 0).toNat
              omega
            · have := b3 (by omega); omega
          rw [h]
          simp only [obind]
          rw [if_pos (by rw [b0]; rfl), if_neg (dneg (by omega)), if_neg (by rw [b0]; decide)]
          exact .inl ⟨_, rfl, ⟨i + 1, k', rfl, by omega, by omega, by omega⟩, by simp only; omega⟩
        · rw [h]
          simp only [obind]
          rw [if_neg (by decide), if_neg (by decide)]
          exact .inl ⟨_, rfl, ⟨i + 1, k', rfl, by omega, by omega, by omega⟩, by simp only; omega⟩
      · rw [if_neg (dneg (by omega))]
        exact .inr ⟨_, rfl, rfl⟩) (k, 0) ⟨0, k, rfl, by omega, by omega, by omega⟩ (by simp)
    rw [g1, g2]
    simp only [obind]
    rw [sane13_ok]
    rfl
  · rw [e1]
    simp only [obind]
    rw [if_pos (by decide), if_pos (by decide), sane13_ok]
    rfl
end Go.Proofs.Ytgdaanhiagoonaa
