/- Plain law of ConnectionWaits: a later departure leaves no further wagon behind, and the wagons that are left are exactly those that are not ready. No condition. -/
import Derived.Test.YtdjadgodphfihaaPNconn
import Derived.Test.YtdjadgodphfihaaGConnectionWaits
set_option linter.unusedVariables false
set_option linter.unusedSectionVars false
set_option linter.unusedSimpArgs false
set_option maxRecDepth 100000
namespace Go.Proofs.Ytdjadgodphfihaa
open Go Go.V Go.Proofs

theorem place_ok (p n : Int) (hn : 1 ≤ n ∧ n ≤ 2000000) : ∃ q, yardgen_Place p n = some q ∧ 0 ≤ q ∧ q < n := by
  obtain ⟨h1, h2⟩ := tmod_range p n (by omega)
  unfold yardgen_Place
  rw [if_neg (dneg (by omega)), if_pos (by omega)]
  by_cases h : Int.tmod p n < 0
  · rw [if_pos (dpos h), wr_id (by omega) (by omega)]
    exact ⟨_, rfl, by omega, by omega⟩
  · rw [if_neg (dneg h)]
    exact ⟨_, rfl, by omega, by omega⟩
theorem left_mono (rd : List Int) {a b : Int} (h : a ≤ b) : ∀ m, (leftU rd b m).length ≤ (leftU rd a m).length
  | 0 => by simp [leftU]
  | m + 1 => by
    have := left_mono rd h m
    rw [leftU_succ, leftU_succ]
    by_cases h1 : rd.getD m 0 > b
    · rw [if_pos h1, if_pos (by omega)]; simp; omega
    · rw [if_neg h1]
      split
      · simp; omega
      · omega
theorem left_at (rd : List Int) (a : Int) {i : Nat} (hi : rd.getD i 0 > a) : ∀ m, i < m → (leftU rd a m)[(leftU rd a i).length]? = some (i : Int)
  | 0, h => by omega
  | m + 1, h => by
    rw [leftU_succ]
    by_cases e : i = m
    · subst e
      rw [if_pos hi, List.getElem?_append_right (Nat.le_refl _), Nat.sub_self]; rfl
    · have ih := left_at rd a hi m (by omega)
      split
      · rw [List.getElem?_append_left (List.getElem?_eq_some_iff.1 ih).1]; exact ih
      · exact ih

theorem CW_ok {P L : Int} {rd : List Int} {mi ms k : Int} (hc : CV P L rd mi ms) (a b : Int) (ha : P ≤ a) (hab : a ≤ b) (hb : b ≤ L) : law41_ConnectionWaits_J16 ((P, L, rd, mi, ms), k) a b = some true := by
  have hn := hc.n
  unfold law41_ConnectionWaits_J16
  simp only
  rw [Left_good hc a ⟨ha, by omega⟩]
  simp only [obind]
  rw [Left_good hc b ⟨by omega, hb⟩]
  simp only [obind, bne_self_eq_false, Bool.false_eq_true, if_false]
  have hm := left_mono rd hab rd.length
  rw [if_neg (dneg (by unfold leftL; omega))]
  obtain ⟨d, g1, g2⟩ := loop_inv (step := law41_ConnectionWaits_L25 ((P, L, rd, mi, ms), k) a (leftL rd a, 0)) (fun s => ∃ i : Nat, s = (((leftU rd a i).length : Int), (i : Int)) ∧ i ≤ rd.length) (fun s => rd.length - s.2.toNat) (fun d => d = .inr ((leftL rd a).length : Int)) (by
    rintro _ ⟨i, rfl, hi⟩
    unfold law41_ConnectionWaits_L25
    simp only
    by_cases h : i < rd.length
    · have hli := leftU_len rd a i
      rw [if_pos (dpos (by omega)), idx_getD h]
      simp only [obind]
      rw [wr_id (n := (i : Int) + 1) (by omega) (by omega)]
      by_cases hx : rd.getD i 0 > a
      · have hat := left_at rd a hx rd.length h
        have hlt := (List.getElem?_eq_some_iff.1 hat).1
        rw [if_pos (dpos hx), if_neg (dneg (by unfold leftL; omega)), idx_nat]
        unfold leftL
        rw [hat]
        simp only [obind]
        rw [if_neg (by simp), wr_id (n := ((leftU rd a i).length : Int) + 1) (by omega) (by omega)]
        exact .inl ⟨_, rfl, ⟨i + 1, by rw [leftU_succ, if_pos hx]; simp, by omega⟩, by simp only; omega⟩
      · rw [if_neg (dneg hx)]
        exact .inl ⟨_, rfl, ⟨i + 1, by rw [leftU_succ, if_neg hx]; rfl, by omega⟩, by simp only; omega⟩
    · rw [if_neg (dneg (by omega))]
      have : i = rd.length := by omega
      subst this
      exact .inr ⟨_, rfl, rfl⟩) (0, 0) ⟨0, by simp [leftU], by omega⟩ (by simp; omega)
  rw [g1, g2]
  simp only [obind]
  rw [if_pos (by simp), sane41_ok]
  rfl

theorem connWaits_ok (l : List Int) (p1 p2 : Int) : law41_ConnectionWaits l p1 p2 = some true := by
  unfold law41_ConnectionWaits gen_New
  simp only [obind]
  obtain ⟨P, L, rd, mi, ms, k, h1, hc, _, _⟩ := made_ok l
  have hp := hc.p
  have hl := hc.l
  rw [h1]
  simp only [obind]
  rw [wr_id (n := L - P) (by omega) (by omega), wr_id (n := L - P + 1) (by omega) (by omega)]
  obtain ⟨a, e1, a0, a1⟩ := place_ok p1 (L - P + 1) (by omega)
  obtain ⟨b, e2, b0, b1⟩ := place_ok p2 (L - P + 1) (by omega)
  rw [e1]
  simp only [obind]
  rw [e2]
  simp only [obind]
  rw [wr_id (n := P + a) (by omega) (by omega), wr_id (n := P + b) (by omega) (by omega)]
  by_cases h : P + a > P + b
  · rw [if_pos (dpos h)]
    exact CW_ok hc _ _ (by omega) (by omega) (by omega)
  · rw [if_neg (dneg h)]
    exact CW_ok hc _ _ (by omega) (by omega) (by omega)
end Go.Proofs.Ytdjadgodphfihaa
