/- Plain law: CodeRounds answers true at every list of numbers. No condition. -/
import Derived.Test.YtjcikgeffhghkaaPcodeRank
import Derived.Test.YtjcikgeffhghkaaPcodeForm
import Derived.Test.YtjcikgeffhghkaaGCodeRounds
set_option maxRecDepth 100000
set_option linter.unusedVariables false
namespace Go.Proofs.Ytjcikgeffhghkaa
open Go Go.V Go.Proofs

theorem law_CodeRounds (t : List Int) : law12_CodeRounds t = some true := by
  unfold law12_CodeRounds
  simp only [gen_New, Option.bind_some]
  obtain ⟨r, w, h1, hr, hw⟩ := form_nat t 0 (by omega) (by omega)
  rw [h1]
  simp only [Option.bind_some]
  obtain ⟨i, h2, hi⟩ := next_nat t (0 + 2) 200 (by omega) (by omega) (by omega) (by omega)
  rw [h2]
  simp only [Option.bind_some]
  obtain ⟨p, h3, hp⟩ := nth_ok i r w hr hw
  obtain ⟨q, h4, hq⟩ := nth_ok i 0 w (by omega) hw
  have h4' : code_Nth (i : Int) 0 (w : Int) = some q := h4
  rw [h3, h4']
  simp only [Option.bind_some]
  have hpr := pow_le r hr
  have hps := pow_le (12 - r) (by omega)
  have hmul : 2 ^ (12 - r) * 2 ^ r = 4096 := by rw [← Nat.pow_add, show 12 - r + r = 12 by omega]
  have hz : ∀ v, isN 0 w v = decide (pc v ≤ w) := fun v => by have := isN_mk v 0 w; simpa using this
  have hzr : ∀ v, cb (isN 0 w) v = R v w := fun v => by have := cb_isN 0 w v; simpa using this
  have key : ∀ u, isN r w (u * 2 ^ r + (2 ^ r - 1)) = isN 0 w u ∧ cb (isN r w) (u * 2 ^ r + (2 ^ r - 1)) = cb (isN 0 w) u := fun u => ⟨by rw [isN_mk, hz], by rw [cb_isN, hzr]⟩
  rcases hq with ⟨v, rfl, g1, g2, g3⟩ | ⟨rfl, g1⟩
  · rw [if_neg (by simp)]
    rw [wr_id (n := 12 - (r : Int)) (by omega) (by omega), if_pos (by omega), show 12 - (r : Int) = ((12 - r : Nat) : Int) by omega, one_shl (12 - r) (by omega)]
    by_cases hv : v < 2 ^ (12 - r)
    · have hsz : v * 2 ^ r + 2 ^ r ≤ 4096 := by
        have := Nat.mul_le_mul_right (2 ^ r) (show v + 1 ≤ 2 ^ (12 - r) from hv)
        rw [Nat.succ_mul, hmul] at this
        exact this
      have hq' : NthSpec i r w (((v * 2 ^ r + (2 ^ r - 1) : Nat) : Int), 0) := Or.inl ⟨_, rfl, by omega, by rw [(key v).1]; exact g2, by rw [(key v).2]; exact g3⟩
      rw [nth_unique hp hq']
      rw [if_neg (dneg (by omega)), if_pos (by simp), if_pos (by omega), if_pos (by omega), pow_nat r hr]
      dsimp only
      rw [Int.one_mul, ← Int.natCast_mul, wr_id (n := ((v * 2 ^ r : Nat) : Int)) (by omega) (by omega), wr_id (n := ((2 ^ r : Nat) : Int)) (by omega) (by omega), wr_id (n := ((v * 2 ^ r : Nat) : Int) + ((2 ^ r : Nat) : Int)) (by omega) (by omega), wr_id (by omega) (by omega)]
      rw [if_pos (beq_iff_eq.mpr (by omega)), sane12_ok]
      rfl
    · rw [if_pos (dpos (by omega))]
      rcases hp with ⟨k, rfl, f1, f2, f3⟩ | ⟨rfl, f1⟩
      · obtain ⟨e1, e2⟩ := isN_real f2
        have e3 : k / 2 ^ r < 2 ^ (12 - r) := by
          rcases Nat.lt_or_ge (k / 2 ^ r) (2 ^ (12 - r)) with h | h
          · exact h
          · have := Nat.mul_le_mul_right (2 ^ r) h
            rw [hmul] at this
            omega
        have hk0 : NthSpec i 0 w (((k / 2 ^ r : Nat) : Int), 0) := Or.inl ⟨_, rfl, by omega, by rw [← (key _).1, ← e1]; exact f2, by rw [← (key _).2, ← e1]; exact f3⟩
        have := nth_unique hk0 (Or.inl ⟨v, rfl, g1, g2, g3⟩)
        simp only [Prod.mk.injEq] at this
        omega
      · rw [if_pos (by simp), sane12_ok]
        rfl
  · rw [if_pos (by simp)]
    rcases hp with ⟨k, rfl, f1, f2, f3⟩ | ⟨rfl, f1⟩
    · obtain ⟨e1, e2⟩ := isN_real f2
      have e4 : k / 2 ^ r ≤ k := Nat.div_le_self _ _
      have hk0 : NthSpec i 0 w (((k / 2 ^ r : Nat) : Int), 0) := Or.inl ⟨_, rfl, by omega, by rw [← (key _).1, ← e1]; exact f2, by rw [← (key _).2, ← e1]; exact f3⟩
      have := nth_unique hk0 (Or.inr ⟨rfl, g1⟩)
      simp at this
    · rw [if_pos (by simp), sane12_ok]
      rfl

end Go.Proofs.Ytjcikgeffhghkaa
