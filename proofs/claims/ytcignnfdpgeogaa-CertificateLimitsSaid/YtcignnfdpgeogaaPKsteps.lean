
/- Plain laws: bit lengths. No condition beyond those of each theorem. -/
import Derived.Test.YtcignnfdpgeogaaPKcode
set_option linter.unusedVariables false
set_option linter.unusedSectionVars false
set_option linter.unusedSimpArgs false
set_option maxRecDepth 100000
namespace Go.Proofs.Ytcignnfdpgeogaa
open Go Go.V Go.Proofs


/-- What Steps says: the bit length. -/
def LongSpec (k : Nat) (d : Int) : Prop := ∃ n : Nat, d = (n : Int) ∧ n ≤ 12 ∧ k < 2 ^ n ∧ (n = 0 ∨ k / 2 ^ (n - 1) = 1)

theorem long_unique {k : Nat} {d e : Int} (hd : LongSpec k d) (he : LongSpec k e) : d = e := by
  obtain ⟨n, rfl, _, h1, h2⟩ := hd
  obtain ⟨m, rfl, _, g1, g2⟩ := he
  have key : ∀ a b : Nat, k < 2 ^ a → (b = 0 ∨ k / 2 ^ (b - 1) = 1) → b ≤ a := by
    intro a b ha hb
    rcases hb with rfl | hb
    · omega
    · rcases Nat.lt_or_ge a b with h | h
      · have h3 : 2 ^ a ≤ 2 ^ (b - 1) := Nat.pow_le_pow_right (by omega) (by omega)
        rw [Nat.div_eq_of_lt (by omega)] at hb
        cases hb
      · exact h
  have := key n m h1 g2
  have := key m n g1 h2
  omega

theorem steps_loop (k : Nat) (hk : k < 4096) : ∃ d, loop code_Steps_L4 ((k : Int), 0) = some d ∧ LongSpec k d := by
  apply loop_inv (step := code_Steps_L4) (fun s => ∃ n : Nat, s = (((k / 2 ^ n : Nat) : Int), (n : Int)) ∧ n ≤ 12 ∧ (n = 0 ∨ 0 < k / 2 ^ (n - 1))) (fun s => s.1.toNat) (LongSpec k)
  · rintro _ ⟨n, rfl, hn, h0⟩
    unfold code_Steps_L4
    simp only
    have hle : k / 2 ^ n ≤ k := Nat.div_le_self _ _
    by_cases h : 0 < k / 2 ^ n
    · have hlt : n < 12 := by
        rcases Nat.lt_or_ge n 12 with h' | h'
        · exact h'
        · rw [show n = 12 by omega, Nat.div_eq_of_lt (by omega)] at h
          cases h
      have e : Int.fdiv ((k / 2 ^ n : Nat) : Int) (2 ^ (min (Int.toNat (1)) IntKind.i64.bits)) = ((k / 2 ^ (n + 1) : Nat) : Int) := by
        have := pow_nat 1 (by omega)
        rw [show (1 : Int) = ((1 : Nat) : Int) from rfl, this, fdiv_nat, Nat.pow_succ, Nat.div_div_eq_div_mul]
        rfl
      refine Or.inl ⟨_, if_pos (dpos (by omega)), ⟨n + 1, ?_, by omega, Or.inr (by simpa using h)⟩, ?_⟩
      · rw [wr_id (by omega) (by omega), e]
        rfl
      · simp only
        rw [e]
        have : k / 2 ^ (n + 1) = k / 2 ^ n / 2 := by rw [Nat.pow_succ, Nat.div_div_eq_div_mul]
        omega
    · have h3 : k / 2 ^ n = 0 := Nat.eq_zero_of_not_pos h
      have h4 : k < 2 ^ n := by
        rcases Nat.lt_or_ge k (2 ^ n) with h' | h'
        · exact h'
        · have := Nat.div_pos h' (Nat.two_pow_pos n)
          omega
      refine Or.inr ⟨_, if_neg (dneg (by omega)), ⟨n, rfl, hn, h4, ?_⟩⟩
      rcases h0 with h0 | h0
      · exact Or.inl h0
      · rcases Nat.eq_zero_or_pos n with h5 | h5
        · exact Or.inl h5
        · obtain ⟨m, rfl⟩ : ∃ m, n = m + 1 := ⟨n - 1, by omega⟩
          rw [Nat.pow_succ, ← Nat.div_div_eq_div_mul] at h3
          simp only [Nat.add_sub_cancel] at h0 ⊢
          exact Or.inr (by omega)
  · exact ⟨0, by simp, by omega, Or.inl rfl⟩
  · simp only; omega

theorem steps_ok (k : Nat) (hk : k < 4096) : ∃ d, code_Steps (k : Int) = some (d, 0) ∧ LongSpec k d := by
  obtain ⟨d, h1, h2⟩ := steps_loop k hk
  refine ⟨d, ?_, h2⟩
  unfold code_Steps
  rw [in_ok]
  simp only [Option.bind_some]
  rw [if_neg (by simp; omega), h1]
  rfl

theorem long_mono {k l : Nat} {d e : Int} (h : k ≤ l) (hd : LongSpec k d) (he : LongSpec l e) : d ≤ e := by
  obtain ⟨n, rfl, _, h1, h2⟩ := hd
  obtain ⟨m, rfl, _, g1, g2⟩ := he
  rcases h2 with rfl | h2
  · omega
  · rcases Nat.lt_or_ge m n with hmn | hmn
    · have h3 : 2 ^ m ≤ 2 ^ (n - 1) := Nat.pow_le_pow_right (by omega) (by omega)
      rw [Nat.div_eq_of_lt (by omega)] at h2
      cases h2
    · omega
theorem long_zero : LongSpec 0 0 := ⟨0, rfl, by omega, by decide, .inl rfl⟩

/-- The greatest of some numbers, or 0. -/
def IsMx (v : List Int) (m : Nat) : Prop := (∀ y, v.getD y 0 ≤ m) ∧ (m = 0 ∨ ∃ y, y < v.length ∧ v.getD y 0 = m)
theorem IsMx.uniq {v : List Int} {m n : Nat} (h : IsMx v m) (g : IsMx v n) : m = n := by
  have a : m ≤ n := by
    rcases h.2 with e | ⟨y, _, e⟩
    · omega
    · have := g.1 y; omega
  have b : n ≤ m := by
    rcases g.2 with e | ⟨y, _, e⟩
    · omega
    · have := h.1 y; omega
  omega
end Go.Proofs.Ytcignnfdpgeogaa
