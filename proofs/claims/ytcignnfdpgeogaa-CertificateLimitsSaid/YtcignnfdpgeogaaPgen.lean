
/- Plain laws: what the maker of inputs gives. No condition beyond those of each theorem. -/
import Derived.Test.YtcignnfdpgeogaaGgen
set_option linter.unusedVariables false
namespace Go.Proofs.Ytcignnfdpgeogaa
open Go Go.V Go.Proofs

theorem wr_id {n : Int} (h1 : -9223372036854775808 ≤ n) (h2 : n < 9223372036854775808) : IntKind.i64.wrap n = n := by
  have e : ∀ n : Int, IntKind.i64.wrap n = if n % 18446744073709551616 ≥ 9223372036854775808 then n % 18446744073709551616 - 18446744073709551616 else n % 18446744073709551616 := by
    intro n
    show (if (IntKind.i64.signed && decide (n % (2 ^ IntKind.i64.bits : Int) ≥ (2 ^ (IntKind.i64.bits - 1) : Int))) = true then _ else _) = _
    have h1 : (2 ^ IntKind.i64.bits : Int) = 18446744073709551616 := by decide
    have h2 : (2 ^ (IntKind.i64.bits - 1) : Int) = 9223372036854775808 := by decide
    rw [h1, h2]
    simp [IntKind.signed]
  rw [e]
  split <;> omega

theorem tmod_range (x n : Int) (hn : 0 < n) : -n < Int.tmod x n ∧ Int.tmod x n < n := by
  rcases Int.le_total 0 x with h | h
  · have h1 := Int.tmod_lt_of_pos x hn
    have h2 : 0 ≤ Int.tmod x n := Int.tmod_nonneg n h
    omega
  · have h0 : Int.tmod x n = -(Int.tmod (-x) n) := by rw [Int.neg_tmod]; omega
    have h1 := Int.tmod_lt_of_pos (-x) hn
    have h2 : 0 ≤ Int.tmod (-x) n := Int.tmod_nonneg n (by omega)
    omega




/-- A loop whose states keep a property and get less ends with a property of its result. -/
theorem loopN_inv {S D : Type} {step : S → Option (Step S D)} (I : S → Prop) (mu : S → Nat) (P : D → Prop)
    (h : ∀ s, I s → (∃ s', step s = some (.next s') ∧ I s' ∧ mu s' < mu s) ∨ (∃ d, step s = some (.done d) ∧ P d)) :
    ∀ (n : Nat) (s : S), I s → mu s < n → ∃ d, loopN step n s = some d ∧ P d
  | 0, s, _, hm => absurd hm (Nat.not_lt_zero _)
  | n + 1, s, hi, hm => by
    rcases h s hi with ⟨s', h1, h2, h3⟩ | ⟨d, h1, h2⟩
    · obtain ⟨d, h4, h5⟩ := loopN_inv I mu P h n s' h2 (by omega)
      exact ⟨d, by simp only [loopN, h1, Option.bind_some, h4], h5⟩
    · exact ⟨d, by simp only [loopN, h1, Option.bind_some], h2⟩

theorem loop_inv {S D : Type} {step : S → Option (Step S D)} (I : S → Prop) (mu : S → Nat) (P : D → Prop)
    (h : ∀ s, I s → (∃ s', step s = some (.next s') ∧ I s' ∧ mu s' < mu s) ∨ (∃ d, step s = some (.done d) ∧ P d))
    (s : S) (hi : I s) (hm : mu s < 4611686018427387904) : ∃ d, loop step s = some d ∧ P d :=
  loopN_inv I mu P h _ s hi hm


theorem dpos {p : Prop} [Decidable p] (h : p) : decide p = true := decide_eq_true h

theorem dneg {p : Prop} [Decidable p] (h : ¬ p) : ¬ decide p = true := fun h' => h (of_decide_eq_true h')

theorem idx_nat {α : Type} (xs : List α) (i : Nat) : idx xs (i : Int) = xs[i]? := by
  unfold idx
  rw [if_pos (by omega)]
  simp



/-- As Option.bind_some, but no matter of computing: Lean's kernel looks into nothing. -/
theorem obind {α β : Type} (a : α) (f : α → Option β) : (some a).bind f = f a := by
  have h : ∀ o, o = some a → o.bind f = f a := fun o h => by subst h; rfl
  exact h _ rfl

end Go.Proofs.Ytcignnfdpgeogaa
