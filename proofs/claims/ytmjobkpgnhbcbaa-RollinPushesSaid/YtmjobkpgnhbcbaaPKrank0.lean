/- Plain laws: how many codes of a form lie below a number, and what Count, Nth and Rank are from this. No condition beyond those of each theorem. -/
import Derived.Test.YtmjobkpgnhbcbaaPKcode
set_option linter.unusedVariables false
set_option maxRecDepth 100000
namespace Go.Proofs.Ytmjobkpgnhbcbaa
open Go Go.V Go.Proofs

/-- How many numbers below n have a property. -/
def cb (P : Nat → Bool) : Nat → Nat
  | 0 => 0
  | n + 1 => cb P n + (if P n = true then 1 else 0)

theorem cb_add (P : Nat → Bool) (a : Nat) : ∀ b, cb P (a + b) = cb P a + cb (fun x => P (a + x)) b
  | 0 => by simp [cb]
  | b + 1 => by
    rw [← Nat.add_assoc]
    simp only [cb]
    rw [cb_add P a b, Nat.add_assoc]

theorem cb_congr {P Q : Nat → Bool} : ∀ n, (∀ x, x < n → P x = Q x) → cb P n = cb Q n
  | 0, _ => rfl
  | n + 1, h => by
    simp only [cb]
    rw [cb_congr n (fun x hx => h x (by omega)), h n (by omega)]

theorem cb_false {P : Nat → Bool} : ∀ n, (∀ x, x < n → P x = false) → cb P n = 0
  | 0, _ => rfl
  | n + 1, h => by
    simp only [cb]
    rw [cb_false n (fun x hx => h x (by omega)), h n (by omega)]
    simp

theorem cb_mono (P : Nat → Bool) {a b : Nat} (h : a ≤ b) : cb P a ≤ cb P b := by
  obtain ⟨c, rfl⟩ : ∃ c, b = a + c := ⟨b - a, by omega⟩
  rw [cb_add]
  omega

theorem cb_lt (P : Nat → Bool) {a b : Nat} (h : a < b) (hp : P a = true) : cb P a < cb P b := by
  have := cb_mono P (show a + 1 ≤ b from h)
  simp only [cb, hp, if_pos] at this
  omega

theorem cb_le (P : Nat → Bool) : ∀ n, cb P n ≤ n
  | 0 => Nat.le_refl _
  | n + 1 => by
    have := cb_le P n
    simp only [cb]
    split <;> omega

end Go.Proofs.Ytmjobkpgnhbcbaa
