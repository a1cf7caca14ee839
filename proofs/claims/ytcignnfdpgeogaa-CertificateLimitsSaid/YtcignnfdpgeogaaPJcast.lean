
/- Plain laws: lists of places as numbers, and the next place of a kind. No condition beyond those of each theorem. -/
import Derived.Test.YtcignnfdpgeogaaPJrel
set_option linter.unusedVariables false
set_option linter.unusedSectionVars false
set_option linter.unusedSimpArgs false
set_option maxRecDepth 100000
namespace Go.Proofs.Ytcignnfdpgeogaa
open Go Go.V Go.Proofs

def castL (l : List Nat) : List Int := l.map fun (x : Nat) => (x : Int)
theorem castL_len (l : List Nat) : (castL l).length = l.length := by simp [castL]
theorem castL_app (l l' : List Nat) : castL (l ++ l') = castL l ++ castL l' := by simp [castL]
theorem castL_get (l : List Nat) (i : Nat) : (castL l)[i]? = (l[i]?).map fun (x : Nat) => (x : Int) := by simp [castL]
theorem castL_rev (l : List Nat) : (castL l).reverse = castL l.reverse := by simp [castL]

/-! ### The next item of the chain -/
def nxA (p : Nat → Bool) : Nat → Nat → Nat
  | 0, x => x
  | f + 1, x => if p x = true then x else nxA p f (x + 1)
theorem nxA_spec (p : Nat → Bool) : ∀ (f x : Nat), (∃ z, x ≤ z ∧ z < x + f ∧ p z = true) → p (nxA p f x) = true ∧ x ≤ nxA p f x ∧ nxA p f x < x + f ∧ ∀ z, x ≤ z → z < nxA p f x → p z = false
  | 0, x, ⟨z, h1, h2, _⟩ => by omega
  | f + 1, x, ⟨z, h1, h2, h3⟩ => by
    unfold nxA
    by_cases hp : p x = true
    · rw [if_pos hp]
      exact ⟨hp, Nat.le_refl _, by omega, fun z h1 h2 => by omega⟩
    · rw [if_neg hp]
      have hz : x ≠ z := fun e => hp (by rw [e]; exact h3)
      obtain ⟨q1, q2, q3, q4⟩ := nxA_spec p f (x + 1) ⟨z, by omega, by omega, h3⟩
      refine ⟨q1, by omega, by omega, fun y h1 h2 => ?_⟩
      by_cases e : y = x
      · subst e; simpa using hp
      · exact q4 y (by omega) h2
end Go.Proofs.Ytcignnfdpgeogaa
