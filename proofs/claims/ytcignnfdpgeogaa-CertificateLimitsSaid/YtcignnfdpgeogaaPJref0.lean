
/- Plain laws: the reference of the jobs: validity and relations; the way back along a chain. No condition beyond those of each theorem. -/
import Derived.Test.YtcignnfdpgeogaaPJgood
import Derived.Test.YtcignnfdpgeogaaPJcast
import Derived.Test.YtcignnfdpgeogaaGr11
set_option linter.unusedVariables false
set_option linter.unusedSectionVars false
set_option linter.unusedSimpArgs false
set_option maxRecDepth 100000
namespace Go.Proofs.Ytcignnfdpgeogaa
open Go Go.V Go.Proofs



/-- The numbers are small. -/
def Small (v : List Int) : Prop := ∀ x, 0 ≤ v.getD x 0 ∧ v.getD x 0 ≤ 100000
theorem Small.need {its : List Item} {v : List Int} (h : Small v) (y m : Nat) : 0 ≤ needU its v y m ∧ needU its v y m ≤ 100001 := by
  refine ⟨needU_nonneg its v y m, ?_⟩
  rcases needU_at its v y m with h0 | ⟨x, h1, h2, h3⟩
  · omega
  · have := h x
    rcases rel_range its x y with e | e | e <;> omega

/-! ### The way back -/
def stp2 (its : List Item) (v : List Int) (y x : Nat) : Bool := decide (rel its x y > 0) && decide (v.getD x 0 + rel its x y - 1 = need its v y)
def nx2 (its : List Item) (v : List Int) (y : Nat) : Nat := nxA (stp2 its v y) its.length 0
theorem nx2_spec {its : List Item} {v : List Int} {y : Nat} (h : need its v y > 0) :
    rel its (nx2 its v y) y > 0 ∧ v.getD (nx2 its v y) 0 + rel its (nx2 its v y) y - 1 = need its v y ∧ nx2 its v y < its.length ∧ ∀ z, z < nx2 its v y → stp2 its v y z = false := by
  obtain ⟨q1, q2, q3, q4⟩ := nxA_spec (stp2 its v y) its.length 0 (by
    rcases needU_at its v y its.length with h0 | ⟨x, h1, h2, h3⟩
    · unfold need at h; omega
    · exact ⟨x, by omega, by omega, by unfold stp2; rw [dpos h2, dpos (by unfold need; omega)]; rfl⟩)
  have q1' : stp2 its v y (nx2 its v y) = true := q1
  unfold stp2 at q1'
  rw [Bool.and_eq_true, decide_eq_true_eq, decide_eq_true_eq] at q1'
  exact ⟨q1'.1, q1'.2, by unfold nx2; omega, fun z hz => q4 z (by omega) hz⟩
def down2 (its : List Item) (v : List Int) : Nat → Nat → List Nat
  | 0, y => [y]
  | f + 1, y => if need its v y > 0 then y :: down2 its v f (nx2 its v y) else [y]
theorem down2_zero (its : List Item) (v : List Int) (y : Nat) (h : need its v y = 0) : ∀ f, down2 its v f y = [y]
  | 0 => rfl
  | f + 1 => by unfold down2; rw [if_neg (by omega)]
theorem need_nonneg (its : List Item) (v : List Int) (y : Nat) : 0 ≤ need its v y := needU_nonneg its v y _


/-- The first place of the greatest number. -/
def FstMax (v : List Int) (y0 : Nat) : Prop := y0 < v.length ∧ (∀ y, y < v.length → v.getD y 0 ≤ v.getD y0 0) ∧ ∀ y, y < y0 → v.getD y 0 ≠ v.getD y0 0
theorem FstMax.uniq {v : List Int} {a b : Nat} (h : FstMax v a) (g : FstMax v b) : a = b := by
  obtain ⟨h1, h2, h3⟩ := h
  obtain ⟨g1, g2, g3⟩ := g
  have e1 := h2 b g1
  have e2 := g2 a h1
  rcases Nat.lt_trichotomy a b with h | h | h
  · exact absurd (by omega) (g3 a h)
  · exact h
  · exact absurd (by omega) (h3 b h)

end Go.Proofs.Ytcignnfdpgeogaa
