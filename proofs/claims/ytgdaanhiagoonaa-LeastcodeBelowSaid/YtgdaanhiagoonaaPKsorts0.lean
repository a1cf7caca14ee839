/- Plain laws: what the law's check of relations answers. No condition beyond those of each theorem. -/
import Derived.Test.YtgdaanhiagoonaaPKuse
import Derived.Test.YtgdaanhiagoonaaGlaw13sorts
set_option linter.unusedVariables false
set_option linter.unusedSectionVars false
set_option linter.unusedSimpArgs false
set_option maxRecDepth 100000
namespace Go.Proofs.Ytgdaanhiagoonaa
open Go Go.V Go.Proofs

theorem sorts_ok {its : List Item} (wt : Int) (hl : its.length ≤ 1000) {v : List Int} (hvl : v.length = its.length) (hc : C12 v) (hr : ∀ x y, rel its x y > 0 → v.getD x 0 + rel its x y - 1 ≤ v.getD y 0) : law13_sorts its wt v = some true := by
  unfold law13_sorts
  have h7 : ∀ x : Nat, x < its.length → loop (law13_sorts_L7 its wt v (x : Int)) 0 = some (.inr ()) := fun x hx => by
    have h := loop_count (law13_sorts_L7 its wt v (x : Int)) (.inr ()) 0 its.length (by omega) (by omega) (fun y _ hy => by
      unfold law13_sorts_L7
      simp only [hvl]
      rw [if_pos (dpos (by omega)), kind_ok its wt x y hx hy]
      simp only [obind]
      rw [wr_id (n := (y : Int) + 1) (by omega) (by omega)]
      by_cases hp : rel its x y > 0
      · have h1 := hr x y hp
        have h2 := hc x
        have h3 := str_range its x y
        rw [if_pos (dpos hp), idx_getD (by omega)]
        simp only [obind]
        rw [idx_getD (by omega), strict_ok its wt x y hx hy]
        simp only [obind]
        rw [wr_id (by omega) (by omega), str_eq hp, if_neg (dneg (by omega))]
      · rw [if_neg (dneg hp)]) (by
      unfold law13_sorts_L7
      simp only [hvl]
      rw [if_neg (dneg (by omega))])
    rw [show ((0 : Nat) : Int) = 0 from rfl] at h
    exact h
  have h := loop_count (law13_sorts_L5 its wt v) (.inr ()) 0 its.length (by omega) (by omega) (fun x _ hx => by
    unfold law13_sorts_L5
    simp only [hvl]
    rw [if_pos (dpos (by omega)), h7 x hx]
    simp only [obind]
    rw [wr_id (n := (x : Int) + 1) (by omega) (by omega)]) (by
    unfold law13_sorts_L5
    simp only [hvl]
    rw [if_neg (dneg (by omega))])
  rw [show ((0 : Nat) : Int) = 0 from rfl] at h
  rw [h]
  rfl
end Go.Proofs.Ytgdaanhiagoonaa
