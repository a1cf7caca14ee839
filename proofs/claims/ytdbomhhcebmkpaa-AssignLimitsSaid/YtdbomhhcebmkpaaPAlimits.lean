/- Plain law of AssignLimits: exactly 32 loads and tracks are permitted, and lengths up to the greatest one. No condition. -/
import Derived.Test.YtdbomhhcebmkpaaPAsort0
import Derived.Test.YtdbomhhcebmkpaaGAssignLimits
set_option linter.unusedVariables false
set_option maxRecDepth 100000
namespace Go.Proofs.Ytdbomhhcebmkpaa
open Go Go.V Go.Proofs
def E3 (p : Int) : Int := IntKind.i64.wrap (31 + (Int.tmod (IntKind.i64.wrap ((Int.tmod p 3) + 3)) 3))
def E2 (p : Int) : Int := Int.tmod (IntKind.i64.wrap ((Int.tmod p 2) + 2)) 2
theorem three (p : Int) : E3 p = E3 0 ∨ E3 p = E3 1 ∨ E3 p = E3 2 := by
  have h := tmod_range p 3 (by omega)
  have e0 : E3 0 = 31 := by decide
  have e1 : E3 1 = 32 := by decide
  have e2 : E3 2 = 33 := by decide
  rw [e0, e1, e2]
  unfold E3
  rw [wr_id (n := Int.tmod p 3 + 3) (by omega) (by omega)]
  have h2 := tmod_range (Int.tmod p 3 + 3) 3 (by omega)
  have h3 := Int.tmod_nonneg 3 (show 0 ≤ Int.tmod p 3 + 3 by omega)
  rw [wr_id (by omega) (by omega)]
  omega
theorem two (p : Int) : E2 p = E2 0 ∨ E2 p = E2 1 := by
  have h := tmod_range p 2 (by omega)
  have e0 : E2 0 = 0 := by decide
  have e1 : E2 1 = 1 := by decide
  rw [e0, e1]
  unfold E2
  rw [wr_id (n := Int.tmod p 2 + 2) (by omega) (by omega)]
  have h2 := tmod_range (Int.tmod p 2 + 2) 2 (by omega)
  have h3 := Int.tmod_nonneg 2 (show 0 ≤ Int.tmod p 2 + 2 by omega)
  omega
theorem lim_eq {p q r p' q' r' : Int} (h0 : E3 p = E3 p') (h1 : E3 q = E3 q') (h2 : E2 r = E2 r') : law16_AssignLimits p q r = law16_AssignLimits p' q' r' := by
  unfold E3 at h0 h1
  unfold E2 at h2
  have l7 : law16_AssignLimits_L7 p = law16_AssignLimits_L7 p' := by funext s; unfold law16_AssignLimits_L7; rw [h0]
  have l14 : law16_AssignLimits_L14 q = law16_AssignLimits_L14 q' := by funext s; unfold law16_AssignLimits_L14; rw [h1]
  have j33 : law16_AssignLimits_J33 p q r = law16_AssignLimits_J33 p' q' r' := by funext a b c d e; unfold law16_AssignLimits_J33; rw [h0, h1, h2]
  have j1 : law16_AssignLimits_J1 p q r = law16_AssignLimits_J1 p' q' r' := by
    unfold law16_AssignLimits_J1
    rw [l7, l14, j33, h0, h1, h2]
  unfold law16_AssignLimits
  rw [h0, h1, j1]
theorem lim00 : law16_AssignLimits 0 0 0 = some true := by decide +kernel
theorem lim01 : law16_AssignLimits 0 1 0 = some true := by decide +kernel
theorem lim02 : law16_AssignLimits 0 2 0 = some true := by decide +kernel
theorem lim10 : law16_AssignLimits 1 0 0 = some true := by decide +kernel
theorem lim11 : law16_AssignLimits 1 1 0 = some true := by decide +kernel
theorem lim12 : law16_AssignLimits 1 2 0 = some true := by decide +kernel
theorem lim20 : law16_AssignLimits 2 0 0 = some true := by decide +kernel
theorem lim21 : law16_AssignLimits 2 1 0 = some true := by decide +kernel
theorem lim22 : law16_AssignLimits 2 2 0 = some true := by decide +kernel
theorem mil00 : law16_AssignLimits 0 0 1 = some true := by decide +kernel
theorem mil01 : law16_AssignLimits 0 1 1 = some true := by decide +kernel
theorem mil02 : law16_AssignLimits 0 2 1 = some true := by decide +kernel
theorem mil10 : law16_AssignLimits 1 0 1 = some true := by decide +kernel
theorem mil11 : law16_AssignLimits 1 1 1 = some true := by decide +kernel
theorem mil12 : law16_AssignLimits 1 2 1 = some true := by decide +kernel
theorem mil20 : law16_AssignLimits 2 0 1 = some true := by decide +kernel
theorem mil21 : law16_AssignLimits 2 1 1 = some true := by decide +kernel
theorem mil22 : law16_AssignLimits 2 2 1 = some true := by decide +kernel
theorem limits_ok (p q r : Int) : law16_AssignLimits p q r = some true := by
  rcases three p with h | h | h
  · rcases three q with k | k | k
    · rcases two r with m | m
      · rw [lim_eq h k m, lim00]
      · rw [lim_eq h k m, mil00]
    · rcases two r with m | m
      · rw [lim_eq h k m, lim01]
      · rw [lim_eq h k m, mil01]
    · rcases two r with m | m
      · rw [lim_eq h k m, lim02]
      · rw [lim_eq h k m, mil02]
  · rcases three q with k | k | k
    · rcases two r with m | m
      · rw [lim_eq h k m, lim10]
      · rw [lim_eq h k m, mil10]
    · rcases two r with m | m
      · rw [lim_eq h k m, lim11]
      · rw [lim_eq h k m, mil11]
    · rcases two r with m | m
      · rw [lim_eq h k m, lim12]
      · rw [lim_eq h k m, mil12]
  · rcases three q with k | k | k
    · rcases two r with m | m
      · rw [lim_eq h k m, lim20]
      · rw [lim_eq h k m, mil20]
    · rcases two r with m | m
      · rw [lim_eq h k m, lim21]
      · rw [lim_eq h k m, mil21]
    · rcases two r with m | m
      · rw [lim_eq h k m, lim22]
      · rw [lim_eq h k m, mil22]
end Go.Proofs.Ytdbomhhcebmkpaa
