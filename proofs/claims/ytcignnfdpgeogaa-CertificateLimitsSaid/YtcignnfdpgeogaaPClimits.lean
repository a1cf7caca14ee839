
/- Plain law of CertificateLimits: exactly 96 codes and elements of a chain are encoded, with codes up to 4095. No condition. -/
import Derived.Test.YtcignnfdpgeogaaPCsane
import Derived.Test.YtcignnfdpgeogaaGCertificateLimits
set_option linter.unusedVariables false
set_option maxRecDepth 100000
namespace Go.Proofs.Ytcignnfdpgeogaa
open Go Go.V Go.Proofs
def E95 (p : Int) : Int := IntKind.i64.wrap (95 + (Int.tmod (IntKind.i64.wrap ((Int.tmod p 3) + 3)) 3))
theorem three95 (p : Int) : E95 p = E95 0 ∨ E95 p = E95 1 ∨ E95 p = E95 2 := by
  have h := tmod_range p 3 (by omega)
  have e0 : E95 0 = 95 := by decide
  have e1 : E95 1 = 96 := by decide
  have e2 : E95 2 = 97 := by decide
  rw [e0, e1, e2]
  unfold E95
  rw [wr_id (n := Int.tmod p 3 + 3) (by omega) (by omega)]
  have h2 := tmod_range (Int.tmod p 3 + 3) 3 (by omega)
  have h3 := Int.tmod_nonneg 3 (show 0 ≤ Int.tmod p 3 + 3 by omega)
  rw [wr_id (by omega) (by omega)]
  omega
theorem clim_eq {p q p' q' : Int} (h0 : E95 p = E95 p') (h1 : E95 q = E95 q') : law15_CertificateLimits p q = law15_CertificateLimits p' q' := by
  unfold E95 at h0 h1
  have l11 : law15_CertificateLimits_L3 p = law15_CertificateLimits_L3 p' := by funext s; unfold law15_CertificateLimits_L3; rw [h0]
  have l19 : law15_CertificateLimits_L9 q = law15_CertificateLimits_L9 q' := by funext s; unfold law15_CertificateLimits_L9; rw [h1]
  have j29 : law15_CertificateLimits_J17 p q = law15_CertificateLimits_J17 p' q' := by funext a b c d; unfold law15_CertificateLimits_J17; rw [h0, h1]
  have j1 : law15_CertificateLimits_J1 p q = law15_CertificateLimits_J1 p' q' := by
    unfold law15_CertificateLimits_J1
    rw [l11, l19, j29, h0, h1]
  unfold law15_CertificateLimits
  rw [h0, h1, j1]
theorem clim00 : law15_CertificateLimits 0 0 = some true := by
  unfold law15_CertificateLimits law15_CertificateLimits_J1 law15_CertificateLimits_J17
  rw [sane15_ok]
  decide +kernel
theorem clim01 : law15_CertificateLimits 0 1 = some true := by
  unfold law15_CertificateLimits law15_CertificateLimits_J1 law15_CertificateLimits_J17
  rw [sane15_ok]
  decide +kernel
theorem clim02 : law15_CertificateLimits 0 2 = some true := by
  unfold law15_CertificateLimits law15_CertificateLimits_J1 law15_CertificateLimits_J17
  rw [sane15_ok]
  decide +kernel
theorem clim10 : law15_CertificateLimits 1 0 = some true := by
  unfold law15_CertificateLimits law15_CertificateLimits_J1 law15_CertificateLimits_J17
  rw [sane15_ok]
  decide +kernel
theorem clim11 : law15_CertificateLimits 1 1 = some true := by
  unfold law15_CertificateLimits law15_CertificateLimits_J1 law15_CertificateLimits_J17
  rw [sane15_ok]
  decide +kernel
theorem clim12 : law15_CertificateLimits 1 2 = some true := by
  unfold law15_CertificateLimits law15_CertificateLimits_J1 law15_CertificateLimits_J17
  rw [sane15_ok]
  decide +kernel
theorem clim20 : law15_CertificateLimits 2 0 = some true := by
  unfold law15_CertificateLimits law15_CertificateLimits_J1 law15_CertificateLimits_J17
  rw [sane15_ok]
  decide +kernel
theorem clim21 : law15_CertificateLimits 2 1 = some true := by
  unfold law15_CertificateLimits law15_CertificateLimits_J1 law15_CertificateLimits_J17
  rw [sane15_ok]
  decide +kernel
theorem clim22 : law15_CertificateLimits 2 2 = some true := by
  unfold law15_CertificateLimits law15_CertificateLimits_J1 law15_CertificateLimits_J17
  rw [sane15_ok]
  decide +kernel
theorem climits_ok (p q : Int) : law15_CertificateLimits p q = some true := by
  rcases three95 p with h | h | h
  · rcases three95 q with k | k | k
    · rw [clim_eq h k, clim00]
    · rw [clim_eq h k, clim01]
    · rw [clim_eq h k, clim02]
  · rcases three95 q with k | k | k
    · rw [clim_eq h k, clim10]
    · rw [clim_eq h k, clim11]
    · rw [clim_eq h k, clim12]
  · rcases three95 q with k | k | k
    · rw [clim_eq h k, clim20]
    · rw [clim_eq h k, clim21]
    · rw [clim_eq h k, clim22]
end Go.Proofs.Ytcignnfdpgeogaa
