/- Plain law of RollinAll: the law looks at its numbers only modulo 3 and 4; the twelve cases are evaluated. No condition. -/
import Derived.Test.YtmjobkpgnhbcbaaGRollinAll
import Derived.Test.YtmjobkpgnhbcbaaPgen
set_option maxRecDepth 100000
namespace Go.Proofs.Ytmjobkpgnhbcbaa
open Go Go.V Go.Proofs

theorem all00 : law14_RollinAll 0 0 = some true := by decide +kernel
theorem all01 : law14_RollinAll 0 1 = some true := by decide +kernel
theorem all02 : law14_RollinAll 0 2 = some true := by decide +kernel
theorem all03 : law14_RollinAll 0 3 = some true := by decide +kernel
theorem all10 : law14_RollinAll 1 0 = some true := by decide +kernel
theorem all11 : law14_RollinAll 1 1 = some true := by decide +kernel
theorem all12 : law14_RollinAll 1 2 = some true := by decide +kernel
theorem all13 : law14_RollinAll 1 3 = some true := by decide +kernel
theorem all20 : law14_RollinAll 2 0 = some true := by decide +kernel
theorem all21 : law14_RollinAll 2 1 = some true := by decide +kernel
theorem all22 : law14_RollinAll 2 2 = some true := by decide +kernel
theorem all23 : law14_RollinAll 2 3 = some true := by decide +kernel

theorem tm (n k : Int) (hk : 0 < k) (hk2 : k < 1000) : ∃ v : Int, 0 ≤ v ∧ v < k ∧ Int.tmod (IntKind.i64.wrap ((Int.tmod n k) + k)) k = v ∧ Int.tmod (IntKind.i64.wrap ((Int.tmod v k) + k)) k = v := by
  obtain ⟨h1, h2⟩ := tmod_range n k hk
  rw [wr_id (by omega) (by omega)]
  have h3 := Int.tmod_lt_of_pos (Int.tmod n k + k) hk
  have h4 : 0 ≤ Int.tmod (Int.tmod n k + k) k := Int.tmod_nonneg _ (by omega)
  refine ⟨_, h4, h3, rfl, ?_⟩
  generalize Int.tmod (Int.tmod n k + k) k = v at h3 h4
  have e1 : Int.tmod v k = v := Int.tmod_eq_of_lt h4 h3
  rw [e1, wr_id (by omega) (by omega)]
  rw [Int.tmod_eq_emod_of_nonneg (by omega), Int.add_emod_right, Int.emod_eq_of_lt h4 h3]

theorem RollinAll_ok (n b : Int) : law14_RollinAll n b = some true := by
  obtain ⟨v, hv0, hv1, hv2, hv3⟩ := tm n 3 (by omega) (by omega)
  obtain ⟨c, hc0, hc1, hc2, hc3⟩ := tm b 4 (by omega) (by omega)
  have e8 : law14_RollinAll_L8 n b = law14_RollinAll_L8 v c := by
    funext s
    unfold law14_RollinAll_L8
    rw [hv2, hc2, hv3, hc3]
  have e47 : law14_RollinAll_L47 n = law14_RollinAll_L47 v := by
    funext x s
    unfold law14_RollinAll_L47
    rw [hv2, hv3]
  have e : law14_RollinAll n b = law14_RollinAll v c := by
    unfold law14_RollinAll
    rw [e8, e47, hv2, hv3]
  rw [e]
  have hv : v = 0 ∨ v = 1 ∨ v = 2 := by omega
  have hc : c = 0 ∨ c = 1 ∨ c = 2 ∨ c = 3 := by omega
  rcases hv with rfl | rfl | rfl <;> rcases hc with rfl | rfl | rfl | rfl
  · exact all00
  · exact all01
  · exact all02
  · exact all03
  · exact all10
  · exact all11
  · exact all12
  · exact all13
  · exact all20
  · exact all21
  · exact all22
  · exact all23

end Go.Proofs.Ytmjobkpgnhbcbaa
