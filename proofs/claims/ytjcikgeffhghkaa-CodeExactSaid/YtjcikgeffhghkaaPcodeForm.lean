/- Plain laws: the drawn rounds and weights, as natural numbers, and the sanity check. No condition beyond those of each theorem. -/
import Derived.Test.YtjcikgeffhghkaaPcode
import Derived.Test.YtjcikgeffhghkaaGlaw12
set_option maxRecDepth 100000
namespace Go.Proofs.Ytjcikgeffhghkaa
open Go Go.V Go.Proofs

theorem form_nat (l : List Int) (k : Int) (hk : 0 ≤ k) (hk2 : k < 2305843009213693952) :
    ∃ r w : Nat, law12_form l k = some ((r : Int), (w : Int), k + 2) ∧ r ≤ 12 ∧ w ≤ 12 := by
  obtain ⟨r, h1, hr⟩ := pick_ok l k [0, 0, 1, 2, 3, 6, 12] hk (by omega) (by decide) (by decide)
  obtain ⟨w, h2, hw⟩ := pick_ok l (k + 1) [0, 1, 2, 3, 5, 12] (by omega) (by omega) (by decide) (by decide)
  have hr' : 0 ≤ r ∧ r ≤ 12 := (by decide : ∀ x ∈ [(0 : Int), 0, 1, 2, 3, 6, 12], 0 ≤ x ∧ x ≤ 12) r hr
  have hw' : 0 ≤ w ∧ w ≤ 12 := (by decide : ∀ x ∈ [(0 : Int), 1, 2, 3, 5, 12], 0 ≤ x ∧ x ≤ 12) w hw
  refine ⟨r.toNat, w.toNat, ?_, by omega, by omega⟩
  unfold law12_form
  rw [h1]
  simp only [Option.bind_some, h2]
  rw [show k + 1 + 1 = k + 2 by omega, Int.toNat_of_nonneg hr'.1, Int.toNat_of_nonneg hw'.1]

theorem sane12_ok : law12_sane = some true := by decide +kernel

end Go.Proofs.Ytjcikgeffhghkaa
