/- Plain law: CodeRanks answers true at every list of numbers. No condition. -/
import Derived.Test.YtjcikgeffhghkaaPgen
import Derived.Test.YtjcikgeffhghkaaGCodeRanks
set_option maxRecDepth 100000
namespace Go.Proofs.Ytjcikgeffhghkaa
open Go Go.V Go.Proofs

theorem codeForm_ok (l : List Int) (k : Int) (hk : 0 ≤ k) (hk2 : k < 2305843009213693952) :
    ∃ r w, law12_form l k = some (r, w, k + 2) ∧ r ∈ [(0 : Int), 0, 1, 2, 3, 6, 12] ∧ w ∈ [(0 : Int), 1, 2, 3, 5, 12] := by
  obtain ⟨r, h1, hr⟩ := pick_ok l k [0, 0, 1, 2, 3, 6, 12] hk (by omega) (by decide) (by decide)
  obtain ⟨w, h2, hw⟩ := pick_ok l (k + 1) [0, 1, 2, 3, 5, 12] (by omega) (by omega) (by decide) (by decide)
  refine ⟨r, w, ?_, hr, hw⟩
  unfold law12_form
  rw [h1]
  simp only [Option.bind_some, h2]
  rw [show k + 1 + 1 = k + 2 by omega]

theorem sane12_ok : law12_sane = some true := by decide +kernel

theorem law_CodeRanks (t : List Int) : law12_CodeRanks t = some true := by
  unfold law12_CodeRanks
  simp only [gen_New, Option.bind_some]
  obtain ⟨r, w, h1, hr, hw⟩ := codeForm_ok t 0 (by omega) (by omega)
  rw [h1]
  simp only [Option.bind_some]
  obtain ⟨i, h2, hi⟩ := pick_ok t (0 + 2) [0, 1, 2, 5, 40, 300, 2000] (by omega) (by omega) (by decide) (by decide)
  rw [h2]
  simp only [Option.bind_some]
  simp only [sane12_ok, Option.bind_some]
  clear h1 h2
  revert hi; revert i; revert hw; revert w; revert hr; revert r
  decide +kernel

end Go.Proofs.Ytjcikgeffhghkaa
