/- Plain law: CodeCounts answers true at every two numbers. No condition. -/
import Derived.Test.YtjcikgeffhghkaaPcodeRank
import Derived.Test.YtjcikgeffhghkaaPcodeForm
import Derived.Test.YtjcikgeffhghkaaGCodeCounts
set_option maxRecDepth 100000
set_option linter.unusedVariables false
namespace Go.Proofs.Ytjcikgeffhghkaa
open Go Go.V Go.Proofs

def m13 (v : Int) : Int := Int.tmod (IntKind.i64.wrap ((Int.tmod v 13) + 13)) 13

theorem m13_range (v : Int) : ∃ a : Nat, a < 13 ∧ m13 v = (a : Int) := by
  unfold m13
  obtain ⟨h1, h2⟩ := tmod_range v 13 (by omega)
  rw [wr_id (by omega) (by omega)]
  have h3 : 0 ≤ Int.tmod v 13 + 13 := by omega
  have h4 := Int.tmod_lt_of_pos (Int.tmod v 13 + 13) (show (0 : Int) < 13 by omega)
  have h5 : 0 ≤ Int.tmod (Int.tmod v 13 + 13) 13 := Int.tmod_nonneg 13 h3
  exact ⟨(Int.tmod (Int.tmod v 13 + 13) 13).toNat, by omega, by omega⟩

theorem m13_id (a : Nat) (h : a < 13) : m13 (a : Int) = (a : Int) :=
  (by decide +kernel : ∀ a : Nat, a < 13 → m13 (a : Int) = (a : Int)) a h

theorem counts_all : ∀ a : Nat, a < 13 → ∀ b : Nat, b < 13 → law12_CodeCounts (a : Int) (b : Int) = some true := by decide +kernel

theorem law_CodeCounts (v w : Int) : law12_CodeCounts v w = some true := by
  obtain ⟨a, ha, h1⟩ := m13_range v
  obtain ⟨b, hb, h2⟩ := m13_range w
  have e1 : Int.tmod (IntKind.i64.wrap ((Int.tmod v 13) + 13)) 13 = Int.tmod (IntKind.i64.wrap ((Int.tmod (a : Int) 13) + 13)) 13 := h1.trans (m13_id a ha).symm
  have e2 : Int.tmod (IntKind.i64.wrap ((Int.tmod w 13) + 13)) 13 = Int.tmod (IntKind.i64.wrap ((Int.tmod (b : Int) 13) + 13)) 13 := h2.trans (m13_id b hb).symm
  have e3 : law12_CodeCounts_L1 v w = law12_CodeCounts_L1 (a : Int) (b : Int) := by
    funext s
    unfold law12_CodeCounts_L1
    rw [e1, e2]
  rw [← counts_all a ha b hb]
  unfold law12_CodeCounts
  rw [e1, e2, e3]

end Go.Proofs.Ytjcikgeffhghkaa
