/- Plain law of AssignDuality: there is an assignment that fits, or a refusal that refuses, and never both. No condition. -/
import Derived.Test.YtdbomhhcebmkpaaPAlists
import Derived.Test.YtdbomhhcebmkpaaGAssignDuality
set_option linter.unusedVariables false
namespace Go.Proofs.Ytdbomhhcebmkpaa
open Go Go.V Go.Proofs
theorem rfs_len {a b r : List Int} (h : Rfs a b r) : r.length ≤ a.length := by
  have hnd : (r.map Int.toNat).Nodup := by
    refine List.pairwise_map.2 (List.Pairwise.imp_of_mem ?_ h.asc)
    intro x y hx hy hxy e
    obtain ⟨j, rfl, _, _⟩ := h.mem x hx
    obtain ⟨k, rfl, _, _⟩ := h.mem y hy
    omega
  have := len_le _ (List.range a.length) hnd fun x hx => by
    obtain ⟨y, hy, rfl⟩ := List.mem_map.1 hx
    obtain ⟨j, rfl, h3, h4⟩ := h.mem y hy
    rw [Int.toNat_natCast]
    exact List.mem_range.2 h3
  rwa [List.length_map, List.length_range] at this
theorem duality_ok (l : List Int) : law16_AssignDuality l = some true := by
  unfold law16_AssignDuality gen_New
  simp only [Option.bind_some]
  obtain ⟨a, b, k, e1, _, _, hV, hal, hbl, _⟩ := lists_ok l 0 8 (by omega) (by omega) (by omega) (by omega)
  rw [e1]
  simp only [Option.bind_some]
  rcases match_two hV with ⟨r, h1, h2⟩ | ⟨r, h1, h2⟩
  · rw [h1]
    simp only [Option.bind_some]
    rw [if_pos (by decide), if_pos (by decide), fits_ok hV h2]
    simp only [Option.bind_some]
    rcases refused_ok a b (by omega) (by omega) with ⟨h3, h4⟩ | ⟨h3, h4⟩
    · exact absurd h4 h2.nofew
    · rw [if_pos trivial, h3]
      simp only [Option.bind_some]
      rw [if_pos (by decide), sane16]
      rfl
  · rw [h1]
    have hrl := rfs_len h2
    simp only [Option.bind_some]
    rw [if_neg (by decide), if_pos (by decide), if_pos (by decide), refuses_ok hV h2 (by omega)]
    simp only [Option.bind_some]
    rcases refused_ok a b (by omega) (by omega) with ⟨h3, h4⟩ | ⟨h3, h4⟩
    · rw [if_pos trivial, h3]
      simp only [Option.bind_some]
      rw [if_pos trivial, sane16]
      rfl
    · exact absurd h2.few h4
end Go.Proofs.Ytdbomhhcebmkpaa
