
/- Plain laws: the least codes satisfy all relations, and are at most any numbers that have room. No condition beyond those of each theorem. -/
import Derived.Test.YtcignnfdpgeogaaPKleast0
set_option linter.unusedVariables false
set_option linter.unusedSectionVars false
set_option linter.unusedSimpArgs false
set_option maxRecDepth 100000
namespace Go.Proofs.Ytcignnfdpgeogaa
open Go Go.V Go.Proofs

theorem nx_ge {n r w : Int} (hn : 0 ≤ n) (hr : 0 ≤ r ∧ r ≤ 12) (hw : 0 ≤ w ∧ w ≤ 12) (h : (NX n r w).2 = 0) : n ≤ (NX n r w).1 ∧ (NX n r w).1 ≤ 4095 := by
  rcases nx_cases hn hr hw with ⟨_, h1, h2⟩ | e
  · exact ⟨h1, h2⟩
  · rw [e] at h; simp at h

theorem lst_ge {its : List Item} {wt : Int} (hg : JobGood its wt) {v : List Int} (hv : IsLst its wt v) {y : Nat} (hy : y < its.length) : need its v y ≤ v.getD y 0 := by
  have e := hv.eq y hy
  have := (nx_ge (needU_nn its v y) (hg.r y) hg.w (by rw [e])).1
  rw [e] at this
  exact this
theorem lst_rel {its : List Item} {wt : Int} (hg : JobGood its wt) {v : List Int} (hv : IsLst its wt v) {x y : Nat} (hr : rel its x y > 0) : v.getD x 0 + rel its x y - 1 ≤ v.getD y 0 := by
  obtain ⟨_, hx, hy⟩ := rel_blk hr
  have h1 := needU_ge its v y its.length x hx hr
  have h2 := lst_ge hg hv hy
  unfold need at h2
  omega


/-! ### Least answers -/
end Go.Proofs.Ytcignnfdpgeogaa
