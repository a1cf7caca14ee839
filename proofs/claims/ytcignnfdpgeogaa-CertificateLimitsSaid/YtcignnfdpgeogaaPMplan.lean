
/- Plain laws: the least codes are a valid plan. No condition beyond those of each theorem. -/
import Derived.Test.YtcignnfdpgeogaaPMvalid
import Derived.Test.YtcignnfdpgeogaaPKuse0
set_option linter.unusedVariables false
set_option linter.unusedSectionVars false
set_option linter.unusedSimpArgs false
set_option maxRecDepth 100000
namespace Go.Proofs.Ytcignnfdpgeogaa
open Go Go.V Go.Proofs


/-- The codes satisfy all relations. -/
def RelOK (its : List Item) (codes : List Int) : Prop := ∀ x y, rel its x y > 0 → codes.getD x 0 + rel its x y - 1 ≤ codes.getD y 0

theorem lst_isN {its : List Item} {wt : Int} (hg : JobGood its wt) {v : List Int} (hv : IsLst its wt v) {y : Nat} (hy : y < its.length) : isN (rOf its y).toNat wt.toNat (v.getD y 0).toNat = true := by
  have e := hv.eq y hy
  rcases (nx_ok (needU_nn its v y) (hg.r y) hg.w).2.2 with ⟨c, e1, _, e2, e3, _⟩ | ⟨e1, _⟩
  · rw [e] at e1
    have e4 : v.getD y 0 = (c : Int) := congrArg Prod.fst e1
    rw [e4, Int.toNat_natCast]
    exact e3
  · rw [e] at e1
    have := congrArg Prod.snd e1
    simp at this
theorem least_good {its : List Item} {wt : Int} (hg : JobGood its wt) {v : List Int} (hv : IsLst its wt v) {m : Nat} {S : Int} (hm : IsMx v m) (hS : LongSpec m S) : Good its wt S v := by
  obtain ⟨n, rfl, hn, h1, _⟩ := hS
  have hc := hv.c12 hg
  refine ⟨hg, by omega, hv.len, fun i x c hx hcc => ?_⟩
  have hi := (List.getElem?_eq_some_iff.1 hx).1
  have hvc : v.getD i 0 = c := by rw [List.getD_eq_getElem?_getD, hcc]; rfl
  have hr : rOf its i = x.2.2.1 := by unfold rOf; rw [hx]
  have h3 := lst_isN hg hv hi
  rw [hvc, hr] at h3
  have h4 := hc i
  have h5 := hm.1 i
  rw [hvc] at h4 h5
  rw [Int.toNat_natCast]
  exact ⟨h4.1, by omega, h3⟩
end Go.Proofs.Ytcignnfdpgeogaa
