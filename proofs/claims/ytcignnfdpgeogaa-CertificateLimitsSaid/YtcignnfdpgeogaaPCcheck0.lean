
/- Plain laws: which proofs are accepted by the program, and which one it makes. No condition beyond those of each theorem. -/
import Derived.Test.YtcignnfdpgeogaaPKbd
import Derived.Test.YtcignnfdpgeogaaPMvalid2
import Derived.Test.YtcignnfdpgeogaaPMplan
import Derived.Test.YtcignnfdpgeogaaPJrelG
import Derived.Test.YtcignnfdpgeogaaGcertificate
set_option linter.unusedVariables false
set_option linter.unusedSectionVars false
set_option linter.unusedSimpArgs false
set_option maxRecDepth 100000
namespace Go.Proofs.Ytcignnfdpgeogaa
open Go Go.V Go.Proofs

section
variable {its : List Item} {wt S : Int} {codes : List Int} (hG : Good its wt S codes)
include hG

end


/-- What an accepted proof has. -/
def Accepts (its : List Item) (wt S : Int) (codes c : List Int) : Prop :=
  Good its wt S codes ∧ RelOK its codes ∧ ChainOK its c c.length ∧ (bdr its wt c c.length).2 = 0 ∧ ∃ b : Nat, (bdr its wt c c.length).1 = (b : Int) ∧ b < 4096 ∧ LongSpec b S

/-! ### Make -/

/-- What Make answers for a valid job. -/
theorem Make_ok0 {its : List Item} {wt : Int} (hg : JobGood its wt) :
    (∃ v S m w, IsLst its wt v ∧ IsMx v m ∧ LongSpec m S ∧ Accepts its wt S v w ∧ w.length ≤ 41 ∧ certificate_Make its wt = some (((S, v), w), 0) ∧ leastcode_Least its wt = some ((S, v), 0)) ∨
    certificate_Make its wt = some (((0, []), []), 15) := by
  obtain ⟨p, e1, e2⟩ := Least_ok hg
  obtain ⟨w, w1, w4⟩ := Witness_ok hg
  unfold certificate_Make
  rw [e1]
  simp only [obind]
  rw [w1]
  rcases e2 with ⟨v, S, m, hv, rfl, hm, hS⟩ | ⟨rfl, hs⟩
  · left
    simp only [obind, bne_self_eq_false, Bool.false_eq_true, if_false]
    have hc := hv.c12 hg
    have hm12 : m < 4096 := by
      rcases hm.2 with q | ⟨y, _, q⟩
      · omega
      · have := hc y; omega
    rcases w4 with ⟨v', hv', h0, h3⟩ | ⟨_, hs⟩
    · have e := lst_unique (fun i => (hg.b i).1) hv hv'
      subst e
      rw [h0]
      simp only [bne_self_eq_false, Bool.false_eq_true, if_false]
      have hrel : RelOK its v := fun x y hr => lst_rel hg hv hr
      have hG := least_good hg hv hm hS
      rcases h3 with ⟨h3, h4⟩ | ⟨y0, h3, h4⟩
      · have hm0 : m = 0 := by
          rcases hm.2 with q | ⟨y, q, _⟩
          · exact q
          · omega
        subst hm0
        refine ⟨v, S, 0, w.1, hv, hm, hS, ⟨hG, hrel, ?_, ?_, 0, ?_, by omega, hS⟩, ?_, rfl, rfl⟩
        · rw [h4]; exact ⟨fun i h => by simp at h, fun i h => by simp at h⟩
        · rw [h4]; rfl
        · rw [h4]; rfl
        · rw [h4]; simp
      · obtain ⟨b1, b2, b3⟩ := wit_bound hg hv y0 (by have := h3.1; have := hv.len; omega)
        have hmx : v.getD y0 0 = m := by
          have q1 := hm.1 y0
          have q0 := hc y0
          rcases hm.2 with q | ⟨y, q, q2⟩
          · omega
          · have := h3.2.1 y q
            omega
        refine ⟨v, S, m, w.1, hv, hm, hS, ⟨hG, hrel, ?_, ?_, m, ?_, hm12, hS⟩, ?_, rfl, rfl⟩
        · rw [h4]; exact b1
        · rw [h4, b3]
        · rw [h4, b3]; exact hmx
        · rw [h4]; exact b2
    · exact absurd hv (hs.none (fun i => (hg.b i).1) v)
  · right
    simp
end Go.Proofs.Ytcignnfdpgeogaa
