
/- Plain laws: the least codes. No condition beyond those of each theorem. -/
import Derived.Test.YtcignnfdpgeogaaPKsolve
import Derived.Test.YtcignnfdpgeogaaPKsteps
set_option linter.unusedVariables false
set_option linter.unusedSectionVars false
set_option linter.unusedSimpArgs false
set_option maxRecDepth 100000
namespace Go.Proofs.Ytcignnfdpgeogaa
open Go Go.V Go.Proofs


/-- What Least answers for a valid job. -/
def LeastSpec (its : List Item) (wt : Int) (p : (Int × List Int) × Int) : Prop :=
  (∃ v S m, IsLst its wt v ∧ p = ((S, v), 0) ∧ IsMx v m ∧ LongSpec m S) ∨ (p = ((0, []), 15) ∧ Stuck its wt)

theorem LL22_ok (v base : List Int) (e : Int) (hc : C12 v) (hl : v.length ≤ 1000) : ∃ S m, loop (leastcode_Least_L22 (base, v, e)) (0, 0) = some S ∧ IsMx v m ∧ LongSpec m S := by
  obtain ⟨S, h1, h2⟩ := loop_inv (step := leastcode_Least_L22 (base, v, e)) (fun s => ∃ (i m : Nat) (S : Int), s = (S, (i : Int)) ∧ i ≤ v.length ∧ LongSpec m S ∧ (∀ y, y < i → v.getD y 0 ≤ m) ∧ (m = 0 ∨ ∃ y, y < v.length ∧ v.getD y 0 = m)) (fun s => v.length - s.2.toNat)
    (fun S => ∃ m, IsMx v m ∧ LongSpec m S) (by
    rintro _ ⟨i, m, S, rfl, hi, hS, hm, hat⟩
    unfold leastcode_Least_L22
    simp only
    by_cases h : i < v.length
    · obtain ⟨c0, c1⟩ := hc i
      obtain ⟨d, e1, e2⟩ := steps_ok (v.getD i 0).toNat (by omega)
      rw [if_pos (dpos (by omega)), idx_getD h]
      simp only [obind]
      rw [show v.getD i 0 = (((v.getD i 0).toNat : Nat) : Int) by omega, e1]
      simp only [obind]
      rw [wr_id (by omega) (by omega)]
      by_cases hgt : (v.getD i 0).toNat > m
      · have hd := long_mono (by omega) hS e2
        refine .inl ⟨_, rfl, ⟨i + 1, (v.getD i 0).toNat, _, rfl, by omega, ?_, fun y hy => ?_, .inr ⟨i, h, by omega⟩⟩, by simp only; omega⟩
        · by_cases q : d > S
          · rw [if_pos q]; exact e2
          · rw [if_neg q, show S = d by omega]; exact e2
        · by_cases q : y = i
          · subst q; omega
          · have := hm y (by omega); omega
      · have hd := long_mono (by omega) e2 hS
        refine .inl ⟨_, rfl, ⟨i + 1, m, _, rfl, by omega, by rw [if_neg (by omega)]; exact hS, fun y hy => ?_, hat⟩, by simp only; omega⟩
        by_cases q : y = i
        · subst q; omega
        · exact hm y (by omega)
    · rw [if_neg (dneg (by omega))]
      refine .inr ⟨_, rfl, m, ⟨fun y => ?_, hat⟩, hS⟩
      by_cases q : y < v.length
      · exact hm y (by omega)
      · rw [List.getD_eq_getElem?_getD, List.getElem?_eq_none (by omega)]
        show (0 : Int) ≤ m
        omega) (0, 0) ⟨0, 0, 0, rfl, by omega, long_zero, fun y h => by omega, .inl rfl⟩ (by simp; omega)
  obtain ⟨m, h3, h4⟩ := h2
  exact ⟨S, m, h1, h3, h4⟩

section
variable {its : List Item} {wt : Int} (hg : JobGood its wt)
include hg

theorem Least_ok : ∃ p, leastcode_Least its wt = some p ∧ LeastSpec its wt p := by
  have hl := hg.len
  unfold leastcode_Least
  rw [valid_good hg]
  simp only [obind, bne_self_eq_false, Bool.false_eq_true, if_false]
  rw [relations_ok its wt (by omega)]
  simp only [obind]
  obtain ⟨⟨base, v, e⟩, h1, h2⟩ := solve_ok hg
  rw [h1]
  simp only [obind]
  rcases h2 with ⟨e0, hv, _, _⟩ | ⟨e0, hS⟩
  · simp only at e0 hv
    subst e0
    obtain ⟨S, m, g1, g2, g3⟩ := LL22_ok v base 0 (hv.c12 hg) (by rw [hv.len]; omega)
    simp only [bne_self_eq_false, Bool.false_eq_true, if_false]
    rw [g1]
    exact ⟨_, rfl, .inl ⟨v, S, m, hv, rfl, g2, g3⟩⟩
  · cases e0
    rw [if_pos (by decide)]
    exact ⟨_, rfl, .inr ⟨rfl, hS⟩⟩
end
end Go.Proofs.Ytcignnfdpgeogaa
