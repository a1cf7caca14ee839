
/- Plain laws: the greatest number of a list and its place. No condition beyond those of each theorem. -/
import Derived.Test.YtcignnfdpgeogaaPJcast
import Derived.Test.YtcignnfdpgeogaaGslices
set_option linter.unusedVariables false
set_option linter.unusedSectionVars false
set_option linter.unusedSimpArgs false
set_option maxRecDepth 100000
namespace Go.Proofs.Ytcignnfdpgeogaa
open Go Go.V Go.Proofs

/-! ### slices.Max and slices.Index -/
theorem max_ok (v : List Int) (h : 0 < v.length) (hl : v.length ≤ 4294967296) : ∃ m, slices_Max_int_int_ v = some m ∧ (∃ i, i < v.length ∧ v.getD i 0 = m) ∧ ∀ i, i < v.length → v.getD i 0 ≤ m := by
  unfold slices_Max_int_int_
  rw [if_neg (dneg (by omega)), show (0 : Int) = ((0 : Nat) : Int) from rfl, idx_getD h]
  simp only [Option.bind_some]
  obtain ⟨d, h1, h2⟩ := loop_inv (step := slices_Max_int_int__L5 v) (fun s => ∃ (i : Nat) (m : Int), s = (m, (i : Int)) ∧ i ≤ v.length ∧ (∃ j, j < v.length ∧ v.getD j 0 = m) ∧ ∀ j, j < i → v.getD j 0 ≤ m) (fun s => v.length - s.2.toNat)
    (fun m => (∃ j, j < v.length ∧ v.getD j 0 = m) ∧ ∀ j, j < v.length → v.getD j 0 ≤ m) (by
    rintro _ ⟨i, m, rfl, hi, hj, hm⟩
    unfold slices_Max_int_int__L5
    simp only
    by_cases hil : i < v.length
    · rw [if_pos (dpos (by omega)), idx_getD hil]
      simp only [Option.bind_some]
      rw [wr_id (by omega) (by omega)]
      refine .inl ⟨_, rfl, ⟨i + 1, _, rfl, by omega, ?_, fun j hji => ?_⟩, by simp only; omega⟩
      · split
        · exact ⟨i, hil, rfl⟩
        · exact hj
      · by_cases e : j = i
        · subst e; split <;> omega
        · have := hm j (by omega)
          split <;> omega
    · rw [if_neg (dneg (by omega))]
      exact .inr ⟨_, rfl, hj, fun j hjl => hm j (by omega)⟩) (v.getD 0 0, 1) ⟨1, _, rfl, by omega, ⟨0, h, rfl⟩, fun j hj => by
        have : j = 0 := by omega
        subst this
        exact Int.le_refl _⟩ (by simp; omega)
  rw [show ((0 : Nat) : Int) = 0 from rfl] at *
  rw [h1]
  exact ⟨d, rfl, h2⟩

theorem index_ok (v : List Int) (m : Int) (hl : v.length ≤ 4294967296) (h : ∃ i, i < v.length ∧ v.getD i 0 = m) : ∃ i : Nat, slices_Index_int_int_ v m = some (i : Int) ∧ i < v.length ∧ v.getD i 0 = m ∧ ∀ j, j < i → v.getD j 0 ≠ m := by
  obtain ⟨w, hw, hwm⟩ := h
  unfold slices_Index_int_int_
  obtain ⟨d, h1, h2⟩ := loop_inv (step := slices_Index_int_int__L2 v m) (fun s => ∃ i : Nat, s = (i : Int) ∧ i ≤ w ∧ ∀ j, j < i → v.getD j 0 ≠ m) (fun s => v.length - s.toNat)
    (fun d => ∃ i : Nat, d = .inl (i : Int) ∧ i < v.length ∧ v.getD i 0 = m ∧ ∀ j, j < i → v.getD j 0 ≠ m) (by
    rintro _ ⟨i, rfl, hi, hj⟩
    unfold slices_Index_int_int__L2
    simp only
    have hil : i < v.length := by omega
    rw [if_pos (dpos (by omega)), idx_getD hil]
    simp only [Option.bind_some]
    by_cases e : m = v.getD i 0
    · rw [if_pos (by simpa using e)]
      exact .inr ⟨_, rfl, i, rfl, hil, e.symm, hj⟩
    · rw [if_neg (by simpa using e), wr_id (by omega) (by omega)]
      have hiw : i ≠ w := fun e' => by subst e'; exact e hwm.symm
      refine .inl ⟨_, rfl, ⟨i + 1, rfl, by omega, fun j hji => ?_⟩, by omega⟩
      by_cases e2 : j = i
      · subst e2; exact fun h => e h.symm
      · exact hj j (by omega)) 0 ⟨0, rfl, by omega, fun j h => by omega⟩ (by simp; omega)
  rw [h1]
  obtain ⟨i, rfl, h3⟩ := h2
  exact ⟨i, rfl, h3⟩

end Go.Proofs.Ytcignnfdpgeogaa
