
/- Plain laws: which jobs are valid, and that made jobs are. No condition beyond those of each theorem. -/
import Derived.Test.YtcignnfdpgeogaaPgen
import Derived.Test.YtcignnfdpgeogaaGjob
set_option linter.unusedVariables false
set_option linter.unusedSectionVars false
set_option maxRecDepth 100000
namespace Go.Proofs.Ytcignnfdpgeogaa
open Go Go.V Go.Proofs

abbrev Item := Int × Int × Int × Int

theorem job_in_ok (n lo hi : Int) : job_in n lo hi = some (decide (lo ≤ n ∧ n ≤ hi)) := by
  unfold job_in
  by_cases h : n ≥ lo
  · rw [if_pos (by simpa using h)]
    simp only [ge_iff_le] at h
    simp [h]
  · rw [if_neg (by simpa using h)]
    simp only [ge_iff_le] at h
    simp [h]

def good1 (x : Item) : Prop := (0 ≤ x.1 ∧ x.1 ≤ 15) ∧ (0 ≤ x.2.1 ∧ x.2.1 ≤ 31) ∧ (0 ≤ x.2.2.1 ∧ x.2.2.1 ≤ 12) ∧ (1 ≤ x.2.2.2 ∧ x.2.2.2 ≤ 400)

structure JobGood (items : List Item) (wt : Int) : Prop where
  len : items.length ≤ 96
  w : 0 ≤ wt ∧ wt ≤ 12
  it : ∀ (i : Nat) (x : Item), items[i]? = some x → good1 x
  asc : ∀ (i : Nat) (x y : Item), items[i]? = some x → items[i + 1]? = some y → x.2.2.1 ≤ y.2.2.1

theorem jobvalid_spec (items : List Item) (wt : Int) : ∃ e, job_Valid items wt = some e ∧ ((e = 0 ∧ JobGood items wt) ∨ (e ≠ 0 ∧ ¬ JobGood items wt)) := by
  unfold job_Valid
  by_cases hl : items.length > 96
  · rw [if_pos (dpos (by omega))]
    exact ⟨_, rfl, .inr ⟨by decide, fun h => by have := h.len; omega⟩⟩
  rw [if_neg (dneg (by omega)), job_in_ok]
  simp only [Option.bind_some]
  by_cases hw : 0 ≤ wt ∧ wt ≤ 12
  · rw [if_neg (by simp [hw])]
    obtain ⟨d, h1, h2⟩ := loop_inv (step := job_Valid_L8 items) (fun s => ∃ i : Nat, s = (i : Int) ∧ i ≤ items.length ∧ (∀ (j : Nat) (x : Item), j < i → items[j]? = some x → good1 x) ∧ (∀ (j : Nat) (x y : Item), j + 1 < i → items[j]? = some x → items[j + 1]? = some y → x.2.2.1 ≤ y.2.2.1))
      (fun s => items.length - s.toNat) (fun d => (d = .inr () ∧ JobGood items wt) ∨ (∃ e, d = .inl e ∧ e ≠ 0 ∧ ¬ JobGood items wt)) (by
      rintro _ ⟨i, rfl, hi, hg, ha⟩
      unfold job_Valid_L8
      simp only [job_in_ok, Option.bind_some]
      by_cases hil : i < items.length
      · rw [if_pos (dpos (by omega)), idx_nat, List.getElem?_eq_getElem hil]
        simp only [Option.bind_some]
        have hx : items[i]? = some items[i] := List.getElem?_eq_getElem hil
        generalize items[i] = x at hx
        by_cases q1 : 0 ≤ x.1 ∧ x.1 ≤ 15
        · by_cases q2 : 0 ≤ x.2.1 ∧ x.2.1 ≤ 31
          · by_cases q3 : 0 ≤ x.2.2.1 ∧ x.2.2.1 ≤ 12
            · by_cases q4 : 1 ≤ x.2.2.2 ∧ x.2.2.2 ≤ 400
              · rw [if_neg (by simp [q1]), if_neg (by simp [q2]), if_neg (by simp [q3]), if_neg (by simp [q4])]
                have hg' : ∀ (j : Nat) (y : Item), j < i + 1 → items[j]? = some y → good1 y := by
                  intro j y hj hy
                  by_cases hji : j < i
                  · exact hg j y hji hy
                  · have : j = i := by omega
                    subst this
                    rw [hx] at hy; cases hy
                    exact ⟨q1, q2, q3, q4⟩
                by_cases h0 : 0 < i
                · rw [if_pos (dpos (by omega)), wr_id (by omega) (by omega), show (i : Int) - 1 = ((i - 1 : Nat) : Int) by omega, idx_nat, List.getElem?_eq_getElem (by omega)]
                  simp only [Option.bind_some]
                  have hy : items[i - 1]? = some items[i - 1] := List.getElem?_eq_getElem (by omega)
                  generalize items[i - 1] = y at hy
                  by_cases q5 : x.2.2.1 < y.2.2.1
                  · rw [if_pos (dpos q5)]
                    refine .inr ⟨_, rfl, .inr ⟨_, rfl, by decide, fun h => ?_⟩⟩
                    have := h.asc (i - 1) y x hy (by rw [show i - 1 + 1 = i by omega]; exact hx)
                    omega
                  · rw [if_neg (dneg q5), wr_id (by omega) (by omega)]
                    refine .inl ⟨_, rfl, ⟨i + 1, by simp, by omega, hg', fun j x' y' hj hx' hy' => ?_⟩, by omega⟩
                    by_cases hji : j + 1 < i
                    · exact ha j x' y' hji hx' hy'
                    · have e : j = i - 1 := by omega
                      subst e
                      rw [show i - 1 + 1 = i by omega, hx] at hy'
                      rw [hy] at hx'
                      cases hx'; cases hy'
                      omega
                · rw [if_neg (dneg (by omega)), wr_id (by omega) (by omega)]
                  exact .inl ⟨_, rfl, ⟨i + 1, by simp, by omega, hg', fun j x' y' hj => by omega⟩, by omega⟩
              · rw [if_neg (by simp [q1]), if_neg (by simp [q2]), if_neg (by simp [q3]), if_pos (by simp; omega)]
                exact .inr ⟨_, rfl, .inr ⟨_, rfl, by decide, fun h => q4 (h.it i x hx).2.2.2⟩⟩
            · rw [if_neg (by simp [q1]), if_neg (by simp [q2]), if_pos (by simp; omega)]
              exact .inr ⟨_, rfl, .inr ⟨_, rfl, by decide, fun h => q3 (h.it i x hx).2.2.1⟩⟩
          · rw [if_neg (by simp [q1]), if_pos (by simp; omega)]
            exact .inr ⟨_, rfl, .inr ⟨_, rfl, by decide, fun h => q2 (h.it i x hx).2.1⟩⟩
        · rw [if_pos (by simp; omega)]
          exact .inr ⟨_, rfl, .inr ⟨_, rfl, by decide, fun h => q1 (h.it i x hx).1⟩⟩
      · rw [if_neg (dneg (by omega))]
        refine .inr ⟨_, rfl, .inl ⟨rfl, ⟨by omega, hw, fun j x hx => hg j x ?_ hx, fun j x y hx hy => ha j x y ?_ hx hy⟩⟩⟩
        · have := (List.getElem?_eq_some_iff.1 hx).1; omega
        · have := (List.getElem?_eq_some_iff.1 hy).1; omega) 0 ⟨0, rfl, by omega, fun j x h => by omega, fun j x y h => by omega⟩ (by simp; omega)
    rw [h1]
    rcases h2 with ⟨rfl, hg⟩ | ⟨e, rfl, he, hg⟩
    · exact ⟨_, rfl, .inl ⟨rfl, hg⟩⟩
    · exact ⟨_, rfl, .inr ⟨he, hg⟩⟩
  · rw [if_pos (by simp; omega)]
    exact ⟨_, rfl, .inr ⟨by decide, fun h => hw h.w⟩⟩


/-- Items whose rounds ascend up to r. -/
structure Its (its : List Item) (r : Int) : Prop where
  it : ∀ (i : Nat) (x : Item), its[i]? = some x → good1 x ∧ x.2.2.1 ≤ r ∧ x.1 ≤ 2
  asc : ∀ (i : Nat) (x y : Item), its[i]? = some x → its[i + 1]? = some y → x.2.2.1 ≤ y.2.2.1

end Go.Proofs.Ytcignnfdpgeogaa
