/- Plain laws: the examples of the chapter on least codes. No condition. -/
import Derived.Test.YtgdaanhiagoonaaPKleast
import Derived.Test.YtgdaanhiagoonaaGlaw13sane
set_option linter.unusedVariables false
set_option linter.unusedSectionVars false
set_option linter.unusedSimpArgs false
set_option maxRecDepth 100000
namespace Go.Proofs.Ytgdaanhiagoonaa
open Go Go.V Go.Proofs

theorem good_of {its : List Item} {wt : Int} (h : job_Valid its wt = some 0) : JobGood its wt := by
  obtain ⟨e, h1, h2⟩ := jobvalid_spec its wt
  rw [h] at h1
  cases h1
  rcases h2 with ⟨_, h2⟩ | ⟨h2, _⟩
  · exact h2
  · exact absurd rfl h2
theorem Least_none {its : List Item} {wt : Int} (hg : JobGood its wt) (h : ∀ v, ¬ IsLst its wt v) : leastcode_Least its wt = some ((0, []), 15) := by
  obtain ⟨p, h1, h2⟩ := Least_ok hg
  rcases h2 with ⟨v, S, m, hv, _⟩ | ⟨rfl, _⟩
  · exact absurd hv (h v)
  · exact h1
theorem Least_some {its : List Item} {wt : Int} (hg : JobGood its wt) {v : List Int} {m : Nat} {S : Int} (hv : IsLst its wt v) (hm : IsMx v m) (hS : LongSpec m S) : leastcode_Least its wt = some ((S, v), 0) := by
  obtain ⟨p, h1, h2⟩ := Least_ok hg
  rcases h2 with ⟨v', S', m', hv', rfl, hm', hS'⟩ | ⟨_, hs⟩
  · have e := lst_unique (fun i => (hg.b i).1) hv hv'
    subst e
    have e := hm.uniq hm'
    subst e
    rw [h1, long_unique hS hS']
  · exact absurd hv (hs.none (fun i => (hg.b i).1) v)

def IT : List Item := [(0, 1, 0, 80), (0, 3, 0, 80), (0, 0, 0, 80), (0, 2, 0, 80)]
theorem valid_IT (w : Int) (h : w = 12 ∨ w = 3 ∨ w = 0) : JobGood IT w := by
  rcases h with rfl | rfl | rfl <;> exact good_of (by decide +kernel)
theorem lst_IT : IsLst IT 12 [1, 2, 0, 1] := ⟨rfl, by decide +kernel⟩
theorem mx_of {v : List Int} {m : Nat} (h : ∀ x ∈ v, x ≤ (m : Int)) (h2 : m = 0 ∨ (m : Int) ∈ v) : IsMx v m := by
  refine ⟨fun y => ?_, ?_⟩
  · by_cases hy : y < v.length
    · rw [List.getD_eq_getElem?_getD, List.getElem?_eq_getElem hy]
      exact h _ (List.getElem_mem hy)
    · rw [List.getD_eq_getElem?_getD, List.getElem?_eq_none (by omega)]
      show (0 : Int) ≤ m
      omega
  · rcases h2 with h2 | h2
    · exact .inl h2
    · obtain ⟨i, hi, e⟩ := List.getElem_of_mem h2
      exact .inr ⟨i, hi, by rw [List.getD_eq_getElem?_getD, List.getElem?_eq_getElem hi]; exact e⟩
theorem Least_IT : leastcode_Least IT 12 = some ((2, [1, 2, 0, 1]), 0) :=
  Least_some (valid_IT 12 (.inl rfl)) lst_IT (mx_of (m := 2) (by decide) (.inr (by decide))) ⟨2, rfl, by omega, by decide, .inr (by decide)⟩
theorem Least_IT0 : leastcode_Least IT 0 = some ((0, []), 15) := by
  refine Least_none (valid_IT 0 (.inr (.inr rfl))) fun v hv => ?_
  have e2 : need IT v 2 = 0 := rfl
  have h2 := hv.eq 2 (by decide)
  rw [e2, show NX 0 (rOf IT 2) 0 = (0, 0) by decide +kernel] at h2
  have h2' : v.getD 2 0 = 0 := (congrArg Prod.fst h2).symm
  have e0 : need IT v 0 = if v.getD 2 0 + 2 - 1 > 0 then v.getD 2 0 + 2 - 1 else 0 := rfl
  rw [h2'] at e0
  have h0 := hv.eq 0 (by decide)
  rw [e0, show NX (if (0 : Int) + 2 - 1 > 0 then 0 + 2 - 1 else 0) (rOf IT 0) 0 = (0, 15) by decide +kernel] at h0
  have := congrArg Prod.snd h0
  simp at this
theorem Least_one : leastcode_Least [(0, 0, 3, 80)] 0 = some ((3, [7]), 0) :=
  Least_some (good_of (by decide +kernel)) ⟨rfl, by decide +kernel⟩ (mx_of (m := 7) (by decide) (.inr (by decide))) ⟨3, rfl, by omega, by decide, .inr (by decide)⟩
theorem bdr_IT : ChainOK IT [2, 0, 3, 1] 4 := ⟨by decide, fun i h => by
  rcases (by omega : i = 0 ∨ i = 1 ∨ i = 2) with rfl | rfl | rfl <;> decide⟩
theorem Bound_IT : leastcode_Bound IT 12 [2, 0, 3, 1] = some (2, 0) := by
  rcases Bound_ok (valid_IT 12 (.inl rfl)) [2, 0, 3, 1] (by decide) with ⟨_, h⟩ | ⟨h, _⟩
  · rw [h]
    decide +kernel
  · exact absurd bdr_IT h
theorem fst_IT : FstMax [1, 2, 0, 1] 1 := ⟨by decide, by decide, by decide⟩
theorem Witness_IT : leastcode_Witness IT 12 = some ([2, 0, 3, 1], 0) := by
  have hg := valid_IT 12 (.inl rfl)
  obtain ⟨⟨c, e⟩, h1, h2⟩ := Witness_ok hg
  rcases h2 with ⟨v, hv, e0, h3⟩ | ⟨_, hs⟩
  · simp only at e0 h3
    subst e0
    have e := lst_unique (fun i => (hg.b i).1) lst_IT hv
    subst e
    rcases h3 with ⟨h3, _⟩ | ⟨y0, h3, rfl⟩
    · cases h3
    · have e := h3.uniq fst_IT
      subst e
      rw [h1]
      decide +kernel
  · exact absurd lst_IT (hs.none (fun i => (hg.b i).1) _)
theorem four_IT (w : Int) : law13_four w = some (IT, w) := rfl
theorem ints_same (a : List Int) (h : a.length < 4611686018427387904) : gen_Ints a a = some true := by rw [ints_ok a a h]; simp
theorem sane13_ok : law13_sane = some true := by
  unfold law13_sane
  simp only [obind, four_IT, Least_IT, Least_IT0, Least_one, Bound_IT, Witness_IT]
  rw [if_pos (by decide), if_pos (by decide), ints_same _ (by simp)]
  simp only [obind]
  rw [if_pos trivial, if_pos (by decide), if_pos (by decide), if_pos (by decide), ints_same _ (by simp)]
  simp only [obind]
  rw [if_pos trivial, if_pos (by decide), if_pos (by decide), if_pos (by decide), ints_same _ (by simp)]
  rfl
end Go.Proofs.Ytgdaanhiagoonaa
