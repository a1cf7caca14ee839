
/- Plain laws: the examples of the chapter on certificates; spoiled proofs. No condition beyond those of each theorem. -/
import Derived.Test.YtcignnfdpgeogaaPCcheck0
import Derived.Test.YtcignnfdpgeogaaGlaw15sane
import Derived.Test.YtcignnfdpgeogaaGlaw15spoil
set_option linter.unusedVariables false
set_option linter.unusedSectionVars false
set_option linter.unusedSimpArgs false
set_option maxRecDepth 100000
namespace Go.Proofs.Ytcignnfdpgeogaa
open Go Go.V Go.Proofs

theorem good_of {its : List Item} {wt : Int} (h : job_Valid its wt = some 0) : JobGood its wt := by
  obtain ⟨e, h1, h2⟩ := jobvalid_spec its wt
  rw [h] at h1
  cases h1
  rcases h2 with ⟨_, h2⟩ | ⟨h2, _⟩
  · exact h2
  · exact absurd rfl h2
def IT : List Item := [(0, 1, 0, 80), (0, 3, 0, 80), (0, 0, 0, 80), (0, 2, 0, 80)]
theorem valid_IT : JobGood IT 12 := good_of (by decide +kernel)
theorem lst_IT : IsLst IT 12 [1, 2, 0, 1] := ⟨rfl, by decide +kernel⟩
theorem mx_IT : IsMx [1, 2, 0, 1] 2 := by
  refine ⟨fun y => ?_, .inr ⟨1, by decide, rfl⟩⟩
  match y with
  | 0 => decide
  | 1 => decide
  | 2 => decide
  | 3 => decide
  | y + 4 => exact (by decide : (0 : Int) ≤ 2)
theorem Make_IT : ∃ w, certificate_Make IT 12 = some (((2, [1, 2, 0, 1]), w), 0) := by
  rcases Make_ok0 valid_IT with ⟨v, S, m, w, hv, hm, hS, _, _, h, _⟩ | h
  · have e := lst_unique (fun i => (valid_IT.b i).1) lst_IT hv
    subst e
    have e := hm.uniq mx_IT
    subst e
    have e := long_unique hS ⟨2, rfl, by omega, by decide, .inr (by decide)⟩
    subst e
    exact ⟨w, h⟩
  · obtain ⟨p, e1, e2⟩ := Least_ok valid_IT
    unfold certificate_Make at h
    rw [e1] at h
    rcases e2 with ⟨v, S, m, hv, rfl, _⟩ | ⟨_, hs⟩
    · simp only [obind, bne_self_eq_false, Bool.false_eq_true, if_false] at h
      obtain ⟨w, w1, w2⟩ := Witness_ok valid_IT
      rw [w1] at h
      rcases w2 with ⟨_, _, w0, _⟩ | ⟨_, hs⟩
      · rw [obind, w0] at h
        simp at h
      · exact absurd lst_IT (hs.none (fun i => (valid_IT.b i).1) _)
    · exact absurd lst_IT (hs.none (fun i => (valid_IT.b i).1) _)
theorem four_IT : law15_four = some (IT, 12) := rfl
theorem proof_eq (S : Int) (v c : List Int) : law15_proof S v c = some ((S, v), c) := rfl
theorem Check1 : certificate_Check IT 12 2 [1, 2, 0, 1] [2, 0, 3, 1] = some 0 := by decide +kernel
theorem Check2 : certificate_Check IT 12 2 [1, 2, 0, 1] [2, 0] = some 17 := by decide +kernel
theorem Check3 : certificate_Check IT 12 2 [1, 1, 0, 1] [2, 0, 3, 1] = some 12 := by decide +kernel
theorem Check4 : certificate_Check IT 12 2 [1, 3, 0, 1] [2, 0, 3, 1] = some 0 := by decide +kernel
theorem Encode1 : certificate_Encode 1 [1] [0] = some ([1, 1, 0, 1, 1, 0], 0) := by decide +kernel
theorem Bytes1 : gen_Bytes [1, 1, 0, 1, 1, 0] [1, 1, 0, 1, 1, 0] = some true := by decide +kernel
theorem ints_same (a : List Int) (h : a.length < 4611686018427387904) : gen_Ints a a = some true := by rw [ints_ok a a h]; simp
theorem sane15_ok : law15_sane = some true := by
  obtain ⟨w, hw⟩ := Make_IT
  unfold law15_sane
  simp only [obind, four_IT, proof_eq, hw, Check1, Check2, Check3, Check4, Encode1, Bytes1]
  rfl

/-! ### Spoiled proofs -/
theorem spoil15_ok (l : List Int) (k S : Int) (codes c : List Int) (hk : 0 ≤ k ∧ k ≤ 1000000) (hc : codes.length ≤ 1000) (hc2 : c.length ≤ 1000) (hS : -1000000 ≤ S ∧ S ≤ 1000000) (B : Int) (hB : 0 ≤ B ∧ B ≤ 1000000) (hv : ∀ y, -B ≤ codes.getD y 0 ∧ codes.getD y 0 ≤ B) :
    ∃ S' codes' c' k', law15_spoil l k S codes c = some (((S', codes'), c'), k') ∧ codes'.length = codes.length ∧ c'.length ≤ c.length ∧ k ≤ k' ∧ k' ≤ k + 10 ∧ S - 1 ≤ S' ∧ S' ≤ S + 1 ∧ ∀ y, -(B + 4) ≤ codes'.getD y 0 ∧ codes'.getD y 0 ≤ B + 4 := by
  obtain ⟨z, e0, z0, z1⟩ := next_ok l k 6 hk.1 (by omega) (by omega) (by omega)
  have hvv : ∀ y, -(B + 4) ≤ codes.getD y 0 ∧ codes.getD y 0 ≤ B + 4 := fun y => by have := hv y; omega
  have J40 : ∀ t : Bool, (t = true → 0 < c.length) → ∃ S' codes' c' k', law15_spoil_J40 l S codes c (z, k + 1) t = some (((S', codes'), c'), k') ∧ codes'.length = codes.length ∧ c'.length ≤ c.length ∧ k ≤ k' ∧ k' ≤ k + 10 ∧ S - 1 ≤ S' ∧ S' ≤ S + 1 ∧ ∀ y, -(B + 4) ≤ codes'.getD y 0 ∧ codes'.getD y 0 ≤ B + 4 := by
    intro t ht
    unfold law15_spoil_J40
    simp only [List.nil_append]
    cases t with
    | true =>
      have hpos := ht rfl
      obtain ⟨i, e1, i0, i1⟩ := next_ok l (k + 1) c.length (by omega) (by omega) (by omega) (by omega)
      obtain ⟨q, e2, q0, q1⟩ := next_ok l (k + 1 + 1) 8 (by omega) (by omega) (by omega) (by omega)
      obtain ⟨x, _, ex⟩ := idx_of c i i0 i1
      rw [if_pos rfl, e1]
      simp only [obind]
      rw [e2]
      simp only [obind]
      rw [ex]
      exact ⟨_, _, _, _, rfl, rfl, by rw [List.length_set]; omega, by omega, by omega, by omega, by omega, hvv⟩
    | false =>
      obtain ⟨p, e1, hp⟩ := pick_ok l (k + 1) [(-1), 1] (by omega) (by omega) (by decide) (by decide)
      have hpr : -1 ≤ p ∧ p ≤ 1 := (by decide : ∀ x ∈ [(-1 : Int), 1], -1 ≤ x ∧ x ≤ 1) p hp
      rw [if_neg (by decide), e1]
      simp only [obind]
      rw [wr_id (by omega) (by omega)]
      exact ⟨_, _, _, _, rfl, rfl, Nat.le_refl _, by omega, by omega, by omega, by omega, hvv⟩
  have J32 : ∀ t : Bool, (t = true → 0 < c.length) → ∃ S' codes' c' k', law15_spoil_J32 l S codes c (z, k + 1) t = some (((S', codes'), c'), k') ∧ codes'.length = codes.length ∧ c'.length ≤ c.length ∧ k ≤ k' ∧ k' ≤ k + 10 ∧ S - 1 ≤ S' ∧ S' ≤ S + 1 ∧ ∀ y, -(B + 4) ≤ codes'.getD y 0 ∧ codes'.getD y 0 ≤ B + 4 := by
    intro t ht
    unfold law15_spoil_J32
    simp only [List.nil_append]
    cases t with
    | true =>
      have hpos := ht rfl
      obtain ⟨i, e1, i1⟩ := next_nat l (k + 1) c.length (by omega) (by omega) (by omega) (by omega)
      rw [if_pos rfl, e1]
      simp only [obind]
      rw [wr_id (n := (i : Int) + 1) (by omega) (by omega), if_pos ⟨by omega, by omega⟩, if_pos ⟨by omega, by omega, by omega⟩]
      have hl : (c.take (Int.toNat (i : Int))).length + ((c.drop (Int.toNat ((i : Int) + 1))).take (Int.toNat ((c.length : Nat) : Int) - Int.toNat ((i : Int) + 1))).length ≤ c.length := by
        rw [List.length_take, List.length_take, List.length_drop]; omega
      rw [if_pos (by omega)]
      exact ⟨_, _, _, _, rfl, rfl, by rw [List.length_append]; exact hl, by omega, by omega, by omega, by omega, hvv⟩
    | false =>
      rw [if_neg (by decide)]
      split
      · exact J40 _ (fun h => by have := of_decide_eq_true h; omega)
      · exact J40 false (fun h => by cases h)
  have J19 : ∀ t : Bool, (t = true → 0 < codes.length) → ∃ S' codes' c' k', law15_spoil_J19 l S codes c (z, k + 1) t = some (((S', codes'), c'), k') ∧ codes'.length = codes.length ∧ c'.length ≤ c.length ∧ k ≤ k' ∧ k' ≤ k + 10 ∧ S - 1 ≤ S' ∧ S' ≤ S + 1 ∧ ∀ y, -(B + 4) ≤ codes'.getD y 0 ∧ codes'.getD y 0 ≤ B + 4 := by
    intro t ht
    unfold law15_spoil_J19
    simp only [List.nil_append]
    cases t with
    | true =>
      have hpos := ht rfl
      obtain ⟨i, e1, i1⟩ := next_nat l (k + 1) codes.length (by omega) (by omega) (by omega) (by omega)
      obtain ⟨p, e2, hp⟩ := pick_ok l (k + 1 + 1) [(-1), 1, 2, (-4), 4] (by omega) (by omega) (by decide) (by decide)
      have hpr : -4 ≤ p ∧ p ≤ 4 := (by decide : ∀ x ∈ [(-1 : Int), 1, 2, -4, 4], -4 ≤ x ∧ x ≤ 4) p hp
      have hvi := hv i
      rw [if_pos rfl, e1]
      simp only [obind]
      rw [idx_getD (l := codes) (i := i) (by omega)]
      simp only [obind]
      rw [e2]
      simp only [obind]
      rw [wr_id (by omega) (by omega)]
      refine ⟨_, _, _, _, rfl, by rw [List.length_set], Nat.le_refl _, by omega, by omega, by omega, by omega, fun y => ?_⟩
      rw [getD_set]
      split
      · split <;> omega
      · exact hvv y
    | false =>
      rw [if_neg (by decide)]
      split
      · exact J32 _ (fun h => by have := of_decide_eq_true h; omega)
      · exact J32 false (fun h => by cases h)
  unfold law15_spoil
  simp only [List.length_nil]
  rw [if_pos (by omega), if_pos (by omega), e0]
  simp only [obind, List.nil_append]
  split
  · exact J19 _ (fun h => by have := of_decide_eq_true h; omega)
  · exact J19 false (fun h => by cases h)
end Go.Proofs.Ytcignnfdpgeogaa
