/- Plain laws: sorted lists without equal neighbours. No condition beyond those of each theorem. -/
import Derived.Test.YtdjadgodphfihaaPgen
import Derived.Lib.SlicesCompact
set_option linter.unusedVariables false
set_option linter.unusedSectionVars false
set_option linter.unusedSimpArgs false
set_option maxRecDepth 100000
namespace Go.Proofs.Ytdjadgodphfihaa
open Go Go.V Go.Proofs

theorem getD_set (l : List Int) (i j : Nat) (a : Int) : (l.set i a).getD j 0 = if i = j ∧ i < l.length then a else l.getD j 0 := by
  rw [List.getD_eq_getElem?_getD, List.getElem?_set, List.getD_eq_getElem?_getD]
  by_cases h : i = j
  · subst h
    by_cases h2 : i < l.length
    · simp [h2]
    · simp [h2]
  · simp [h]
theorem idx_getD {l : List Int} {i : Nat} (h : i < l.length) : idx l (i : Int) = some (l.getD i 0) := by
  rw [idx_nat, List.getElem?_eq_getElem h, List.getD_eq_getElem?_getD, List.getElem?_eq_getElem h]; rfl
theorem ints_same (a : List Int) (h : a.length < 4611686018427387904) : gen_Ints a a = some true := by rw [ints_ok a a h]; simp

theorem compact_upto (xs : List Int) (hs : xs.Pairwise (· ≤ ·)) : ∀ m, m ≤ xs.length → (Go.Lib.compactUpTo xs.toArray m).Pairwise (· < ·) ∧ ∀ x, x ∈ Go.Lib.compactUpTo xs.toArray m ↔ ∃ j, j < m ∧ xs.getD j 0 = x
  | 0, _ => ⟨by simp [Go.Lib.compactUpTo], fun x => by simp [Go.Lib.compactUpTo]⟩
  | m + 1, hm => by
    obtain ⟨h1, h2⟩ := compact_upto xs hs m (by omega)
    have hget : ∀ j, j < xs.length → xs.toArray[j]! = xs.getD j 0 := fun j hj => by
      rw [getElem!_pos xs.toArray j (by simpa using hj), List.getD_eq_getElem?_getD, List.getElem?_eq_getElem hj]; simp
    have hle : ∀ i j, i ≤ j → j < xs.length → xs.getD i 0 ≤ xs.getD j 0 := fun i j hij hj => by
      by_cases e : i = j
      · subst e; exact Int.le_refl _
      · have := List.pairwise_iff_getElem.1 hs i j (by omega) hj (by omega)
        rw [List.getD_eq_getElem?_getD, List.getD_eq_getElem?_getD, List.getElem?_eq_getElem hj, List.getElem?_eq_getElem (by omega : i < xs.length)]
        exact this
    rw [Go.Lib.compactUpTo_succ, hget m (by omega)]
    cases hk : Go.Lib.keeps xs.toArray m with
    | true =>
      simp only [if_true]
      refine ⟨List.pairwise_append.2 ⟨h1, by simp, fun a ha b hb => ?_⟩, fun x => ?_⟩
      · rw [List.mem_singleton] at hb
        subst hb
        obtain ⟨j, hj, rfl⟩ := (h2 a).1 ha
        have hm0 : 0 < m := by omega
        have hne : xs.getD m 0 ≠ xs.getD (m - 1) 0 := fun e => by
          rw [Go.Lib.keeps_neg hm0 (by rw [hget m (by omega), hget (m - 1) (by omega), e])] at hk
          cases hk
        have := hle j (m - 1) (by omega) (by omega)
        have := hle (m - 1) m (by omega) (by omega)
        omega
      · rw [List.mem_append, List.mem_singleton, h2]
        constructor
        · rintro (⟨j, hj, e⟩ | e)
          · exact ⟨j, by omega, e⟩
          · exact ⟨m, by omega, e.symm⟩
        · rintro ⟨j, hj, e⟩
          by_cases q : j = m
          · subst q; exact .inr e.symm
          · exact .inl ⟨j, by omega, e⟩
    | false =>
      simp only [Bool.false_eq_true, if_false, List.append_nil]
      have hm0 : 0 < m := by
        rcases Nat.eq_zero_or_pos m with q | q
        · subst q
          rw [Go.Lib.keeps_lt_one _ 0 (by omega)] at hk
          cases hk
        · exact q
      have he : xs.getD m 0 = xs.getD (m - 1) 0 := by
        refine Classical.byContradiction fun q => ?_
        rw [Go.Lib.keeps_pos (by rw [hget m (by omega), hget (m - 1) (by omega)]; exact q)] at hk
        cases hk
      refine ⟨h1, fun x => ?_⟩
      rw [h2]
      constructor
      · rintro ⟨j, hj, e⟩; exact ⟨j, by omega, e⟩
      · rintro ⟨j, hj, e⟩
        by_cases q : j = m
        · subst q; exact ⟨j - 1, by omega, by rw [← he]; exact e⟩
        · exact ⟨j, by omega, e⟩
/-- What sorting and compacting leave: each number once, in ascending order. -/
theorem sorted_compact (xs : List Int) : (Go.Lib.compact (sortI xs)).Pairwise (· < ·) ∧ ∀ x, x ∈ Go.Lib.compact (sortI xs) ↔ x ∈ xs := by
  have hs := sortI_sorted xs
  have hp := sortI_perm xs
  obtain ⟨h1, h2⟩ := compact_upto (sortI xs) hs _ (Nat.le_refl _)
  refine ⟨h1, fun x => ?_⟩
  rw [← hp.mem_iff]
  show x ∈ Go.Lib.compactUpTo (sortI xs).toArray (sortI xs).length ↔ _
  rw [h2]
  constructor
  · rintro ⟨j, hj, rfl⟩
    rw [List.getD_eq_getElem?_getD, List.getElem?_eq_getElem hj]
    exact List.getElem_mem hj
  · intro hx
    obtain ⟨j, hj, e⟩ := List.getElem_of_mem hx
    exact ⟨j, hj, by rw [List.getD_eq_getElem?_getD, List.getElem?_eq_getElem hj]; exact e⟩
theorem asc_unique : ∀ (l k : List Int), l.Pairwise (· < ·) → k.Pairwise (· < ·) → (∀ x, x ∈ l ↔ x ∈ k) → l = k
  | [], [], _, _, _ => rfl
  | [], y :: k, _, _, h => by have := (h y).2 (by simp); simp at this
  | x :: l, [], _, _, h => by have := (h x).1 (by simp); simp at this
  | x :: l, y :: k, hl, hk, h => by
    rw [List.pairwise_cons] at hl hk
    have hxy : x = y := by
      have h1 := (h x).1 (by simp)
      have h2 := (h y).2 (by simp)
      rcases List.mem_cons.1 h1 with e | e
      · exact e
      · rcases List.mem_cons.1 h2 with e2 | e2
        · exact e2.symm
        · have := hk.1 x e
          have := hl.1 y e2
          omega
    subst hxy
    rw [asc_unique l k hl.2 hk.2 (fun z => by
      constructor
      · intro hz
        rcases List.mem_cons.1 ((h z).1 (List.mem_cons_of_mem _ hz)) with e | e
        · have := hl.1 z hz; omega
        · exact e
      · intro hz
        rcases List.mem_cons.1 ((h z).2 (List.mem_cons_of_mem _ hz)) with e | e
        · have := hk.1 z hz; omega
        · exact e)]
end Go.Proofs.Ytdjadgodphfihaa
