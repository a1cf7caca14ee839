/- Plain laws: bytes and strings, their order, and what sorting and compacting leave. No condition beyond those of each theorem. -/
import Derived.Test.YteimkmjnjnaifaaPWgen
import Derived.Lib.SlicesCompact
set_option linter.unusedVariables false
set_option linter.unusedSectionVars false
set_option linter.unusedSimpArgs false
set_option maxRecDepth 100000
namespace Go.Proofs.Yteimkmjnjnaifaa
open Go Go.V Go.Proofs

/-- The byte at a place, as a number. -/
def gv (s : List UInt8) (i : Nat) : Int := ((s.getD i 0).toNat : Int)
theorem gv_bd (s : List UInt8) (i : Nat) : 0 ≤ gv s i ∧ gv s i ≤ 255 := by
  unfold gv
  have := (s.getD i 0).toNat_lt
  omega
theorem sAt_ok {s : List UInt8} {i : Nat} (h : i < s.length) : sAt s (i : Int) = some (gv s i) := by
  unfold sAt gv
  rw [idx_nat, List.getElem?_eq_getElem h, List.getD_eq_getElem?_getD, List.getElem?_eq_getElem h]
  rfl
theorem u8wrap {n : Int} (h0 : 0 ≤ n) (h1 : n ≤ 255) : IntKind.u8.wrap n = n := by
  have e : IntKind.u8.wrap n = n % 256 := by
    unfold IntKind.wrap
    simp [IntKind.bits, IntKind.signed]
  rw [e]
  omega

/-! ### The order of strings -/
theorem sLt_irrefl : ∀ a, sLt a a = false
  | [] => rfl
  | x :: a => by
    have := sLt_irrefl a
    unfold sLt at this ⊢
    simp [Op.bytesLess, this]
theorem sLt_trans : ∀ a b c, sLt a b = true → sLt b c = true → sLt a c = true
  | _, [], _, h, _ => by unfold sLt at h; simp [Op.bytesLess] at h
  | _, _ :: _, [], _, h => by unfold sLt at h; simp [Op.bytesLess] at h
  | [], _ :: _, _ :: _, _, _ => by unfold sLt; simp [Op.bytesLess]
  | x :: a, y :: b, z :: c, h1, h2 => by
    have ih := sLt_trans a b c
    unfold sLt at *
    simp only [Op.bytesLess, Bool.or_eq_true, decide_eq_true_eq, Bool.and_eq_true, beq_iff_eq] at *
    rcases h1 with h1 | ⟨h1, h3⟩
    · rcases h2 with h2 | ⟨h2, h4⟩
      · exact .inl (UInt8.lt_trans h1 h2)
      · subst h2; exact .inl h1
    · subst h1
      rcases h2 with h2 | ⟨h2, h4⟩
      · exact .inl h2
      · exact .inr ⟨h2, ih h3 h4⟩
theorem sLt_tri : ∀ a b, sLt a b = true ∨ a = b ∨ sLt b a = true
  | [], [] => .inr (.inl rfl)
  | [], _ :: _ => .inl (by unfold sLt; simp [Op.bytesLess])
  | _ :: _, [] => .inr (.inr (by unfold sLt; simp [Op.bytesLess]))
  | x :: a, y :: b => by
    have ih := sLt_tri a b
    unfold sLt at *
    simp only [Op.bytesLess, Bool.or_eq_true, decide_eq_true_eq, Bool.and_eq_true, beq_iff_eq, List.cons.injEq] at *
    rcases Nat.lt_trichotomy x.toNat y.toNat with h | h | h
    · exact .inl (.inl h)
    · have h : x = y := UInt8.toNat_inj.1 h
      subst h
      rcases ih with h | h | h
      · exact .inl (.inr ⟨rfl, h⟩)
      · exact .inr (.inl ⟨rfl, h⟩)
      · exact .inr (.inr (.inr ⟨rfl, h⟩))
    · exact .inr (.inr (.inl h))
theorem sLt_iff : ∀ a b : List UInt8, sLt a b = true ↔ a < b
  | [], [] => by unfold sLt; simp [Op.bytesLess]
  | [], _ :: _ => by unfold sLt; simp [Op.bytesLess]
  | _ :: _, [] => by unfold sLt; simp [Op.bytesLess]
  | x :: a, y :: b => by
    have ih := sLt_iff a b
    unfold sLt at *
    simp only [Op.bytesLess, Bool.or_eq_true, decide_eq_true_eq, Bool.and_eq_true, beq_iff_eq]
    rw [ih, List.cons_lt_cons_iff]
theorem le_iff (a b : List UInt8) : a ≤ b ↔ sLt b a = false := by
  rw [← List.not_lt, ← sLt_iff]
  simp
theorem sortS_sorted (l : List (List UInt8)) : (sortS l).Pairwise (fun x y => sLt y x = false) := by
  have := List.pairwise_mergeSort (le := fun x y : List UInt8 => decide (x ≤ y)) (fun a b c h1 h2 => by
    simp only [decide_eq_true_eq, le_iff] at *
    rcases sLt_tri b a with h | h | h
    · rw [h] at h1; cases h1
    · subst h; exact h2
    · cases hca : sLt c a with
      | false => rfl
      | true =>
        have := sLt_trans c a b hca h
        rw [this] at h2; cases h2) (fun a b => by
    simp only [Bool.or_eq_true, decide_eq_true_eq, le_iff]
    rcases sLt_tri a b with h | h | h
    · left
      cases hba : sLt b a with
      | false => rfl
      | true =>
        have := sLt_trans a b a h hba
        rw [sLt_irrefl] at this; cases this
    · subst h; exact .inl (sLt_irrefl _)
    · right
      cases hab : sLt a b with
      | false => rfl
      | true =>
        have := sLt_trans a b a hab h
        rw [sLt_irrefl] at this; cases this) l
  refine this.imp fun {x y} h => ?_
  simp only [decide_eq_true_eq] at h
  exact (le_iff x y).1 h

theorem compactS_upto (xs : List (List UInt8)) (hs : xs.Pairwise (fun x y => sLt y x = false)) : ∀ m, m ≤ xs.length → (Go.Lib.compactUpTo xs.toArray m).Pairwise (fun x y => sLt x y = true) ∧ ∀ x, x ∈ Go.Lib.compactUpTo xs.toArray m ↔ ∃ j, j < m ∧ xs.getD j [] = x
  | 0, _ => ⟨by simp [Go.Lib.compactUpTo], fun x => by simp [Go.Lib.compactUpTo]⟩
  | m + 1, hm => by
    obtain ⟨h1, h2⟩ := compactS_upto xs hs m (by omega)
    have hget : ∀ j, j < xs.length → xs.toArray[j]! = xs.getD j [] := fun j hj => by
      rw [getElem!_pos xs.toArray j (by simpa using hj), List.getD_eq_getElem?_getD, List.getElem?_eq_getElem hj]; simp
    have hle : ∀ i j, i ≤ j → j < xs.length → sLt (xs.getD j []) (xs.getD i []) = false := fun i j hij hj => by
      by_cases e : i = j
      · subst e; exact sLt_irrefl _
      · have := List.pairwise_iff_getElem.1 hs i j (by omega) hj (by omega)
        rw [List.getD_eq_getElem?_getD, List.getD_eq_getElem?_getD, List.getElem?_eq_getElem hj, List.getElem?_eq_getElem (by omega : i < xs.length)]
        exact this
    rw [Go.Lib.compactUpTo_succ, hget m (by omega)]
    cases hk : Go.Lib.keeps xs.toArray m with
    | true =>
      simp only [if_true]
      refine ⟨List.pairwise_append.2 ⟨h1, by simp, fun a ha b hb => ?_⟩, fun x => ?_⟩
      · rw [List.mem_singleton] at hb
        subst hb
        obtain ⟨j, hj, rfl⟩ := (h2 a).1 ha
        have hm0 : 0 < m := by omega
        have hne : xs.getD m [] ≠ xs.getD (m - 1) [] := fun e => by
          rw [Go.Lib.keeps_neg hm0 (by rw [hget m (by omega), hget (m - 1) (by omega), e])] at hk
          cases hk
        have q1 := hle j (m - 1) (by omega) (by omega)
        have q2 := hle (m - 1) m (by omega) (by omega)
        have q3 : sLt (xs.getD (m - 1) []) (xs.getD m []) = true := by
          rcases sLt_tri (xs.getD (m - 1) []) (xs.getD m []) with h | h | h
          · exact h
          · exact absurd h.symm hne
          · rw [h] at q2; cases q2
        rcases sLt_tri (xs.getD j []) (xs.getD (m - 1) []) with h | h | h
        · exact sLt_trans _ _ _ h q3
        · rw [h]; exact q3
        · rw [h] at q1; cases q1
      · rw [List.mem_append, List.mem_singleton, h2]
        constructor
        · rintro (⟨j, hj, e⟩ | e)
          · exact ⟨j, by omega, e⟩
          · exact ⟨m, by omega, e.symm⟩
        · rintro ⟨j, hj, e⟩
          by_cases q : j = m
          · subst q; exact .inr e.symm
          · exact .inl ⟨j, by omega, e⟩
    | false =>
      simp only [Bool.false_eq_true, if_false, List.append_nil]
      have hm0 : 0 < m := by
        rcases Nat.eq_zero_or_pos m with q | q
        · subst q
          rw [Go.Lib.keeps_lt_one _ 0 (by omega)] at hk
          cases hk
        · exact q
      have he : xs.getD m [] = xs.getD (m - 1) [] := by
        refine Classical.byContradiction fun q => ?_
        rw [Go.Lib.keeps_pos (by rw [hget m (by omega), hget (m - 1) (by omega)]; exact q)] at hk
        cases hk
      refine ⟨h1, fun x => ?_⟩
      rw [h2]
      constructor
      · rintro ⟨j, hj, e⟩; exact ⟨j, by omega, e⟩
      · rintro ⟨j, hj, e⟩
        by_cases q : j = m
        · subst q; exact ⟨j - 1, by omega, by rw [← he]; exact e⟩
        · exact ⟨j, by omega, e⟩
/-- What sorting and compacting leave: each string once, in ascending order. -/
theorem sorted_compactS (xs : List (List UInt8)) : (Go.Lib.compact (sortS xs)).Pairwise (fun x y => sLt x y = true) ∧ ∀ x, x ∈ Go.Lib.compact (sortS xs) ↔ x ∈ xs := by
  have hs := sortS_sorted xs
  have hp := sortS_perm xs
  obtain ⟨h1, h2⟩ := compactS_upto (sortS xs) hs _ (Nat.le_refl _)
  refine ⟨h1, fun x => ?_⟩
  rw [← hp.mem_iff]
  show x ∈ Go.Lib.compactUpTo (sortS xs).toArray (sortS xs).length ↔ _
  rw [h2]
  constructor
  · rintro ⟨j, hj, rfl⟩
    rw [List.getD_eq_getElem?_getD, List.getElem?_eq_getElem hj]
    exact List.getElem_mem hj
  · intro hx
    obtain ⟨j, hj, e⟩ := List.getElem_of_mem hx
    exact ⟨j, hj, by rw [List.getD_eq_getElem?_getD, List.getElem?_eq_getElem hj]; exact e⟩
theorem ascS_unique : ∀ (l k : List (List UInt8)), l.Pairwise (fun x y => sLt x y = true) → k.Pairwise (fun x y => sLt x y = true) → (∀ x, x ∈ l ↔ x ∈ k) → l = k
  | [], [], _, _, _ => rfl
  | [], y :: k, _, _, h => by have := (h y).2 (by simp); simp at this
  | x :: l, [], _, _, h => by have := (h x).1 (by simp); simp at this
  | x :: l, y :: k, hl, hk, h => by
    rw [List.pairwise_cons] at hl hk
    have no : ∀ a b, sLt a b = true → sLt b a = true → False := fun a b h1 h2 => by
      have := sLt_trans _ _ _ h1 h2
      rw [sLt_irrefl] at this; cases this
    have hxy : x = y := by
      have h1 := (h x).1 (by simp)
      have h2 := (h y).2 (by simp)
      rcases List.mem_cons.1 h1 with e | e
      · exact e
      · rcases List.mem_cons.1 h2 with e2 | e2
        · exact e2.symm
        · exact (no _ _ (hk.1 x e) (hl.1 y e2)).elim
    subst hxy
    rw [ascS_unique l k hl.2 hk.2 (fun z => by
      constructor
      · intro hz
        rcases List.mem_cons.1 ((h z).1 (List.mem_cons_of_mem _ hz)) with e | e
        · subst e; have := hl.1 z hz; rw [sLt_irrefl] at this; cases this
        · exact e
      · intro hz
        rcases List.mem_cons.1 ((h z).2 (List.mem_cons_of_mem _ hz)) with e | e
        · subst e; have := hk.1 z hz; rw [sLt_irrefl] at this; cases this
        · exact e)]
/-- A string put into an ascending list. -/
theorem ascS_insert {d : List (List UInt8)} (h : d.Pairwise (fun x y => sLt x y = true)) {k : Nat} {t : List UInt8} (hk : k ≤ d.length) (h1 : ∀ j, j < k → sLt (d.getD j []) t = true) (h2 : ∀ j, k ≤ j → j < d.length → sLt t (d.getD j []) = true) :
    (d.take k ++ ([t] ++ d.drop k)).Pairwise (fun x y => sLt x y = true) ∧ ∀ x, x ∈ d.take k ++ ([t] ++ d.drop k) ↔ x ∈ d ∨ x = t := by
  have ht : ∀ a ∈ d.take k, sLt a t = true := by
    intro a ha
    obtain ⟨i, hi, e⟩ := List.getElem_of_mem ha
    rw [List.length_take] at hi
    rw [List.getElem_take] at e
    have he : d.getD i [] = a := by rw [List.getD_eq_getElem?_getD, List.getElem?_eq_getElem (by omega : i < d.length)]; exact e
    rw [← he]
    exact h1 i (by omega)
  have hd : ∀ a ∈ d.drop k, sLt t a = true := by
    intro a ha
    obtain ⟨i, hi, e⟩ := List.getElem_of_mem ha
    rw [List.length_drop] at hi
    rw [List.getElem_drop] at e
    have he : d.getD (k + i) [] = a := by rw [List.getD_eq_getElem?_getD, List.getElem?_eq_getElem (by omega : k + i < d.length)]; exact e
    rw [← he]
    exact h2 (k + i) (by omega) (by omega)
  refine ⟨List.pairwise_append.2 ⟨h.sublist (List.take_sublist _ _), List.pairwise_append.2 ⟨by simp, h.sublist (List.drop_sublist _ _), fun a ha b hb => ?_⟩, fun a ha b hb => ?_⟩, fun x => ?_⟩
  · rw [List.mem_singleton] at ha
    subst ha
    exact hd b hb
  · rcases List.mem_append.1 hb with hb | hb
    · rw [List.mem_singleton] at hb
      subst hb
      exact ht a ha
    · exact sLt_trans _ _ _ (ht a ha) (hd b hb)
  · have he : x ∈ d ↔ x ∈ d.take k ∨ x ∈ d.drop k := by
      rw [← List.mem_append, List.take_append_drop]
    rw [he]
    simp only [List.mem_append, List.mem_singleton]
    constructor
    · rintro (q | q | q)
      · exact .inl (.inl q)
      · exact .inr q
      · exact .inl (.inr q)
    · rintro ((q | q) | q)
      · exact .inl q
      · exact .inr (.inr q)
      · exact .inr (.inl q)
end Go.Proofs.Yteimkmjnjnaifaa
