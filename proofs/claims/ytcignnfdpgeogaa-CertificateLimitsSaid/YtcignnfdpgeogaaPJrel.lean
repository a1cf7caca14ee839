
/- Plain laws: which item comes before which, and what the items before an item ask of it. No condition beyond those of each theorem. -/
import Derived.Test.YtcignnfdpgeogaaPJvalid
set_option linter.unusedVariables false
set_option linter.unusedSimpArgs false
set_option linter.unusedSectionVars false
set_option maxRecDepth 100000
namespace Go.Proofs.Ytcignnfdpgeogaa
open Go Go.V Go.Proofs


/-- 2, 1 or 0: item x comes strictly, weakly or not before item y. -/
def relI (a b : Item) (x y : Nat) : Int := if a.1 ≠ b.1 ∨ a.2.1 ≥ b.2.1 then 0 else if y < x then 2 else 1
def rel (its : List Item) (x y : Nat) : Int := match its[x]?, its[y]? with
  | some a, some b => relI a b x y
  | _, _ => 0
def bOf (its : List Item) (x : Nat) : Int := match its[x]? with
  | some a => a.2.1
  | none => 0

theorem rel_cases (its : List Item) (x y : Nat) : (rel its x y = 0) ∨ (∃ a b, its[x]? = some a ∧ its[y]? = some b ∧ a.1 = b.1 ∧ a.2.1 < b.2.1 ∧ rel its x y = if y < x then 2 else 1) := by
  unfold rel
  cases hx : its[x]? with
  | none => exact .inl rfl
  | some a =>
    cases hy : its[y]? with
    | none => exact .inl rfl
    | some b =>
      simp only [relI]
      by_cases h : a.1 ≠ b.1 ∨ a.2.1 ≥ b.2.1
      · rw [if_pos h]; exact .inl rfl
      · rw [if_neg h]
        refine .inr ⟨a, b, rfl, rfl, ?_, ?_, rfl⟩
        · exact Classical.byContradiction fun e => h (.inl e)
        · omega
theorem rel_range (its : List Item) (x y : Nat) : rel its x y = 0 ∨ rel its x y = 1 ∨ rel its x y = 2 := by
  rcases rel_cases its x y with h | ⟨_, _, _, _, _, _, h⟩
  · exact .inl h
  · rw [h]; split <;> simp
theorem rel_blk {its : List Item} {x y : Nat} (h : rel its x y > 0) : bOf its x < bOf its y ∧ x < its.length ∧ y < its.length := by
  rcases rel_cases its x y with h0 | ⟨a, b, ha, hb, _, h2, _⟩
  · omega
  · exact ⟨by simp only [bOf, ha, hb]; exact h2, (List.getElem?_eq_some_iff.1 ha).1, (List.getElem?_eq_some_iff.1 hb).1⟩


/-- What the first m items ask of the level of y. -/
def needU (its : List Item) (v : List Int) (y : Nat) : Nat → Int
  | 0 => 0
  | m + 1 => if rel its m y > 0 then (if v.getD m 0 + rel its m y - 1 > needU its v y m then v.getD m 0 + rel its m y - 1 else needU its v y m) else needU its v y m
def need (its : List Item) (v : List Int) (y : Nat) : Int := needU its v y its.length
structure IsLev (its : List Item) (v : List Int) : Prop where
  len : v.length = its.length
  eq : ∀ y, y < its.length → v.getD y 0 = need its v y

theorem needU_nonneg (its : List Item) (v : List Int) (y : Nat) : ∀ m, 0 ≤ needU its v y m
  | 0 => Int.le_refl 0
  | m + 1 => by
    have := needU_nonneg its v y m
    unfold needU
    split
    · split <;> omega
    · exact this
theorem needU_ge (its : List Item) (v : List Int) (y : Nat) : ∀ m x, x < m → rel its x y > 0 → v.getD x 0 + rel its x y - 1 ≤ needU its v y m
  | 0, x, h, _ => by omega
  | m + 1, x, h, hr => by
    unfold needU
    by_cases hx : x = m
    · subst hx
      rw [if_pos hr]
      split <;> omega
    · have := needU_ge its v y m x (by omega) hr
      split
      · split <;> omega
      · exact this
theorem needU_at (its : List Item) (v : List Int) (y : Nat) : ∀ m, needU its v y m = 0 ∨ ∃ x, x < m ∧ rel its x y > 0 ∧ v.getD x 0 + rel its x y - 1 = needU its v y m
  | 0 => .inl rfl
  | m + 1 => by
    have ih := needU_at its v y m
    unfold needU
    by_cases hr : rel its m y > 0
    · rw [if_pos hr]
      split
      · exact .inr ⟨m, by omega, hr, rfl⟩
      · rcases ih with h | ⟨x, h1, h2, h3⟩
        · exact .inl h
        · exact .inr ⟨x, by omega, h2, h3⟩
    · rw [if_neg hr]
      rcases ih with h | ⟨x, h1, h2, h3⟩
      · exact .inl h
      · exact .inr ⟨x, by omega, h2, h3⟩
theorem needU_congr {its : List Item} {v v' : List Int} {y : Nat} : ∀ m, (∀ x, x < m → rel its x y > 0 → v.getD x 0 = v'.getD x 0) → needU its v y m = needU its v' y m
  | 0, _ => rfl
  | m + 1, h => by
    have ih := needU_congr m (fun x hx hr => h x (by omega) hr)
    unfold needU
    by_cases hr : rel its m y > 0
    · rw [if_pos hr, if_pos hr, h m (by omega) hr, ih]
    · rw [if_neg hr, if_neg hr, ih]
theorem need_congr {its : List Item} {v v' : List Int} {y : Nat} (h : ∀ x, rel its x y > 0 → v.getD x 0 = v'.getD x 0) : need its v y = need its v' y := needU_congr _ (fun x _ hr => h x hr)

theorem getD_set (l : List Int) (i j : Nat) (a : Int) : (l.set i a).getD j 0 = if i = j ∧ i < l.length then a else l.getD j 0 := by
  rw [List.getD_eq_getElem?_getD, List.getElem?_set, List.getD_eq_getElem?_getD]
  by_cases h : i = j
  · subst h
    by_cases h2 : i < l.length
    · simp [h2]
    · simp [h2]
  · simp [h]
theorem idx_getD {l : List Int} {i : Nat} (h : i < l.length) : idx l (i : Int) = some (l.getD i 0) := by
  rw [idx_nat, List.getElem?_eq_getElem h, List.getD_eq_getElem?_getD, List.getElem?_eq_getElem h]; rfl


end Go.Proofs.Ytcignnfdpgeogaa
