
/- Sorting and its kin in Go's library, as contracts on slices that are owned. Conditions: those of each theorem. -/
import Derived.Test.YtgeceohdppecgaaH
import Derived.Shelf.SlSortCmp.NoneTotal
import Derived.Sort.OwnSortedInts
import Derived.Shelf.Slices.Reverse
import Derived.Shelf.Slices.CompactI
import Derived.Shelf.Sort.Plain
set_option linter.unusedSimpArgs false
set_option linter.unusedVariables false
namespace Go.V
open Go Go.Sort Go.Proofs

theorem putCells_size {α : Type} [Inhabited α] (enc : α → Value) (off : Nat) (d : Array α) (c : Array Value) : (putCells enc off d c).size = c.size := by simp [putCells]


/-- An own slice whose elements were written anew. -/
theorem own_put {α : Type} [Inhabited α] (f : α → Int) {T : TypeId} {w : World} {M : List Nat} {a : Option Addr} {c : Nat} {xs : List Int} {g n : Nat} {os : Array Obj} {d : Array α}
    (h : OwnS (eInt .i64) T w M a c xs) (ha : a = some ⟨g, 0, none⟩) (hd : d.size ≤ c) :
    Ev (blk a) w (grow (putRow (fun x => Value.int .i64 (f x)) (Sort.ahead w n) g 0 d) os) ∧ ∀ M', OwnS (eInt .i64) T (grow (putRow (fun x => Value.int .i64 (f x)) (Sort.ahead w n) g 0 d) os) M' a c (d.toList.map f) := by
  rcases h with ⟨h, _, _⟩ | ⟨g', cur, hg', hg, h1, h2, h3, h4⟩
  · rw [h] at ha; cases ha
  rw [ha] at hg'
  cases hg'
  subst ha
  have hlt := lt_of_heap hg
  refine ⟨⟨rfl, rfl, rfl, by simp [Sort.ahead], fun k hk hm => ?_⟩, fun M' => .inr ⟨g, putCells (fun x => Value.int .i64 (f x)) 0 d cur, rfl, ?_, ?_, h2, ?_, fun i x hx => ⟨[.int .i64 x], rfl, fun k v hv => ?_⟩⟩⟩
  · rw [heap_grow_old _ _ (by simpa [Sort.ahead] using hk)]
    have : g ≠ k := fun e => hm (by simp [blk, e])
    simp [putRow, mapBlock, Sort.ahead, Array.getElem?_modify, this]
  · rw [heap_grow_old _ _ (by simpa [Sort.ahead] using hlt)]
    simp [putRow, mapBlock, Sort.ahead, Array.getElem?_modify, hg, onCells]
  · simp only [List.length_map, Array.length_toList]; exact hd
  · rw [putCells_size]; exact h3
  · have hc1 : (eInt .i64).n = 1 := rfl
    cases k with
    | succ k => simp at hv
    | zero =>
      simp only [List.getElem?_cons_zero, Option.some.injEq] at hv
      subst hv
      rw [hc1, Nat.mul_one, Nat.add_zero]
      have hi : i < d.size := by
        have := (List.getElem?_eq_some_iff.1 hx).1
        simpa using this
      have hic : i < cur.size := by rw [h3, hc1]; omega
      rw [List.getElem?_map, Array.getElem?_toList, Array.getElem?_eq_getElem hi] at hx
      simp only [Option.map_some, Option.some.injEq] at hx
      subst hx
      simp only [putCells, Array.getElem?_mapIdx, Array.getElem?_eq_getElem hic, Option.map_some, Nat.zero_le, Nat.zero_add, hi, and_self, if_true, Nat.sub_zero]
      rw [getElem!_pos d i hi]

theorem own_holds {T : TypeId} {w : World} {M : List Nat} {a : Option Addr} {c : Nat} {xs : List Int} {g : Nat} (h : OwnS (eInt .i64) T w M a c xs) (ha : a = some ⟨g, 0, none⟩) :
    ∀ j, j < xs.length → w.cell? ⟨g, 0 + j, none⟩ = some (.int .i64 xs[j]!) ∧ w.frozen? ⟨g, 0 + j, none⟩ = false := by
  rcases h with ⟨h, _, _⟩ | ⟨g', cur, hg', hg, h1, h2, h3, h4⟩
  · rw [h] at ha; cases ha
  rw [ha] at hg'
  cases hg'
  intro j hj
  refine ⟨?_, by simp [World.frozen?, hg]⟩
  obtain ⟨cs, h5, h6⟩ := h4 j xs[j] (List.getElem?_eq_getElem hj)
  have h5' : cs = [.int .i64 xs[j]] := h5
  have := h6 0 _ (by rw [h5']; rfl)
  rw [Nat.zero_add, box_cell hg, getElem!_pos xs j hj]
  simpa [eInt] using this

theorem own_Holds {T : TypeId} {w : World} {M : List Nat} {a : Option Addr} {c : Nat} {xs : List Int} {g : Nat} (h : OwnS (eInt .i64) T w M a c xs) (ha : a = some ⟨g, 0, none⟩) : Holds (Value.int .i64) w g 0 xs.toArray := by
  intro j hj
  have hj' : j < xs.length := by simpa using hj
  have := own_holds h ha j hj'
  refine ⟨?_, this.2⟩
  rw [this.1, getElem!_pos xs j hj', getElem!_pos xs.toArray j hj]
  simp
theorem own_cases {T : TypeId} {w : World} {M : List Nat} {a : Option Addr} {c : Nat} {xs : List Int} (h : OwnS (eInt .i64) T w M a c xs) : xs = [] ∨ ∃ g, a = some ⟨g, 0, none⟩ := by
  rcases h with ⟨_, _, h⟩ | ⟨g, _, h, _⟩
  · exact .inl h
  · exact .inr ⟨g, h⟩
/-! ### slices.Reverse -/
/-! ### slices.Sort and slices.Compact -/
/-! ### slices.SortFunc -/



end Go.V
