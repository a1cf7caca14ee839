/- Sorting and compacting slices of strings, as contracts on slices that are owned. Conditions: those of each theorem. -/
import Derived.Test.YteimkmjnjnaifaaH
import Derived.Test.YteimkmjnjnaifaaW
import Derived.Shelf.Slices.CompactS
import Derived.Shelf.Sort.Plain
import Derived.Shelf.Slices.In.SortNone
set_option linter.unusedSimpArgs false
set_option linter.unusedVariables false
namespace Go.V
open Go Go.Sort Go.Proofs

theorem putCells_sizeS {α : Type} [Inhabited α] (enc : α → Value) (off : Nat) (d : Array α) (c : Array Value) : (putCells enc off d c).size = c.size := by simp [putCells]
theorem own_putS {T : TypeId} {w : World} {M : List Nat} {a : Option Addr} {c : Nat} {xs : List (List UInt8)} {g n : Nat} {os : Array Obj} {d : Array (List UInt8)}
    (h : OwnS eStr T w M a c xs) (ha : a = some ⟨g, 0, none⟩) (hd : d.size ≤ c) :
    Ev (blk a) w (grow (putRow encStr (Sort.ahead w n) g 0 d) os) ∧ ∀ M', OwnS eStr T (grow (putRow encStr (Sort.ahead w n) g 0 d) os) M' a c d.toList := by
  rcases h with ⟨h, _, _⟩ | ⟨g', cur, hg', hg, h1, h2, h3, h4⟩
  · rw [h] at ha; cases ha
  rw [ha] at hg'
  cases hg'
  subst ha
  have hlt := lt_of_heap hg
  refine ⟨⟨rfl, rfl, rfl, by simp [Sort.ahead], fun k hk hm => ?_⟩, fun M' => .inr ⟨g, putCells encStr 0 d cur, rfl, ?_, ?_, h2, ?_, fun i x hx => ⟨[Vs x], rfl, fun k v hv => ?_⟩⟩⟩
  · rw [heap_grow_old _ _ (by simpa [Sort.ahead] using hk)]
    have : g ≠ k := fun e => hm (by simp [blk, e])
    simp [putRow, mapBlock, Sort.ahead, Array.getElem?_modify, this]
  · rw [heap_grow_old _ _ (by simpa [Sort.ahead] using hlt)]
    simp [putRow, mapBlock, Sort.ahead, Array.getElem?_modify, hg, onCells]
  · simp only [Array.length_toList]; exact hd
  · rw [putCells_sizeS]; exact h3
  · have hc1 : eStr.n = 1 := rfl
    cases k with
    | succ k => simp at hv
    | zero =>
      simp only [List.getElem?_cons_zero, Option.some.injEq] at hv
      subst hv
      rw [hc1, Nat.mul_one, Nat.add_zero]
      have hi : i < d.size := by
        have := (List.getElem?_eq_some_iff.1 hx).1
        simpa using this
      have hic : i < cur.size := by rw [h3, hc1]; omega
      rw [Array.getElem?_toList, Array.getElem?_eq_getElem hi] at hx
      simp only [Option.some.injEq] at hx
      subst hx
      simp only [putCells, Array.getElem?_mapIdx, Array.getElem?_eq_getElem hic, Option.map_some, Nat.zero_le, Nat.zero_add, hi, and_self, if_true, Nat.sub_zero]
      rw [getElem!_pos d i hi]

theorem own_HoldsS {T : TypeId} {w : World} {M : List Nat} {a : Option Addr} {c : Nat} {xs : List (List UInt8)} {g : Nat} (h : OwnS eStr T w M a c xs) (ha : a = some ⟨g, 0, none⟩) : Holds encStr w g 0 xs.toArray := by
  rcases h with ⟨h, _, _⟩ | ⟨g', cur, hg', hg, h1, h2, h3, h4⟩
  · rw [h] at ha; cases ha
  rw [ha] at hg'
  cases hg'
  intro j hj
  have hj' : j < xs.length := by simpa using hj
  refine ⟨?_, by simp [World.frozen?, hg]⟩
  obtain ⟨cs, h5, h6⟩ := h4 j xs[j] (List.getElem?_eq_getElem hj')
  have h5' : cs = [Vs xs[j]] := h5
  have h7 := h6 0 _ (by rw [h5']; rfl)
  have hc1 : eStr.n = 1 := rfl
  rw [hc1, Nat.mul_one, Nat.add_zero] at h7
  rw [Nat.zero_add, box_cell hg, getElem!_pos xs.toArray j hj, h7]
  simp
theorem own_casesS {T : TypeId} {w : World} {M : List Nat} {a : Option Addr} {c : Nat} {xs : List (List UInt8)} (h : OwnS eStr T w M a c xs) : xs = [] ∨ ∃ g, a = some ⟨g, 0, none⟩ := by
  rcases h with ⟨_, _, h⟩ | ⟨g, _, h, _⟩
  · exact .inl h
  · exact .inr ⟨g, h⟩
theorem own_smallS {T : TypeId} {w : World} {M : List Nat} {a : Option Addr} {c : Nat} {xs : List (List UInt8)} (h : OwnS eStr T w M a c xs) : xs.length ≤ 9223372036854775807 := by
  rcases h with ⟨_, _, h⟩ | ⟨g, _, h, _, h1, h2, _⟩
  · subst h; simp
  · unfold maxLen at h2; omega
theorem own_emptyS {T : TypeId} {w : World} {M M' : List Nat} {a : Option Addr} {c : Nat} (h : OwnS eStr T w M a c []) : OwnS eStr T w M' a c [] := by
  rcases h with h | ⟨g', cur, hg', hg, h1, h2, h3, h4⟩
  · exact .inl h
  · exact .inr ⟨g', cur, hg', hg, h1, h2, h3, fun i x hx => by cases hx⟩

/-- Strings in the order of their bytes. -/
def sortS (l : List (List UInt8)) : List (List UInt8) := l.mergeSort fun x y => decide (x ≤ y)
theorem sortS_perm (l : List (List UInt8)) : (sortS l).Perm l := List.mergeSort_perm l _

theorem sortS_w {P : Program} {ρ : Go.Shelf.Ren} (L : Lays.n190 P ρ) {f : Nat} (hf : ρ.f 190 = f) (hcal : ∃ fn, P.funcs[f]? = some fn ∧ (fn.name == "runtime.NumGoroutine") = false ∧ fn.body.isNone = false)
    {T : TypeId} {w : World} {M : List Nat} {a : Option Addr} {c : Nat} {xs : List (List UInt8)} (h : OwnS eStr T w M a c xs) (hl : xs.length ≤ 4294967296) :
    CallVC P f [.slice a xs.length c] w fun v w' => v = .tuple #[] ∧ Ev (blk a) w w' ∧ (sortS xs).length = xs.length ∧ ∀ M', OwnS eStr T w' M' a c (sortS xs) := by
  refine ⟨?_, hcal⟩
  subst hf
  rcases own_casesS h with hx | ⟨g, ha⟩
  · subst hx
    have e0 : sortS [] = [] := List.mergeSort_nil
    refine (Any.slices_Sort_string_none L a c w).mono fun e w' ⟨he, hw⟩ => ⟨_, he, rfl, ?_, by rw [e0], fun M' => ?_⟩
    · rw [hw]; exact Ev.refl _ _
    · rw [hw, e0]; exact own_emptyS h
  · have key := Any.slices_Sort_string L g 0 c xs w (own_HoldsS h ha) (h.lt g (by rw [ha]; simp [blk])) (by omega)
    rw [← ha] at key
    have hlen : (sortS xs).length = xs.length := (sortS_perm xs).length_eq
    refine key.mono fun e w' ⟨he, n, os, hw⟩ => ⟨_, he, rfl, ?_, hlen, fun M' => ?_⟩
    · rw [hw]; exact (own_putS (n := n) (os := os) (d := (sortS xs).toArray) h ha (by simp [hlen]; exact h.le)).1
    · rw [hw]
      have := (own_putS (n := n) (os := os) (d := (sortS xs).toArray) h ha (by simp [hlen]; exact h.le)).2 M'
      rw [List.toList_toArray] at this
      exact this

theorem compactS_w {P : Program} {ρ : Go.Shelf.Ren} (L : Lays.n194 P ρ) {f : Nat} (hf : ρ.f 194 = f) (hcal : ∃ fn, P.funcs[f]? = some fn ∧ (fn.name == "runtime.NumGoroutine") = false ∧ fn.body.isNone = false)
    {T : TypeId} {w : World} {M : List Nat} {a : Option Addr} {c : Nat} {xs : List (List UInt8)} (h : OwnS eStr T w M a c xs) :
    CallVC P f [.slice a xs.length c] w fun v w' => v = .slice a (Lib.compact xs).length c ∧ Ev (blk a) w w' ∧ ∀ M', OwnS eStr T w' M' a c (Lib.compact xs) := by
  refine ⟨?_, hcal⟩
  subst hf
  rcases own_casesS h with hx | ⟨g, ha⟩
  · subst hx
    refine (Any.slices_Compact_string_empty L a c w).mono fun e w' ⟨he, hw⟩ => ⟨_, he, rfl, ?_, fun M' => ?_⟩
    · rw [hw]; exact Ev.refl _ _
    · rw [hw]; exact own_emptyS h
  · have key := Any.slices_Compact_string L g 0 c xs w (own_HoldsS h ha) (own_smallS h) h.le
    rw [← ha] at key
    have hcl : (Lib.compact xs).length ≤ xs.length := by
      unfold Lib.compact Lib.compactUpTo
      rw [List.length_map]
      exact Nat.le_trans (List.length_filter_le _ _) (by simp)
    refine key.mono fun e w' ⟨he, n, hw⟩ => ⟨_, he, rfl, ?_, fun M' => ?_⟩
    · rw [hw]
      have := (own_putS (n := n) (os := #[]) (d := (Lib.compact xs ++ List.replicate (xs.length - (Lib.compact xs).length) []).toArray) h ha (by have := h.le; simp; omega)).1
      rw [grow_empty] at this
      exact this
    · rw [hw]
      have := ((own_putS (n := n) (os := #[]) (d := (Lib.compact xs ++ List.replicate (xs.length - (Lib.compact xs).length) []).toArray) h ha (by have := h.le; simp; omega)).2 M').trunc (Lib.compact xs).length
      rw [grow_empty] at this
      simpa using this
end Go.V
