
/- What any argument that came in reads as: integers, bools, strings, slices and structs of them. No condition. -/
import Derived.Test.YtlgdhajakblkaaaGreatDoorH
import Derived.Deep.Slices
namespace Go.V
open Go
def RD {α : Type} (P : Program) (e : Enc α) (t : TypeId) (Q : α → Prop) : Prop := ∀ (H : Type) (enc : TypeId × Value → H) (W : World) (base : Nat) (sp : Nat → Bool) (held : Bool) (fuel : Nat) (cs : List Value) (x : DataW H × List MemPlace),
  DataW.trod enc P W base sp held fuel t cs = some x → ∃ d, e.R W [] cs d ∧ Q d
theorem rd_int {P : Program} {t : TypeId} {k : IntKind} (ht : P.underlying t = some (.int k)) : RD P (eInt k) t (fun n => (Lit.int k n).wf = true) := by
  intro H enc W base sp held fuel cs x h
  obtain ⟨n, rfl, _, hw⟩ := DataW.trod_int ht h
  exact ⟨n, rfl, hw⟩
theorem list_of {α : Type} {p : Nat → α → Prop} : ∀ (n : Nat), (∀ i, i < n → ∃ y, p i y) → ∃ ys : List α, ys.length = n ∧ ∀ (i : Nat) (y : α), ys[i]? = some y → p i y
  | 0, _ => ⟨[], rfl, fun i y h => by simp at h⟩
  | n + 1, h => by
    obtain ⟨ys, h1, h2⟩ := list_of n (fun i hi => h i (by omega))
    obtain ⟨y, hy⟩ := h n (by omega)
    refine ⟨ys ++ [y], by simp [h1], fun i z hz => ?_⟩
    rcases Nat.lt_or_ge i ys.length with hi | hi
    · rw [List.getElem?_append_left hi] at hz; exact h2 i z hz
    · rw [List.getElem?_append_right hi] at hz
      have h0 : i - ys.length = 0 := by
        rcases Nat.eq_zero_or_pos (i - ys.length) with h | h
        · exact h
        · rw [List.getElem?_eq_none (by simp; omega)] at hz; cases hz
      rw [h0] at hz
      cases hz
      have : i = n := by omega
      subst this; exact hy
theorem rd_slice {P : Program} {α : Type} {e : Enc α} {t el : TypeId} {Q : α → Prop} (ht : P.underlying t = some (.slice el)) (hn : P.cellsOf el = e.n) (hp : Nat.blt 0 e.n = true) (he : RD P e el Q) : RD P (eSl e) t (fun l => ∀ y ∈ l, Q y) := by
  intro H enc W base sp held fuel cs x h
  have hp := Nat.le_of_ble_eq_true hp
  rcases Go.Deep.open_slice ht h with ⟨rfl, _⟩ | ⟨a, len, cap, m, n, D, Pl, rfl, hb, hl, hm, hmm, _, hx⟩
  · exact ⟨[], ⟨none, 0, rfl, SlR.empty _ _ _⟩, by simp⟩
  · have hlm : len ≤ m := by rw [hmm]; split <;> omega
    obtain ⟨ys, h1, h2⟩ := list_of (p := fun i y => ∃ cs', W.cells? base (a.add (i * e.n)) e.n = some cs' ∧ e.R W [] cs' y ∧ Q y) len (fun i hi => by
      obtain ⟨cs', c1, c2⟩ := hx i (by omega)
      rw [hn] at c1
      obtain ⟨y, c3, c4⟩ := he H enc W base sp held n cs' _ c2
      exact ⟨y, cs', c1, c3, c4⟩)
    have spot : 0 < len → a.spot = none ∧ a.block < W.heap.size := by
      intro hlen
      obtain ⟨cs', c1, c2⟩ := hx 0 (by omega)
      rw [hn] at c1
      obtain ⟨_, c3, c4⟩ := World.cells?_some c1
      have c5 := c4 0 (by omega)
      rw [List.getElem?_eq_getElem (by omega)] at c5
      have e0 : (a.add (0 * e.n)).add 0 = a := by simp [Addr.add]
      rw [e0] at c5
      refine ⟨World.cell?_spot c5, ?_⟩
      simp only [World.cell?] at c5
      split at c5
      · rename_i hb; exact lt_of_heap hb
      · cases c5
    refine ⟨ys, ⟨some a, cap, by rw [h1], ?_⟩, fun y hy => ?_⟩
    · refine ⟨by omega, hm, fun h => (by cases h), fun ad ha hpos => ?_⟩
      cases ha
      obtain ⟨s1, s2⟩ := spot (by omega)
      refine ⟨s1, by simp, s2, fun i y hy => ?_⟩
      obtain ⟨cs', c1, c2, _⟩ := h2 i y hy
      obtain ⟨_, c3, c4⟩ := World.cells?_some c1
      refine ⟨cs', c2, fun k v hv => ?_⟩
      have hk : k < e.n := by have := (List.getElem?_eq_some_iff.1 hv).1; omega
      have c5 := c4 k hk
      rw [addr_add s1, addr_add rfl, hv] at c5
      rw [← Nat.add_assoc]
      exact c5
    · obtain ⟨i, hi, rfl⟩ := List.getElem_of_mem hy
      exact (h2 i _ (List.getElem?_eq_getElem hi)).choose_spec.2.2
end Go.V
