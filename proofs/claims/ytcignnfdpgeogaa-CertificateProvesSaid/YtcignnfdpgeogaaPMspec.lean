/- Plain laws: what stands on the tracks, as lists of item numbers. No condition beyond those of each theorem. -/
import Derived.Test.YtcignnfdpgeogaaPMvalid2
set_option linter.unusedVariables false
set_option maxRecDepth 100000
namespace Go.Proofs.Ytcignnfdpgeogaa
open Go Go.V Go.Proofs

/-- The next step at or behind t at which an item with the code c is pushed again. -/
def nb (c S : Nat) (t : Nat) : Option Nat := if t < S then (if c.testBit t then some t else nb c S (t + 1)) else none
termination_by S - t

theorem nb_some {c S : Nat} : ∀ {t b : Nat}, nb c S t = some b → t ≤ b ∧ b < S ∧ c.testBit b = true ∧ ∀ j, t ≤ j → j < b → c.testBit j = false := by
  intro t
  induction h : S - t generalizing t with
  | zero =>
    intro b hb
    rw [nb, if_neg (by omega)] at hb
    cases hb
  | succ m ih =>
    intro b hb
    rw [nb, if_pos (by omega)] at hb
    split at hb
    · rename_i hc
      cases hb
      exact ⟨by omega, by omega, hc, fun j h1 h2 => by omega⟩
    · rename_i hc
      obtain ⟨h1, h2, h3, h4⟩ := ih (t := t + 1) (by omega) hb
      refine ⟨by omega, h2, h3, fun j hj1 hj2 => ?_⟩
      by_cases hjt : j = t
      · subst hjt; simpa using hc
      · exact h4 j (by omega) hj2
theorem nb_step {c S t : Nat} (h : c.testBit t = false) : nb c S t = nb c S (t + 1) := by
  by_cases ht : t < S
  · rw [nb, if_pos ht, if_neg (by simp [h])]
  · rw [nb, if_neg ht, nb, if_neg (by omega)]
theorem nb_here {c S t : Nat} (h : c.testBit t = true) (ht : t < S) : nb c S t = some t := by
  rw [nb, if_pos ht, if_pos h]

/-- What the spec looks at: the number of items, of steps, of tracks; the code, the round, the train of each item. -/
structure Yard where
  n : Nat
  S : Nat
  T : Nat
  c : Nat → Nat
  rd : Nat → Nat
  tr : Nat → Nat

namespace Yard
variable (Y : Yard)
def new (k : Nat) : List Nat := (List.range Y.n).filter fun x => Y.rd x == k
/-- The sorting tracks and those of the trains behind the first k times. -/
def both : Nat → (Nat → List Nat) × (Nat → List Nat)
  | 0 => (fun _ => [], fun _ => [])
  | k + 1 =>
    let p := both k
    let xs := (if k = 0 then [] else p.1 (k - 1)) ++ Y.new k
    (fun b => (if b + 1 = k then [] else p.1 b) ++ xs.filter (fun x => nb (Y.c x) Y.S k == some b),
     fun t => p.2 t ++ xs.filter (fun x => nb (Y.c x) Y.S k == none && Y.tr x == t))
def A (k : Nat) : Nat → List Nat := (Y.both k).1
def B (k : Nat) : Nat → List Nat := (Y.both k).2
def pull (k : Nat) : List Nat := if k = 0 then [] else Y.A k (k - 1)
theorem A_succ (k b : Nat) : Y.A (k + 1) b = (if b + 1 = k then [] else Y.A k b) ++ (Y.pull k ++ Y.new k).filter (fun x => nb (Y.c x) Y.S k == some b) := rfl
theorem B_succ (k t : Nat) : Y.B (k + 1) t = Y.B k t ++ (Y.pull k ++ Y.new k).filter (fun x => nb (Y.c x) Y.S k == none && Y.tr x == t) := rfl
/-- The moves behind the first k times. -/
def moves : Nat → Nat
  | 0 => 0
  | k + 1 => moves k + ((Y.pull k).length + (Y.new k).length)
/-- The times at which something was pushed. -/
def pushes : Nat → Nat
  | 0 => 0
  | k + 1 => pushes k + (if 0 < (Y.pull k).length + (Y.new k).length then 1 else 0)

theorem mem_new {k x : Nat} : x ∈ Y.new k ↔ x < Y.n ∧ Y.rd x = k := by simp [new]

/-- Who stands where. -/
structure Inv (k : Nat) : Prop where
  a : ∀ b x, x ∈ Y.A (k + 1) b ↔ x < Y.n ∧ Y.rd x ≤ k ∧ nb (Y.c x) Y.S k = some b
  b : ∀ t x, x ∈ Y.B (k + 1) t ↔ x < Y.n ∧ Y.rd x ≤ k ∧ nb (Y.c x) Y.S k = none ∧ Y.tr x = t
  an : ∀ b, (Y.A (k + 1) b).Nodup
  bn : ∀ t, (Y.B (k + 1) t).Nodup

theorem new_nodup (k : Nat) : (Y.new k).Nodup := List.Nodup.sublist List.filter_sublist List.nodup_range

theorem inv0 : Y.Inv 0 := by
  have hp : Y.pull 0 = [] := rfl
  refine ⟨fun b x => ?_, fun t x => ?_, fun b => ?_, fun t => ?_⟩
  · rw [A_succ, hp, if_neg (by omega)]
    simp only [A, both, List.nil_append, List.mem_filter, mem_new, beq_iff_eq]
    constructor
    · rintro ⟨⟨h1, h2⟩, h3⟩; exact ⟨h1, by omega, h3⟩
    · rintro ⟨h1, h2, h3⟩; exact ⟨⟨h1, by omega⟩, h3⟩
  · rw [B_succ, hp]
    simp only [B, both, List.nil_append, List.mem_filter, mem_new, beq_iff_eq, Bool.and_eq_true]
    constructor
    · rintro ⟨⟨h1, h2⟩, h3, h4⟩; exact ⟨h1, by omega, h3, h4⟩
    · rintro ⟨h1, h2, h3, h4⟩; exact ⟨⟨h1, by omega⟩, h3, h4⟩
  · rw [A_succ, hp, if_neg (by omega)]
    simp only [A, both, List.nil_append]
    exact List.Nodup.sublist List.filter_sublist (Y.new_nodup 0)
  · rw [B_succ, hp]
    simp only [B, both, List.nil_append]
    exact List.Nodup.sublist List.filter_sublist (Y.new_nodup 0)

theorem inv_succ {k : Nat} (hk : k < Y.S) (h : Y.Inv k) : Y.Inv (k + 1) := by
  have hp : Y.pull (k + 1) = Y.A (k + 1) k := rfl
  have hpm : ∀ x, x ∈ Y.pull (k + 1) ↔ x < Y.n ∧ Y.rd x ≤ k ∧ (Y.c x).testBit k = true := by
    intro x
    rw [hp, h.a]
    constructor
    · rintro ⟨h1, h2, h3⟩; exact ⟨h1, h2, (nb_some h3).2.2.1⟩
    · rintro ⟨h1, h2, h3⟩; exact ⟨h1, h2, nb_here h3 hk⟩
  have hnd : (Y.pull (k + 1) ++ Y.new (k + 1)).Nodup := by
    refine List.nodup_append.2 ⟨by rw [hp]; exact h.an k, Y.new_nodup _, fun x hx y hy he => ?_⟩
    subst he
    have h1 := ((hpm x).1 hx).2.1
    have h2 := (Y.mem_new.1 hy).2
    omega
  refine ⟨fun b x => ?_, fun t x => ?_, fun b => ?_, fun t => ?_⟩
  · rw [A_succ, List.mem_append, List.mem_filter, List.mem_append, hpm, mem_new, beq_iff_eq]
    constructor
    · rintro (h1 | ⟨⟨h1, h2, h3⟩ | ⟨h1, h2⟩, h4⟩)
      · split at h1
        · cases h1
        · rename_i hb
          obtain ⟨q1, q2, q3⟩ := (h.a b x).1 h1
          obtain ⟨r1, r2, r3, r4⟩ := nb_some q3
          have hkb : (Y.c x).testBit k = false := r4 k (by omega) (by omega)
          exact ⟨q1, by omega, by rw [← nb_step hkb]; exact q3⟩
      · exact ⟨h1, by omega, h4⟩
      · exact ⟨h1, by omega, h4⟩
    · rintro ⟨h1, h2, h3⟩
      have hb := nb_some h3
      by_cases hr : Y.rd x = k + 1
      · exact .inr ⟨.inr ⟨h1, hr⟩, h3⟩
      · cases ht : (Y.c x).testBit k with
        | true => exact .inr ⟨.inl ⟨h1, by omega, rfl⟩, h3⟩
        | false =>
          left
          rw [if_neg (by omega)]
          exact (h.a b x).2 ⟨h1, by omega, by rw [nb_step ht]; exact h3⟩
  · rw [B_succ, List.mem_append, List.mem_filter, List.mem_append, hpm, mem_new, Bool.and_eq_true, beq_iff_eq, beq_iff_eq, h.b]
    constructor
    · rintro (⟨q1, q2, q3, q4⟩ | ⟨⟨h1, h2, h3⟩ | ⟨h1, h2⟩, h4, h5⟩)
      · have hkb : (Y.c x).testBit k = false := by
          cases ht : (Y.c x).testBit k with
          | false => rfl
          | true => rw [nb_here ht hk] at q3; cases q3
        exact ⟨q1, by omega, by rw [← nb_step hkb]; exact q3, q4⟩
      · exact ⟨h1, by omega, h4, h5⟩
      · exact ⟨h1, by omega, h4, h5⟩
    · rintro ⟨h1, h2, h3, h4⟩
      by_cases hr : Y.rd x = k + 1
      · exact .inr ⟨.inr ⟨h1, hr⟩, h3, h4⟩
      · cases ht : (Y.c x).testBit k with
        | true => exact .inr ⟨.inl ⟨h1, by omega, rfl⟩, h3, h4⟩
        | false => exact .inl ⟨h1, by omega, by rw [nb_step ht]; exact h3, h4⟩
  · rw [A_succ]
    refine List.nodup_append.2 ⟨?_, List.Nodup.sublist List.filter_sublist hnd, fun x hx y hy he => ?_⟩
    · split
      · exact List.nodup_nil
      · exact h.an b
    · subst he
      split at hx
      · cases hx
      · rename_i hb
        obtain ⟨q1, q2, q3⟩ := (h.a b x).1 hx
        have hm := (List.mem_filter.1 hy).1
        rcases List.mem_append.1 hm with h1 | h1
        · have ht := ((hpm x).1 h1).2.2
          rw [nb_here ht hk] at q3
          cases q3
          omega
        · have := (Y.mem_new.1 h1).2
          omega
  · rw [B_succ]
    refine List.nodup_append.2 ⟨h.bn t, List.Nodup.sublist List.filter_sublist hnd, fun x hx y hy he => ?_⟩
    subst he
    obtain ⟨q1, q2, q3, q4⟩ := (h.b t x).1 hx
    have hm := (List.mem_filter.1 hy).1
    rcases List.mem_append.1 hm with h1 | h1
    · have ht := ((hpm x).1 h1).2.2
      rw [nb_here ht hk] at q3
      cases q3
    · have := (Y.mem_new.1 h1).2
      omega

theorem inv : ∀ (k : Nat), k ≤ Y.S → Y.Inv k
  | 0, _ => Y.inv0
  | k + 1, h => Y.inv_succ (by omega) (inv k (by omega))

theorem sub_len {α : Type} [DecidableEq α] : ∀ {l l' : List α}, l.Nodup → (∀ x ∈ l, x ∈ l') → l.length ≤ l'.length
  | [], _, _, _ => by simp
  | x :: l, l', hn, h => by
    have hx : x ∈ l' := h x List.mem_cons_self
    obtain ⟨h1, h2⟩ := List.nodup_cons.1 hn
    have h3 := sub_len (l := l) (l' := l'.erase x) h2 (fun y hy => (List.mem_erase_of_ne (fun e => by subst e; exact h1 hy)).2 (h y (List.mem_cons_of_mem _ hy)))
    rw [List.length_erase_of_mem hx] at h3
    have := List.length_pos_of_mem hx
    simp only [List.length_cons]
    omega
theorem same_len {α : Type} [DecidableEq α] {l l' : List α} (h1 : l.Nodup) (h2 : l'.Nodup) (h : ∀ x, x ∈ l ↔ x ∈ l') : l.length = l'.length :=
  Nat.le_antisymm (sub_len h1 (fun x hx => (h x).1 hx)) (sub_len h2 (fun x hx => (h x).2 hx))
theorem len_of {l : List Nat} {n : Nat} (hn : l.Nodup) (h : ∀ x ∈ l, x < n) : l.length ≤ n := by
  have := sub_len (l' := List.range n) hn (fun x hx => List.mem_range.2 (h x hx))
  simpa using this
theorem pull_len {k : Nat} (hk : k ≤ Y.S) : (Y.pull k).length ≤ Y.n := by
  cases k with
  | zero => simp [pull]
  | succ k =>
    have hi := Y.inv k (by omega)
    exact len_of (hi.an k) (fun x hx => ((hi.a k x).1 hx).1)
theorem new_len (k : Nat) : (Y.new k).length ≤ Y.n := len_of (Y.new_nodup k) (fun x hx => (Y.mem_new.1 hx).1)
theorem A_len {k : Nat} (hk : k ≤ Y.S + 1) (b : Nat) : (Y.A k b).length ≤ Y.n := by
  cases k with
  | zero => simp [A, both]
  | succ k =>
    have hi := Y.inv k (by omega)
    exact len_of (hi.an b) (fun x hx => ((hi.a b x).1 hx).1)
theorem B_len {k : Nat} (hk : k ≤ Y.S + 1) (t : Nat) : (Y.B k t).length ≤ Y.n := by
  cases k with
  | zero => simp [B, both]
  | succ k =>
    have hi := Y.inv k (by omega)
    exact len_of (hi.bn t) (fun x hx => ((hi.b t x).1 hx).1)
theorem moves_le : ∀ {k : Nat}, k ≤ Y.S + 1 → Y.moves k ≤ 2 * Y.n * k
  | 0, _ => by simp [moves]
  | k + 1, h => by
    have h1 := moves_le (k := k) (by omega)
    have h2 := Y.pull_len (k := k) (by omega)
    have h3 := Y.new_len k
    have h4 : 2 * Y.n * (k + 1) = 2 * Y.n * k + 2 * Y.n := by rw [Nat.mul_add, Nat.mul_one]
    simp only [moves]
    omega
theorem pushes_le : ∀ (k : Nat), Y.pushes k ≤ k
  | 0 => by simp [pushes]
  | k + 1 => by
    have := pushes_le k
    simp only [pushes]
    split <;> omega
end Yard

end Go.Proofs.Ytcignnfdpgeogaa
