
/- More laws of memory: an append to a cut whose capacity ends with it. Conditions: those of each theorem. -/
import Derived.Test.YtfhkfjankgikcaaGreatH
import Derived.ArgAppend
import Derived.Laws.Strings2
import Derived.Laws.Slices
import Derived.Laws.BytesString
import Derived.Laws.IdiomStrings
import Derived.Lib.ConvBytes
set_option linter.unusedSimpArgs false
set_option linter.unusedVariables false
namespace Go.V
open Go
def OwnM {α : Type} (e : Enc α) (T : TypeId) (w : World) (M : List Nat) (a : Option Addr) (c : Nat) (xs : List α) : Prop :=
  ∃ g cur lo hi, a = some ⟨g, 0, none⟩ ∧ w.heap[g]? = some (.cells cur T (lo, hi)) ∧ cur.size ≤ lo ∧ xs.length ≤ c ∧ c ≤ maxLen ∧ cur.size = c * e.n ∧
    ∀ (i : Nat) (x : α), xs[i]? = some x → ∃ cs, e.R w M cs x ∧ ∀ (k : Nat) (v : Value), cs[k]? = some v → cur[i * e.n + k]? = some v
theorem OwnM.lt {α : Type} {e : Enc α} {T : TypeId} {w : World} {M : List Nat} {a : Option Addr} {c : Nat} {xs : List α} (h : OwnM e T w M a c xs) : ∀ b ∈ blk a, b < w.heap.size := by
  obtain ⟨g, cur, lo, hi, rfl, hg, _⟩ := h
  intro b hb
  simp only [blk, List.mem_singleton] at hb
  subst hb; exact lt_of_heap hg
theorem OwnM.step {α : Type} {e : Enc α} {T : TypeId} {w w' : World} {M M' Mo : List Nat} {a : Option Addr} {c : Nat} {xs : List α} (h : OwnM e T w M a c xs) (hs : Stp M w M' w') (he : Ev Mo w w') (hm : ∀ b ∈ blk a, b ∉ Mo) : OwnM e T w' M' a c xs := by
  obtain ⟨g, cur, lo, hi, rfl, hg, h0, h1, h2, h3, h4⟩ := h
  refine ⟨g, cur, lo, hi, rfl, he.box hg (hm g (by simp [blk])), h0, h1, h2, h3, fun i x hx => ?_⟩
  obtain ⟨cs, h5, h6⟩ := h4 i x hx
  exact ⟨cs, e.step h5 hs, h6⟩
theorem OwnM.sub {α : Type} {e : Enc α} {T : TypeId} {w : World} {M M' : List Nat} {a : Option Addr} {c : Nat} {xs : List α} (h : OwnM e T w M a c xs) (hs : ∀ b ∈ M', b ∈ M) : OwnM e T w M' a c xs :=
  h.step (Stp.sub w hs) (Ev.refl [] w) (fun _ _ h => by cases h)
theorem OwnM.ro {α : Type} {e : Enc α} {T : TypeId} {w : World} {M M' : List Nat} {a : Option Addr} {c : Nat} {xs : List α} (h : OwnM e T w M a c xs) (hM : ∀ b ∈ M', b ∈ M) (hm : ∀ b ∈ blk a, b ∉ M') : SlR e w M' a c xs := by
  obtain ⟨g, cur, lo, hi, rfl, hg, h0, h1, h2, h3, h4⟩ := h
  refine ⟨h1, h2, fun h => (by cases h), fun ad ha _ => ?_⟩
  cases ha
  refine ⟨rfl, hm g (by simp [blk]), lt_of_heap hg, fun i x hx => ?_⟩
  obtain ⟨cs, h5, h6⟩ := h4 i x hx
  refine ⟨cs, e.step h5 (Stp.sub w hM), fun k v hv => ?_⟩
  simp only [Nat.zero_add]
  rw [box_cell hg]; exact h6 k v hv
theorem OwnM.le {α : Type} {e : Enc α} {T : TypeId} {w : World} {M : List Nat} {a : Option Addr} {c : Nat} {xs : List α} (h : OwnM e T w M a c xs) : xs.length ≤ c := by
  obtain ⟨g, cur, lo, hi, _, _, _, h1, _⟩ := h
  exact h1
end Go.V
