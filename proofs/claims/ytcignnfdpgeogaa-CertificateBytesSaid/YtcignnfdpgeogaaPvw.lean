
/- Lists as functions of their places. Conditions: those of each theorem. -/
import Derived.Test.YtcignnfdpgeogaaPgen
set_option linter.unusedVariables false
set_option linter.unusedSimpArgs false
namespace Go.Proofs.Ytcignnfdpgeogaa
open Go Go.V Go.Proofs

def vw (d : List Int) (k : Nat) : Int := d.getD k 0
theorem vw_get {d : List Int} {k : Nat} (h : k < d.length) : d[k]? = some (vw d k) := by
  unfold vw; rw [List.getD_eq_getElem?_getD, List.getElem?_eq_getElem h]; rfl
theorem vw_idx {d : List Int} {k : Nat} (h : k < d.length) : idx d (k : Int) = some (vw d k) := by rw [idx_nat, vw_get h]
theorem vw_mem {d : List Int} {k : Nat} (h : k < d.length) : vw d k ∈ d := List.mem_of_getElem? (vw_get h)
theorem vw_elem {d : List Int} {k : Nat} (h : k < d.length) : vw d k = d[k] := by unfold vw; rw [List.getD_eq_getElem?_getD, List.getElem?_eq_getElem h]; rfl
theorem vw_of_mem {d : List Int} {x : Int} (h : x ∈ d) : ∃ k, k < d.length ∧ vw d k = x := by
  obtain ⟨k, hk, e⟩ := List.getElem_of_mem h
  exact ⟨k, hk, by unfold vw; rw [List.getD_eq_getElem?_getD, List.getElem?_eq_getElem hk]; exact e⟩

theorem vw_ext {l k : List Int} (h : l.length = k.length) (e : ∀ i, i < l.length → vw l i = vw k i) : l = k := by
  refine List.ext_getElem h fun i h1 h2 => ?_
  have := e i h1
  rw [vw_elem h1, vw_elem h2] at this
  exact this
theorem wk1 {k : Nat} (h : k < 4294967296) : IntKind.i64.wrap ((k : Int) + 1) = ((k + 1 : Nat) : Int) := by rw [wr_id (by omega) (by omega)]; omega
theorem vw_app {d : List Int} {x : List Int} (k : Nat) : vw (d ++ x) k = if k < d.length then vw d k else vw x (k - d.length) := by
  unfold vw
  rw [List.getD_eq_getElem?_getD, List.getElem?_append]
  split <;> rw [List.getD_eq_getElem?_getD]
theorem vw_drop {d : List Int} (n k : Nat) : vw (d.drop n) k = vw d (n + k) := by
  unfold vw; rw [List.getD_eq_getElem?_getD, List.getD_eq_getElem?_getD, List.getElem?_drop]
end Go.Proofs.Ytcignnfdpgeogaa
