
/- Lists as functions of their places. Conditions: those of each theorem. -/
import Derived.Test.YtgeceohdppecgaaPgen
set_option linter.unusedVariables false
set_option linter.unusedSimpArgs false
namespace Go.Proofs.Ytgeceohdppecgaa
open Go Go.V Go.Proofs

def vw (d : List Int) (k : Nat) : Int := d.getD k 0
theorem vw_get {d : List Int} {k : Nat} (h : k < d.length) : d[k]? = some (vw d k) := by
  unfold vw; rw [List.getD_eq_getElem?_getD, List.getElem?_eq_getElem h]; rfl
theorem vw_mem {d : List Int} {k : Nat} (h : k < d.length) : vw d k ∈ d := List.mem_of_getElem? (vw_get h)
theorem vw_app {d : List Int} {x : List Int} (k : Nat) : vw (d ++ x) k = if k < d.length then vw d k else vw x (k - d.length) := by
  unfold vw
  rw [List.getD_eq_getElem?_getD, List.getElem?_append]
  split <;> rw [List.getD_eq_getElem?_getD]
end Go.Proofs.Ytgeceohdppecgaa
