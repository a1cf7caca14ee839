/- Plain laws: lists place by place, and what Contents returns. No condition. -/
import Derived.Test.YtmjobkpgnhbcbaaPRorder
set_option linter.unusedVariables false
set_option linter.unusedSectionVars false
set_option maxRecDepth 100000
namespace Go.Proofs.Ytmjobkpgnhbcbaa
open Go Go.V Go.Proofs

/-- A list of numbers, place by place. -/
def lst (f : Nat → Int) (N : Nat) : List Int := (List.range N).map f
theorem lst_len (f : Nat → Int) (N : Nat) : (lst f N).length = N := by simp [lst]
theorem lst_get (f : Nat → Int) {N p : Nat} (h : p < N) : (lst f N)[p]? = some (f p) := by simp [lst, h]
theorem lst_set (f f' : Nat → Int) {N p : Nat} (v : Int) (h : p < N) (h1 : f' p = v) (h2 : ∀ j, j ≠ p → f' j = f j) : (lst f N).set p v = lst f' N := by
  apply List.ext_getElem?
  intro i
  rw [List.getElem?_set]
  by_cases hi : p = i
  · subst hi
    rw [if_pos rfl, if_pos (by rw [lst_len]; exact h), lst_get f' h, h1]
  · rw [if_neg hi]
    by_cases him : i < N
    · rw [lst_get f him, lst_get f' him, h2 i (Ne.symm hi)]
    · rw [List.getElem?_eq_none (by rw [lst_len]; omega), List.getElem?_eq_none (by rw [lst_len]; omega)]
theorem lst_congr {f f' : Nat → Int} {N : Nat} (h : ∀ b, b < N → f b = f' b) : lst f N = lst f' N := by
  apply List.ext_getElem?
  intro i
  by_cases him : i < N
  · rw [lst_get f him, lst_get f' him, h i him]
  · rw [List.getElem?_eq_none (by rw [lst_len]; omega), List.getElem?_eq_none (by rw [lst_len]; omega)]
theorem lst_zero (N : Nat) : List.replicate N (0 : Int) = lst (fun _ => 0) N := by
  apply List.ext_getElem?
  intro i
  by_cases him : i < N
  · rw [lst_get _ him, List.getElem?_replicate, if_pos him]
  · rw [List.getElem?_eq_none (by simp; omega), List.getElem?_eq_none (by rw [lst_len]; omega)]

section
variable {items : List Item} {wt S : Int} {codes : List Int} (hg : Good items wt S codes)
include hg

theorem Contents_ok (t : Nat) (ht : t ≤ S.toNat) : rollin_Contents items wt S codes (t : Int) = some (rows ((yard items S codes).A (t + 1)) S.toNat, rows ((yard items S codes).B (t + 1)) (trains items), 0) := by
  obtain ⟨hS0, hS1⟩ := hg.st
  unfold rollin_Contents
  rw [valid_ok hg]
  simp only [Option.bind_some, bne_self_eq_false, Bool.false_eq_true, if_false]
  rw [if_neg (dneg (by omega)), if_neg (dneg (by omega)), run_ok hg t ht]
  rfl

end

end Go.Proofs.Ytmjobkpgnhbcbaa
