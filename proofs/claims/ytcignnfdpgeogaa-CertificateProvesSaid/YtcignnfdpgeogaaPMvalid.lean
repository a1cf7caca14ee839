/- Plain laws: which plans are valid, for the program and for the reference. No condition beyond those of each theorem. -/
import Derived.Test.YtcignnfdpgeogaaPJref0
import Derived.Test.YtcignnfdpgeogaaPKcode
import Derived.Test.YtcignnfdpgeogaaGrollin
set_option linter.unusedVariables false
set_option maxRecDepth 100000
namespace Go.Proofs.Ytcignnfdpgeogaa
open Go Go.V Go.Proofs

theorem is_out (n : Int) (r w : Int) (h : ¬ (0 ≤ n ∧ n < 4096)) (hr : 0 ≤ r ∧ r ≤ 12) (hw : 0 ≤ w ∧ w ≤ 12) : code_Is n r w = some false ∧ r12_Is n r w = some false := by
  constructor
  · unfold code_Is
    rw [form_ok, in_ok]
    simp only [Option.bind_some]
    rw [if_pos (by simp; omega), if_neg (by simp; omega)]
  · unfold r12_Is
    rw [rform_ok]
    simp only [Option.bind_some]
    rw [if_neg (by simp; omega)]
    by_cases h0 : n < 0
    · rw [if_pos (dpos h0)]
    · rw [if_neg (dneg h0), if_pos (dpos (by omega))]

/-- A job and a plan that fit. -/
structure Good (items : List Item) (wt S : Int) (codes : List Int) : Prop where
  job : JobGood items wt
  st : 0 ≤ S ∧ S ≤ 12
  cl : codes.length = items.length
  code : ∀ (i : Nat) (x : Item) (c : Int), items[i]? = some x → codes[i]? = some c → 0 ≤ c ∧ c < ((2 ^ S.toNat : Nat) : Int) ∧ isN x.2.2.1.toNat wt.toNat c.toNat = true

theorem fdiv_ne (c : Int) (S : Nat) (h : 0 ≤ c) : (Int.fdiv c ((2 ^ S : Nat) : Int) ≠ 0) ↔ ((2 ^ S : Nat) : Int) ≤ c := by
  obtain ⟨k, rfl⟩ := Int.eq_ofNat_of_zero_le h
  rw [fdiv_nat]
  have hp : 0 < 2 ^ S := Nat.two_pow_pos S
  constructor
  · intro h1
    have h2 : k / 2 ^ S ≠ 0 := fun e => h1 (by rw [e]; rfl)
    have h3 := Nat.div_pos_iff.1 (Nat.pos_of_ne_zero h2)
    omega
  · intro h1 h2
    have h3 : k / 2 ^ S = 0 := by omega
    rcases (Nat.div_eq_zero_iff).1 h3 with h4 | h4 <;> omega

/-- One code of a plan, for both. -/
def cgood (x : Item) (wt S c : Int) : Prop := 0 ≤ c ∧ c < ((2 ^ S.toNat : Nat) : Int) ∧ isN x.2.2.1.toNat wt.toNat c.toNat = true

theorem valid_loop (step : Int → Option (Step Int (Unit ⊕ Unit))) (items : List Item) (wt S : Int) (codes : List Int) (hl : items.length ≤ 96) (hc : codes.length = items.length)
    (h1 : ∀ (i : Nat) (x : Item) (c : Int), items[i]? = some x → codes[i]? = some c → cgood x wt S c → step (i : Int) = some (.next ((i : Int) + 1)))
    (h2 : ∀ (i : Nat) (x : Item) (c : Int), items[i]? = some x → codes[i]? = some c → ¬ cgood x wt S c → step (i : Int) = some (.done (.inl ())))
    (h3 : step (items.length : Int) = some (.done (.inr ()))) :
    ∃ d, loop step 0 = some d ∧ ((d = .inr () ∧ ∀ (i : Nat) (x : Item) (c : Int), items[i]? = some x → codes[i]? = some c → cgood x wt S c) ∨ (d = .inl () ∧ ¬ ∀ (i : Nat) (x : Item) (c : Int), items[i]? = some x → codes[i]? = some c → cgood x wt S c)) := by
  refine loop_inv (step := step) (fun s => ∃ i : Nat, s = (i : Int) ∧ i ≤ items.length ∧ ∀ (j : Nat) (x : Item) (c : Int), j < i → items[j]? = some x → codes[j]? = some c → cgood x wt S c) (fun s => items.length - s.toNat) _ ?_ 0 ⟨0, rfl, by omega, fun j x c h => by omega⟩ (by simp; omega)
  rintro _ ⟨i, rfl, hi, hg⟩
  by_cases hil : i < items.length
  · have hx : items[i]? = some items[i] := List.getElem?_eq_getElem hil
    have hcc : codes[i]? = some codes[i] := List.getElem?_eq_getElem (by omega)
    by_cases hq : cgood items[i] wt S codes[i]
    · refine .inl ⟨_, h1 i _ _ hx hcc hq, ⟨i + 1, by simp, by omega, fun j x c hj hjx hjc => ?_⟩, by omega⟩
      by_cases hji : j < i
      · exact hg j x c hji hjx hjc
      · have e : j = i := by omega
        subst e
        rw [hx] at hjx; rw [hcc] at hjc
        cases hjx; cases hjc; exact hq
    · exact .inr ⟨_, h2 i _ _ hx hcc hq, .inr ⟨rfl, fun h => hq (h i _ _ hx hcc)⟩⟩
  · have e : i = items.length := by omega
    subst e
    exact .inr ⟨_, h3, .inl ⟨rfl, fun j x c hx hc => hg j x c (List.getElem?_eq_some_iff.1 hx).1 hx hc⟩⟩

theorem pow_min (S : Int) (hS : 0 ≤ S ∧ S ≤ 12) : (2 : Int) ^ (min (Int.toNat S) IntKind.i64.bits) = ((2 ^ S.toNat : Nat) : Int) := by
  obtain ⟨k, rfl⟩ := Int.eq_ofNat_of_zero_le hS.1
  rw [pow_nat k (by omega)]
  rfl

end Go.Proofs.Ytcignnfdpgeogaa
