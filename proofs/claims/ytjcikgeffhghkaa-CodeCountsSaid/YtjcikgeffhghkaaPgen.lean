/- Plain laws: what the maker of inputs gives. No condition beyond those of each theorem. -/
import Derived.Test.YtjcikgeffhghkaaGgen
set_option linter.unusedVariables false
namespace Go.Proofs.Ytjcikgeffhghkaa
open Go Go.V Go.Proofs

theorem wr_id {n : Int} (h1 : -9223372036854775808 ≤ n) (h2 : n < 9223372036854775808) : IntKind.i64.wrap n = n := by
  have e : ∀ n : Int, IntKind.i64.wrap n = if n % 18446744073709551616 ≥ 9223372036854775808 then n % 18446744073709551616 - 18446744073709551616 else n % 18446744073709551616 := by
    intro n
    show (if (IntKind.i64.signed && decide (n % (2 ^ IntKind.i64.bits : Int) ≥ (2 ^ (IntKind.i64.bits - 1) : Int))) = true then _ else _) = _
    have h1 : (2 ^ IntKind.i64.bits : Int) = 18446744073709551616 := by decide
    have h2 : (2 ^ (IntKind.i64.bits - 1) : Int) = 9223372036854775808 := by decide
    rw [h1, h2]
    simp [IntKind.signed]
  rw [e]
  split <;> omega

theorem wr_range (n : Int) : -9223372036854775808 ≤ IntKind.i64.wrap n ∧ IntKind.i64.wrap n < 9223372036854775808 := by
  have e : IntKind.i64.wrap n = if n % 18446744073709551616 ≥ 9223372036854775808 then n % 18446744073709551616 - 18446744073709551616 else n % 18446744073709551616 := by
    show (if (IntKind.i64.signed && decide (n % (2 ^ IntKind.i64.bits : Int) ≥ (2 ^ (IntKind.i64.bits - 1) : Int))) = true then _ else _) = _
    have h1 : (2 ^ IntKind.i64.bits : Int) = 18446744073709551616 := by decide
    have h2 : (2 ^ (IntKind.i64.bits - 1) : Int) = 9223372036854775808 := by decide
    rw [h1, h2]
    simp [IntKind.signed]
  rw [e]
  split <;> omega

theorem tmod_range (x n : Int) (hn : 0 < n) : -n < Int.tmod x n ∧ Int.tmod x n < n := by
  rcases Int.le_total 0 x with h | h
  · have h1 := Int.tmod_lt_of_pos x hn
    have h2 : 0 ≤ Int.tmod x n := Int.tmod_nonneg n h
    omega
  · have h0 : Int.tmod x n = -(Int.tmod (-x) n) := by rw [Int.neg_tmod]; omega
    have h1 := Int.tmod_lt_of_pos (-x) hn
    have h2 : 0 ≤ Int.tmod (-x) n := Int.tmod_nonneg n (by omega)
    omega

theorem idx_of {α : Type} (xs : List α) (i : Int) (h0 : 0 ≤ i) (h1 : i < xs.length) : ∃ x, x ∈ xs ∧ idx xs i = some x := by
  have hl : i.toNat < xs.length := by omega
  refine ⟨xs[i.toNat], List.getElem_mem hl, ?_⟩
  unfold idx
  rw [if_pos h0]
  exact List.getElem?_eq_getElem hl

/-- A number from 0 to below n; the state counts the calls. -/
theorem next_ok (l : List Int) (k n : Int) (hk : 0 ≤ k) (hk2 : k < 4611686018427387904) (hn : 0 < n) (hn2 : n ≤ 4611686018427387904) :
    ∃ v, gen_Maker_Next l k n = some (v, k + 1) ∧ 0 ≤ v ∧ v < n := by
  have hw : IntKind.i64.wrap (k + 1) = k + 1 := wr_id (by omega) (by omega)
  have fin : ∀ y : Int, ∃ v, (if (decide ((Int.tmod y n) < 0)) = true then some (IntKind.i64.wrap ((Int.tmod y n) + n), IntKind.i64.wrap (k + 1)) else some (Int.tmod y n, IntKind.i64.wrap (k + 1))) = some (v, k + 1) ∧ 0 ≤ v ∧ v < n := by
    intro y
    obtain ⟨h1, h2⟩ := tmod_range y n hn
    rw [hw]
    by_cases hy : Int.tmod y n < 0
    · rw [if_pos (by simpa using hy), wr_id (by omega) (by omega)]
      exact ⟨_, rfl, by omega, by omega⟩
    · rw [if_neg (by simpa using hy)]
      exact ⟨_, rfl, by omega, by omega⟩
  unfold gen_Maker_Next
  by_cases hl : ((l.length : Int) > 0)
  · rw [if_pos (by simpa using hl), if_pos (by omega)]
    obtain ⟨x, _, hx⟩ := idx_of l (Int.tmod k l.length) (Int.tmod_nonneg _ hk) (Int.tmod_lt_of_pos k (by omega))
    rw [hx]
    simp only [Option.bind_some]
    rw [if_pos (by omega), if_pos (by omega)]
    exact fin _
  · rw [if_neg (by simpa using hl), if_pos (by omega)]
    exact fin 0

theorem next_nat (l : List Int) (k n : Int) (hk : 0 ≤ k) (hk2 : k < 4611686018427387904) (hn : 0 < n) (hn2 : n ≤ 4611686018427387904) :
    ∃ v : Nat, gen_Maker_Next l k n = some ((v : Int), k + 1) ∧ (v : Int) < n := by
  obtain ⟨v, h, h0, h1⟩ := next_ok l k n hk hk2 hn hn2
  exact ⟨v.toNat, by rw [h, Int.toNat_of_nonneg h0], by omega⟩

/-- One of some numbers. -/
theorem pick_ok (l : List Int) (k : Int) (xs : List Int) (hk : 0 ≤ k) (hk2 : k < 4611686018427387904) (hx : 0 < xs.length) (hx2 : xs.length ≤ 4611686018427387904) :
    ∃ v, gen_Maker_Pick l k xs = some (v, k + 1) ∧ v ∈ xs := by
  obtain ⟨i, hi, h0, h1⟩ := next_ok l k xs.length hk hk2 (by omega) (by omega)
  obtain ⟨x, hm, hx⟩ := idx_of xs i h0 h1
  refine ⟨x, ?_, hm⟩
  unfold gen_Maker_Pick
  rw [hi]
  simp only [Option.bind_some, hx]

end Go.Proofs.Ytjcikgeffhghkaa
