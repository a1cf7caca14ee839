
/- Plain laws: what the maker of inputs gives. No condition beyond those of each theorem. -/
import Derived.Test.YtgeceohdppecgaaGgen
set_option linter.unusedVariables false
namespace Go.Proofs.Ytgeceohdppecgaa
open Go Go.V Go.Proofs

theorem wr_id {n : Int} (h1 : -9223372036854775808 ≤ n) (h2 : n < 9223372036854775808) : IntKind.i64.wrap n = n := by
  have e : ∀ n : Int, IntKind.i64.wrap n = if n % 18446744073709551616 ≥ 9223372036854775808 then n % 18446744073709551616 - 18446744073709551616 else n % 18446744073709551616 := by
    intro n
    show (if (IntKind.i64.signed && decide (n % (2 ^ IntKind.i64.bits : Int) ≥ (2 ^ (IntKind.i64.bits - 1) : Int))) = true then _ else _) = _
    have h1 : (2 ^ IntKind.i64.bits : Int) = 18446744073709551616 := by decide
    have h2 : (2 ^ (IntKind.i64.bits - 1) : Int) = 9223372036854775808 := by decide
    rw [h1, h2]
    simp [IntKind.signed]
  rw [e]
  split <;> omega

theorem tmod_range (x n : Int) (hn : 0 < n) : -n < Int.tmod x n ∧ Int.tmod x n < n := by
  rcases Int.le_total 0 x with h | h
  · have h1 := Int.tmod_lt_of_pos x hn
    have h2 : 0 ≤ Int.tmod x n := Int.tmod_nonneg n h
    omega
  · have h0 : Int.tmod x n = -(Int.tmod (-x) n) := by rw [Int.neg_tmod]; omega
    have h1 := Int.tmod_lt_of_pos (-x) hn
    have h2 : 0 ≤ Int.tmod (-x) n := Int.tmod_nonneg n (by omega)
    omega

theorem idx_of {α : Type} (xs : List α) (i : Int) (h0 : 0 ≤ i) (h1 : i < xs.length) : ∃ x, x ∈ xs ∧ idx xs i = some x := by
  have hl : i.toNat < xs.length := by omega
  refine ⟨xs[i.toNat], List.getElem_mem hl, ?_⟩
  unfold idx
  rw [if_pos h0]
  exact List.getElem?_eq_getElem hl


/-- A number from 0 to below n; the state counts the calls. -/
theorem next_ok (l : List Int) (k n : Int) (hk : 0 ≤ k) (hk2 : k < 4611686018427387904) (hn : 0 < n) (hn2 : n ≤ 4611686018427387904) :
    ∃ v, gen_Maker_Next l k n = some (v, k + 1) ∧ 0 ≤ v ∧ v < n := by
  have hw : IntKind.i64.wrap (k + 1) = k + 1 := wr_id (by omega) (by omega)
  have fin : ∀ y : Int, ∃ v, gen_Maker_Next_J3 k n y = some (v, k + 1) ∧ 0 ≤ v ∧ v < n := by
    intro y
    unfold gen_Maker_Next_J3
    rw [if_pos (by omega)]
    obtain ⟨h1, h2⟩ := tmod_range y n hn
    rw [hw]
    by_cases hy : Int.tmod y n < 0
    · rw [if_pos (by simpa using hy), wr_id (by omega) (by omega)]
      exact ⟨_, rfl, by omega, by omega⟩
    · rw [if_neg (by simpa using hy)]
      exact ⟨_, rfl, by omega, by omega⟩
  unfold gen_Maker_Next
  by_cases hl : ((l.length : Int) > 0)
  · rw [if_pos (by simpa using hl), if_pos (by omega)]
    obtain ⟨x, _, hx⟩ := idx_of l (Int.tmod k l.length) (Int.tmod_nonneg _ hk) (Int.tmod_lt_of_pos k (by omega))
    rw [hx]
    simp only [Option.bind_some]
    rw [if_pos (by omega)]
    exact fin _
  · rw [if_neg (by simpa using hl)]
    exact fin 0


/-- One of some numbers. -/
theorem pick_ok (l : List Int) (k : Int) (xs : List Int) (hk : 0 ≤ k) (hk2 : k < 4611686018427387904) (hx : 0 < xs.length) (hx2 : xs.length ≤ 4611686018427387904) :
    ∃ v, gen_Maker_Pick l k xs = some (v, k + 1) ∧ v ∈ xs := by
  obtain ⟨i, hi, h0, h1⟩ := next_ok l k xs.length hk hk2 (by omega) (by omega)
  obtain ⟨x, hm, hx⟩ := idx_of xs i h0 h1
  refine ⟨x, ?_, hm⟩
  unfold gen_Maker_Pick
  rw [hi]
  simp only [Option.bind_some, hx]


/-- A loop whose states keep a property and get less ends with a property of its result. -/
theorem loopN_inv {S D : Type} {step : S → Option (Step S D)} (I : S → Prop) (mu : S → Nat) (P : D → Prop)
    (h : ∀ s, I s → (∃ s', step s = some (.next s') ∧ I s' ∧ mu s' < mu s) ∨ (∃ d, step s = some (.done d) ∧ P d)) :
    ∀ (n : Nat) (s : S), I s → mu s < n → ∃ d, loopN step n s = some d ∧ P d
  | 0, s, _, hm => absurd hm (Nat.not_lt_zero _)
  | n + 1, s, hi, hm => by
    rcases h s hi with ⟨s', h1, h2, h3⟩ | ⟨d, h1, h2⟩
    · obtain ⟨d, h4, h5⟩ := loopN_inv I mu P h n s' h2 (by omega)
      exact ⟨d, by simp only [loopN, h1, Option.bind_some, h4], h5⟩
    · exact ⟨d, by simp only [loopN, h1, Option.bind_some], h2⟩

theorem loop_inv {S D : Type} {step : S → Option (Step S D)} (I : S → Prop) (mu : S → Nat) (P : D → Prop)
    (h : ∀ s, I s → (∃ s', step s = some (.next s') ∧ I s' ∧ mu s' < mu s) ∨ (∃ d, step s = some (.done d) ∧ P d))
    (s : S) (hi : I s) (hm : mu s < 4611686018427387904) : ∃ d, loop step s = some d ∧ P d :=
  loopN_inv I mu P h _ s hi hm


/-- A loop that counts up. -/
theorem loopN_count {D : Type} {step : Int → Option (Step Int D)} {d : D} {e : Nat} (h2 : step (e : Int) = some (.done d)) :
    ∀ (m a n : Nat), a + m = e → m < n → (∀ x : Nat, a ≤ x → x < e → step (x : Int) = some (.next ((x : Int) + 1))) → loopN step n (a : Int) = some d
  | _, _, 0, _, hn, _ => absurd hn (Nat.not_lt_zero _)
  | 0, a, n + 1, hm, hn, h1 => by
    rw [show a = e by omega]
    simp only [loopN, h2, Option.bind_some]
  | m + 1, a, n + 1, hm, hn, h1 => by
    have h3 := loopN_count h2 m (a + 1) n (by omega) (by omega) (fun x hx1 hx2 => h1 x (by omega) hx2)
    simp only [loopN, h1 a (by omega) (by omega), Option.bind_some]
    exact h3

theorem loop_count {D : Type} (step : Int → Option (Step Int D)) (d : D) (a e : Nat) (h : a ≤ e) (he : e < 4611686018427387904)
    (h1 : ∀ x : Nat, a ≤ x → x < e → step (x : Int) = some (.next ((x : Int) + 1))) (h2 : step (e : Int) = some (.done d)) : loop step (a : Int) = some d :=
  loopN_count h2 (e - a) a _ (by omega) (by omega) h1

theorem dpos {p : Prop} [Decidable p] (h : p) : decide p = true := decide_eq_true h

theorem dneg {p : Prop} [Decidable p] (h : ¬ p) : ¬ decide p = true := fun h' => h (of_decide_eq_true h')

theorem idx_nat {α : Type} (xs : List α) (i : Nat) : idx xs (i : Int) = xs[i]? := by
  unfold idx
  rw [if_pos (by omega)]
  simp


/-- Two slices of numbers are compared as lists. -/
theorem ints_ok (a b : List Int) (ha : a.length < 4611686018427387904) : gen_Ints a b = some (decide (a = b)) := by
  unfold gen_Ints
  by_cases hl : a.length = b.length
  · rw [if_neg (by simp [hl])]
    obtain ⟨d, h1, h2⟩ := loop_inv (step := gen_Ints_L4 a b) (fun s => ∃ i : Nat, s = (i : Int) ∧ i ≤ a.length ∧ a.take i = b.take i) (fun s => a.length - s.toNat)
      (fun d => (d = .inr () ∧ a = b) ∨ (d = .inl () ∧ a ≠ b)) (by
      rintro _ ⟨i, rfl, hi, ht⟩
      unfold gen_Ints_L4
      by_cases h : i < a.length
      · have h' : i < b.length := by omega
        simp only
        rw [if_pos (dpos (by omega)), idx_nat, idx_nat, List.getElem?_eq_getElem h, List.getElem?_eq_getElem h']
        simp only [Option.bind_some]
        by_cases he : a[i] = b[i]
        · refine Or.inl ⟨_, if_neg (by simp [he]), ⟨i + 1, ?_, by omega, ?_⟩, ?_⟩
          · rw [wr_id (by omega) (by omega)]; rfl
          · rw [List.take_succ_eq_append_getElem h, List.take_succ_eq_append_getElem h', ht, he]
          · rw [wr_id (by omega) (by omega)]; omega
        · refine Or.inr ⟨_, if_pos (by simpa using he), Or.inr ⟨rfl, fun e => he ?_⟩⟩
          subst e; rfl
      · refine Or.inr ⟨_, if_neg (dneg (by omega)), Or.inl ⟨rfl, ?_⟩⟩
        rw [List.take_of_length_le (by omega), List.take_of_length_le (by omega)] at ht
        exact ht) 0 ⟨0, rfl, by omega, by simp⟩ (by omega)
    rw [h1]
    rcases h2 with ⟨rfl, h3⟩ | ⟨rfl, h3⟩
    · simp [h3]
    · simp [h3]
  · rw [if_pos (by simpa using (by omega : ¬ (a.length : Int) = (b.length : Int)))]
    have : a ≠ b := fun e => hl (by rw [e])
    simp [this]


end Go.Proofs.Ytgeceohdppecgaa
