/- Plain laws: digits, their weighted sum, and what a number is. No condition beyond those of each theorem. -/
import Derived.Test.YteimkmjnjnaifaaPWstr
import Derived.Test.YteimkmjnjnaifaaGr02
import Derived.Test.YteimkmjnjnaifaaGwagonnumber
set_option linter.unusedVariables false
set_option linter.unusedSectionVars false
set_option linter.unusedSimpArgs false
set_option maxRecDepth 100000
namespace Go.Proofs.Yteimkmjnjnaifaa
open Go Go.V Go.Proofs

def Digs (s : List UInt8) : Prop := ∀ i, i < s.length → 48 ≤ gv s i ∧ gv s i ≤ 57
instance (s : List UInt8) : Decidable (Digs s) := by unfold Digs; infer_instance
def dg (s : List UInt8) (i : Nat) : Int := gv s i - 48
def tm (i : Nat) (d : Int) : Int := if i % 2 = 0 then (if 2 * d > 9 then 2 * d - 9 else 2 * d) else d
def sumU (s : List UInt8) : Nat → Int
  | 0 => 0
  | n + 1 => sumU s n + tm n (dg s n)
theorem tm_bd {i : Nat} {d : Int} (h : 0 ≤ d ∧ d ≤ 9) : 0 ≤ tm i d ∧ tm i d ≤ 9 := by
  unfold tm
  split
  · split <;> omega
  · exact h
theorem Digs.dg {s : List UInt8} (h : Digs s) {i : Nat} (hi : i < s.length) : 0 ≤ dg s i ∧ dg s i ≤ 9 := by
  have := h i hi
  unfold Yteimkmjnjnaifaa.dg
  omega
theorem sumU_bd {s : List UInt8} (h : Digs s) : ∀ n, n ≤ s.length → 0 ≤ sumU s n ∧ sumU s n ≤ 9 * n
  | 0, _ => by simp [sumU]
  | n + 1, hn => by
    have h1 := sumU_bd h n (by omega)
    have h2 := tm_bd (i := n) (h.dg (i := n) (by omega))
    unfold sumU
    omega
theorem sumU_congr {s t : List UInt8} : ∀ n, (∀ i, i < n → gv s i = gv t i) → sumU s n = sumU t n
  | 0, _ => rfl
  | n + 1, h => by
    unfold sumU dg
    rw [sumU_congr n (fun i hi => h i (by omega)), h n (by omega)]

theorem digits_loop (s : List UInt8) (hl : s.length < 4611686018427387904) : ∃ d, loop (wagonnumber_digits_L2 s) 0 = some d ∧ ((d = .inr () ∧ Digs s) ∨ (d = .inl () ∧ ¬ Digs s)) := by
  refine loop_inv (fun t => ∃ i : Nat, t = (i : Int) ∧ i ≤ s.length ∧ ∀ j, j < i → 48 ≤ gv s j ∧ gv s j ≤ 57) (fun t => s.length - t.toNat) _ ?_ 0 ⟨0, rfl, by omega, fun j h => by omega⟩ (by simp; omega)
  rintro _ ⟨i, rfl, hi, hj⟩
  unfold wagonnumber_digits_L2
  simp only
  by_cases h : i < s.length
  · rw [if_pos (dpos (by omega)), sAt_ok h]
    simp only [obind]
    by_cases h1 : gv s i < 48
    · rw [if_pos (dpos h1)]
      exact .inr ⟨_, rfl, .inr ⟨rfl, fun q => by have := q i h; omega⟩⟩
    · rw [if_neg (dneg h1)]
      by_cases h2 : gv s i > 57
      · rw [if_pos (dpos h2)]
        exact .inr ⟨_, rfl, .inr ⟨rfl, fun q => by have := q i h; omega⟩⟩
      · rw [if_neg (dneg h2), wr_id (by omega) (by omega)]
        refine .inl ⟨_, rfl, ⟨i + 1, rfl, by omega, fun j hji => ?_⟩, by omega⟩
        by_cases e : j = i
        · subst e; omega
        · exact hj j (by omega)
  · rw [if_neg (dneg (by omega))]
    exact .inr ⟨_, rfl, .inl ⟨rfl, fun j hjl => hj j (by omega)⟩⟩
theorem wdigits_ok (s : List UInt8) (n : Int) (hl : s.length < 4611686018427387904) : wagonnumber_digits s n = some (decide (Digs s ∧ (s.length : Int) = n)) := by
  unfold wagonnumber_digits
  obtain ⟨d, h1, h2⟩ := digits_loop s hl
  rw [h1]
  rcases h2 with ⟨rfl, h2⟩ | ⟨rfl, h2⟩
  · simp only [obind]
    congr 1
    by_cases e : (s.length : Int) = n
    · rw [dpos ⟨h2, e⟩]; simpa using e
    · rw [decide_eq_false (fun q => e q.2)]; simpa using e
  · simp only [obind]
    rw [decide_eq_false (fun q => h2 q.1)]
theorem rdigits_ok (s : List UInt8) (n : Int) (hl : s.length < 4611686018427387904) : r02_digits s n = some (decide (Digs s ∧ (s.length : Int) = n)) := by
  unfold r02_digits
  by_cases e : (s.length : Int) = n
  · subst e
    rw [if_neg (by simp)]
    obtain ⟨d, h1, h2⟩ := digits_loop s hl
    have h1' : loop (r02_digits_L2 s (s.length : Int)) 0 = some d := h1
    rw [h1']
    rcases h2 with ⟨rfl, h2⟩ | ⟨rfl, h2⟩
    · simp [h2]
    · simp [h2]
  · rw [if_pos (by simpa using e), decide_eq_false (fun q => e q.2)]

theorem rsum_ok {s : List UInt8} (h : Digs s) (n : Nat) (hn : n ≤ s.length) (hn2 : n ≤ 100000) : r02_sum s (n : Int) = some (sumU s n) := by
  unfold r02_sum
  obtain ⟨d, h1, h2⟩ := loop_inv (step := r02_sum_L1 s (n : Int)) (fun t => ∃ i : Nat, t = (sumU s i, (i : Int)) ∧ i ≤ n) (fun t => n - t.2.toNat) (fun d => d = sumU s n) (by
    rintro _ ⟨i, rfl, hi⟩
    unfold r02_sum_L1
    simp only
    by_cases hlt : i < n
    · have hb := sumU_bd h i (by omega)
      have hd := h.dg (i := i) (by omega)
      have ht := tm_bd (i := i) hd
      have e : IntKind.i64.wrap (IntKind.u8.wrap (gv s i - 48)) = dg s i := by
        rw [u8wrap (n := gv s i - 48) (by have := h i (by omega); omega) (by have := gv_bd s i; omega)]
        exact wr_id (by have := hd; unfold dg at this; omega) (by have := hd; unfold dg at this; omega)
      rw [if_pos (dpos (by omega)), sAt_ok (by omega)]
      simp only [obind]
      rw [e, wr_id (n := (i : Int) + 1) (by omega) (by omega), wr_id (n := dg s i * 2) (by omega) (by omega)]
      have hm : Int.tmod (i : Int) 2 = ((i % 2 : Nat) : Int) := by rw [Int.tmod_eq_emod_of_nonneg (by omega)]; omega
      have hs : sumU s (i + 1) = sumU s i + tm i (dg s i) := rfl
      by_cases hp : i % 2 = 0
      · rw [if_pos (by rw [hm, hp]; rfl)]
        by_cases h9 : dg s i * 2 > 9
        · have et : tm i (dg s i) = dg s i * 2 - 9 := by unfold tm; rw [if_pos hp, if_pos (by omega)]; omega
          rw [if_pos (dpos h9), wr_id (n := dg s i * 2 - 9) (by omega) (by omega), wr_id (by omega) (by omega)]
          exact .inl ⟨_, rfl, ⟨i + 1, by rw [hs, et]; rfl, by omega⟩, by simp only; omega⟩
        · have et : tm i (dg s i) = dg s i * 2 := by unfold tm; rw [if_pos hp, if_neg (by omega)]; omega
          rw [if_neg (dneg h9), wr_id (by omega) (by omega)]
          exact .inl ⟨_, rfl, ⟨i + 1, by rw [hs, et]; rfl, by omega⟩, by simp only; omega⟩
      · have et : tm i (dg s i) = dg s i := by unfold tm; rw [if_neg hp]
        rw [if_neg (by rw [hm]; simpa using (by omega : ¬ ((i % 2 : Nat) : Int) = 0)), wr_id (by omega) (by omega)]
        exact .inl ⟨_, rfl, ⟨i + 1, by rw [hs, et]; rfl, by omega⟩, by simp only; omega⟩
    · rw [if_neg (dneg (by omega))]
      have : i = n := by omega
      subst this
      exact .inr ⟨_, rfl, rfl⟩) (0, 0) ⟨0, rfl, by omega⟩ (by simp; omega)
  rw [h1, h2]
  rfl
theorem wsum_ok {s : List UInt8} (h : Digs s) (hn2 : s.length ≤ 100000) : wagonnumber_sum s = some (sumU s s.length) := rsum_ok h s.length (Nat.le_refl _) hn2
theorem wcheck_ok {s : List UInt8} (h : Digs s) (hn2 : s.length ≤ 100000) : wagonnumber_check s = some ((10 - sumU s s.length % 10) % 10) := by
  have hb := sumU_bd h _ (Nat.le_refl _)
  unfold wagonnumber_check
  rw [wsum_ok h hn2]
  simp only [obind]
  rw [Int.tmod_eq_emod_of_nonneg hb.1, wr_id (by omega) (by omega), Int.tmod_eq_emod_of_nonneg (by omega)]

theorem gv_take (s : List UInt8) {i n : Nat} (h : i < n) : gv (s.take n) i = gv s i := by
  unfold gv
  rw [List.getD_eq_getElem?_getD, List.getD_eq_getElem?_getD, List.getElem?_take, if_pos h]
theorem Digs.take {s : List UInt8} (h : Digs s) (n : Nat) : Digs (s.take n) := by
  intro i hi
  rw [List.length_take] at hi
  rw [gv_take s (by omega)]
  exact h i (by omega)

/-- The answer of Valid. -/
def vcode (s : List UInt8) : Int := if Digs s ∧ s.length = 12 then (if sumU s 12 % 10 = 0 then 0 else 9) else 11
def Num (s : List UInt8) : Prop := Digs s ∧ s.length = 12 ∧ sumU s 12 % 10 = 0
theorem vcode_zero {s : List UInt8} : vcode s = 0 ↔ Num s := by
  unfold vcode Num
  by_cases h : Digs s ∧ s.length = 12
  · rw [if_pos h]
    by_cases h2 : sumU s 12 % 10 = 0
    · rw [if_pos h2]; exact ⟨fun _ => ⟨h.1, h.2, h2⟩, fun _ => rfl⟩
    · rw [if_neg h2]; exact ⟨fun q => (by cases q), fun q => absurd q.2.2 h2⟩
  · rw [if_neg h]; exact ⟨fun q => (by cases q), fun q => absurd ⟨q.1, q.2.1⟩ h⟩
instance (s : List UInt8) : Decidable (Num s) := by unfold Num; infer_instance
theorem last_odd (s : List UInt8) : sumU s 12 = sumU s 11 + dg s 11 := rfl
theorem wValid_ok (s : List UInt8) (hl : s.length < 4611686018427387904) : wagonnumber_Valid s = some (vcode s) := by
  unfold wagonnumber_Valid vcode
  rw [wdigits_ok s 12 hl]
  simp only [obind]
  by_cases h : Digs s ∧ s.length = 12
  · have h' : Digs s ∧ (s.length : Int) = 12 := ⟨h.1, by omega⟩
    have hd := h.1.dg (i := 11) (by omega)
    have h11 := h.1 11 (by omega)
    have hb := sumU_bd h.1 11 (by omega)
    rw [dpos h', if_pos h]
    simp only [Bool.not_true, Bool.false_eq_true, if_false]
    rw [show (11 : Int) = ((11 : Nat) : Int) from rfl, sAt_ok (by omega)]
    simp only [obind]
    rw [if_pos (by omega)]
    have et : (s.drop (Int.toNat (0 : Int))).take (Int.toNat ((11 : Nat) : Int) - Int.toNat (0 : Int)) = s.take 11 := rfl
    rw [et, wcheck_ok (h.1.take 11) (by rw [List.length_take]; omega)]
    simp only [obind]
    have e11 : (s.take 11).length = 11 := by rw [List.length_take]; omega
    rw [e11, sumU_congr (s := s.take 11) (t := s) 11 (fun i hi => gv_take s hi), u8wrap (n := gv s 11 - 48) (by omega) (by omega), wr_id (by omega) (by omega), last_odd]
    unfold dg at hd ⊢
    by_cases h2 : (sumU s 11 + (gv s 11 - 48)) % 10 = 0
    · rw [if_pos h2, if_neg (by simp; omega)]
    · rw [if_neg h2, if_pos (by simp; omega)]
  · have h' : ¬ (Digs s ∧ (s.length : Int) = 12) := fun q => h ⟨q.1, by omega⟩
    rw [decide_eq_false h', if_neg h]
    rfl
theorem rValid_ok (s : List UInt8) (hl : s.length < 4611686018427387904) : r02_Valid s = some (vcode s) := by
  unfold r02_Valid vcode
  rw [rdigits_ok s 12 hl]
  simp only [obind]
  by_cases h : Digs s ∧ s.length = 12
  · have h' : Digs s ∧ (s.length : Int) = 12 := ⟨h.1, by omega⟩
    have hd := h.1.dg (i := 11) (by omega)
    have h11 := h.1 11 (by omega)
    have hb := sumU_bd h.1 11 (by omega)
    rw [dpos h', if_pos h]
    simp only [Bool.not_true, Bool.false_eq_true, if_false]
    rw [show (11 : Int) = ((11 : Nat) : Int) from rfl, sAt_ok (by omega)]
    simp only [obind]
    rw [rsum_ok h.1 11 (by omega) (by omega)]
    simp only [obind]
    rw [u8wrap (n := gv s 11 - 48) (by omega) (by omega), wr_id (n := gv s 11 - 48) (by omega) (by omega), wr_id (by omega) (by omega), last_odd, Int.tmod_eq_emod_of_nonneg (by omega)]
    unfold dg at hd ⊢
    by_cases h2 : (sumU s 11 + (gv s 11 - 48)) % 10 = 0
    · rw [if_pos h2, if_neg (by simp; omega)]
    · rw [if_neg h2, if_pos (by simp; omega)]
  · have h' : ¬ (Digs s ∧ (s.length : Int) = 12) := fun q => h ⟨q.1, by omega⟩
    rw [decide_eq_false h', if_neg h]
    rfl

/-! ### One byte is replaced -/
theorem gv_set {s : List UInt8} {i : Nat} (hi : i < s.length) (c : UInt8) (j : Nat) : gv (s.set i c) j = if i = j then (c.toNat : Int) else gv s j := by
  unfold gv
  rw [List.getD_eq_getElem?_getD, List.getElem?_set, List.getD_eq_getElem?_getD]
  by_cases h : i = j
  · subst h; simp [hi]
  · simp [h]
theorem sumU_set {s : List UInt8} {i : Nat} (hi : i < s.length) (c : UInt8) : ∀ n, sumU (s.set i c) n = if i < n then sumU s n - tm i (dg s i) + tm i ((c.toNat : Int) - 48) else sumU s n
  | 0 => by simp [sumU]
  | n + 1 => by
    unfold sumU
    rw [sumU_set hi c n]
    unfold dg
    rw [gv_set hi]
    by_cases h : i < n
    · rw [if_pos h, if_neg (show ¬ i = n by omega), if_pos (show i < n + 1 by omega)]; omega
    · by_cases e : i = n
      · subst e; rw [if_neg h, if_pos rfl, if_pos (by omega)]; omega
      · rw [if_neg h, if_neg e, if_neg (by omega)]
theorem Digs.set {s : List UInt8} (h : Digs s) {i : Nat} (hi : i < s.length) {c : UInt8} (hc : 48 ≤ c.toNat ∧ c.toNat ≤ 57) : Digs (s.set i c) := by
  intro j hj
  rw [List.length_set] at hj
  rw [gv_set hi]
  split
  · omega
  · exact h j hj
end Go.Proofs.Yteimkmjnjnaifaa
