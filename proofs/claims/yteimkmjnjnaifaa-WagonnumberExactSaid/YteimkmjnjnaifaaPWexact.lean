/- Plain law of WagonnumberExact: all functions answer as the reference does. No condition. -/
import Derived.Test.YteimkmjnjnaifaaPWfmt
import Derived.Test.YteimkmjnjnaifaaGWagonnumberExact
import Derived.Test.YteimkmjnjnaifaaGlaw02exact
set_option linter.unusedVariables false
set_option linter.unusedSectionVars false
set_option linter.unusedSimpArgs false
set_option maxRecDepth 100000
namespace Go.Proofs.Yteimkmjnjnaifaa
open Go Go.V Go.Proofs

theorem strings_same (a : List (List UInt8)) (h : a.length < 4611686018427387904) : gen_Strings a a = some true := by
  unfold gen_Strings
  rw [if_neg (by simp)]
  obtain ⟨d, h1, h2⟩ := loop_inv (step := gen_Strings_L4 a a) (fun s => ∃ i : Nat, s = (i : Int) ∧ i ≤ a.length) (fun s => a.length - s.toNat) (fun d => d = .inr ()) (by
    rintro _ ⟨i, rfl, hi⟩
    unfold gen_Strings_L4
    simp only
    by_cases hlt : i < a.length
    · rw [if_pos (dpos (by omega)), idx_nat, getD_get hlt]
      simp only [obind]
      rw [if_neg (by simp), wr_id (by omega) (by omega)]
      exact .inl ⟨_, rfl, ⟨i + 1, rfl, by omega⟩, by omega⟩
    · rw [if_neg (dneg (by omega))]
      exact .inr ⟨_, rfl, rfl⟩) 0 ⟨0, rfl, by omega⟩ (by simp; omega)
  rw [h1, h2]
  rfl
theorem exact02_ok (s : List UInt8) (hl : s.length ≤ 1000000) : law02_exact s = some true := by
  unfold law02_exact
  obtain ⟨v, hk⟩ := Kind_ok s (by omega)
  obtain ⟨hr, l, e, hw, hll⟩ := repairs_eq s (by omega)
  rw [wDigit_ok s (by omega), rDigit_ok s (by omega)]
  simp only [obind]
  rw [if_neg (by simp), if_neg (by simp), wValid_ok s (by omega)]
  simp only [obind]
  rw [rValid_ok s (by omega)]
  simp only [obind]
  rw [if_neg (by simp), Kind_eq s (by omega), hk]
  simp only [obind]
  rw [Format_eq s (by omega), Format_ok s (by omega)]
  simp only [obind]
  rw [if_neg (by simp), if_neg (by simp), if_neg (by simp), if_neg (by simp), wParse_ok]
  simp only [obind]
  rw [rParse_ok]
  simp only [obind]
  rw [hr, hw]
  simp only [obind]
  rw [if_pos (by simp), if_pos (by simp), strings_same l (by omega)]
  simp only [obind, if_true, beq_self_eq_true]
theorem wagExact_ok (t : List Int) (p : List UInt8) : law02_WagonnumberExact t p = some true := by
  unfold law02_WagonnumberExact gen_New
  simp only [obind]
  obtain ⟨d, h1, h2⟩ := loop_inv (step := law02_WagonnumberExact_L7 (t, 0)) (fun s => ∃ (i : Nat) (k : Int), s = (k, (i : Int)) ∧ i ≤ 4 ∧ 0 ≤ k ∧ k ≤ 100 * i) (fun s => 4 - s.2.toNat) (fun d => d = .inr ()) (by
    rintro _ ⟨i, k, rfl, hi, k0, k1⟩
    unfold law02_WagonnumberExact_L7
    simp only
    by_cases h : i < 4
    · obtain ⟨n, e1, hN⟩ := gnumber_ok t k i k0 (by omega) (by omega)
      have h12 := hN.2.1
      rw [if_pos (dpos (by omega)), e1]
      simp only [obind]
      rw [Format_eq n (by omega), Format_ok n (by omega), if_pos (vcode_zero.2 hN)]
      simp only [obind]
      rw [exact02_ok n (by omega)]
      simp only [obind, Bool.not_true, Bool.false_eq_true, if_false]
      rw [if_pos (by omega), exact02_ok _ (by rw [List.length_take]; omega)]
      simp only [obind, Bool.not_true, Bool.false_eq_true, if_false]
      have hf : (fmt n).length ≤ 16 := by
        obtain ⟨a, b, c, d, e, f, g, i, j, k, l, m, rfl⟩ := len12 n h12
        exact Nat.le_refl _
      rw [exact02_ok _ (by omega)]
      simp only [obind, Bool.not_true, Bool.false_eq_true, if_false]
      obtain ⟨x, k2, e2, q1, q2, q3⟩ := spoil_ok t (k + 11) n (by omega) (by omega) (by omega)
      rw [e2]
      simp only [obind]
      rw [exact02_ok _ (by omega)]
      simp only [obind, Bool.not_true, Bool.false_eq_true, if_false]
      obtain ⟨y, k3, e3, r1, r2, r3⟩ := spoil_ok t k2 (fmt n) (by omega) (by omega) (by omega)
      rw [e3]
      simp only [obind]
      rw [exact02_ok _ (by omega)]
      simp only [obind, Bool.not_true, Bool.false_eq_true, if_false]
      obtain ⟨z, e4, z1, _⟩ := gdigits_ok t k3 12 (by omega) (by omega) (by omega)
      rw [show (12 : Int) = ((12 : Nat) : Int) from rfl, e4]
      simp only [obind]
      rw [exact02_ok _ (by omega)]
      simp only [obind, Bool.not_true, Bool.false_eq_true, if_false]
      rw [wr_id (by omega) (by omega)]
      exact .inl ⟨_, rfl, ⟨i + 1, _, rfl, by omega, by omega, by omega⟩, by simp only; omega⟩
    · rw [if_neg (dneg (by omega))]
      exact .inr ⟨_, rfl, rfl⟩) (0, 0) ⟨0, 0, rfl, by omega, by omega, by omega⟩ (by simp)
  rw [h1, h2]
  simp only [obind]
  by_cases h : (p.length : Int) > 60
  · rw [if_pos (dpos h)]
  · rw [if_neg (dneg h), exact02_ok _ (by omega)]
    simp only [obind, if_true]
    rw [sane02_ok]
    rfl
end Go.Proofs.Yteimkmjnjnaifaa
