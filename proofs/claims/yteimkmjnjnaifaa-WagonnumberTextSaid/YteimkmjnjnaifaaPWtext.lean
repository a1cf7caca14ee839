/- Plain law of WagonnumberText: Parse reads what Format writes, and what Parse reads is written in the same way. No condition. -/
import Derived.Test.YteimkmjnjnaifaaPWfmt
import Derived.Test.YteimkmjnjnaifaaGWagonnumberText
set_option linter.unusedVariables false
set_option linter.unusedSectionVars false
set_option linter.unusedSimpArgs false
set_option maxRecDepth 100000
namespace Go.Proofs.Yteimkmjnjnaifaa
open Go Go.V Go.Proofs

theorem parse_fmt {n : List UInt8} (hN : Num n) : parseR (fmt n) = (n, 0) := by
  have h0 := vcode_zero.2 hN
  obtain ⟨_, h12, _⟩ := hN
  obtain ⟨a, b, c, d, e, f, g, i, j, k, l, m, rfl⟩ := len12 n h12
  unfold parseR
  rw [if_pos ⟨rfl, rfl, rfl, rfl, rfl⟩]
  have e1 : strip (fmt [a, b, c, d, e, f, g, i, j, k, l, m]) = [a, b, c, d, e, f, g, i, j, k, l, m] := rfl
  rw [e1, if_pos h0]
theorem u8of {b c : UInt8} (h : (b.toNat : Int) = (c.toNat : Int)) : b = c := UInt8.toNat_inj.1 (by omega)
theorem fmt_parse {y : List UInt8} (h : (parseR y).2 = 0) : vcode (parseR y).1 = 0 ∧ (parseR y).1.length = 12 ∧ fmt (parseR y).1 = y := by
  unfold parseR at *
  by_cases h1 : y.length = 16 ∧ sep y
  · rw [if_pos h1] at *
    by_cases h2 : vcode (strip y) = 0
    · rw [if_pos h2] at *
      refine ⟨h2, strip_len h1.1, ?_⟩
      obtain ⟨h16, s1, s2, s3, s4⟩ := h1
      obtain ⟨a, b, x, c, d, u, e, f, g, i, z, j, k, l, w, m, rfl⟩ := len16 y h16
      have q1 : x = 32 := u8of s1
      have q2 : u = 32 := u8of s2
      have q3 : z = 32 := u8of s3
      have q4 : w = 45 := u8of s4
      subst q1 q2 q3 q4
      rfl
    · rw [if_neg h2] at h
      simp only at h
      split at h
      · cases h
      · exact absurd h h2
  · rw [if_neg h1] at h
    cases h
theorem wagText_ok (t : List Int) (p : List UInt8) : law02_WagonnumberText t p = some true := by
  unfold law02_WagonnumberText gen_New
  simp only [obind]
  obtain ⟨n, e1, hN⟩ := gnumber_ok t 0 4 (by omega) (by omega) (by omega)
  have h12 := hN.2.1
  rw [show (4 : Int) = ((4 : Nat) : Int) from rfl, e1]
  simp only [obind]
  rw [Format_ok n (by omega), if_pos (vcode_zero.2 hN)]
  simp only [obind]
  rw [wParse_ok, parse_fmt hN]
  simp only [obind]
  rw [if_neg (by simp), if_neg (by simp), if_neg (by simp)]
  unfold law02_WagonnumberText_J13 gen_New
  by_cases h : (p.length : Int) > 60
  · rw [dpos h, if_pos rfl, if_pos (by simp), if_pos (by simp)]
    simp
  · have hf : (fmt n).length ≤ 16 := by
      obtain ⟨a, b, c, d, e, f, g, i, j, k, l, m, rfl⟩ := len12 n h12
      exact Nat.le_refl _
    obtain ⟨y, k', e2, _, _, hy⟩ := spoil_ok t 0 (fmt n) (by omega) (by omega) (by omega)
    rw [decide_eq_false h, if_neg (by simp)]
    simp only [obind]
    rw [e2]
    simp only [obind]
    obtain ⟨d, h1, h2⟩ := loop_inv (step := law02_WagonnumberText_L22) (fun s => ∃ i : Nat, s = ([p, y], 2, (i : Int)) ∧ i ≤ 2) (fun s => 2 - s.2.2.toNat) (fun d => d = .inr ()) (by
      rintro _ ⟨i, rfl, hi⟩
      unfold law02_WagonnumberText_L22
      simp only
      by_cases hlt : i < 2
      · rw [if_pos (dpos (by omega)), idx_nat, List.getElem?_eq_getElem (show i < [p, y].length by simpa using hlt)]
        simp only [obind]
        rw [wParse_ok, wr_id (by omega) (by omega)]
        simp only [obind]
        by_cases h0 : (parseR [p, y][i]).2 = 0
        · obtain ⟨f1, f2, f3⟩ := fmt_parse h0
          rw [if_neg (by simpa using h0), Format_ok _ (by omega), if_pos f1]
          simp only [obind]
          rw [if_neg (by simp), if_neg (by rw [f3]; simp)]
          exact .inl ⟨_, rfl, ⟨i + 1, rfl, by omega⟩, by simp only; omega⟩
        · rw [if_pos (by simpa using h0)]
          exact .inl ⟨_, rfl, ⟨i + 1, rfl, by omega⟩, by simp only; omega⟩
      · rw [if_neg (dneg (by omega))]
        exact .inr ⟨_, rfl, rfl⟩) ([p, y], ([p, y].length : Int), 0) ⟨0, rfl, by omega⟩ (by simp)
    rw [h1, h2]
    simp only [obind]
    rw [sane02_ok]
    rfl
end Go.Proofs.Yteimkmjnjnaifaa
