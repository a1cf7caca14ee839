/- Plain law of WagonnumberExchange: an exchange of two neighbouring digits leads from a number to a number only for 0 and 9. No condition. -/
import Derived.Test.YteimkmjnjnaifaaPWfmt
import Derived.Test.YteimkmjnjnaifaaGWagonnumberExchange
set_option linter.unusedVariables false
set_option linter.unusedSectionVars false
set_option linter.unusedSimpArgs false
set_option maxRecDepth 100000
namespace Go.Proofs.Yteimkmjnjnaifaa
open Go Go.V Go.Proofs

theorem place_modE (p : Int) (n : Nat) (hn : 1 ≤ n ∧ n ≤ 1000) : ∃ a : Nat, Int.tmod (IntKind.i64.wrap ((Int.tmod p (n : Int)) + (n : Int))) (n : Int) = (a : Int) ∧ a < n := by
  obtain ⟨h1, h2⟩ := tmod_range p n (by omega)
  rw [wr_id (by omega) (by omega)]
  have h3 := Int.tmod_nonneg (n : Int) (show 0 ≤ Int.tmod p (n : Int) + n by omega)
  have h4 := Int.tmod_lt_of_pos (Int.tmod p (n : Int) + n) (show (0 : Int) < n by omega)
  exact ⟨(Int.tmod (Int.tmod p (n : Int) + n) (n : Int)).toNat, by omega, by omega⟩
theorem swp_num {s : List UInt8} (hN : Num s) {a : Nat} (ha : a < 11) : Num (swp s a) ↔ gv s a = gv s (a + 1) ∨ (gv s a = 48 ∧ gv s (a + 1) = 57) ∨ (gv s a = 57 ∧ gv s (a + 1) = 48) := by
  obtain ⟨hd, hl, hs⟩ := hN
  have g1 := hd a (by omega)
  have g2 := hd (a + 1) (by omega)
  have hsd : Digs (swp s a) := by
    intro j hj
    rw [swp_len] at hj
    rw [gv_swp (by omega)]
    split
    · exact g2
    · split
      · exact g1
      · exact hd j hj
  have e1 := sumU_set (s := s.set a (cb s (a + 1))) (i := a + 1) (by rw [List.length_set]; omega) (cb s a) 12
  have e2 := sumU_set (s := s) (i := a) (by omega) (cb s (a + 1)) 12
  rw [if_pos (by omega)] at e1 e2
  have e3 : dg (s.set a (cb s (a + 1))) (a + 1) = dg s (a + 1) := by
    unfold dg
    rw [gv_set (by omega), if_neg (by omega)]
  rw [e3, cb_gv, e2, cb_gv] at e1
  have e4 : sumU (swp s a) 12 = sumU s 12 - tm a (dg s a) + tm a (gv s (a + 1) - 48) - tm (a + 1) (dg s (a + 1)) + tm (a + 1) (gv s a - 48) := e1
  unfold Num
  rw [swp_len]
  have key : sumU (swp s a) 12 % 10 = 0 ↔ gv s a = gv s (a + 1) ∨ (gv s a = 48 ∧ gv s (a + 1) = 57) ∨ (gv s a = 57 ∧ gv s (a + 1) = 48) := by
    rw [e4]
    unfold dg tm
    generalize gv s a = x at *
    generalize gv s (a + 1) = y at *
    generalize sumU s 12 = S at *
    by_cases hp : a % 2 = 0
    · rw [if_pos hp, if_pos hp, if_neg (show ¬ (a + 1) % 2 = 0 by omega), if_neg (show ¬ (a + 1) % 2 = 0 by omega)]
      split <;> split <;> omega
    · rw [if_neg hp, if_neg hp, if_pos (show (a + 1) % 2 = 0 by omega), if_pos (show (a + 1) % 2 = 0 by omega)]
      split <;> split <;> omega
  rw [← key]
  exact ⟨fun q => q.2.2, fun q => ⟨hsd, hl, q⟩⟩
theorem wagExch_ok (t : List Int) (p1 : Int) : law02_WagonnumberExchange t p1 = some true := by
  unfold law02_WagonnumberExchange gen_New
  simp only [obind]
  obtain ⟨n, e1, hN⟩ := gnumber_ok t 0 2 (by omega) (by omega) (by omega)
  have hN' := hN
  obtain ⟨hd, h12, _⟩ := hN'
  obtain ⟨a, ha, ha2⟩ := place_modE p1 11 (by omega)
  simp only [show ((11 : Nat) : Int) = 11 from rfl] at ha
  have t1 : (n.take a).length = a := by rw [List.length_take]; omega
  have t2 : (n.drop (a + 2)).length = 12 - (a + 2) := by rw [List.length_drop, h12]
  have hb : ofB [gv n (a + 1), gv n a] = [cb n (a + 1), cb n a] := by
    unfold ofB
    rw [List.map_cons, List.map_cons, List.map_nil, ofNat_gv, ofNat_gv]
  rw [show (2 : Int) = ((2 : Nat) : Int) from rfl, e1]
  simp only [obind]
  rw [show ((2 : Nat) : Int) = 2 from rfl, ha, wr_id (n := (a : Int) + 1) (by omega) (by omega), wr_id (n := (a : Int) + 2) (by omega) (by omega), show (a : Int) + 1 = ((a + 1 : Nat) : Int) by omega, show (a : Int) + 2 = ((a + 2 : Nat) : Int) by omega,
    if_pos (by omega), sAt_ok (by omega)]
  simp only [obind]
  rw [sAt_ok (by omega)]
  simp only [obind]
  rw [hb, gcut, gcut2, if_pos (by omega), if_pos (by rw [t1]; simp; omega), if_pos (by rw [List.length_append, t1, t2]; simp; omega)]
  have hJ : ∀ b : Bool, (b = true ↔ (gv n a = gv n (a + 1) ∨ (gv n a = 48 ∧ gv n (a + 1) = 57) ∨ (gv n a = 57 ∧ gv n (a + 1) = 48))) → law02_WagonnumberExchange_J12 p1 (n, 0 + 11) (gv n (a + 1)) (gv n a) b = some true := by
    intro b hbb
    unfold law02_WagonnumberExchange_J12
    rw [wValid_ok n (by omega), ha, wr_id (n := (a : Int) + 2) (by omega) (by omega), show (a : Int) + 2 = ((a + 2 : Nat) : Int) by omega]
    simp only [obind]
    rw [if_pos (by rw [vcode_zero.2 hN]; rfl), hb, gcut, gcut2, cut_swp (by omega), wValid_ok _ (by rw [swp_len]; omega)]
    simp only [obind]
    have : (vcode (swp n a) == 0) = b := by
      rw [Bool.eq_iff_iff, beq_iff_eq, vcode_zero, swp_num hN ha2, hbb]
    rw [if_pos (by rw [this]; simp), sane02_ok]
    rfl
  by_cases c1 : gv n a = gv n (a + 1)
  · rw [if_pos (by simpa using c1)]
    exact hJ true ⟨fun _ => .inl c1, fun _ => rfl⟩
  · rw [if_neg (by simpa using c1)]
    by_cases c2 : gv n a = 48
    · rw [if_pos (by simpa using c2)]
      by_cases c3 : gv n (a + 1) = 57
      · rw [if_pos (by simpa using c3)]
        exact hJ true ⟨fun _ => .inr (.inl ⟨c2, c3⟩), fun _ => rfl⟩
      · rw [if_neg (by simpa using c3), if_neg (by simp; omega)]
        exact hJ false ⟨fun q => (by cases q), fun q => by omega⟩
    · rw [if_neg (by simpa using c2)]
      by_cases c3 : gv n a = 57
      · rw [if_pos (by simpa using c3)]
        refine hJ _ ?_
        rw [beq_iff_eq]
        omega
      · rw [if_neg (by simpa using c3)]
        exact hJ false ⟨fun q => (by cases q), fun q => by omega⟩
end Go.Proofs.Yteimkmjnjnaifaa
