/- Plain law of WagonnumberOneDigit: a number of which one digit is replaced is no number, and Repairs finds the number again. No condition. -/
import Derived.Test.YteimkmjnjnaifaaPWfmt
import Derived.Test.YteimkmjnjnaifaaGWagonnumberOneDigit
set_option linter.unusedVariables false
set_option linter.unusedSectionVars false
set_option linter.unusedSimpArgs false
set_option maxRecDepth 100000
namespace Go.Proofs.Yteimkmjnjnaifaa
open Go Go.V Go.Proofs

theorem place_mod (p : Int) (n : Nat) (hn : 1 ≤ n ∧ n ≤ 1000) : ∃ a : Nat, Int.tmod (IntKind.i64.wrap ((Int.tmod p (n : Int)) + (n : Int))) (n : Int) = (a : Int) ∧ a < n := by
  obtain ⟨h1, h2⟩ := tmod_range p n (by omega)
  rw [wr_id (by omega) (by omega)]
  have h3 := Int.tmod_nonneg (n : Int) (show 0 ≤ Int.tmod p (n : Int) + n by omega)
  have h4 := Int.tmod_lt_of_pos (Int.tmod p (n : Int) + n) (show (0 : Int) < n by omega)
  exact ⟨(Int.tmod (Int.tmod p (n : Int) + n) (n : Int)).toNat, by omega, by omega⟩
theorem wagOne_ok (t : List Int) (p1 p2 : Int) : law02_WagonnumberOneDigit t p1 p2 = some true := by
  unfold law02_WagonnumberOneDigit gen_New
  simp only [obind]
  obtain ⟨n, e1, hN⟩ := gnumber_ok t 0 1 (by omega) (by omega) (by omega)
  have hN' := hN
  obtain ⟨hd, h12, _⟩ := hN'
  obtain ⟨a, ha, ha2⟩ := place_mod p1 12 (by omega)
  obtain ⟨b, hb, hb2⟩ := place_mod p2 9 (by omega)
  simp only [show ((12 : Nat) : Int) = 12 from rfl, show ((9 : Nat) : Int) = 9 from rfl] at ha hb
  have hg := hd.dg (i := a) (by omega)
  have hga := hd a (by omega)
  rw [show (1 : Int) = ((1 : Nat) : Int) from rfl, e1]
  simp only [obind]
  rw [show ((1 : Nat) : Int) = 1 from rfl, ha, hb, sAt_ok (by omega)]
  simp only [obind]
  have ed : IntKind.i64.wrap (IntKind.u8.wrap (gv n a - 48)) = dg n a := by
    rw [u8wrap (by omega) (by omega), wr_id (by omega) (by omega)]; rfl
  rw [ed, wr_id (n := dg n a + 1) (by omega) (by omega), wr_id (n := dg n a + 1 + (b : Int)) (by omega) (by omega), wr_id (n := (a : Int) + 1) (by omega) (by omega), Int.tmod_eq_emod_of_nonneg (by omega)]
  generalize hD : ((dg n a + 1 + (b : Int)) % 10).toNat = D
  have hD1 : (dg n a + 1 + (b : Int)) % 10 = (D : Int) := by omega
  rw [hD1, wr_id (n := 48 + (D : Int)) (by omega) (by omega), u8wrap (by omega) (by omega)]
  have hof : ofB [48 + (D : Int)] = [UInt8.ofNat (48 + D)] := by
    unfold ofB
    rw [List.map_cons, List.map_nil, show (48 + (D : Int)).toNat = 48 + D by omega]
  have hn : (UInt8.ofNat (48 + D)).toNat = 48 + D := by rw [UInt8.toNat_ofNat']; omega
  have t1 : (n.take a).length = a := by rw [List.length_take]; omega
  have t2 : (n.drop (a + 1)).length = 12 - (a + 1) := by rw [List.length_drop, h12]
  rw [hof, show (a : Int) + 1 = ((a + 1 : Nat) : Int) by omega, gcut, gcut2, if_pos (by omega), if_pos (by omega), if_pos (by rw [t1]; simp; omega), if_pos (by rw [List.length_append, t1, t2]; simp; omega), cut_set (by omega), wValid_ok n (by omega)]
  simp only [obind]
  rw [if_neg (by rw [vcode_zero.2 hN]; simp), wValid_ok _ (by rw [List.length_set]; omega)]
  simp only [obind]
  have hds : Digs (n.set a (UInt8.ofNat (48 + D))) := hd.set (by omega) (by omega)
  have hls : (n.set a (UInt8.ofNat (48 + D))).length = 12 := by rw [List.length_set]; exact h12
  have hne : n.set a (UInt8.ofNat (48 + D)) ≠ n := fun q => by
    have := (set_ne (by omega) _).1 q
    rw [hn] at this
    unfold dg at hD1 hg
    omega
  have hNs : ¬ Num (n.set a (UInt8.ofNat (48 + D))) := fun q => by
    obtain ⟨d0, _, hu⟩ := uniq_ok hd h12 (i := a) (by omega)
    obtain ⟨q1, q2⟩ := dgN hd (i := a) (by omega)
    have e2 := (hu (dg n a).toNat q1).1 (by rw [q2]; exact hN)
    have e3 := (hu D (by omega)).1 q
    exact hne (by rw [e3, ← e2]; exact q2)
  have hv : vcode (n.set a (UInt8.ofNat (48 + D))) = 9 := by
    unfold vcode
    rw [if_pos ⟨hds, hls⟩, if_neg (fun q => hNs ⟨hds, hls, q⟩)]
  rw [if_neg (by rw [hv]; simp)]
  obtain ⟨l, h1, h2, h3, h4⟩ := wrep_ok hds hls
  rw [h1]
  simp only [obind]
  have hin : n ∈ l := by
    refine (h3 n).2 (.inl ⟨a, cb n a, by omega, by have := cb_gv n a; unfold dgt; omega, ?_, fun q => hne q.symm, hN⟩)
    refine ext_gv (by rw [List.length_set, List.length_set]) fun j hj => ?_
    rw [gv_set (by omega), gv_set (by omega), cb_gv]
    by_cases q : a = j
    · rw [if_pos q, q]
    · rw [if_neg q, if_neg q]
  obtain ⟨j0, hj0, ej⟩ := List.getElem_of_mem hin
  have ej' : l.getD j0 [] = n := by rw [List.getD_eq_getElem?_getD, List.getElem?_eq_getElem hj0]; exact ej
  obtain ⟨d, g1, g2⟩ := loop_inv (step := law02_WagonnumberOneDigit_L20 (n, 0 + 11) (l, 0)) (fun s => ∃ (f : Bool) (i : Nat), s = (f, (i : Int)) ∧ i ≤ l.length ∧ (j0 < i → f = true)) (fun s => l.length - s.2.toNat) (fun d => d = true) (by
    rintro _ ⟨f, i, rfl, hi, hf⟩
    unfold law02_WagonnumberOneDigit_L20
    simp only
    by_cases h : i < l.length
    · rw [if_pos (dpos (by omega)), idx_nat, getD_get h]
      simp only [obind]
      rw [wr_id (by omega) (by omega)]
      cases f with
      | true =>
        rw [if_pos rfl]
        exact .inl ⟨_, rfl, ⟨true, i + 1, rfl, by omega, fun _ => rfl⟩, by simp only; omega⟩
      | false =>
        rw [if_neg (by simp)]
        refine .inl ⟨_, rfl, ⟨_, i + 1, rfl, by omega, fun q => ?_⟩, by simp only; omega⟩
        by_cases e : j0 = i
        · subst e; rw [ej']; simp
        · have := hf (by omega); cases this
    · rw [if_neg (dneg (by omega))]
      exact .inr ⟨_, rfl, hf (by omega)⟩) (false, 0) ⟨false, 0, rfl, by omega, fun q => by omega⟩ (by simp; omega)
  rw [g1, g2]
  simp only [obind]
  rw [if_pos (by simp), if_pos trivial, sane02_ok]
  rfl
end Go.Proofs.Yteimkmjnjnaifaa
