/- Plain law of WagonnumberPlaces: a string of digits that is no number has, at each place, exactly one replacement that makes it a number. No condition. -/
import Derived.Test.YteimkmjnjnaifaaPWfmt
import Derived.Test.YteimkmjnjnaifaaGWagonnumberPlaces
set_option linter.unusedVariables false
set_option linter.unusedSectionVars false
set_option linter.unusedSimpArgs false
set_option maxRecDepth 100000
namespace Go.Proofs.Yteimkmjnjnaifaa
open Go Go.V Go.Proofs

theorem places_in {s : List UInt8} (hd : Digs s) (hl : s.length = 12) (k : Int) (i : Nat) (hi : i < 12) : loop (law02_WagonnumberPlaces_L18 (s, k) (i : Int)) (0, 0) = some (if Num s then 0 else 1) := by
  obtain ⟨d0, hd0, hu⟩ := uniq_ok hd hl hi
  obtain ⟨q1, q2⟩ := dgN hd (i := i) (by omega)
  obtain ⟨d, h1, h2⟩ := loop_inv (step := law02_WagonnumberPlaces_L18 (s, k) (i : Int)) (fun t => ∃ d : Nat, t = ((if d0 < d ∧ ¬ Num s then (1 : Int) else 0), (d : Int)) ∧ d ≤ 10) (fun t => 10 - t.2.toNat) (fun n => n = if Num s then (0 : Int) else 1) (by
    rintro _ ⟨d, rfl, hd1⟩
    unfold law02_WagonnumberPlaces_L18
    simp only
    by_cases h : d < 10
    · have hn : (UInt8.ofNat (48 + d)).toNat = 48 + d := by rw [UInt8.toNat_ofNat']; omega
      have hof : ofB [48 + (d : Int)] = [UInt8.ofNat (48 + d)] := by
        unfold ofB
        rw [List.map_cons, List.map_nil, show (48 + (d : Int)).toNat = 48 + d by omega]
      have t1 : (s.take i).length = i := by rw [List.length_take]; omega
      have t2 : (s.drop (i + 1)).length = 12 - (i + 1) := by rw [List.length_drop, hl]
      have hc : ∀ m : Int, m = (if d0 < d ∧ ¬ Num s then (1 : Int) else 0) → IntKind.i64.wrap (m + 1) = m + 1 := fun m hm => wr_id (by split at hm <;> omega) (by split at hm <;> omega)
      rw [if_pos (dpos (by omega)), wr_id (n := (i : Int) + 1) (by omega) (by omega), wr_id (n := 48 + (d : Int)) (by omega) (by omega), u8wrap (by omega) (by omega), hof, show (i : Int) + 1 = ((i + 1 : Nat) : Int) by omega, gcut, gcut2,
        if_pos (by omega), if_pos (by omega), if_pos (by rw [t1]; simp; omega), if_pos (by rw [List.length_append, t1, t2]; simp; omega), cut_set (by omega), wr_id (n := (d : Int) + 1) (by omega) (by omega)]
      have next : ∀ m : Int, m = (if d0 < d + 1 ∧ ¬ Num s then (1 : Int) else 0) → (∃ d' : Nat, ((m, (d : Int) + 1) : Int × Int) = ((if d0 < d' ∧ ¬ Num s then (1 : Int) else 0), (d' : Int)) ∧ d' ≤ 10) ∧ 10 - ((m, (d : Int) + 1) : Int × Int).2.toNat < 10 - (((if d0 < d ∧ ¬ Num s then (1 : Int) else 0), (d : Int)) : Int × Int).2.toNat := by
        intro m hm
        exact ⟨⟨d + 1, by rw [hm]; rfl, by omega⟩, by simp only; omega⟩
      by_cases he : s.set i (UInt8.ofNat (48 + d)) = s
      · rw [if_neg (by rw [he]; simp)]
        obtain ⟨f1, f2⟩ := next (if d0 < d ∧ ¬ Num s then (1 : Int) else 0) (by
          by_cases hN : Num s
          · rw [if_neg (fun q => q.2 hN), if_neg (fun q => q.2 hN)]
          · have : d ≠ d0 := fun e => hN (by rw [← he]; exact (hu d h).2 e)
            by_cases hlt : d0 < d
            · rw [if_pos ⟨hlt, hN⟩, if_pos ⟨by omega, hN⟩]
            · rw [if_neg (fun q => hlt q.1), if_neg (fun q => by omega)])
        exact .inl ⟨_, rfl, f1, f2⟩
      · rw [if_pos (by simpa using he), wValid_ok _ (by rw [List.length_set]; omega)]
        simp only [obind]
        by_cases hx : Num (s.set i (UInt8.ofNat (48 + d)))
        · have e := (hu d h).1 hx
          have hN : ¬ Num s := fun q => by
            have e2 := (hu (dg s i).toNat q1).1 (by rw [q2]; exact q)
            exact he (by rw [e, ← e2]; exact q2)
          rw [if_pos (by rw [beq_iff_eq]; exact vcode_zero.2 hx), hc _ rfl]
          obtain ⟨f1, f2⟩ := next ((if d0 < d ∧ ¬ Num s then (1 : Int) else 0) + 1) (by rw [if_neg (fun q => by omega), if_pos ⟨by omega, hN⟩]; rfl)
          exact .inl ⟨_, rfl, f1, f2⟩
        · have e : d ≠ d0 := fun e => hx ((hu d h).2 e)
          rw [if_neg (by rw [beq_iff_eq]; exact fun q => hx (vcode_zero.1 q))]
          obtain ⟨f1, f2⟩ := next (if d0 < d ∧ ¬ Num s then (1 : Int) else 0) (by
            by_cases hN : Num s
            · rw [if_neg (fun q => q.2 hN), if_neg (fun q => q.2 hN)]
            · by_cases hlt : d0 < d
              · rw [if_pos ⟨hlt, hN⟩, if_pos ⟨by omega, hN⟩]
              · rw [if_neg (fun q => hlt q.1), if_neg (fun q => by omega)])
          exact .inl ⟨_, rfl, f1, f2⟩
    · rw [if_neg (dneg (by omega))]
      refine .inr ⟨_, rfl, ?_⟩
      by_cases hN : Num s
      · rw [if_neg (fun q => q.2 hN), if_pos hN]
      · rw [if_pos ⟨by omega, hN⟩, if_neg hN]) (0, 0) ⟨0, by rw [if_neg (fun q => by omega)]; rfl, by omega⟩ (by simp)
  rw [h1, h2]
theorem wagPlaces_ok (t : List Int) : law02_WagonnumberPlaces t = some true := by
  unfold law02_WagonnumberPlaces gen_New
  simp only [obind]
  obtain ⟨s, e1, hl, hd⟩ := gdigits_ok t 0 12 (by omega) (by omega) (by omega)
  rw [show (12 : Int) = ((12 : Nat) : Int) from rfl, e1]
  simp only [obind]
  rw [wValid_ok s (by omega)]
  simp only [obind]
  obtain ⟨l, h1, _, h3, h4⟩ := wrep_ok hd hl
  rw [h1]
  simp only [obind]
  rw [if_neg (by simp)]
  obtain ⟨d, g1, g2⟩ := loop_inv (step := law02_WagonnumberPlaces_L15 (s, 0 + ((12 : Nat) : Int)) (vcode s)) (fun u => ∃ i : Nat, u = ((if Num s then 0 else (i : Int)), (i : Int)) ∧ i ≤ 12) (fun u => 12 - u.2.toNat) (fun d => d = .inr (if Num s then 0 else 12)) (by
    rintro _ ⟨i, rfl, hi⟩
    unfold law02_WagonnumberPlaces_L15
    simp only
    by_cases h : i < 12
    · rw [if_pos (dpos (by omega)), places_in hd hl _ i h, wr_id (n := (i : Int) + 1) (by omega) (by omega)]
      simp only [obind]
      by_cases hN : Num s
      · have hv := vcode_zero.2 hN
        rw [if_pos (by rw [hv]; rfl), if_pos hN, if_neg (by simp), if_neg (by rw [hv]; decide), if_pos hN]
        exact .inl ⟨_, rfl, ⟨i + 1, by rw [if_pos hN]; rfl, by omega⟩, by simp only; omega⟩
      · have hv : ¬ vcode s = 0 := fun q => hN (vcode_zero.1 q)
        rw [if_neg (by simpa using hv), if_pos (by simpa using hv), if_neg hN, if_neg (by simp), if_neg hN, wr_id (by omega) (by omega)]
        exact .inl ⟨_, rfl, ⟨i + 1, by rw [if_neg hN]; rfl, by omega⟩, by simp only; omega⟩
    · rw [if_neg (dneg (by omega))]
      have : i = 12 := by omega
      subst this
      exact .inr ⟨_, rfl, rfl⟩) (0, 0) ⟨0, by split <;> rfl, by omega⟩ (by simp)
  rw [g1, g2]
  simp only [obind]
  have hge : (l.length : Int) ≥ if Num s then 0 else 12 := by
    by_cases hN : Num s
    · rw [if_pos hN]; omega
    · rw [if_neg hN]; have := rep_ge hd hl hN h3; omega
  rw [if_pos (dpos hge), sane02_ok]
  rfl
end Go.Proofs.Yteimkmjnjnaifaa
