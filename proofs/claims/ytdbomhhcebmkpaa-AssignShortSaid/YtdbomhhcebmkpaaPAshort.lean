/- Plain law of AssignShort: Match finds an assignment exactly if a search through all finds one. No condition. -/
import Derived.Test.YtdbomhhcebmkpaaPAdual
import Derived.Test.YtdbomhhcebmkpaaGAssignShort
set_option linter.unusedVariables false
set_option linter.unusedSimpArgs false
namespace Go.Proofs.Ytdbomhhcebmkpaa
open Go Go.V Go.Proofs
/-- The loads from i on find tracks that are not taken. -/
def Ext (a b : List Int) (i : Nat) (tk : List Bool) : Prop := ∃ f : Nat → Nat, (∀ k, i ≤ k → k < a.length → vw a k ≠ 0 → f k < b.length ∧ bw tk (f k) = false ∧ vw a k ≤ vw b (f k)) ∧
  ∀ j k, i ≤ j → i ≤ k → j < a.length → k < a.length → vw a j ≠ 0 → vw a k ≠ 0 → f j = f k → j = k
theorem ext_zero {a b : List Int} {i : Nat} {tk : List Bool} (h0 : vw a i = 0) : Ext a b i tk ↔ Ext a b (i + 1) tk := by
  constructor
  · rintro ⟨f, h1, h2⟩
    exact ⟨f, fun k hk => h1 k (by omega), fun j k hj hk => h2 j k (by omega) (by omega)⟩
  · rintro ⟨f, h1, h2⟩
    refine ⟨f, fun k hk hl hn => h1 k ?_ hl hn, fun j k hj hk hjl hkl hjn hkn => h2 j k ?_ ?_ hjl hkl hjn hkn⟩
    · rcases Nat.lt_or_ge i k with h | h
      · exact h
      · exact absurd (by rw [show k = i by omega]; exact h0) hn
    · rcases Nat.lt_or_ge i j with h | h
      · exact h
      · exact absurd (by rw [show j = i by omega]; exact h0) hjn
    · rcases Nat.lt_or_ge i k with h | h
      · exact h
      · exact absurd (by rw [show k = i by omega]; exact h0) hkn
theorem ext_one {a b : List Int} {i : Nat} {tk : List Bool} (hi : i < a.length) (h0 : vw a i ≠ 0) (htk : tk.length = b.length) :
    Ext a b i tk ↔ ∃ u, u < b.length ∧ bw tk u = false ∧ vw a i ≤ vw b u ∧ Ext a b (i + 1) (tk.set u true) := by
  constructor
  · rintro ⟨f, h1, h2⟩
    obtain ⟨q1, q2, q3⟩ := h1 i (Nat.le_refl _) hi h0
    refine ⟨f i, q1, q2, q3, f, fun k hk hl hn => ?_, fun j k hj hk => h2 j k (by omega) (by omega)⟩
    obtain ⟨q4, q5, q6⟩ := h1 k (by omega) hl hn
    refine ⟨q4, ?_, q6⟩
    rw [bw_set (by omega), if_neg]
    · exact q5
    · intro e
      have := h2 k i (by omega) (Nat.le_refl _) hl hi hn h0 e
      omega
  · rintro ⟨u, q1, q2, q3, f, h1, h2⟩
    have hu : ∀ k, i + 1 ≤ k → k < a.length → vw a k ≠ 0 → f k ≠ u := fun k hk hl hn e => by
      obtain ⟨_, q5, _⟩ := h1 k hk hl hn
      rw [bw_set (by omega), if_pos e] at q5
      cases q5
    refine ⟨fun k => if k = i then u else f k, fun k hk hl hn => ?_, fun j k hj hk hjl hkl hjn hkn e => ?_⟩
    · dsimp only
      by_cases e : k = i
      · subst e; rw [if_pos rfl]; exact ⟨q1, q2, q3⟩
      · rw [if_neg e]
        obtain ⟨q4, q5, q6⟩ := h1 k (by omega) hl hn
        rw [bw_set (by omega), if_neg (hu k (by omega) hl hn)] at q5
        exact ⟨q4, q5, q6⟩
    · dsimp only at e
      by_cases ej : j = i
      · by_cases ek : k = i
        · omega
        · rw [if_pos ej, if_neg ek] at e; exact absurd e.symm (hu k (by omega) hkl hkn)
      · by_cases ek : k = i
        · rw [if_neg ej, if_pos ek] at e; exact absurd e (hu j (by omega) hjl hjn)
        · rw [if_neg ej, if_neg ek] at e; exact h2 j k (by omega) (by omega) hjl hkl hjn hkn e
theorem set_back {tk : List Bool} {t : Nat} (ht : t < tk.length) (h : bw tk t = false) : (tk.set t true).set t false = tk := by
  rw [List.set_set]
  refine List.ext_getElem (by simp) fun i h1 h2 => ?_
  rw [List.getElem_set]
  split
  · rename_i e; subst e
    have : bw tk t = tk[t] := by unfold bw; rw [List.getD_eq_getElem?_getD, List.getElem?_eq_getElem ht]; rfl
    rw [← this, h]
  · rfl
theorem possible_ok {a b : List Int} (ha : a.length ≤ 1000) (hb : b.length ≤ 1000) : ∀ (n i : Nat) (tk : List Bool), i ≤ a.length → a.length - i < n → tk.length = b.length →
    (law16_possible_n n a b i tk = some (true, tk) ∧ Ext a b i tk) ∨ (law16_possible_n n a b i tk = some (false, tk) ∧ ¬ Ext a b i tk)
  | 0, i, tk, _, h, _ => absurd h (Nat.not_lt_zero _)
  | n + 1, i, tk, hi, hn, htk => by
    show (law16_possible_b (law16_possible_n n) a b i tk = some (true, tk) ∧ Ext a b i tk) ∨ (law16_possible_b (law16_possible_n n) a b i tk = some (false, tk) ∧ ¬ Ext a b i tk)
    unfold law16_possible_b
    by_cases e1 : i = a.length
    · rw [if_pos (by simp [e1])]
      exact Or.inl ⟨rfl, fun _ => 0, fun k h1 h2 => by omega, fun j k h1 h2 h3 => by omega⟩
    · rw [if_neg (by simp; omega), vw_idx (by omega : i < a.length)]
      simp only [Option.bind_some]
      rw [wk1 (by omega)]
      by_cases e2 : vw a i = 0
      · rw [if_pos (by simp [e2]), ext_zero e2]
        rcases possible_ok ha hb n (i + 1) tk (by omega) (by omega) htk with ⟨h1, h2⟩ | ⟨h1, h2⟩
        · rw [h1]; simp only [Option.bind_some]; rw [if_pos trivial]; exact Or.inl ⟨rfl, h2⟩
        · rw [h1]; simp only [Option.bind_some]; rw [if_pos trivial]; exact Or.inr ⟨rfl, h2⟩
      · rw [if_neg (by simp [e2]), ext_one (by omega) e2 htk]
        obtain ⟨d, h1, h2⟩ := loop_inv (step := law16_possible_L10 a b i (law16_possible_n n)) (fun s => ∃ t : Nat, s = (tk, (t : Int)) ∧ t ≤ b.length ∧ ∀ u, u < t → ¬ (bw tk u = false ∧ vw a i ≤ vw b u ∧ Ext a b (i + 1) (tk.set u true))) (fun s => b.length - s.2.toNat)
          (fun d => (d = .inl tk ∧ ∃ u, u < b.length ∧ bw tk u = false ∧ vw a i ≤ vw b u ∧ Ext a b (i + 1) (tk.set u true)) ∨ (d = .inr tk ∧ ¬ ∃ u, u < b.length ∧ bw tk u = false ∧ vw a i ≤ vw b u ∧ Ext a b (i + 1) (tk.set u true))) (by
          rintro _ ⟨t, rfl, ht, hu⟩
          unfold law16_possible_L10
          dsimp only
          by_cases hlt : t < b.length
          · rw [if_pos (dpos (by omega)), bw_idx (by omega : t < tk.length)]
            simp only [Option.bind_some]
            have skip : ¬ (bw tk t = false ∧ vw a i ≤ vw b t) → (∃ s', law16_possible_J12 a b i (law16_possible_n n) tk t false = some (.next s') ∧ (∃ t' : Nat, s' = (tk, (t' : Int)) ∧ t' ≤ b.length ∧ ∀ u, u < t' → ¬ (bw tk u = false ∧ vw a i ≤ vw b u ∧ Ext a b (i + 1) (tk.set u true))) ∧ b.length - s'.2.toNat < b.length - (t : Int).toNat) := fun hne => by
              unfold law16_possible_J12
              rw [if_neg (by decide), wk1 (by omega)]
              refine ⟨_, rfl, ⟨t + 1, rfl, by omega, fun u hu2 hu3 => ?_⟩, by dsimp only; omega⟩
              by_cases e : u = t
              · subst e; exact hne ⟨hu3.1, hu3.2.1⟩
              · exact hu u (by omega) hu3
            by_cases e3 : bw tk t = true
            · rw [if_neg (by rw [e3]; decide)]
              exact Or.inl (skip (by rw [e3]; simp))
            · have e3' : bw tk t = false := by simpa using e3
              rw [if_pos (by rw [e3']; rfl), vw_idx hlt]
              simp only [Option.bind_some]
              rw [vw_idx (by omega : i < a.length)]
              simp only [Option.bind_some]
              by_cases e4 : vw b t ≥ vw a i
              · rw [decide_eq_true e4]
                unfold law16_possible_J12
                have htl' : t < tk.length := by clear skip; omega
                have hi' : i + 1 ≤ a.length ∧ a.length - (i + 1) < n := by clear skip; omega
                rw [if_pos rfl, bw_idx htl']
                simp only [Option.bind_some, Int.toNat_natCast]
                rw [wk1 (by clear skip; omega)]
                have hl : (tk.set t true).length = b.length := by simp [htk]
                have htl2 : t < (tk.set t true).length := by rw [List.length_set]; exact htl'
                rcases possible_ok ha hb n (i + 1) (tk.set t true) hi'.1 hi'.2 hl with ⟨h1, h2⟩ | ⟨h1, h2⟩
                · rw [h1]
                  simp only [Option.bind_some]
                  rw [if_pos trivial, bw_idx htl2]
                  simp only [Option.bind_some]
                  rw [if_pos trivial, set_back htl' e3']
                  exact Or.inr ⟨_, rfl, Or.inl ⟨rfl, t, hlt, e3', e4, h2⟩⟩
                · rw [h1]
                  simp only [Option.bind_some]
                  rw [if_pos trivial, bw_idx htl2]
                  simp only [Option.bind_some]
                  rw [if_neg (by decide), set_back htl' e3', wk1 (by clear skip; omega)]
                  refine Or.inl ⟨_, rfl, ⟨t + 1, rfl, by clear skip; omega, fun u hu2 hu3 => ?_⟩, by clear skip; dsimp only; omega⟩
                  by_cases e : u = t
                  · subst e; exact h2 hu3.2.2
                  · exact hu u (by clear skip; omega) hu3
              · rw [decide_eq_false e4]
                exact Or.inl (skip (fun h => e4 h.2))
          · rw [if_neg (dneg (by omega))]
            refine Or.inr ⟨_, rfl, Or.inr ⟨rfl, ?_⟩⟩
            rintro ⟨u, h1, h2⟩
            exact hu u (by omega) h2) (tk, 0) ⟨0, rfl, by omega, fun u h => by omega⟩ (by dsimp only; omega)
        rw [h1]
        rcases h2 with ⟨rfl, h2⟩ | ⟨rfl, h2⟩
        · exact Or.inl ⟨rfl, h2⟩
        · exact Or.inr ⟨rfl, h2⟩
theorem vd_take {a b : List Int} (h : Vd a b) (n : Nat) : Vd a (b.take n) := ⟨h.1, by simp; have := h.2.1; omega, h.2.2.1, fun x hx => h.2.2.2 x (List.mem_of_mem_take hx)⟩
theorem j10_ok (y : (List Int) × (List Int) × Int) (d : List Int) (hV : Vd y.1 d) : law16_AssignShort_J10 y d = some true := by
  have ⟨ha, hb, _, _⟩ := hV
  have hfree : ∀ t, bw (List.replicate (Int.toNat ((d).length : Int)) false) t = false := fun t => by
    unfold bw
    rw [List.getD_eq_getElem?_getD, List.getElem?_replicate]
    split <;> rfl
  unfold law16_AssignShort_J10
  have hp := possible_ok (a := y.1) (b := d) (by omega) (by omega) 100 0 (List.replicate (Int.toNat ((d).length : Int)) false) (by omega) (by omega) (by simp)
  have e0 : law16_possible y.1 d 0 (List.replicate (Int.toNat ((d).length : Int)) false) = law16_possible_n 100 y.1 d ((0 : Nat) : Int) (List.replicate (Int.toNat ((d).length : Int)) false) := rfl
  rw [e0]
  rcases match_two hV with ⟨r, h1, h2⟩ | ⟨r, h1, h2⟩
  · rw [h1]
    simp only [Option.bind_some]
    rw [if_pos (by omega)]
    rcases hp with ⟨h3, h4⟩ | ⟨h3, h4⟩
    · rw [h3]
      simp only [Option.bind_some]
      rw [if_pos trivial, if_pos (by decide), sane16]; rfl
    · refine absurd ⟨fun k => (vw r k).toNat, fun k _ hk hn => ?_, fun j k _ _ hj hk hjn hkn e => ?_⟩ h4
      · obtain ⟨t, q1, q2, q3⟩ := h2.at_ k hk hn
        dsimp only
        rw [q2, Int.toNat_natCast]; exact ⟨q1, hfree t, q3⟩
      · obtain ⟨t, q1, q2, q3⟩ := h2.at_ j hj hjn
        obtain ⟨u, q4, q5, q6⟩ := h2.at_ k hk hkn
        dsimp only at e
        exact h2.inj j k hj hk hjn hkn (by omega)
  · rw [h1]
    simp only [Option.bind_some]
    rw [if_pos (by omega)]
    rcases hp with ⟨h3, f, h4, h5⟩ | ⟨h3, h4⟩
    · exact absurd h2.few (nofew_f f (fun i hi hn => by have := h4 i (Nat.zero_le _) hi hn; exact ⟨this.1, this.2.2⟩) fun i j hi hj hin hjn e => h5 i j (Nat.zero_le _) (Nat.zero_le _) hi hj hin hjn e)
    · rw [h3]
      simp only [Option.bind_some]
      rw [if_pos trivial, if_pos (by decide), sane16]; rfl
theorem short_ok (l : List Int) : law16_AssignShort l = some true := by
  unfold law16_AssignShort gen_New
  simp only [Option.bind_some]
  obtain ⟨a, b, k, e1, _, _, hV, hal, hbl, _⟩ := lists_ok l 0 4 (by omega) (by omega) (by omega) (by omega)
  rw [e1]
  simp only [Option.bind_some]
  by_cases h : (b.length : Int) > 5
  · rw [if_pos (dpos h), if_pos (by omega)]
    refine j10_ok _ _ ?_
    simp only [Int.toNat_zero, List.drop_zero]
    exact vd_take hV _
  · rw [if_neg (dneg h)]
    exact j10_ok _ _ hV
end Go.Proofs.Ytdbomhhcebmkpaa
