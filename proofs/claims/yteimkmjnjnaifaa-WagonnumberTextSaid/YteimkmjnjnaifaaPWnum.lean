/- Plain laws: strings of digits and numbers that the maker gives; what it spoils. No condition beyond those of each theorem. -/
import Derived.Test.YteimkmjnjnaifaaPWsum
set_option linter.unusedVariables false
set_option linter.unusedSectionVars false
set_option linter.unusedSimpArgs false
set_option maxRecDepth 100000
namespace Go.Proofs.Yteimkmjnjnaifaa
open Go Go.V Go.Proofs

theorem ofB_len (d : List Int) : (ofB d).length = d.length := by simp [ofB]
theorem toB_len (s : List UInt8) : (toB s).length = s.length := by simp [toB]
theorem toB_get (s : List UInt8) (i : Nat) : (toB s).getD i 0 = gv s i := by
  unfold toB gv
  rw [List.getD_eq_getElem?_getD, List.getElem?_map, List.getD_eq_getElem?_getD]
  cases s[i]? <;> rfl
theorem gv_ofB {d : List Int} {i : Nat} (h : 0 ≤ d.getD i 0 ∧ d.getD i 0 ≤ 255) : gv (ofB d) i = d.getD i 0 := by
  unfold gv ofB
  rw [List.getD_eq_getElem?_getD, List.getElem?_map]
  rw [List.getD_eq_getElem?_getD] at h ⊢
  cases hd : d[i]? with
  | none => rfl
  | some x =>
    rw [hd] at h
    simp only [Option.getD_some, Option.map_some] at h ⊢
    have : (UInt8.ofNat x.toNat).toNat = x.toNat % 256 := by simp
    rw [this]
    omega
theorem ofB_toB (s : List UInt8) : ofB (toB s) = s := by
  unfold ofB toB
  rw [List.map_map]
  have : (fun n : Int => UInt8.ofNat n.toNat) ∘ (fun b : UInt8 => (b.toNat : Int)) = id := by
    funext b
    simp
  rw [this, List.map_id]
theorem ofB_set (d : List Int) (i : Nat) (c : Int) : ofB (d.set i c) = (ofB d).set i (UInt8.ofNat c.toNat) := by
  unfold ofB
  rw [List.map_set]
def DL (d : List Int) : Prop := ∀ j, j < d.length → 48 ≤ d.getD j 0 ∧ d.getD j 0 ≤ 57
theorem DL.digs {d : List Int} (h : DL d) : Digs (ofB d) := by
  intro i hi
  rw [ofB_len] at hi
  have := h i hi
  rw [gv_ofB (by omega)]
  exact this
theorem Digs.dl {s : List UInt8} (h : Digs s) : DL (toB s) := by
  intro i hi
  rw [toB_len] at hi
  rw [toB_get]
  exact h i hi
theorem getD_setI (l : List Int) (i j : Nat) (a : Int) : (l.set i a).getD j 0 = if i = j ∧ i < l.length then a else l.getD j 0 := by
  rw [List.getD_eq_getElem?_getD, List.getElem?_set, List.getD_eq_getElem?_getD]
  by_cases h : i = j
  · subst h
    by_cases h2 : i < l.length
    · simp [h2]
    · simp [h2]
  · simp [h]
theorem DL.set {d : List Int} (h : DL d) (i : Nat) {c : Int} (hc : 48 ≤ c ∧ c ≤ 57) : DL (d.set i c) := by
  intro j hj
  rw [List.length_set] at hj
  rw [getD_setI]
  split
  · exact hc
  · exact h j hj
theorem idx_I {l : List Int} {i : Nat} (h : i < l.length) : idx l (i : Int) = some (l.getD i 0) := by
  rw [idx_nat, List.getElem?_eq_getElem h, List.getD_eq_getElem?_getD, List.getElem?_eq_getElem h]; rfl

theorem gdigits_ok (l : List Int) (k : Int) (n : Nat) (hk : 0 ≤ k) (hk2 : k < 1000000000) (hn : n ≤ 1000) : ∃ s, gen_Maker_Digits l k (n : Int) = some (s, k + n) ∧ s.length = n ∧ Digs s := by
  unfold gen_Maker_Digits
  rw [if_pos (by omega)]
  obtain ⟨d, h1, h2, h3, h4⟩ := loop_inv (step := gen_Maker_Digits_L5 l (n : Int)) (fun t => ∃ (i : Nat) (d : List Int), t = (k + i, d, (i : Int)) ∧ i ≤ n ∧ d.length = n ∧ ∀ j, j < i → 48 ≤ d.getD j 0 ∧ d.getD j 0 ≤ 57) (fun t => n - t.2.2.toNat)
    (fun r => r.1 = k + n ∧ r.2.length = n ∧ DL r.2) (by
    rintro _ ⟨i, d, rfl, hi, hd, hj⟩
    unfold gen_Maker_Digits_L5
    simp only
    by_cases h : i < n
    · obtain ⟨v, e1, v0, v1⟩ := next_ok l (k + i) 10 (by omega) (by omega) (by omega) (by omega)
      rw [if_pos (dpos (by omega)), e1]
      simp only [obind]
      rw [idx_I (by omega)]
      simp only [obind]
      rw [wr_id (n := 48 + v) (by omega) (by omega), u8wrap (by omega) (by omega), wr_id (by omega) (by omega)]
      refine .inl ⟨_, rfl, ⟨i + 1, _, by rw [show k + (i : Int) + 1 = k + ((i + 1 : Nat) : Int) by omega]; rfl, by omega, by rw [List.length_set]; exact hd, fun j hji => ?_⟩, by simp only; omega⟩
      rw [show Int.toNat (i : Int) = i from rfl, getD_setI]
      split
      · omega
      · exact hj j (by omega)
    · rw [if_neg (dneg (by omega))]
      have : i = n := by omega
      subst this
      exact .inr ⟨_, rfl, rfl, hd, fun j hjl => hj j (by simp only at hjl; omega)⟩) (k, (List.replicate (Int.toNat (n : Int)) 0 : List Int), 0) ⟨0, List.replicate n 0, by simp, by omega, by simp, fun j h => by omega⟩ (by simp; omega)
  rw [h1]
  obtain ⟨e, d⟩ := d
  simp only at h2 h3 h4
  subst h2
  simp only [obind]
  exact ⟨_, rfl, by rw [ofB_len]; exact h3, h4.digs⟩

theorem rDigit_ok (s : List UInt8) (hl : s.length < 4611686018427387904) : r02_Digit s = some (if Digs s ∧ s.length = 11 then ((10 - sumU s 11 % 10) % 10, 0) else (0, 11)) := by
  unfold r02_Digit
  rw [rdigits_ok s 11 hl]
  simp only [obind]
  by_cases h : Digs s ∧ s.length = 11
  · have hb := sumU_bd h.1 11 (by omega)
    have h' : Digs s ∧ (s.length : Int) = 11 := ⟨h.1, by omega⟩
    rw [dpos h', if_pos h]
    simp only [Bool.not_true, Bool.false_eq_true, if_false]
    rw [show (11 : Int) = ((11 : Nat) : Int) from rfl, rsum_ok h.1 11 (by omega) (by omega)]
    simp only [obind]
    rw [Int.tmod_eq_emod_of_nonneg hb.1, wr_id (by omega) (by omega), Int.tmod_eq_emod_of_nonneg (by omega)]
  · have h' : ¬ (Digs s ∧ (s.length : Int) = 11) := fun q => h ⟨q.1, by omega⟩
    rw [decide_eq_false h', if_neg h]
    rfl
theorem wDigit_ok (s : List UInt8) (hl : s.length < 4611686018427387904) : wagonnumber_Digit s = some (if Digs s ∧ s.length = 11 then ((10 - sumU s 11 % 10) % 10, 0) else (0, 11)) := by
  unfold wagonnumber_Digit
  rw [wdigits_ok s 11 hl]
  simp only [obind]
  by_cases h : Digs s ∧ s.length = 11
  · have h' : Digs s ∧ (s.length : Int) = 11 := ⟨h.1, by omega⟩
    rw [dpos h', if_pos h]
    simp only [Bool.not_true, Bool.false_eq_true, if_false]
    rw [wcheck_ok h.1 (by omega), h.2]
    rfl
  · have h' : ¬ (Digs s ∧ (s.length : Int) = 11) := fun q => h ⟨q.1, by omega⟩
    rw [decide_eq_false h', if_neg h]
    rfl

theorem gv_app_left {a b : List UInt8} {i : Nat} (h : i < a.length) : gv (a ++ b) i = gv a i := by
  unfold gv
  rw [List.getD_eq_getElem?_getD, List.getElem?_append_left h, List.getD_eq_getElem?_getD]
theorem gv_app_last {a : List UInt8} (c : UInt8) : gv (a ++ [c]) a.length = (c.toNat : Int) := by
  unfold gv
  rw [List.getD_eq_getElem?_getD, List.getElem?_append_right (Nat.le_refl _)]
  simp

theorem gnumber_ok (l : List Int) (k : Int) (i : Nat) (hk : 0 ≤ k) (hk2 : k < 1000000000) (hi : i ≤ 999) : ∃ n, gen_Maker_Number l k (i : Int) = some (n, k + 11) ∧ Num n := by
  unfold gen_Maker_Number
  obtain ⟨s, e1, h1, h2⟩ := gdigits_ok l k 11 hk hk2 (by omega)
  rw [show (11 : Int) = ((11 : Nat) : Int) from rfl, e1]
  simp only [obind]
  rw [if_pos (by omega)]
  have t1 : Int.tdiv (i : Int) 100 = ((i / 100 : Nat) : Int) := by rw [Int.tdiv_eq_ediv_of_nonneg (by omega)]; omega
  have t2 : Int.tdiv (i : Int) 10 = ((i / 10 : Nat) : Int) := by rw [Int.tdiv_eq_ediv_of_nonneg (by omega)]; omega
  rw [t1, t2, wr_id (n := ((i / 100 : Nat) : Int)) (by omega) (by omega), wr_id (n := ((i / 10 : Nat) : Int)) (by omega) (by omega)]
  have tm : ∀ m : Nat, Int.tmod (m : Int) 10 = ((m % 10 : Nat) : Int) := fun m => by rw [Int.tmod_eq_emod_of_nonneg (by omega)]; omega
  rw [tm, tm, tm, wr_id (n := 48 + ((i / 100 % 10 : Nat) : Int)) (by omega) (by omega), wr_id (n := 48 + ((i / 10 % 10 : Nat) : Int)) (by omega) (by omega), wr_id (n := 48 + ((i % 10 : Nat) : Int)) (by omega) (by omega),
    u8wrap (n := 48 + ((i / 100 % 10 : Nat) : Int)) (by omega) (by omega), u8wrap (n := 48 + ((i / 10 % 10 : Nat) : Int)) (by omega) (by omega), u8wrap (n := 48 + ((i % 10 : Nat) : Int)) (by omega) (by omega)]
  generalize hc8 : (48 + ((i / 100 % 10 : Nat) : Int)) = c8
  generalize hc9 : (48 + ((i / 10 % 10 : Nat) : Int)) = c9
  generalize hc10 : (48 + ((i % 10 : Nat) : Int)) = c10
  have d3 : DL ((((toB s).set (Int.toNat 8) c8).set (Int.toNat 9) c9).set (Int.toNat 10) c10) := ((h2.dl.set _ (by omega)).set _ (by omega)).set _ (by omega)
  have l3 : ((((toB s).set (Int.toNat 8) c8).set (Int.toNat 9) c9).set (Int.toNat 10) c10).length = 11 := by rw [List.length_set, List.length_set, List.length_set, toB_len]; exact h1
  rw [show (8 : Int) = ((8 : Nat) : Int) from rfl, idx_I (by rw [toB_len]; omega)]
  simp only [obind]
  rw [show (9 : Int) = ((9 : Nat) : Int) from rfl, idx_I (by rw [List.length_set, toB_len]; omega)]
  simp only [obind]
  rw [show (10 : Int) = ((10 : Nat) : Int) from rfl, idx_I (by rw [List.length_set, List.length_set, toB_len]; omega)]
  simp only [obind]
  have d3' := d3
  have l3' := l3
  simp only [show Int.toNat (8 : Int) = Int.toNat ((8 : Nat) : Int) from rfl, show Int.toNat (9 : Int) = Int.toNat ((9 : Nat) : Int) from rfl, show Int.toNat (10 : Int) = Int.toNat ((10 : Nat) : Int) from rfl] at d3' l3'
  generalize hD : ((((toB s).set (Int.toNat ((8 : Nat) : Int)) c8).set (Int.toNat ((9 : Nat) : Int)) c9).set (Int.toNat ((10 : Nat) : Int)) c10) = D at d3' l3' ⊢
  have lt : (ofB D).length = 11 := by rw [ofB_len]; exact l3'
  have dt : Digs (ofB D) := d3'.digs
  have hb := sumU_bd dt 11 (by omega)
  rw [rDigit_ok (ofB D) (by omega), if_pos ⟨dt, lt⟩]
  simp only [obind]
  rw [wr_id (n := 48 + (10 - sumU (ofB D) 11 % 10) % 10) (by omega) (by omega), u8wrap (by omega) (by omega)]
  rw [if_pos (by rw [ofB_len, ofB_len, l3']; simp)]
  have he : ofB [48 + (10 - sumU (ofB D) 11 % 10) % 10] = [UInt8.ofNat (48 + (10 - sumU (ofB D) 11 % 10) % 10).toNat] := rfl
  rw [he]
  have hcn : ((UInt8.ofNat (48 + (10 - sumU (ofB D) 11 % 10) % 10).toNat).toNat : Int) = 48 + (10 - sumU (ofB D) 11 % 10) % 10 := by
    rw [UInt8.toNat_ofNat']
    omega
  generalize UInt8.ofNat (48 + (10 - sumU (ofB D) 11 % 10) % 10).toNat = C at hcn ⊢
  refine ⟨_, rfl, fun j hj => ?_, by rw [List.length_append, lt]; rfl, ?_⟩
  · rw [List.length_append, lt] at hj
    by_cases q : j < 11
    · rw [gv_app_left (by omega)]; exact dt j (by omega)
    · have : j = (ofB D).length := by simp at hj; omega
      subst this
      rw [gv_app_last]; omega
  · have e11 := gv_app_last (a := ofB D) C
    rw [lt] at e11
    rw [last_odd, sumU_congr (t := ofB D) 11 (fun j hj => gv_app_left (by omega))]
    unfold dg
    rw [e11]
    omega

theorem spoil_ok (l : List Int) (k : Int) (s : List UInt8) (hk : 0 ≤ k) (hk2 : k < 1000000000) (hs : s.length ≤ 1000000) : ∃ t k', gen_Maker_Spoil l k s = some (t, k') ∧ k ≤ k' ∧ k' ≤ k + 3 ∧ t.length ≤ s.length + 1 := by
  unfold gen_Maker_Spoil
  by_cases he : s = []
  · subst he
    obtain ⟨v, e1, _, _⟩ := next_ok l k 256 hk (by omega) (by omega) (by omega)
    rw [if_pos (by rfl), e1]
    exact ⟨_, _, rfl, by simp only; omega, by simp only; omega, by rw [ofB_len]; simp⟩
  · have hp : 0 < s.length := List.length_pos_iff.2 he
    obtain ⟨i, e1, i1⟩ := next_nat l k (s.length : Int) hk (by omega) (by omega) (by omega)
    obtain ⟨c, e2, _, _⟩ := next_ok l (k + 1) 4 (by omega) (by omega) (by omega) (by omega)
    rw [if_neg (by simpa using he), e1]
    simp only [obind]
    rw [e2]
    simp only [obind]
    rw [wr_id (n := (i : Int) + 1) (by omega) (by omega)]
    have ht : ((s.drop (Int.toNat (0 : Int))).take (Int.toNat (i : Int) - Int.toNat (0 : Int))).length ≤ i := by rw [List.length_take]; simp; omega
    have hd : ((s.drop (Int.toNat ((i : Int) + 1))).take (Int.toNat (s.length : Int) - Int.toNat ((i : Int) + 1))).length ≤ s.length - (i + 1) := by rw [List.length_take, List.length_drop]; omega
    have hd0 : ((s.drop (Int.toNat (i : Int))).take (Int.toNat (s.length : Int) - Int.toNat (i : Int))).length ≤ s.length - i := by rw [List.length_take, List.length_drop]; omega
    have h1 : ∀ x : Int, (ofB [x]).length = 1 := fun x => by rw [ofB_len]; rfl
    by_cases c0 : (c == 0) = true
    · rw [if_pos c0, if_pos (by omega), if_pos (by omega), if_pos (by omega)]
      exact ⟨_, _, rfl, by omega, by omega, by rw [List.length_append]; omega⟩
    · rw [if_neg c0]
      by_cases c1 : (c == 1) = true
      · obtain ⟨v, e3, _, _⟩ := next_ok l (k + 1 + 1) 256 (by omega) (by omega) (by omega) (by omega)
        rw [if_pos c1, if_pos (by omega), if_pos (by omega), e3]
        simp only [obind]
        rw [if_pos (by rw [h1]; omega), if_pos (by rw [List.length_append, h1]; omega)]
        exact ⟨_, _, rfl, by omega, by omega, by rw [List.length_append, List.length_append, h1]; omega⟩
      · rw [if_neg c1]
        by_cases c2 : (c == 2) = true
        · obtain ⟨v, e3, _, _⟩ := next_ok l (k + 1 + 1) 10 (by omega) (by omega) (by omega) (by omega)
          rw [if_pos c2, if_pos (by omega), if_pos (by omega), e3]
          simp only [obind]
          rw [if_pos (by rw [h1]; omega), if_pos (by rw [List.length_append, h1]; omega)]
          exact ⟨_, _, rfl, by omega, by omega, by rw [List.length_append, List.length_append, h1]; omega⟩
        · obtain ⟨v, e3, _, _⟩ := next_ok l (k + 1 + 1) 256 (by omega) (by omega) (by omega) (by omega)
          rw [if_neg c2, if_pos (by omega), if_pos (by omega), e3]
          simp only [obind]
          rw [if_pos (by rw [h1]; omega), if_pos (by rw [List.length_append, h1]; omega)]
          exact ⟨_, _, rfl, by omega, by omega, by rw [List.length_append, List.length_append, h1]; omega⟩
end Go.Proofs.Yteimkmjnjnaifaa
