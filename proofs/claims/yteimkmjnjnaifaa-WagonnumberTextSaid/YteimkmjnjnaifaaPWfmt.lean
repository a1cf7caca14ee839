/- Plain laws: Format, Parse and Kind; one replacement at each place makes a number; the examples. No condition beyond those of each theorem. -/
import Derived.Test.YteimkmjnjnaifaaPWrep
import Derived.Test.YteimkmjnjnaifaaGlaw02sane
set_option linter.unusedVariables false
set_option linter.unusedSectionVars false
set_option linter.unusedSimpArgs false
set_option maxRecDepth 100000
namespace Go.Proofs.Yteimkmjnjnaifaa
open Go Go.V Go.Proofs

theorem len12 (s : List UInt8) (h : s.length = 12) : ∃ a b c d e f g i j k l m, s = [a, b, c, d, e, f, g, i, j, k, l, m] := by
  match s, h with
  | [a, b, c, d, e, f, g, i, j, k, l, m], _ => exact ⟨a, b, c, d, e, f, g, i, j, k, l, m, rfl⟩
theorem len16 (s : List UInt8) (h : s.length = 16) : ∃ a b x c d y e f g i z j k l w m, s = [a, b, x, c, d, y, e, f, g, i, z, j, k, l, w, m] := by
  match s, h with
  | [a, b, x, c, d, y, e, f, g, i, z, j, k, l, w, m], _ => exact ⟨a, b, x, c, d, y, e, f, g, i, z, j, k, l, w, m, rfl⟩
def fmt : List UInt8 → List UInt8
  | [a, b, c, d, e, f, g, i, j, k, l, m] => [a, b, 32, c, d, 32, e, f, g, i, 32, j, k, l, 45, m]
  | _ => []
def strip : List UInt8 → List UInt8
  | [a, b, _, c, d, _, e, f, g, i, _, j, k, l, _, m] => [a, b, c, d, e, f, g, i, j, k, l, m]
  | _ => []

theorem Format_eq (s : List UInt8) (hl : s.length < 4611686018427387904) : r02_Format s = wagonnumber_Format s := by
  unfold r02_Format wagonnumber_Format
  rw [rValid_ok s hl, wValid_ok s hl]
theorem Format_ok (s : List UInt8) (hl : s.length < 4611686018427387904) : wagonnumber_Format s = some (if vcode s = 0 then (fmt s, 0) else ([], vcode s)) := by
  unfold wagonnumber_Format
  rw [wValid_ok s hl]
  simp only [obind]
  by_cases h : vcode s = 0
  · obtain ⟨_, h12, _⟩ := vcode_zero.1 h
    obtain ⟨a, b, c, d, e, f, g, i, j, k, l, m, rfl⟩ := len12 s h12
    rw [if_neg (by rw [h]; decide), if_pos (of_decide_eq_true rfl), if_pos (of_decide_eq_true rfl), if_pos (of_decide_eq_true rfl), if_pos (of_decide_eq_true rfl), if_pos (of_decide_eq_true rfl), if_pos (of_decide_eq_true rfl), if_pos (of_decide_eq_true rfl), if_pos (of_decide_eq_true rfl), if_pos (of_decide_eq_true rfl), if_pos (of_decide_eq_true rfl), if_pos (of_decide_eq_true rfl), if_pos (of_decide_eq_true rfl), if_pos (of_decide_eq_true rfl), if_pos h]
    rfl
  · rw [if_pos (by simpa using h), if_neg h]
theorem Kind_eq (s : List UInt8) (hl : s.length < 4611686018427387904) : r02_Kind s = wagonnumber_Kind s := by
  unfold r02_Kind wagonnumber_Kind
  rw [rValid_ok s hl, wValid_ok s hl]
  rfl
theorem Kind_ok (s : List UInt8) (hl : s.length < 4611686018427387904) : ∃ v, wagonnumber_Kind s = some v := by
  unfold wagonnumber_Kind
  rw [wValid_ok s hl]
  simp only [obind]
  by_cases h : vcode s = 0
  · obtain ⟨_, h12, _⟩ := vcode_zero.1 h
    rw [if_neg (by rw [h]; decide), show (4 : Int) = ((4 : Nat) : Int) from rfl, sAt_ok (by omega)]
    simp only [obind]
    have h6 : ∀ (x : Int) (b : Bool), ∃ v, wagonnumber_Kind_J6 x b = some v := by
      intro x b
      unfold wagonnumber_Kind_J6
      cases b with
      | true => exact ⟨_, rfl⟩
      | false =>
        rw [if_neg (by decide)]
        split
        · exact ⟨_, rfl⟩
        · exact ⟨_, rfl⟩
    have h5 : ∀ (x : Int) (b : Bool), ∃ v, wagonnumber_Kind_J5 x b = some v := by
      intro x b
      unfold wagonnumber_Kind_J5
      cases b with
      | true => exact ⟨_, rfl⟩
      | false =>
        rw [if_neg (by decide)]
        split
        · exact h6 _ _
        · exact h6 _ _
    split
    · exact h5 _ _
    · exact h5 _ _
  · rw [if_pos (by simpa using h)]
    exact ⟨_, rfl⟩

/-- The separators of a written number. -/
def sep (y : List UInt8) : Prop := gv y 2 = 32 ∧ gv y 5 = 32 ∧ gv y 10 = 32 ∧ gv y 14 = 45
instance (y : List UInt8) : Decidable (sep y) := by unfold sep; infer_instance
theorem strip_len {y : List UInt8} (h : y.length = 16) : (strip y).length = 12 := by
  obtain ⟨a, b, x, c, d, u, e, f, g, i, z, j, k, l, w, m, rfl⟩ := len16 y h
  rfl
def parseR (y : List UInt8) : List UInt8 × Int :=
  if y.length = 16 ∧ sep y then (if vcode (strip y) = 0 then (strip y, 0) else ([], if vcode (strip y) = 11 then 6 else vcode (strip y))) else ([], 6)
theorem wParse_ok (y : List UInt8) : wagonnumber_Parse y = some (parseR y) := by
  unfold wagonnumber_Parse parseR
  by_cases h : y.length = 16
  · rw [if_neg (by rw [h]; decide)]
    rw [show (2 : Int) = ((2 : Nat) : Int) from rfl, show (5 : Int) = ((5 : Nat) : Int) from rfl, show (10 : Int) = ((10 : Nat) : Int) from rfl, show (14 : Int) = ((14 : Nat) : Int) from rfl, sAt_ok (s := y) (i := 2) (by omega)]
    simp only [obind]
    by_cases h2 : gv y 2 = 32
    · rw [if_neg (by simpa using h2), sAt_ok (s := y) (i := 5) (by omega)]
      simp only [obind]
      by_cases h5 : gv y 5 = 32
      · rw [if_neg (by simpa using h5), sAt_ok (s := y) (i := 10) (by omega)]
        simp only [obind]
        by_cases h10 : gv y 10 = 32
        · rw [if_neg (by simpa using h10), sAt_ok (s := y) (i := 14) (by omega)]
          simp only [obind]
          by_cases h14 : gv y 14 = 45
          · rw [if_neg (by simpa using h14), if_pos (show y.length = 16 ∧ sep y from ⟨h, h2, h5, h10, h14⟩)]
            have hs := strip_len h
            obtain ⟨a, b, x, c, d, u, e, f, g, i, z, j, k, l, w, m, rfl⟩ := len16 y h
            have hv := wValid_ok (strip [a, b, x, c, d, u, e, f, g, i, z, j, k, l, w, m]) (by rw [hs]; decide)
            rw [if_pos (of_decide_eq_true rfl), if_pos (of_decide_eq_true rfl), if_pos (of_decide_eq_true rfl), if_pos (of_decide_eq_true rfl), if_pos (of_decide_eq_true rfl), if_pos (of_decide_eq_true rfl), if_pos (of_decide_eq_true rfl), if_pos (of_decide_eq_true rfl), if_pos (of_decide_eq_true rfl)]
            refine (congrArg (fun o => Option.bind o _) hv).trans ?_
            simp only [obind]
            by_cases h0 : vcode (strip [a, b, x, c, d, u, e, f, g, i, z, j, k, l, w, m]) = 0
            · rw [if_pos (by simpa using h0), if_pos h0]; rfl
            · rw [if_neg (by simpa using h0), if_neg h0]
              by_cases h11 : vcode (strip [a, b, x, c, d, u, e, f, g, i, z, j, k, l, w, m]) = 11
              · rw [if_pos (by simpa using h11), if_pos h11]
              · rw [if_neg (by simpa using h11), if_neg h11]
          · rw [if_pos (by simpa using h14), if_neg (fun q => h14 q.2.2.2.2)]
        · rw [if_pos (by simpa using h10), if_neg (fun q => h10 q.2.2.2.1)]
      · rw [if_pos (by simpa using h5), if_neg (fun q => h5 q.2.2.1)]
    · rw [if_pos (by simpa using h2), if_neg (fun q => h2 q.2.1)]
  · rw [if_pos (by simpa using (by omega : ¬ (y.length : Int) = 16)), if_neg (fun q => h q.1)]
theorem rParse_ok (y : List UInt8) : r02_Parse y = some (parseR y) := by
  unfold r02_Parse parseR
  by_cases h : y.length = 16
  · rw [if_neg (by rw [h]; decide)]
    rw [show (2 : Int) = ((2 : Nat) : Int) from rfl, show (5 : Int) = ((5 : Nat) : Int) from rfl, show (10 : Int) = ((10 : Nat) : Int) from rfl, show (14 : Int) = ((14 : Nat) : Int) from rfl, sAt_ok (s := y) (i := 2) (by omega)]
    simp only [obind]
    by_cases h2 : gv y 2 = 32
    · rw [if_neg (by simpa using h2), sAt_ok (s := y) (i := 5) (by omega)]
      simp only [obind]
      by_cases h5 : gv y 5 = 32
      · rw [if_neg (by simpa using h5), sAt_ok (s := y) (i := 10) (by omega)]
        simp only [obind]
        by_cases h10 : gv y 10 = 32
        · rw [if_neg (by simpa using h10), sAt_ok (s := y) (i := 14) (by omega)]
          simp only [obind]
          by_cases h14 : gv y 14 = 45
          · rw [if_neg (by simpa using h14), if_pos (show y.length = 16 ∧ sep y from ⟨h, h2, h5, h10, h14⟩)]
            have hs := strip_len h
            obtain ⟨a, b, x, c, d, u, e, f, g, i, z, j, k, l, w, m, rfl⟩ := len16 y h
            have hv := rValid_ok (strip [a, b, x, c, d, u, e, f, g, i, z, j, k, l, w, m]) (by rw [hs]; decide)
            have hdg := rdigits_ok (strip [a, b, x, c, d, u, e, f, g, i, z, j, k, l, w, m]) 12 (by rw [hs]; decide)
            rw [if_pos (of_decide_eq_true rfl), if_pos (of_decide_eq_true rfl), if_pos (of_decide_eq_true rfl), if_pos (of_decide_eq_true rfl), if_pos (of_decide_eq_true rfl), if_pos (of_decide_eq_true rfl), if_pos (of_decide_eq_true rfl), if_pos (of_decide_eq_true rfl), if_pos (of_decide_eq_true rfl)]
            refine (congrArg (fun o => Option.bind o _) hdg).trans ?_
            simp only [obind]
            by_cases hD : Digs (strip [a, b, x, c, d, u, e, f, g, i, z, j, k, l, w, m])
            · rw [dpos (show Digs (strip [a, b, x, c, d, u, e, f, g, i, z, j, k, l, w, m]) ∧ ((strip [a, b, x, c, d, u, e, f, g, i, z, j, k, l, w, m]).length : Int) = 12 from ⟨hD, by rw [hs]; rfl⟩), if_neg (by decide)]
              refine (congrArg (fun o => Option.bind o _) hv).trans ?_
              simp only [obind]
              have hn : ¬ vcode (strip [a, b, x, c, d, u, e, f, g, i, z, j, k, l, w, m]) = 11 := by
                unfold vcode
                rw [if_pos ⟨hD, hs⟩]
                split <;> decide
              by_cases h0 : vcode (strip [a, b, x, c, d, u, e, f, g, i, z, j, k, l, w, m]) = 0
              · rw [if_neg (by rw [h0]; decide), if_pos h0]; rfl
              · rw [if_pos (by simpa using h0), if_neg h0, if_neg hn]
            · have hn : vcode (strip [a, b, x, c, d, u, e, f, g, i, z, j, k, l, w, m]) = 11 := by
                unfold vcode
                rw [if_neg (fun q => hD q.1)]
              rw [decide_eq_false (fun q => hD q.1), if_pos (of_decide_eq_true rfl), hn, if_neg (by decide), if_pos rfl]
          · rw [if_pos (by simpa using h14), if_neg (fun q => h14 q.2.2.2.2)]
        · rw [if_pos (by simpa using h10), if_neg (fun q => h10 q.2.2.2.1)]
      · rw [if_pos (by simpa using h5), if_neg (fun q => h5 q.2.2.1)]
    · rw [if_pos (by simpa using h2), if_neg (fun q => h2 q.2.1)]
  · rw [if_pos (by simpa using (by omega : ¬ (y.length : Int) = 16)), if_neg (fun q => h q.1)]

/-! ### One replacement -/
def tmN (p d : Nat) : Nat := if p % 2 = 0 then (if 2 * d > 9 then 2 * d - 9 else 2 * d) else d
theorem tm_N (i d : Nat) : tm i (d : Int) = (tmN i d : Int) := by
  unfold tm tmN
  split
  · split
    · rw [if_pos (by omega)]; omega
    · rw [if_neg (by omega)]; omega
  · rfl
theorem tmN_par (i d : Nat) : tmN i d = tmN (i % 2) d := by
  unfold tmN
  rw [Nat.mod_mod]
theorem uniq0 : ∀ p, p < 2 → ∀ r, r < 10 → ∃ d, d < 10 ∧ ∀ e, e < 10 → ((r + tmN p e) % 10 = 0 ↔ e = d) := by decide
theorem uniq_ok {s : List UInt8} (hd : Digs s) (hl : s.length = 12) {i : Nat} (hi : i < 12) : ∃ d, d < 10 ∧ ∀ e, e < 10 → (Num (s.set i (UInt8.ofNat (48 + e))) ↔ e = d) := by
  have hb := sumU_bd hd 12 (by omega)
  have ht := tm_bd (i := i) (hd.dg (i := i) (by omega))
  obtain ⟨d, h1, h2⟩ := uniq0 (i % 2) (by omega) ((sumU s 12 - tm i (dg s i)) % 10).toNat (by omega)
  refine ⟨d, h1, fun e he => ?_⟩
  have hn : (UInt8.ofNat (48 + e)).toNat = 48 + e := by rw [UInt8.toNat_ofNat']; omega
  rw [← h2 e he, ← tmN_par]
  have hs := sumU_set (s := s) (i := i) (by omega) (UInt8.ofNat (48 + e)) 12
  rw [if_pos hi, hn, show ((48 + e : Nat) : Int) - 48 = (e : Int) by omega, tm_N] at hs
  unfold Num
  rw [hs, List.length_set]
  constructor
  · rintro ⟨_, _, q⟩; omega
  · intro q
    exact ⟨hd.set (by omega) (by omega), hl, by omega⟩
theorem dgN {s : List UInt8} (hd : Digs s) {i : Nat} (hi : i < s.length) : (dg s i).toNat < 10 ∧ s.set i (UInt8.ofNat (48 + (dg s i).toNat)) = s := by
  have h := hd.dg hi
  refine ⟨by omega, (set_ne hi _).2 ?_⟩
  rw [UInt8.toNat_ofNat']
  unfold dg at h ⊢
  omega
/-- The digit that makes a number, where there is none yet. -/
theorem repl_ok {s : List UInt8} (hd : Digs s) (hl : s.length = 12) (hN : ¬ Num s) {i : Nat} (hi : i < 12) : ∃ t, (∀ x, x = t ↔ ∃ c, dgt c ∧ RA s i c x) ∧ gv t i ≠ gv s i ∧ ∀ j, j ≠ i → gv t j = gv s j := by
  obtain ⟨d, h1, h2⟩ := uniq_ok hd hl hi
  have hn : (UInt8.ofNat (48 + d)).toNat = 48 + d := by rw [UInt8.toNat_ofNat']; omega
  have hNum := (h2 d h1).2 rfl
  have hne : s.set i (UInt8.ofNat (48 + d)) ≠ s := fun q => hN (by rw [← q]; exact hNum)
  refine ⟨s.set i (UInt8.ofNat (48 + d)), fun x => ⟨?_, ?_⟩, ?_, fun j hj => ?_⟩
  · rintro rfl
    exact ⟨_, ⟨by omega, by omega⟩, rfl, hne, hNum⟩
  · rintro ⟨c, ⟨c1, c2⟩, rfl, _, hx⟩
    have hc : c = UInt8.ofNat (48 + (c.toNat - 48)) := UInt8.toNat_inj.1 (by rw [UInt8.toNat_ofNat']; omega)
    rw [hc] at hx
    have := (h2 (c.toNat - 48) (by omega)).1 hx
    rw [hc, this]
  · rw [gv_set (by omega), if_pos rfl]
    intro q
    exact hne ((set_ne (by omega) _).2 q)
  · rw [gv_set (by omega), if_neg (fun q => hj q.symm)]
theorem rep_ge {s : List UInt8} (hd : Digs s) (hl : s.length = 12) (hN : ¬ Num s) {l : List (List UInt8)} (hm : ∀ x, x ∈ l ↔ RP s 12 x) : 12 ≤ l.length := by
  have key : ∀ n, n ≤ 12 → ∃ ts : List (List UInt8), ts.length = n ∧ ts.Nodup ∧ ∀ t ∈ ts, t ∈ l ∧ ∃ i, i < n ∧ gv t i ≠ gv s i ∧ ∀ j, j ≠ i → gv t j = gv s j := by
    intro n
    induction n with
    | zero => intro _; exact ⟨[], rfl, List.nodup_nil, fun t h => by cases h⟩
    | succ n ih =>
      intro hn
      obtain ⟨ts, h1, h2, h3⟩ := ih (by omega)
      obtain ⟨t, t1, t2, t3⟩ := repl_ok hd hl hN (i := n) (by omega)
      refine ⟨t :: ts, by simp [h1], List.nodup_cons.2 ⟨fun q => ?_, h2⟩, fun u hu => ?_⟩
      · obtain ⟨_, i, hi, _, hj⟩ := h3 t q
        exact t2 (hj n (by omega))
      · rcases List.mem_cons.1 hu with rfl | hu
        · obtain ⟨c, c1, c2⟩ := (t1 u).1 rfl
          exact ⟨(hm u).2 (.inl ⟨n, c, by omega, c1, c2⟩), n, by omega, t2, t3⟩
        · obtain ⟨q1, i, q2, q3⟩ := h3 u hu
          exact ⟨q1, i, by omega, q3⟩
  obtain ⟨ts, h1, h2, h3⟩ := key 12 (by omega)
  have := List.Nodup.length_le_of_subset (l₂ := l) h2 (fun t ht => (h3 t ht).1)
  omega

theorem sane02_ok : law02_sane = some true := by
  unfold law02_sane
  have e1 : wagonnumber_Digit [51, 49, 56, 48, 50, 55, 55, 51, 49, 50, 51] = some (7, 0) := by decide +kernel
  have e2 : wagonnumber_Format [51, 49, 56, 48, 50, 55, 55, 51, 49, 50, 51, 55] = some ([51, 49, 32, 56, 48, 32, 50, 55, 55, 51, 32, 49, 50, 51, 45, 55], 0) := by decide +kernel
  have e3 : wagonnumber_Kind [51, 49, 56, 48, 50, 55, 55, 51, 49, 50, 51, 55] = some (2, 0) := by decide +kernel
  have hd : Digs [51, 49, 56, 48, 50, 55, 55, 51, 49, 50, 51, 48] := by decide +kernel
  have hN : ¬ Num [51, 49, 56, 48, 50, 55, 55, 51, 49, 50, 51, 48] := by decide +kernel
  obtain ⟨l, h1, h2, h3, h4⟩ := wrep_ok hd rfl
  have h5 := rep_ge hd rfl hN h3
  rw [e1]
  simp only [obind]
  rw [e2]
  simp only [obind]
  rw [e3]
  simp only [obind]
  rw [h1]
  simp only [obind]
  rw [if_pos (by decide), if_pos (by decide), if_pos (by decide), if_pos (by decide), if_pos (by decide), if_pos (by decide), if_pos (by decide), dpos (by omega)]
end Go.Proofs.Yteimkmjnjnaifaa
