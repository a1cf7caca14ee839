/- Plain law: CodeReal answers true at every list of numbers. No condition. -/
import Derived.Test.YtjcikgeffhghkaaPcodeReal0
import Derived.Test.YtjcikgeffhghkaaPcodeForm
import Derived.Test.YtjcikgeffhghkaaGCodeReal
set_option maxRecDepth 100000
set_option linter.unusedVariables false
namespace Go.Proofs.Ytjcikgeffhghkaa
open Go Go.V Go.Proofs

theorem real_check (r : Nat) (e : Int × Int) (hr : r ≤ 12) (l : List Nat) (er : Int) (hl : l.length ≤ 12) (hb : ∀ x ∈ l, r ≤ x ∧ x < 12) (ha : l.Pairwise (· < ·)) (hs : sum2 l ≤ 4096) :
    loop (law12_CodeReal_L19 ((r : Int), e) (l.map (Int.ofNat ·), er)) (((2 ^ r - 1 : Nat) : Int), 0, l.map (Int.ofNat ·)) = some (.inr (((2 ^ r - 1 + sum2 l : Nat) : Int), l.map (Int.ofNat ·))) := by
  have hp := pow_le r hr
  obtain ⟨d, h1, h2⟩ := loop_inv (step := law12_CodeReal_L19 ((r : Int), e) (l.map (Int.ofNat ·), er)) (fun s => ∃ j : Nat, s = (((2 ^ r - 1 + sum2 (l.take j) : Nat) : Int), (j : Int), l.map (Int.ofNat ·)) ∧ j ≤ l.length) (fun s => l.length - s.2.1.toNat)
    (fun d => d = .inr (((2 ^ r - 1 + sum2 l : Nat) : Int), l.map (Int.ofNat ·))) (by
    rintro _ ⟨j, rfl, hj⟩
    unfold law12_CodeReal_L19
    simp only [List.length_map]
    by_cases h : j < l.length
    · have hm := hb _ (List.getElem_mem h)
      have ht : l.take (j + 1) = l.take j ++ [l[j]] := List.take_succ_eq_append_getElem h
      have hst : sum2 (l.take (j + 1)) = sum2 (l.take j) + 2 ^ l[j] := by rw [ht, sum2_append]; simp [sum2]
      have hsl : sum2 (l.take (j + 1)) ≤ sum2 l := by
        have e := sum2_append (l.take (j + 1)) (l.drop (j + 1))
        rw [List.take_append_drop] at e
        omega
      have hpj := pow_le l[j] (by omega)
      have fin : IntKind.i64.wrap (((2 ^ r - 1 + sum2 (l.take j) : Nat) : Int) + IntKind.i64.wrap (1 * (2 : Int) ^ (min (Int.toNat ((l[j] : Nat) : Int)) IntKind.i64.bits))) = ((2 ^ r - 1 + sum2 (l.take (j + 1)) : Nat) : Int) := by
        rw [one_shl _ (by omega), wr_id (by omega) (by omega), hst]
        omega
      have mu : l.length - (IntKind.i64.wrap ((j : Int) + 1)).toNat < l.length - (j : Int).toNat := by rw [wr_id (by omega) (by omega)]; omega
      have nx : IntKind.i64.wrap ((j : Int) + 1) = ((j + 1 : Nat) : Int) := by rw [wr_id (by omega) (by omega)]; omega
      rw [if_pos (dpos (by omega)), idx_nat, List.getElem?_map, List.getElem?_eq_getElem h]
      simp only [Option.map_some, Option.bind_some]
      rw [if_neg (dneg (by simp only [Int.ofNat_eq_natCast]; omega)), if_neg (dneg (by simp only [Int.ofNat_eq_natCast]; omega))]
      refine Or.inl ?_
      by_cases h0 : j = 0
      · subst h0
        refine ⟨_, by rw [if_neg (dneg (by omega)), if_pos (by simp only [Int.ofNat_eq_natCast]; omega)], ⟨1, ?_, by omega⟩, mu⟩
        rw [nx]
        rw [← fin]
        rfl
      · have hpr : l[j - 1] < l[j] := List.pairwise_iff_getElem.mp ha (j - 1) j (by omega) h (by omega)
        have px : IntKind.i64.wrap ((j : Int) - 1) = ((j - 1 : Nat) : Int) := by rw [wr_id (by omega) (by omega)]; omega
        rw [if_pos (dpos (by omega)), px, idx_nat, List.getElem?_map, List.getElem?_eq_getElem (by omega : j - 1 < l.length)]
        simp only [Option.map_some, Option.bind_some]
        refine ⟨_, by rw [if_neg (dneg (by simp only [Int.ofNat_eq_natCast]; omega)), if_pos (by simp only [Int.ofNat_eq_natCast]; omega)], ⟨j + 1, ?_, by omega⟩, mu⟩
        rw [nx]
        rw [← fin]
        rfl
    · refine Or.inr ⟨_, if_neg (dneg (by omega)), ?_⟩
      rw [List.take_of_length_le (by omega)]) (((2 ^ r - 1 : Nat) : Int), 0, l.map (Int.ofNat ·)) ⟨0, by simp [sum2], by omega⟩ (by simp only; omega)
  rw [h1, h2]

theorem law_CodeReal (t : List Int) : law12_CodeReal t = some true := by
  unfold law12_CodeReal
  simp only [gen_New, Option.bind_some]
  obtain ⟨r, w, h1, hr, hw⟩ := form_nat t 0 (by omega) (by omega)
  rw [h1]
  simp only [Option.bind_some]
  obtain ⟨n, h2, hn⟩ := next_nat t (0 + 2) 4000 (by omega) (by omega) (by omega) (by omega)
  rw [h2]
  simp only [Option.bind_some]
  obtain ⟨p, h3, hp⟩ := next_ok' n r w hr hw
  rw [h3]
  simp only [Option.bind_some]
  have hpr := pow_le r hr
  rcases hp with ⟨k, rfl, g1, g2, g3, g4⟩ | ⟨rfl, g1⟩
  · obtain ⟨e1, e2⟩ := isN_real g3
    have hmod : k % 2 ^ r = 2 ^ r - 1 := by have := mod_div k r; omega
    obtain ⟨s, hs1, n, rfl, hn12, hs2, hs3⟩ := steps_ok k g2
    rw [if_neg (by simp), real_ok k r g2 hr, hs1]
    simp only [Option.bind_some]
    have hreal : realOf k r = ((bitsFrom k r (12 - r)).map (Int.ofNat ·), 0) := by unfold realOf; rw [if_pos hmod]
    have hsum := bitsFrom_sum k (12 - r) r (by rw [show r + (12 - r) = 12 by omega]; exact g2)
    have hlen := bitsFrom_le k (12 - r) r
    have hpc : (bitsFrom k r (12 - r)).length ≤ w := by
      rw [bitsFrom_len]
      have h5 := pc_add (12 - r) 0 (k / 2 ^ r) (by omega) (by
        have h6 : k / 2 ^ r < 2 ^ (12 - r) := by
          rw [Nat.div_lt_iff_lt_mul (Nat.two_pow_pos r), ← Nat.pow_add, show 12 - r + r = 12 by omega]
          exact g2
        exact h6)
      rw [Nat.mul_zero, Nat.zero_add, pcd_zero] at h5
      omega
    rw [hreal, if_pos (by omega), one_shl r hr, wr_id (by omega) (by omega), show ((2 ^ r : Nat) : Int) - 1 = ((2 ^ r - 1 : Nat) : Int) by omega]
    rw [real_check r _ hr _ _ (by omega) (fun x hx => by have := bitsFrom_mem k _ _ x hx; omega) (bitsFrom_asc k _ _) (by omega)]
    simp only [Option.bind_some]
    rw [if_pos (by simp), if_pos (by simp), if_pos (beq_iff_eq.mpr (by omega)), if_pos (dpos (by simp; omega))]
    by_cases hk : k = 0
    · subst hk
      have hn0 : n = 0 := by
        rcases hs3 with h | h
        · exact h
        · simp at h
      subst hn0
      rw [if_pos (by simp), if_pos (by simp), sane12_ok]
      rfl
    · have hn0 : n ≠ 0 := by
        rintro rfl
        simp at hs2
        omega
      have h7 : k / 2 ^ (n - 1) = 1 := by
        rcases hs3 with h | h
        · exact absurd h hn0
        · exact h
      rw [if_neg (by simp; omega), if_pos (dpos (by omega)), wr_id (n := (n : Int) - 1) (by omega) (by omega), if_pos (by omega), show (n : Int) - 1 = ((n - 1 : Nat) : Int) by omega, pow_nat _ (by omega), fdiv_nat, h7, if_pos (by simp), sane12_ok]
      rfl
  · rw [if_pos (by simp), if_pos (by simp), sane12_ok]
    rfl

end Go.Proofs.Ytjcikgeffhghkaa
