/- Plain law: CodeExact answers true at all numbers that are ints. -/
import Derived.Test.YtjcikgeffhghkaaPcodeReal0
import Derived.Test.YtjcikgeffhghkaaPcodeForm
import Derived.Test.YtjcikgeffhghkaaGCodeExact
set_option maxRecDepth 100000
set_option linter.unusedVariables false
namespace Go.Proofs.Ytjcikgeffhghkaa
open Go Go.V Go.Proofs

theorem steps_same (n : Int) : ∃ p, code_Steps n = some p ∧ r12_Steps n = some p := by
  by_cases h : 0 ≤ n ∧ n < 4096
  · obtain ⟨k, rfl⟩ := Int.eq_ofNat_of_zero_le h.1
    obtain ⟨d, h1, h2⟩ := steps_ok k (by omega)
    obtain ⟨e, h3, h4⟩ := rsteps_ok k (by omega)
    exact ⟨_, h1, by rw [h3, long_unique h2 h4]⟩
  · refine ⟨(0, 2), ?_, ?_⟩
    · unfold code_Steps
      rw [in_ok]
      simp only [Option.bind_some]
      rw [if_pos (by simp; omega)]
    · unfold r12_Steps
      by_cases h1 : n < 0
      · rw [if_pos (dpos h1)]
      · rw [if_neg (dneg h1), if_pos (dpos (by omega))]

theorem real_same (n r : Int) : ∃ p, code_Real n r = some p ∧ r12_Real n r = some p ∧ p.1.length ≤ 12 := by
  by_cases h : (0 ≤ n ∧ n < 4096) ∧ (0 ≤ r ∧ r ≤ 12)
  · obtain ⟨k, rfl⟩ := Int.eq_ofNat_of_zero_le h.1.1
    obtain ⟨s, rfl⟩ := Int.eq_ofNat_of_zero_le h.2.1
    refine ⟨_, real_ok k s (by omega) (by omega), rreal_ok k s (by omega) (by omega), ?_⟩
    unfold realOf
    split
    · have := bitsFrom_le k (12 - s) s
      simp
      omega
    · simp
  · refine ⟨([], 2), ?_, ?_, by simp⟩
    · unfold code_Real
      rw [in_ok, in_ok]
      simp only [Option.bind_some]
      by_cases h1 : 0 ≤ r ∧ r ≤ 12
      · rw [if_neg (by simp; omega), if_pos (by simp; omega)]
      · rw [if_pos (by simp; omega)]
    · unfold r12_Real
      by_cases h1 : r < 0
      · rw [if_pos (dpos h1)]
      · rw [if_neg (dneg h1)]
        by_cases h2 : r ≥ 13
        · rw [if_pos (dpos h2)]
        · rw [if_neg (dneg h2)]
          by_cases h3 : n < 0
          · rw [if_pos (dpos h3)]
          · rw [if_neg (dneg h3), if_pos (dpos (by omega))]

/-- The five functions of a form agree. -/
theorem form_same (n r w : Int) (hn : n < 9223372036854775808) : (∃ p, code_Next n r w = some p ∧ r12_Next n r w = some p) ∧ (∃ b, code_Is n r w = some b ∧ r12_Is n r w = some b) ∧
    (∃ p, code_Count n r w = some p ∧ r12_Count n r w = some p) ∧ (∃ p, code_Nth n r w = some p ∧ r12_Nth n r w = some p) ∧ (∃ p, code_Rank n r w = some p ∧ r12_Rank n r w = some p) := by
  by_cases hf : 0 ≤ r ∧ r ≤ 12 ∧ 0 ≤ w ∧ w ≤ 12
  · obtain ⟨r, rfl⟩ := Int.eq_ofNat_of_zero_le hf.1
    obtain ⟨w, rfl⟩ := Int.eq_ofNat_of_zero_le hf.2.2.1
    have hr : r ≤ 12 := by omega
    have hw : w ≤ 12 := by omega
    have hisf : ∀ n : Int, ¬ (0 ≤ n ∧ n < 4096) → code_Is n (r : Int) (w : Int) = some false ∧ r12_Is n (r : Int) (w : Int) = some false := by
      intro n hn
      constructor
      · unfold code_Is
        rw [form_ok, in_ok]
        simp only [Option.bind_some]
        rw [if_pos (by simp; omega), if_neg (by simp; omega)]
      · unfold r12_Is
        rw [rform_ok]
        simp only [Option.bind_some]
        rw [if_neg (by simp; omega)]
        by_cases h1 : n < 0
        · rw [if_pos (dpos h1)]
        · rw [if_neg (dneg h1), if_pos (dpos (by omega))]
    have hrank : ∀ n : Int, ¬ (0 ≤ n ∧ n < 4096) → code_Rank n (r : Int) (w : Int) = some (0, 15) ∧ r12_Rank n (r : Int) (w : Int) = some (0, 15) := by
      intro n hn
      obtain ⟨h1, h2⟩ := hisf n hn
      constructor
      · unfold code_Rank
        rw [form_ok, h1]
        simp only [Option.bind_some]
        rw [if_neg (by simp; omega), if_pos (by simp)]
      · unfold r12_Rank
        rw [rform_ok, h2]
        simp only [Option.bind_some]
        rw [if_neg (by simp; omega), if_pos (by simp)]
    by_cases h0 : 0 ≤ n
    · obtain ⟨n, rfl⟩ := Int.eq_ofNat_of_zero_le h0
      refine ⟨?_, ?_, ?_, ?_, ?_⟩
      · obtain ⟨p, h1, h2⟩ := next_ok' n r w hr hw
        obtain ⟨q, h3, h4⟩ := rnext_ok n r w hr hw
        exact ⟨p, h1, by rw [h3, next_unique h2 h4]⟩
      · by_cases h : n < 4096
        · exact ⟨_, is_ok n r w h hr hw, ris_ok n r w h hr hw⟩
        · exact ⟨_, hisf n (by omega)⟩
      · by_cases h : n ≤ 12
        · exact ⟨_, Count_ok n r w h hr hw, rCount_ok n r w h hr hw⟩
        · refine ⟨(0, 2), ?_, ?_⟩
          · unfold code_Count
            rw [form_ok, in_ok]
            simp only [Option.bind_some]
            rw [if_neg (by simp; omega), if_pos (by simp; omega)]
          · unfold r12_Count
            rw [rform_ok]
            simp only [Option.bind_some]
            rw [if_neg (by simp; omega), if_neg (dneg (by omega)), if_pos (dpos (by omega))]
      · obtain ⟨p, h1, h2⟩ := nth_ok n r w hr hw
        obtain ⟨q, h3, h4⟩ := rnth_ok n r w hr hw (by omega)
        exact ⟨p, h1, by rw [h3, nth_unique h2 h4]⟩
      · by_cases h : n < 4096
        · exact ⟨_, rank_ok n r w hr hw h, rrank_ok n r w hr hw h⟩
        · exact ⟨_, hrank n (by omega)⟩
    · refine ⟨⟨(0, 2), ?_, ?_⟩, ⟨_, hisf n (by omega)⟩, ⟨(0, 2), ?_, ?_⟩, ⟨(0, 2), ?_, ?_⟩, ⟨_, hrank n (by omega)⟩⟩
      · unfold code_Next
        rw [form_ok]
        simp only [Option.bind_some]
        rw [if_neg (by simp; omega), if_pos (dpos (by omega))]
      · unfold r12_Next
        rw [rform_ok]
        simp only [Option.bind_some]
        rw [if_neg (by simp; omega), if_pos (dpos (by omega))]
      · unfold code_Count
        rw [form_ok, in_ok]
        simp only [Option.bind_some]
        rw [if_neg (by simp; omega), if_pos (by simp; omega)]
      · unfold r12_Count
        rw [rform_ok]
        simp only [Option.bind_some]
        rw [if_neg (by simp; omega), if_pos (dpos (by omega))]
      · unfold code_Nth
        rw [form_ok]
        simp only [Option.bind_some]
        rw [if_neg (by simp; omega), if_pos (dpos (by omega))]
      · unfold r12_Nth
        rw [rform_ok]
        simp only [Option.bind_some]
        rw [if_neg (by simp; omega), if_pos (dpos (by omega))]
  · have hfd : decide (0 ≤ r ∧ r ≤ 12 ∧ 0 ≤ w ∧ w ≤ 12) = false := decide_eq_false hf
    have hc : code_form r w = some false := by rw [form_ok, hfd]
    have hd : r12_form r w = some false := by rw [rform_ok, hfd]
    have hi : code_Is n r w = some false := by unfold code_Is; rw [hc]; rfl
    have hj : r12_Is n r w = some false := by unfold r12_Is; rw [hd]; rfl
    refine ⟨⟨(0, 2), ?_, ?_⟩, ⟨false, hi, hj⟩, ⟨(0, 2), ?_, ?_⟩, ⟨(0, 2), ?_, ?_⟩, ⟨(0, 2), ?_, ?_⟩⟩
    · unfold code_Next; rw [hc]; rfl
    · unfold r12_Next; rw [hd]; rfl
    · unfold code_Count; rw [hc]; rfl
    · unfold r12_Count; rw [hd]; rfl
    · unfold code_Nth; rw [hc]; rfl
    · unfold r12_Nth; rw [hd]; rfl
    · unfold code_Rank; rw [hc]; rfl
    · unfold r12_Rank; rw [hd]; rfl

theorem exact12_ok (n r w : Int) (hn : n < 9223372036854775808) : law12_exact n r w = some true := by
  obtain ⟨⟨p1, a1, b1⟩, ⟨p2, a2, b2⟩, ⟨p3, a3, b3⟩, ⟨p4, a4, b4⟩, ⟨p5, a5, b5⟩⟩ := form_same n r w hn
  obtain ⟨p6, a6, b6⟩ := steps_same n
  obtain ⟨p7, a7, b7, h7⟩ := real_same n r
  unfold law12_exact
  rw [a1, b1, a2, b2, a3, b3, a4, b4, a5, b5, a6, b6, a7, b7]
  simp only [Option.bind_some]
  rw [ints_ok _ _ (by omega)]
  simp

theorem law_CodeExact (t : List Int) (n r w : Int) (hn : -9223372036854775808 ≤ n ∧ n < 9223372036854775808) (_ : -9223372036854775808 ≤ r ∧ r < 9223372036854775808) (_ : -9223372036854775808 ≤ w ∧ w < 9223372036854775808) :
    law12_CodeExact t n r w = some true := by
  unfold law12_CodeExact
  simp only [gen_New, Option.bind_some]
  obtain ⟨d, h1, h2⟩ := loop_inv (step := law12_CodeExact_L6 (t, 0)) (fun s => ∃ i k : Nat, s = ((i : Int), (k : Int)) ∧ i ≤ 3 ∧ k = i * 6) (fun s => 3 - s.1.toNat)
    (fun d => ∃ k : Int, d = .inr k) (by
    rintro _ ⟨i, k, rfl, hi, rfl⟩
    unfold law12_CodeExact_L6
    simp only
    by_cases h : i < 3
    · rw [if_pos (dpos (by omega))]
      obtain ⟨v1, e1, f1⟩ := next_nat t ((i * 6 : Nat) : Int) 4100 (by omega) (by omega) (by omega) (by omega)
      rw [e1]; simp only [Option.bind_some]
      obtain ⟨v2, e2, f2⟩ := next_nat t (((i * 6 : Nat) : Int) + 1) 64 (by omega) (by omega) (by omega) (by omega)
      rw [e2]; simp only [Option.bind_some]
      obtain ⟨v3, e3, f3⟩ := next_nat t (((i * 6 : Nat) : Int) + 1 + 1) 14 (by omega) (by omega) (by omega) (by omega)
      rw [e3]; simp only [Option.bind_some]
      obtain ⟨v4, e4, f4⟩ := pick_ok t (((i * 6 : Nat) : Int) + 1 + 1 + 1) [(v1 : Int), (v2 : Int), (v3 : Int), (-1)] (by omega) (by omega) (by simp) (by simp)
      rw [e4]; simp only [Option.bind_some]
      obtain ⟨v5, e5, f5⟩ := pick_ok t (((i * 6 : Nat) : Int) + 1 + 1 + 1 + 1) [0, 0, 1, 2, 3, 5, 11, 12, 13, (-1)] (by omega) (by omega) (by simp) (by simp)
      rw [e5]; simp only [Option.bind_some]
      obtain ⟨v6, e6, f6⟩ := pick_ok t (((i * 6 : Nat) : Int) + 1 + 1 + 1 + 1 + 1) [0, 1, 2, 3, 12, 11, 13, (-1)] (by omega) (by omega) (by simp) (by simp)
      rw [e6]; simp only [Option.bind_some]
      have hv4 : v4 < 9223372036854775808 := by
        simp only [List.mem_cons, List.not_mem_nil, or_false] at f4
        omega
      rw [exact12_ok v4 v5 v6 hv4]
      simp only [Option.bind_some]
      refine Or.inl ⟨_, if_neg (by simp), ⟨i + 1, (i + 1) * 6, ?_, by omega, rfl⟩, ?_⟩
      · rw [wr_id (by omega) (by omega)]
        congr 1
        omega
      · simp only
        rw [wr_id (by omega) (by omega)]
        omega
    · exact Or.inr ⟨_, if_neg (dneg (by omega)), ⟨_, rfl⟩⟩) (0, 0) ⟨0, 0, rfl, by omega, rfl⟩ (by simp only; omega)
  rw [h1]
  obtain ⟨k, rfl⟩ := h2
  simp only [Option.bind_some]
  rw [exact12_ok n r w hn.2]
  have h5 : Int.tmod n 5000 < 9223372036854775808 := by have := tmod_range n 5000 (by omega); omega
  rw [exact12_ok _ _ _ h5, sane12_ok]
  rfl

end Go.Proofs.Ytjcikgeffhghkaa
