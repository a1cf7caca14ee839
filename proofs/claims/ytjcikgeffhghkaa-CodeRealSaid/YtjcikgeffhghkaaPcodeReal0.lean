/- Plain laws: what Real and Steps give, and that the code and its reference agree in them. No condition beyond those of each theorem. -/
import Derived.Test.YtjcikgeffhghkaaPcodeRank
set_option linter.unusedVariables false
set_option maxRecDepth 100000
namespace Go.Proofs.Ytjcikgeffhghkaa
open Go Go.V Go.Proofs

/-- The bits of k that are set, from b on, n of them asked. -/
def bitsFrom (k : Nat) : Nat → Nat → List Nat
  | _, 0 => []
  | b, n + 1 => if k / 2 ^ b % 2 = 1 then b :: bitsFrom k (b + 1) n else bitsFrom k (b + 1) n

theorem bitsFrom_len (k : Nat) : ∀ (n b : Nat), (bitsFrom k b n).length = pcd n (k / 2 ^ b)
  | 0, _ => rfl
  | n + 1, b => by
    have h := bitsFrom_len k n (b + 1)
    rw [Nat.pow_succ, ← Nat.div_div_eq_div_mul] at h
    simp only [bitsFrom, pcd]
    split
    · simp only [List.length_cons]; omega
    · omega

theorem bitsFrom_le (k : Nat) : ∀ (n b : Nat), (bitsFrom k b n).length ≤ n
  | 0, _ => Nat.le_refl _
  | n + 1, b => by
    have h := bitsFrom_le k n (b + 1)
    simp only [bitsFrom]
    split
    · simp only [List.length_cons]; omega
    · omega

theorem bitsFrom_mem (k : Nat) : ∀ (n b x : Nat), x ∈ bitsFrom k b n → b ≤ x ∧ x < b + n
  | 0, _, _, h => by cases h
  | n + 1, b, x, h => by
    simp only [bitsFrom] at h
    split at h
    · rcases List.mem_cons.mp h with rfl | h
      · omega
      · have := bitsFrom_mem k n (b + 1) x h; omega
    · have := bitsFrom_mem k n (b + 1) x h; omega

theorem bitsFrom_asc (k : Nat) : ∀ (n b : Nat), (bitsFrom k b n).Pairwise (· < ·)
  | 0, _ => List.Pairwise.nil
  | n + 1, b => by
    simp only [bitsFrom]
    split
    · refine List.Pairwise.cons (fun x hx => ?_) (bitsFrom_asc k n (b + 1))
      have := bitsFrom_mem k n (b + 1) x hx; omega
    · exact bitsFrom_asc k n (b + 1)

/-- The sum of the powers of two of a list. -/
def sum2 : List Nat → Nat
  | [] => 0
  | b :: l => 2 ^ b + sum2 l

theorem sum2_append : ∀ (l m : List Nat), sum2 (l ++ m) = sum2 l + sum2 m
  | [], m => by simp [sum2]
  | b :: l, m => by simp [sum2, sum2_append l m]; omega

theorem bitsFrom_sum (k : Nat) : ∀ (n b : Nat), k < 2 ^ (b + n) → sum2 (bitsFrom k b n) + k % 2 ^ b = k
  | 0, b, h => by
    simp only [bitsFrom, sum2]
    rw [Nat.mod_eq_of_lt (by simpa using h)]
    omega
  | n + 1, b, h => by
    have h1 := bitsFrom_sum k n (b + 1) (by rw [show b + 1 + n = b + (n + 1) by omega]; exact h)
    have h2 : k % 2 ^ (b + 1) = k % 2 ^ b + 2 ^ b * (k / 2 ^ b % 2) := by rw [Nat.pow_succ, Nat.mod_mul]
    simp only [bitsFrom]
    split
    · rename_i h3
      rw [h3, Nat.mul_one] at h2
      simp only [sum2]
      omega
    · rename_i h3
      rw [show k / 2 ^ b % 2 = 0 by omega, Nat.mul_zero] at h2
      omega

theorem real_loop (k : Nat) (hk : k < 4096) (r : Nat) (hr : r ≤ 12) : loop (code_Real_L11 (k : Int)) ((r : Int), ([] : List Int)) = some ((bitsFrom k r (12 - r)).map (Int.ofNat ·)) := by
  obtain ⟨d, h1, h2⟩ := loop_inv (step := code_Real_L11 (k : Int)) (fun s => ∃ (b : Nat) (l : List Nat), s = ((b : Int), l.map (Int.ofNat ·)) ∧ b ≤ 12 ∧ l.length ≤ b ∧ l ++ bitsFrom k b (12 - b) = bitsFrom k r (12 - r)) (fun s => (12 - s.1).toNat)
    (fun d => d = (bitsFrom k r (12 - r)).map (Int.ofNat ·)) (by
    rintro _ ⟨b, l, rfl, hb, hl, he⟩
    unfold code_Real_L11
    simp only
    by_cases h : b < 12
    · rw [if_pos (dpos (by omega)), if_pos (by omega), bit_ok k b hk (by omega)]
      refine Or.inl ?_
      obtain ⟨n, hn⟩ : ∃ n, 12 - b = n + 1 := ⟨11 - b, by omega⟩
      rw [hn] at he
      simp only [bitsFrom] at he
      rw [show n = 12 - (b + 1) by omega] at he
      by_cases h1 : k / 2 ^ b % 2 = 1
      · rw [if_pos h1] at he
        rw [h1, if_pos (by simp), if_pos (by simp; omega)]
        refine ⟨_, rfl, ⟨b + 1, l ++ [b], ?_, by omega, by simp; omega, by simpa using he⟩, ?_⟩
        · rw [wr_id (by omega) (by omega)]
          simp
        · simp only
          rw [wr_id (by omega) (by omega)]
          omega
      · rw [if_neg h1] at he
        rw [show k / 2 ^ b % 2 = 0 by omega]
        refine ⟨_, if_neg (by simp), ⟨b + 1, l, ?_, by omega, by omega, he⟩, ?_⟩
        · rw [wr_id (by omega) (by omega)]
          rfl
        · simp only
          rw [wr_id (by omega) (by omega)]
          omega
    · refine Or.inr ⟨_, if_neg (dneg (by omega)), ?_⟩
      rw [show 12 - b = 0 by omega] at he
      simp only [bitsFrom, List.append_nil] at he
      rw [he]) ((r : Int), ([] : List Int)) ⟨r, [], rfl, hr, by simp, rfl⟩ (by simp only; omega)
  rw [h1, h2]

/-- What Real says. -/
def realOf (k r : Nat) : List Int × Int := if k % 2 ^ r = 2 ^ r - 1 then ((bitsFrom k r (12 - r)).map (Int.ofNat ·), 0) else ([], 15)

theorem real_ok (k r : Nat) (hk : k < 4096) (hr : r ≤ 12) : code_Real (k : Int) (r : Int) = some (realOf k r) := by
  have hp := pow_le r hr
  unfold code_Real realOf
  rw [in_ok, in_ok, missed_ok r hr]
  simp only [Option.bind_some]
  rw [if_neg (by simp; omega), if_neg (by simp; omega), and_nat _ _ (by omega) (by omega), Nat.and_two_pow_sub_one_eq_mod]
  by_cases h : k % 2 ^ r = 2 ^ r - 1
  · rw [h, if_neg (by simp), real_loop k hk r hr]
    simp
  · rw [if_neg h, if_pos (by simpa using (by omega : ¬ ((k % 2 ^ r : Nat) : Int) = ((2 ^ r - 1 : Nat) : Int)))]

theorem rreal_ok (k r : Nat) (hk : k < 4096) (hr : r ≤ 12) : r12_Real (k : Int) (r : Int) = some (realOf k r) := by
  have hp := pow_le r hr
  unfold r12_Real realOf
  have h1 : ((2 ^ r : Nat) : Int) - 1 = ((2 ^ r - 1 : Nat) : Int) := by omega
  rw [if_neg (dneg (by omega)), if_neg (dneg (by omega)), if_neg (dneg (by omega)), if_neg (dneg (by omega)), if_pos (by omega), one_shl r hr, if_pos (by omega), if_pos (by omega), tmod_nat, wr_id (by omega) (by omega), h1]
  by_cases h : k % 2 ^ r = 2 ^ r - 1
  · have h2 : loop (r12_Real_L3 (k : Int)) ((r : Int), ([] : List Int)) = some ((bitsFrom k r (12 - r)).map (Int.ofNat ·)) := real_loop k hk r hr
    rw [h, if_neg (by simp), h2]
    simp
  · rw [if_neg h, if_pos (by simpa using (by omega : ¬ ((k % 2 ^ r : Nat) : Int) = ((2 ^ r - 1 : Nat) : Int)))]

/-- What Steps says: the bit length. -/
def LongSpec (k : Nat) (d : Int) : Prop := ∃ n : Nat, d = (n : Int) ∧ n ≤ 12 ∧ k < 2 ^ n ∧ (n = 0 ∨ k / 2 ^ (n - 1) = 1)

theorem long_unique {k : Nat} {d e : Int} (hd : LongSpec k d) (he : LongSpec k e) : d = e := by
  obtain ⟨n, rfl, _, h1, h2⟩ := hd
  obtain ⟨m, rfl, _, g1, g2⟩ := he
  have key : ∀ a b : Nat, k < 2 ^ a → (b = 0 ∨ k / 2 ^ (b - 1) = 1) → b ≤ a := by
    intro a b ha hb
    rcases hb with rfl | hb
    · omega
    · rcases Nat.lt_or_ge a b with h | h
      · have h3 : 2 ^ a ≤ 2 ^ (b - 1) := Nat.pow_le_pow_right (by omega) (by omega)
        rw [Nat.div_eq_of_lt (by omega)] at hb
        cases hb
      · exact h
  have := key n m h1 g2
  have := key m n g1 h2
  omega

theorem steps_loop (k : Nat) (hk : k < 4096) : ∃ d, loop code_Steps_L3 ((k : Int), 0) = some d ∧ LongSpec k d := by
  apply loop_inv (step := code_Steps_L3) (fun s => ∃ n : Nat, s = (((k / 2 ^ n : Nat) : Int), (n : Int)) ∧ n ≤ 12 ∧ (n = 0 ∨ 0 < k / 2 ^ (n - 1))) (fun s => s.1.toNat) (LongSpec k)
  · rintro _ ⟨n, rfl, hn, h0⟩
    unfold code_Steps_L3
    simp only
    have hle : k / 2 ^ n ≤ k := Nat.div_le_self _ _
    by_cases h : 0 < k / 2 ^ n
    · have hlt : n < 12 := by
        rcases Nat.lt_or_ge n 12 with h' | h'
        · exact h'
        · rw [show n = 12 by omega, Nat.div_eq_of_lt (by omega)] at h
          cases h
      have e : Int.fdiv ((k / 2 ^ n : Nat) : Int) (2 ^ (min (Int.toNat (1)) IntKind.i64.bits)) = ((k / 2 ^ (n + 1) : Nat) : Int) := by
        have := pow_nat 1 (by omega)
        rw [show (1 : Int) = ((1 : Nat) : Int) from rfl, this, fdiv_nat, Nat.pow_succ, Nat.div_div_eq_div_mul]
        rfl
      refine Or.inl ⟨_, if_pos (dpos (by omega)), ⟨n + 1, ?_, by omega, Or.inr (by simpa using h)⟩, ?_⟩
      · rw [wr_id (by omega) (by omega), e]
        rfl
      · simp only
        rw [e]
        have : k / 2 ^ (n + 1) = k / 2 ^ n / 2 := by rw [Nat.pow_succ, Nat.div_div_eq_div_mul]
        omega
    · have h3 : k / 2 ^ n = 0 := Nat.eq_zero_of_not_pos h
      have h4 : k < 2 ^ n := by
        rcases Nat.lt_or_ge k (2 ^ n) with h' | h'
        · exact h'
        · have := Nat.div_pos h' (Nat.two_pow_pos n)
          omega
      refine Or.inr ⟨_, if_neg (dneg (by omega)), ⟨n, rfl, hn, h4, ?_⟩⟩
      rcases h0 with h0 | h0
      · exact Or.inl h0
      · rcases Nat.eq_zero_or_pos n with h5 | h5
        · exact Or.inl h5
        · obtain ⟨m, rfl⟩ : ∃ m, n = m + 1 := ⟨n - 1, by omega⟩
          rw [Nat.pow_succ, ← Nat.div_div_eq_div_mul] at h3
          simp only [Nat.add_sub_cancel] at h0 ⊢
          exact Or.inr (by omega)
  · exact ⟨0, by simp, by omega, Or.inl rfl⟩
  · simp only; omega

theorem steps_ok (k : Nat) (hk : k < 4096) : ∃ d, code_Steps (k : Int) = some (d, 0) ∧ LongSpec k d := by
  obtain ⟨d, h1, h2⟩ := steps_loop k hk
  refine ⟨d, ?_, h2⟩
  unfold code_Steps
  rw [in_ok]
  simp only [Option.bind_some]
  rw [if_neg (by simp; omega), h1]
  rfl

theorem rsteps_ok (k : Nat) (hk : k < 4096) : ∃ d, r12_Steps (k : Int) = some (d, 0) ∧ LongSpec k d := by
  obtain ⟨d, h1, h2⟩ := steps_loop k hk
  refine ⟨d, ?_, h2⟩
  unfold r12_Steps r12_Long
  have e : ∀ (m : Nat) (s : Int × Int), 0 ≤ s.1 → s.1 < 4096 → loopN r12_Long_L1 m s = loopN code_Steps_L3 m s := by
    intro m
    induction m with
    | zero => intro s _ _; rfl
    | succ m ih =>
      rintro ⟨a, n⟩ h3 h4
      simp only at h3 h4
      have e1 : IntKind.i64.wrap (Int.tdiv a 2) = Int.fdiv a (2 ^ (min (Int.toNat (1)) IntKind.i64.bits)) := by
        have := pow_nat 1 (by omega)
        rw [show (1 : Int) = ((1 : Nat) : Int) from rfl, this, Int.fdiv_eq_ediv_of_nonneg _ (by omega), Int.tdiv_eq_ediv_of_nonneg h3, wr_id (by omega) (by omega)]
        rfl
      have e2 : r12_Long_L1 (a, n) = code_Steps_L3 (a, n) := by
        unfold r12_Long_L1 code_Steps_L3
        simp only [e1]
      simp only [loopN, e2]
      unfold code_Steps_L3
      by_cases h5 : a > 0
      · simp only
        rw [if_pos (dpos h5)]
        simp only [Option.bind_some]
        have e3 : 0 ≤ Int.tdiv a 2 ∧ Int.tdiv a 2 < 4096 := by rw [Int.tdiv_eq_ediv_of_nonneg h3]; omega
        rw [wr_id (by omega) (by omega)] at e1
        apply ih
        · simp only; rw [← e1]; exact e3.1
        · simp only; rw [← e1]; exact e3.2
      · simp only
        rw [if_neg (dneg h5)]
        rfl
  have h3 : loop r12_Long_L1 ((k : Int), 0) = some d := by
    unfold loop at h1 ⊢
    rw [e _ _ (by simp only; omega) (by simp only; omega), h1]
  rw [if_neg (dneg (by omega)), if_neg (dneg (by omega)), h3]
  rfl

end Go.Proofs.Ytjcikgeffhghkaa
