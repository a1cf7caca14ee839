
/- Plain laws: what the functions of the package code and of its reference compute, on natural numbers. No condition beyond those of each theorem. -/
import Derived.Test.YtcignnfdpgeogaaPgen
import Derived.Test.YtcignnfdpgeogaaGcode
import Derived.Test.YtcignnfdpgeogaaGr12
set_option linter.unusedVariables false
set_option maxRecDepth 100000
namespace Go.Proofs.Ytcignnfdpgeogaa
open Go Go.V Go.Proofs

theorem ofInt_nat (k : Nat) (hk : k < 9223372036854775808) : (BitVec.ofInt IntKind.i64.bits (k : Int)).toNat = k := by
  show (BitVec.ofInt 64 (k : Int)).toNat = k
  rw [BitVec.toNat_ofInt]
  omega

theorem and_nat (k m : Nat) (hk : k < 9223372036854775808) (hm : m < 9223372036854775808) :
    IntKind.i64.wrap ((BitVec.ofInt IntKind.i64.bits (k : Int) &&& BitVec.ofInt IntKind.i64.bits (m : Int)).toNat : Int) = ((k &&& m : Nat) : Int) := by
  have h : k &&& m ≤ k := Nat.and_le_left
  rw [BitVec.toNat_and, ofInt_nat k hk, ofInt_nat m hm, wr_id (by omega) (by omega)]

theorem or_nat (k m : Nat) (hk : k < 9223372036854775808) (hm : m < 9223372036854775808) :
    IntKind.i64.wrap ((BitVec.ofInt IntKind.i64.bits (k : Int) ||| BitVec.ofInt IntKind.i64.bits (m : Int)).toNat : Int) = ((k ||| m : Nat) : Int) := by
  have h : k ||| m < 2 ^ 63 := Nat.or_lt_two_pow (by omega) (by omega)
  rw [BitVec.toNat_or, ofInt_nat k hk, ofInt_nat m hm, wr_id (by omega) (by omega)]


/-- A power of two, as the code makes it. -/
theorem pow_nat (r : Nat) (hr : r ≤ 12) : (2 : Int) ^ (min (Int.toNat (r : Int)) IntKind.i64.bits) = ((2 ^ r : Nat) : Int) := by
  have h : min (Int.toNat (r : Int)) IntKind.i64.bits = r := by
    show min (Int.toNat (r : Int)) 64 = r
    omega
  rw [h]
  simp

theorem pow_le (r : Nat) (hr : r ≤ 12) : 1 ≤ 2 ^ r ∧ 2 ^ r ≤ 4096 := by
  constructor
  · exact Nat.one_le_two_pow
  · exact Nat.pow_le_pow_right (by omega) hr

theorem one_shl (r : Nat) (hr : r ≤ 12) : IntKind.i64.wrap (1 * (2 : Int) ^ (min (Int.toNat (r : Int)) IntKind.i64.bits)) = ((2 ^ r : Nat) : Int) := by
  have h := pow_le r hr
  rw [pow_nat r hr, wr_id (by omega) (by omega)]
  omega

theorem missed_ok (r : Nat) (hr : r ≤ 12) : code_missed (r : Int) = some ((2 ^ r - 1 : Nat) : Int) := by
  have h := pow_le r hr
  unfold code_missed
  rw [if_pos (by omega), one_shl r hr, wr_id (by omega) (by omega)]
  congr 1
  omega

theorem in_ok (n lo hi : Int) : code_in n lo hi = some (decide (lo ≤ n ∧ n ≤ hi)) := by
  unfold code_in
  by_cases h : n ≥ lo
  · rw [if_pos (by simpa using h)]
    simp only [ge_iff_le] at h
    simp [h]
  · rw [if_neg (by simpa using h)]
    simp only [ge_iff_le] at h
    simp [h]

theorem form_ok (r w : Int) : code_form r w = some (decide (0 ≤ r ∧ r ≤ 12 ∧ 0 ≤ w ∧ w ≤ 12)) := by
  unfold code_form
  rw [in_ok, in_ok]
  simp only [Option.bind_some]
  by_cases h : 0 ≤ r ∧ r ≤ 12
  · rw [if_pos (by simpa using h)]
    simp [h]
  · rw [if_neg (by simpa using h)]
    have h' : ¬(0 ≤ r ∧ r ≤ 12 ∧ 0 ≤ w ∧ w ≤ 12) := fun ⟨a, b, _⟩ => h ⟨a, b⟩
    simp [h']

theorem rform_ok (r w : Int) : r12_form r w = some (decide (0 ≤ r ∧ r ≤ 12 ∧ 0 ≤ w ∧ w ≤ 12)) := by
  unfold r12_form
  by_cases h1 : 0 ≤ r <;> by_cases h2 : r ≤ 12 <;> by_cases h3 : 0 ≤ w <;> by_cases h4 : w ≤ 12 <;>
    simp [h1, h2, h3, h4] <;> omega

theorem tmod_nat' (k m : Nat) : Int.tmod (k : Int) (m : Int) = ((k % m : Nat) : Int) := rfl

theorem tdiv_nat' (k m : Nat) : Int.tdiv (k : Int) (m : Int) = ((k / m : Nat) : Int) := rfl

theorem even_odd (u : Nat) : (∃ m, u = 2 * m) ∨ (∃ m, u = 2 * m + 1) := by
  rcases Nat.mod_two_eq_zero_or_one u with h | h
  · exact Or.inl ⟨u / 2, by omega⟩
  · exact Or.inr ⟨u / 2, by omega⟩


/-- The number of bits that are set. -/
def pcd : Nat → Nat → Nat
  | 0, _ => 0
  | d + 1, u => u % 2 + pcd d (u / 2)

def pc (u : Nat) : Nat := pcd 12 u


/-- What the document calls a code of a form. -/
def isN (r w k : Nat) : Bool := decide (k % 2 ^ r = 2 ^ r - 1) && decide (pc (k / 2 ^ r) ≤ w)

theorem pcd_zero : ∀ d, pcd d 0 = 0
  | 0 => rfl
  | d + 1 => by simp [pcd, pcd_zero d]

theorem and_even_odd (a b : Nat) : (2 * a) &&& (2 * b + 1) = 2 * (a &&& b) := by
  have h1 : ((2 * a) &&& (2 * b + 1)) / 2 = a &&& b := by
    rw [Nat.and_div_two]; congr 1 <;> omega
  have h2 : ((2 * a) &&& (2 * b + 1)) % 2 = 0 := by
    have := Nat.and_mod_two_eq_one (a := 2 * a) (b := 2 * b + 1)
    omega
  omega

theorem and_odd_even (a b : Nat) : (2 * a + 1) &&& (2 * b) = 2 * (a &&& b) := by
  rw [Nat.and_comm, and_even_odd, Nat.and_comm]

theorem and_even_even (a b : Nat) : (2 * a) &&& (2 * b) = 2 * (a &&& b) := by
  have h1 : ((2 * a) &&& (2 * b)) / 2 = a &&& b := by
    rw [Nat.and_div_two]; congr 1 <;> omega
  have h2 : ((2 * a) &&& (2 * b)) % 2 = 0 := by
    have := Nat.and_mod_two_eq_one (a := 2 * a) (b := 2 * b)
    omega
  omega

theorem and_odd_odd (a b : Nat) : (2 * a + 1) &&& (2 * b + 1) = 2 * (a &&& b) + 1 := by
  have h1 : ((2 * a + 1) &&& (2 * b + 1)) / 2 = a &&& b := by
    rw [Nat.and_div_two]; congr 1 <;> omega
  have h2 : ((2 * a + 1) &&& (2 * b + 1)) % 2 = 1 := by
    have := Nat.and_mod_two_eq_one (a := 2 * a + 1) (b := 2 * b + 1)
    omega
  omega

theorem pcd_even (d m : Nat) : pcd (d + 1) (2 * m) = pcd d m := by
  simp [pcd]

theorem pcd_odd (d m : Nat) : pcd (d + 1) (2 * m + 1) = 1 + pcd d m := by
  have h : (2 * m + 1) / 2 = m := by omega
  simp [pcd, h]

theorem pcd_clear : ∀ (d u : Nat), u < 2 ^ d → u ≠ 0 → pcd d (u &&& (u - 1)) + 1 = pcd d u
  | 0, u, h, h0 => absurd h (by simp; omega)
  | d + 1, u, h, h0 => by
    have e : 2 ^ (d + 1) = 2 * 2 ^ d := by rw [Nat.pow_succ]; omega
    rcases even_odd u with ⟨m, rfl⟩ | ⟨m, rfl⟩
    · have h1 : 2 * m - 1 = 2 * (m - 1) + 1 := by omega
      rw [h1, and_even_odd, pcd_even, pcd_even]
      exact pcd_clear d m (by omega) (by omega)
    · rw [show 2 * m + 1 - 1 = 2 * m by omega, and_odd_even, pcd_odd, Nat.and_self, pcd_even]
      omega

theorem ones_ok (u : Nat) (hu : u < 4096) : code_ones (u : Int) = some (pc u : Int) := by
  unfold code_ones
  obtain ⟨d, h1, h2⟩ := loop_inv (step := code_ones_L1) (fun s => ∃ k n : Nat, s = ((k : Int), (n : Int)) ∧ k < 4096 ∧ n + pc k = pc u ∧ n ≤ 4096 ∧ n + k ≤ 4096) (fun s => s.1.toNat) (fun r => r = (pc u : Int)) (by
    rintro _ ⟨k, n, rfl, hk, hn, _, hnk⟩
    unfold code_ones_L1
    by_cases h0 : k = 0
    · subst h0
      exact Or.inr ⟨_, by simp; rfl, by simp only [pc, pcd_zero] at hn ⊢; omega⟩
    · refine Or.inl ⟨_, if_pos (by simpa using h0), ⟨k &&& (k - 1), n + 1, ?_, ?_, ?_, ?_, ?_⟩, ?_⟩
      · rw [wr_id (n := (k : Int) - 1) (by omega) (by omega), show (k : Int) - 1 = ((k - 1 : Nat) : Int) by omega, and_nat _ _ (by omega) (by omega), wr_id (by omega) (by omega)]
        rfl
      · exact Nat.lt_of_le_of_lt Nat.and_le_left hk
      · have := pcd_clear 12 k hk h0
        simp only [pc] at hn ⊢
        omega
      · omega
      · have : k &&& (k - 1) ≤ k - 1 := Nat.and_le_right
        omega
      · simp only
        rw [wr_id (n := (k : Int) - 1) (by omega) (by omega), show (k : Int) - 1 = ((k - 1 : Nat) : Int) by omega, and_nat _ _ (by omega) (by omega)]
        have : k &&& (k - 1) ≤ k - 1 := Nat.and_le_right
        omega) ((u : Int), 0) ⟨u, 0, rfl, hu, by omega, by omega, by omega⟩ (by simp; omega)
  rw [h1]
  simp [h2]

theorem bits_ok (u : Nat) (hu : u < 4096) : loop r12_Is_L4 (0, (u : Int)) = some (pc u : Int) := by
  obtain ⟨d, h1, h2⟩ := loop_inv (step := r12_Is_L4) (fun s => ∃ (e k n : Nat), s = ((n : Int), (k : Int)) ∧ k < 2 ^ e ∧ e ≤ 12 ∧ n + pcd e k = pc u ∧ n + e ≤ 12) (fun s => s.2.toNat) (fun r => r = (pc u : Int)) (by
    rintro _ ⟨e, k, n, rfl, hk, he, hn, hne⟩
    unfold r12_Is_L4
    have hp := pow_le e he
    by_cases h0 : k = 0
    · subst h0
      exact Or.inr ⟨_, by simp; rfl, by simp [pcd_zero] at hn; omega⟩
    · obtain ⟨e, rfl⟩ : ∃ f, e = f + 1 := ⟨e - 1, by
        cases e with
        | zero => simp at hk; omega
        | succ f => rfl⟩
      rw [Nat.pow_succ] at hk
      refine Or.inl ⟨_, if_pos (by simp; omega), ⟨e, k / 2, n + k % 2, ?_, by omega, by omega, ?_, by omega⟩, ?_⟩
      · rw [show (2 : Int) = ((2 : Nat) : Int) from rfl, tmod_nat', tdiv_nat', wr_id (by omega) (by omega), wr_id (by omega) (by omega)]
        rfl
      · simp only [pcd] at hn
        omega
      · simp only
        rw [show (2 : Int) = ((2 : Nat) : Int) from rfl, tdiv_nat', wr_id (by omega) (by omega)]
        omega) (0, (u : Int)) ⟨12, u, 0, rfl, hu, by omega, by simp [pc], by omega⟩ (by simp; omega)
  rw [h1, h2]

theorem fdiv_nat (k m : Nat) : Int.fdiv (k : Int) (m : Int) = ((k / m : Nat) : Int) := by
  rw [Int.fdiv_eq_ediv_of_nonneg _ (by omega)]
  rfl

theorem tmod_nat (k m : Nat) : Int.tmod (k : Int) (m : Int) = ((k % m : Nat) : Int) := rfl

theorem ris_ok (k r w : Nat) (hk : k < 4096) (hr : r ≤ 12) (hw : w ≤ 12) : r12_Is (k : Int) (r : Int) (w : Int) = some (isN r w k) := by
  have hp := pow_le r hr
  unfold r12_Is
  rw [rform_ok]
  simp only [Option.bind_some]
  rw [if_neg (by simp; omega), if_neg (by simp), if_neg (by simp; omega), if_pos (by omega), one_shl r hr, if_pos (by omega), if_pos (by omega)]
  have h1 : ((2 ^ r : Nat) : Int) - 1 = ((2 ^ r - 1 : Nat) : Int) := by omega
  rw [tmod_nat, wr_id (by omega) (by omega), h1]
  by_cases h : k % 2 ^ r = 2 ^ r - 1
  · rw [if_neg (by rw [h]; simp), if_pos (by omega), pow_nat r hr, fdiv_nat, bits_ok _ (Nat.lt_of_le_of_lt (Nat.div_le_self _ _) hk)]
    simp [isN, h]
  · rw [if_pos (by simpa using (by omega : ¬ ((k % 2 ^ r : Nat) : Int) = ((2 ^ r - 1 : Nat) : Int)))]
    simp [isN, h]

theorem pcd_add : ∀ (j e M t : Nat), t < 2 ^ j → pcd (j + e) (2 ^ j * M + t) = pcd j t + pcd e M
  | 0, e, M, t, h => by
    have : t = 0 := by simpa using h
    subst this
    simp [pcd]
  | j + 1, e, M, t, h => by
    rw [Nat.pow_succ] at h
    have e1 : 2 ^ (j + 1) * M = 2 * (2 ^ j * M) := by rw [Nat.pow_succ, Nat.mul_comm (2 ^ j) 2, Nat.mul_assoc]
    have h2 : (2 ^ (j + 1) * M + t) / 2 = 2 ^ j * M + t / 2 := by omega
    have h3 : (2 ^ (j + 1) * M + t) % 2 = t % 2 := by omega
    rw [show j + 1 + e = (j + e) + 1 by omega]
    simp only [pcd]
    rw [h2, h3, pcd_add j e M (t / 2) (by omega)]
    omega

theorem pc_add (j M t : Nat) (hj : j ≤ 12) (ht : t < 2 ^ j) : pc (2 ^ j * M + t) = pcd j t + pcd (12 - j) M := by
  have h := pcd_add j (12 - j) M t ht
  rw [show j + (12 - j) = 12 by omega] at h
  exact h

theorem low_bit : ∀ (d e x : Nat), d ≤ e → 0 < x → x < 2 ^ d → ∃ j m, j < d ∧ x = 2 ^ j * (2 * m + 1) ∧ x &&& (2 ^ e - x) = 2 ^ j
  | 0, e, x, _, h1, h2 => absurd h2 (by simp; omega)
  | d + 1, e, x, hde, h1, h2 => by
    rw [Nat.pow_succ] at h2
    obtain ⟨f, rfl⟩ : ∃ f, e = f + 1 := ⟨e - 1, by omega⟩
    have hp : 2 ^ d ≤ 2 ^ f := Nat.pow_le_pow_right (by omega) (by omega)
    rcases even_odd x with ⟨m, rfl⟩ | ⟨m, rfl⟩
    · obtain ⟨j, k, h3, h4, h5⟩ := low_bit d f m (by omega) (by omega) (by omega)
      refine ⟨j + 1, k, by omega, ?_, ?_⟩
      · rw [h4, Nat.pow_succ, Nat.mul_comm (2 ^ j) 2, Nat.mul_assoc]
      · rw [show 2 ^ (f + 1) - 2 * m = 2 * (2 ^ f - m) by rw [Nat.pow_succ]; omega, and_even_even, h5, Nat.pow_succ, Nat.mul_comm 2]
    · refine ⟨0, m, by omega, by simp, ?_⟩
      have h6 : m &&& (2 ^ f - 1 - m) = 0 := by
        have h7 : m < 2 ^ f := by omega
        apply Nat.eq_of_testBit_eq
        intro i
        rw [Nat.testBit_and, show 2 ^ f - 1 - m = 2 ^ f - (m + 1) by omega, Nat.testBit_two_pow_sub_succ h7]
        cases m.testBit i <;> simp
      rw [show 2 ^ (f + 1) - (2 * m + 1) = 2 * (2 ^ f - 1 - m) + 1 by rw [Nat.pow_succ]; omega, and_odd_odd, h6]

theorem ofInt_neg (x : Nat) (h0 : 0 < x) (hx : x < 9223372036854775808) : (BitVec.ofInt IntKind.i64.bits (0 - (x : Int))).toNat = 2 ^ 64 - x := by
  show (BitVec.ofInt 64 (0 - (x : Int))).toNat = 2 ^ 64 - x
  rw [BitVec.toNat_ofInt]
  omega


/-- The lowest bit of a number, as the code takes it. -/
theorem low_ok (x : Nat) (h0 : 0 < x) (hx : x < 4096) : ∃ j m, j < 12 ∧ x = 2 ^ j * (2 * m + 1) ∧
    IntKind.i64.wrap ((BitVec.ofInt IntKind.i64.bits (x : Int) &&& BitVec.ofInt IntKind.i64.bits (IntKind.i64.wrap (0 - (x : Int)))).toNat : Int) = ((2 ^ j : Nat) : Int) := by
  obtain ⟨j, m, h1, h2, h3⟩ := low_bit 12 64 x (by omega) h0 hx
  refine ⟨j, m, h1, h2, ?_⟩
  have hp := pow_le j (by omega)
  rw [wr_id (n := 0 - (x : Int)) (by omega) (by omega), BitVec.toNat_and, ofInt_nat x (by omega), ofInt_neg x h0 (by omega), h3, wr_id (by omega) (by omega)]


/-- What Next says: the least code at or above a number, or that there is none. -/
def NextSpec (n r w : Nat) (p : Int × Int) : Prop :=
  (∃ k : Nat, p = ((k : Int), 0) ∧ n ≤ k ∧ k < 4096 ∧ isN r w k = true ∧ ∀ x, n ≤ x → x < k → isN r w x = false) ∨
  (p = (0, 15) ∧ ∀ x, n ≤ x → x < 4096 → isN r w x = false)

theorem next_unique {n r w : Nat} {p q : Int × Int} (hp : NextSpec n r w p) (hq : NextSpec n r w q) : p = q := by
  rcases hp with ⟨k, rfl, h1, h2, h3, h4⟩ | ⟨rfl, h1⟩ <;> rcases hq with ⟨l, rfl, g1, g2, g3, g4⟩ | ⟨rfl, g1⟩
  · have h5 : ¬ l < k := fun h => by rw [h4 l g1 h] at g3; cases g3
    have h6 : ¬ k < l := fun h => by rw [g4 k h1 h] at h3; cases h3
    rw [show k = l by omega]
  · rw [g1 k h1 h2] at h3; cases h3
  · rw [h1 l g1 g2] at g3; cases g3
  · rfl

theorem next_loop (w a : Nat) (ha : a < 4096) : ∃ d, loop (code_Next_L9 (w : Int)) (a : Int) = some d ∧
    ((∃ u : Nat, d = .inr (u : Int) ∧ a ≤ u ∧ u < 4096 ∧ pc u ≤ w ∧ ∀ y, a ≤ y → y < u → w < pc y) ∨ (d = .inl () ∧ ∀ y, a ≤ y → y < 4096 → w < pc y)) := by
  apply loop_inv (step := code_Next_L9 (w : Int)) (fun s => ∃ u : Nat, s = (u : Int) ∧ a ≤ u ∧ u < 4096 ∧ ∀ y, a ≤ y → y < u → w < pc y) (fun s => 4096 - s.toNat)
    (fun d => (∃ u : Nat, d = .inr (u : Int) ∧ a ≤ u ∧ u < 4096 ∧ pc u ≤ w ∧ ∀ y, a ≤ y → y < u → w < pc y) ∨ (d = .inl () ∧ ∀ y, a ≤ y → y < 4096 → w < pc y))
  · rintro _ ⟨u, rfl, h1, h2, h3⟩
    unfold code_Next_L9
    simp only [ones_ok u h2, Option.bind_some]
    by_cases hw : pc u ≤ w
    · refine Or.inr ⟨_, if_neg (dneg (by omega)), Or.inl ⟨u, rfl, h1, h2, hw, h3⟩⟩
    · rw [if_pos (dpos (by omega))]
      have h0 : 0 < u := by
        rcases Nat.eq_zero_or_pos u with h | h
        · subst h
          exact absurd (by simp [pc, pcd_zero]) hw
        · exact h
      obtain ⟨j, m, hj, hu, hl⟩ := low_ok u h0 h2
      have hp := pow_le j (by omega)
      have hc : ((2 ^ j : Nat) : Int) = (((2 ^ j : Nat)) : Int) := rfl
      rw [hl, wr_id (by omega) (by omega)]
      have h4 : ∀ y, a ≤ y → y < u + 2 ^ j → w < pc y := by
        intro y hy1 hy2
        by_cases hy : y < u
        · exact h3 y hy1 hy
        · obtain ⟨t, rfl⟩ : ∃ t, y = u + t := ⟨y - u, by omega⟩
          have e1 := pc_add j (2 * m + 1) t (by omega) (by omega)
          have e2 := pc_add j (2 * m + 1) 0 (by omega) (by omega)
          rw [← hu] at e1 e2
          rw [pcd_zero] at e2
          simp only [Nat.add_zero] at e2
          omega
      by_cases h5 : u + 2 ^ j ≥ 4096
      · exact Or.inr ⟨_, if_pos (dpos (by omega)), Or.inr ⟨rfl, fun y hy1 hy2 => h4 y hy1 (by omega)⟩⟩
      · refine Or.inl ⟨_, if_neg (dneg (by omega)), ⟨u + 2 ^ j, by omega, by omega, by omega, h4⟩, by omega⟩
  · exact ⟨a, rfl, by omega, ha, fun y h1 h2 => by omega⟩
  · show 4096 - Int.toNat (a : Int) < _; omega

theorem div_mono (n x r : Nat) (h : n ≤ x) : n / 2 ^ r ≤ x / 2 ^ r := Nat.div_le_div_right h

theorem mod_div (x r : Nat) : x = x / 2 ^ r * 2 ^ r + x % 2 ^ r := by
  have := Nat.div_add_mod x (2 ^ r)
  rw [Nat.mul_comm] at this
  omega

theorem isN_real {r w x : Nat} (h : isN r w x = true) : x = x / 2 ^ r * 2 ^ r + (2 ^ r - 1) ∧ pc (x / 2 ^ r) ≤ w := by
  simp only [isN, Bool.and_eq_true, decide_eq_true_eq] at h
  refine ⟨?_, h.2⟩
  have := mod_div x r
  omega

theorem real_div (u r : Nat) : (u * 2 ^ r + (2 ^ r - 1)) / 2 ^ r = u ∧ (u * 2 ^ r + (2 ^ r - 1)) % 2 ^ r = 2 ^ r - 1 := by
  have h : 1 ≤ 2 ^ r := Nat.one_le_two_pow
  constructor
  · rw [Nat.mul_comm, Nat.mul_add_div (by omega), Nat.div_eq_of_lt (by omega)]
    omega
  · rw [Nat.mul_comm, Nat.mul_add_mod, Nat.mod_eq_of_lt (by omega)]

theorem isN_mk (u r w : Nat) : isN r w (u * 2 ^ r + (2 ^ r - 1)) = decide (pc u ≤ w) := by
  obtain ⟨h1, h2⟩ := real_div u r
  simp [isN, h1, h2]

theorem isN_false {r w x : Nat} (h : isN r w x = true → False) : isN r w x = false := by
  cases hx : isN r w x
  · rfl
  · exact absurd hx h

theorem next_tail (n r w a : Nat) (hn : n < 4096) (hr : r ≤ 12) (ha : a = n / 2 ^ r) : ∃ p, code_Next_J5 (r : Int) (w : Int) (a : Int) = some p ∧ NextSpec n r w p := by
  have hd : n / 2 ^ r ≤ n := Nat.div_le_self _ _
  obtain ⟨d, h0, h⟩ := next_loop w a (by omega)
  subst ha
  unfold code_Next_J5
  rw [h0]
  simp only [Option.bind_some]
  have hp := pow_le r hr
  rcases h with ⟨u, rfl, h1, h2, h3, h4⟩ | ⟨rfl, h1⟩
  · simp only
    rw [missed_ok r hr, pow_nat r hr]
    simp only [Option.bind_some]
    have hm : u * 2 ^ r ≤ 4096 * 4096 := Nat.mul_le_mul (by omega) hp.2
    rw [if_pos (by omega)]
    rw [← Int.natCast_mul, wr_id (n := ((u * 2 ^ r : Nat) : Int)) (by omega) (by omega), or_nat _ _ (by omega) (by omega)]
    have ho : u * 2 ^ r ||| (2 ^ r - 1) = u * 2 ^ r + (2 ^ r - 1) := by
      rw [Nat.mul_comm, Nat.two_pow_add_eq_or_of_lt (by omega)]
    rw [ho]
    have hb : ∀ x, n ≤ x → x < u * 2 ^ r + (2 ^ r - 1) → isN r w x = false := by
      intro x hx1 hx2
      apply isN_false
      intro hi
      obtain ⟨e1, e2⟩ := isN_real hi
      have h5 := div_mono n x r hx1
      have h6 : x / 2 ^ r < u := by
        rcases Nat.lt_or_ge (x / 2 ^ r) u with h | h
        · exact h
        · have := Nat.mul_le_mul_right (2 ^ r) h
          omega
      have := h4 _ h5 h6
      omega
    by_cases hk : u * 2 ^ r + (2 ^ r - 1) < 4096
    · refine ⟨_, if_pos (dpos (by omega)), Or.inl ⟨_, rfl, ?_, hk, ?_, hb⟩⟩
      · have h7 := mod_div n r
        have h8 : n % 2 ^ r < 2 ^ r := Nat.mod_lt _ (by omega)
        have h9 := Nat.mul_le_mul_right (2 ^ r) h1
        omega
      · rw [isN_mk]; simpa using h3
    · exact ⟨_, if_neg (dneg (by omega)), Or.inr ⟨rfl, fun x hx1 hx2 => hb x hx1 (by omega)⟩⟩
  · refine ⟨_, rfl, Or.inr ⟨rfl, fun x hx1 hx2 => isN_false fun hi => ?_⟩⟩
    obtain ⟨e1, e2⟩ := isN_real hi
    have h5 := div_mono n x r hx1
    have := h1 _ h5 (Nat.lt_of_le_of_lt (Nat.div_le_self _ _) hx2)
    omega

theorem next_ok' (n r w : Nat) (hr : r ≤ 12) (hw : w ≤ 12) : ∃ p, code_Next (n : Int) (r : Int) (w : Int) = some p ∧ NextSpec n r w p := by
  have hp := pow_le r hr
  unfold code_Next
  rw [form_ok]
  simp only [Option.bind_some]
  rw [if_neg (by simp; omega), if_neg (dneg (by omega))]
  by_cases hn : n < 4096
  · rw [if_neg (dneg (by omega)), missed_ok r hr]
    simp only [Option.bind_some]
    by_cases hl : n > 2 ^ r - 1
    · rw [if_pos (dpos (by omega)), if_pos (by omega), if_pos (by omega), one_shl r hr, pow_nat r hr]
      rw [wr_id (n := (n : Int) - ((2 ^ r - 1 : Nat) : Int)) (by omega) (by omega), wr_id (n := (n : Int) - ((2 ^ r - 1 : Nat) : Int) + ((2 ^ r : Nat) : Int)) (by omega) (by omega), wr_id (by omega) (by omega)]
      rw [show (n : Int) - ((2 ^ r - 1 : Nat) : Int) + ((2 ^ r : Nat) : Int) - 1 = (n : Int) by omega, fdiv_nat]
      exact next_tail n r w _ hn hr rfl
    · rw [if_neg (dneg (by omega))]
      exact next_tail n r w 0 hn hr (Nat.div_eq_of_lt (by omega)).symm
  · rw [if_pos (dpos (by omega))]
    exact ⟨_, rfl, Or.inr ⟨rfl, fun x _ _ => by omega⟩⟩

theorem rnext_ok (n r w : Nat) (hr : r ≤ 12) (hw : w ≤ 12) : ∃ p, r12_Next (n : Int) (r : Int) (w : Int) = some p ∧ NextSpec n r w p := by
  unfold r12_Next
  rw [rform_ok]
  simp only [Option.bind_some]
  rw [if_neg (by simp; omega), if_neg (dneg (by omega))]
  obtain ⟨d, h1, h2⟩ := loop_inv (step := r12_Next_L4 (r : Int) (w : Int)) (fun s => ∃ k : Nat, s = (k : Int) ∧ n ≤ k ∧ (k ≤ 4096 ∨ k = n) ∧ ∀ x, n ≤ x → x < k → isN r w x = false) (fun s => 4096 - s.toNat)
    (fun d => (∃ k : Nat, d = .inl (k : Int) ∧ n ≤ k ∧ k < 4096 ∧ isN r w k = true ∧ ∀ x, n ≤ x → x < k → isN r w x = false) ∨ (d = .inr () ∧ ∀ x, n ≤ x → x < 4096 → isN r w x = false)) (by
    rintro _ ⟨k, rfl, h1, h2, h3⟩
    unfold r12_Next_L4
    by_cases hk : k < 4096
    · simp only
      rw [if_pos (by simp; omega), ris_ok k r w hk hr hw]
      simp only [Option.bind_some]
      cases hi : isN r w k
      · refine Or.inl ⟨_, if_neg (by simp), ⟨k + 1, ?_, by omega, Or.inl (by omega), ?_⟩, ?_⟩
        · rw [wr_id (by omega) (by omega)]; omega
        · intro x hx1 hx2
          by_cases hx : x < k
          · exact h3 x hx1 hx
          · rw [show x = k by omega]; exact hi
        · rw [wr_id (by omega) (by omega)]
          omega
      · exact Or.inr ⟨_, if_pos rfl, Or.inl ⟨k, rfl, h1, hk, hi, h3⟩⟩
    · exact Or.inr ⟨_, if_neg (by simp; omega), Or.inr ⟨rfl, fun x hx1 hx2 => h3 x hx1 (by omega)⟩⟩) (n : Int) ⟨n, rfl, by omega, Or.inr rfl, fun x _ _ => by omega⟩ (by omega)
  rw [h1]
  simp only [Option.bind_some]
  rcases h2 with ⟨k, rfl, g1, g2, g3, g4⟩ | ⟨rfl, g1⟩
  · exact ⟨_, rfl, Or.inl ⟨k, rfl, g1, g2, g3, g4⟩⟩
  · exact ⟨_, rfl, Or.inr ⟨rfl, g1⟩⟩

end Go.Proofs.Ytcignnfdpgeogaa
