/- Plain laws: how many codes of a form lie below a number, and what Count, Nth and Rank are from this. No condition beyond those of each theorem. -/
import Derived.Test.YtgdaanhiagoonaaPKcode
set_option linter.unusedVariables false
set_option maxRecDepth 100000
namespace Go.Proofs.Ytgdaanhiagoonaa
open Go Go.V Go.Proofs

/-- How many numbers below n have a property. -/
def cb (P : Nat → Bool) : Nat → Nat
  | 0 => 0
  | n + 1 => cb P n + (if P n = true then 1 else 0)

theorem cb_add (P : Nat → Bool) (a : Nat) : ∀ b, cb P (a + b) = cb P a + cb (fun x => P (a + x)) b
  | 0 => by simp [cb]
  | b + 1 => by
    rw [← Nat.add_assoc]
    simp only [cb]
    rw [cb_add P a b, Nat.add_assoc]

theorem cb_congr {P Q : Nat → Bool} : ∀ n, (∀ x, x < n → P x = Q x) → cb P n = cb Q n
  | 0, _ => rfl
  | n + 1, h => by
    simp only [cb]
    rw [cb_congr n (fun x hx => h x (by omega)), h n (by omega)]

theorem cb_false {P : Nat → Bool} : ∀ n, (∀ x, x < n → P x = false) → cb P n = 0
  | 0, _ => rfl
  | n + 1, h => by
    simp only [cb]
    rw [cb_false n (fun x hx => h x (by omega)), h n (by omega)]
    simp

theorem cb_mono (P : Nat → Bool) {a b : Nat} (h : a ≤ b) : cb P a ≤ cb P b := by
  obtain ⟨c, rfl⟩ : ∃ c, b = a + c := ⟨b - a, by omega⟩
  rw [cb_add]
  omega

theorem cb_lt (P : Nat → Bool) {a b : Nat} (h : a < b) (hp : P a = true) : cb P a < cb P b := by
  have := cb_mono P (show a + 1 ≤ b from h)
  simp only [cb, hp, if_pos] at this
  omega

theorem cb_le (P : Nat → Bool) : ∀ n, cb P n ≤ n
  | 0 => Nat.le_refl _
  | n + 1 => by
    have := cb_le P n
    simp only [cb]
    split <;> omega

/-- How many real parts below u have at most w bits. -/
def R (u w : Nat) : Nat := cb (fun v => decide (pc v ≤ w)) u

/-- How many numbers of d bits have at most w bits that are set. -/
def tab : Nat → Nat → Nat
  | 0, _ => 1
  | _ + 1, 0 => 1
  | d + 1, w + 1 => tab d (w + 1) + tab d w

theorem R_top_succ (d u w : Nat) (hd : d < 12) (hu : u ≤ 2 ^ d) : R (2 ^ d + u) (w + 1) = R (2 ^ d) (w + 1) + R u w := by
  unfold R
  rw [cb_add]
  have h : cb (fun x => decide (pc (2 ^ d + x) ≤ w + 1)) u = cb (fun v => decide (pc v ≤ w)) u := by
    apply cb_congr
    intro x hx
    rw [pc_top d x hd (by omega)]
    have : (1 + pc x ≤ w + 1) = (pc x ≤ w) := propext ⟨fun h => by omega, fun h => by omega⟩
    simp only [this]
  rw [h]

theorem R_top_zero (d u : Nat) (hd : d < 12) (hu : u ≤ 2 ^ d) : R (2 ^ d + u) 0 = R (2 ^ d) 0 := by
  unfold R
  rw [cb_add, cb_false u]
  · omega
  · intro x hx
    rw [pc_top d x hd (by omega)]
    exact decide_eq_false (by omega)

theorem tab_R : ∀ (d w : Nat), d ≤ 12 → R (2 ^ d) w = tab d w
  | 0, w, _ => by
    unfold R
    simp [cb, tab, pc, pcd_zero]
  | d + 1, w, hd => by
    rw [show 2 ^ (d + 1) = 2 ^ d + 2 ^ d by rw [Nat.pow_succ]; omega]
    cases w with
    | zero =>
      rw [R_top_zero d _ (by omega) (by omega), tab_R d 0 (by omega)]
      cases d <;> rfl
    | succ w =>
      rw [R_top_succ d _ w (by omega) (by omega), tab_R d (w + 1) (by omega), tab_R d w (by omega)]
      rfl

theorem isN_low (r w x : Nat) (hx : x < 2 ^ r - 1) (a : Nat) : isN r w (a * 2 ^ r + x) = false := by
  apply isN_false
  intro h
  simp only [isN, Bool.and_eq_true, decide_eq_true_eq] at h
  rw [Nat.mul_comm, Nat.mul_add_mod, Nat.mod_eq_of_lt (by omega)] at h
  omega

theorem cb_isN' (r w : Nat) : ∀ u, cb (isN r w) (u * 2 ^ r) = R u w
  | 0 => by simp [R, cb]
  | u + 1 => by
    have hp : 1 ≤ 2 ^ r := Nat.one_le_two_pow
    rw [show (u + 1) * 2 ^ r = u * 2 ^ r + ((2 ^ r - 1) + 1) by rw [Nat.succ_mul]; omega, cb_add, cb_isN' r w u]
    simp only [cb]
    rw [cb_false (2 ^ r - 1) (fun x hx => isN_low r w x hx u)]
    simp only [R, cb, isN_mk, Nat.zero_add]

theorem cb_isN (r w u : Nat) : cb (isN r w) (u * 2 ^ r + (2 ^ r - 1)) = R u w := by
  rw [cb_add, cb_isN', cb_false _ (fun x hx => isN_low r w x hx u)]
  omega

theorem cb_small (r w n : Nat) (h : n ≤ 2 ^ r - 1) : cb (isN r w) n = 0 := by
  apply cb_false
  intro x hx
  have := isN_low r w x (by omega) 0
  simpa using this

/-- How many codes of a form are below a power of two. -/
theorem cb_pow (s r w : Nat) (hs : s ≤ 12) : cb (isN r w) (2 ^ s) = if r ≤ s then tab (s - r) w else 0 := by
  split
  · rename_i h
    rw [show 2 ^ s = 2 ^ (s - r) * 2 ^ r by rw [← Nat.pow_add]; congr 1; omega, cb_isN', tab_R _ _ (by omega)]
  · rename_i h
    apply cb_small
    have : 2 ^ (s + 1) ≤ 2 ^ r := Nat.pow_le_pow_right (by omega) (by omega)
    rw [Nat.pow_succ] at this
    have h1 : 1 ≤ 2 ^ s := Nat.one_le_two_pow
    omega

theorem count_all : ∀ d : Nat, d < 13 → ∀ w : Nat, w < 13 → code_count (d : Int) 0 (w : Int) = some (tab d w : Int) := by decide +kernel

theorem count_ok (s r w : Nat) (hs : s ≤ 12) (hr : r ≤ 12) (hw : w ≤ 12) : code_count (s : Int) (r : Int) (w : Int) = some ((cb (isN r w) (2 ^ s) : Nat) : Int) := by
  rw [cb_pow s r w hs]
  by_cases h : r ≤ s
  · rw [if_pos h, ← count_all (s - r) (by omega) w (by omega)]
    have : code_count_L1 (s : Int) (r : Int) (w : Int) = code_count_L1 ((s - r : Nat) : Int) 0 (w : Int) := by
      funext x
      unfold code_count_L1
      rw [show (s : Int) - (r : Int) = ((s - r : Nat) : Int) - 0 by omega]
    unfold code_count
    rw [this]
  · rw [if_neg h]
    unfold code_count
    have h1 : code_count_L1 (s : Int) (r : Int) (w : Int) (0, 0) = some (.done 0) := by
      unfold code_count_L1
      simp only
      rw [wr_id (n := (s : Int) - (r : Int)) (by omega) (by omega), if_neg (dneg (by split <;> omega))]
    have h2 : loop (code_count_L1 (s : Int) (r : Int) (w : Int)) (0, 0) = some 0 := loop_of 1 (by omega) (by simp only [loopN, h1, Option.bind_some])
    rw [h2]
    rfl

theorem Count_ok (s r w : Nat) (hs : s ≤ 12) (hr : r ≤ 12) (hw : w ≤ 12) : code_Count (s : Int) (r : Int) (w : Int) = some (((cb (isN r w) (2 ^ s) : Nat) : Int), 0) := by
  unfold code_Count
  rw [form_ok, in_ok]
  simp only [Option.bind_some]
  rw [if_neg (by simp; omega), if_neg (by simp; omega), count_ok s r w hs hr hw]
  rfl

/-- What Nth says. -/
def NthSpec (i r w : Nat) (p : Int × Int) : Prop :=
  (∃ k : Nat, p = ((k : Int), 0) ∧ k < 4096 ∧ isN r w k = true ∧ cb (isN r w) k = i) ∨ (p = (0, 15) ∧ cb (isN r w) 4096 ≤ i)

theorem nth_unique {i r w : Nat} {p q : Int × Int} (hp : NthSpec i r w p) (hq : NthSpec i r w q) : p = q := by
  rcases hp with ⟨k, rfl, h1, h2, h3⟩ | ⟨rfl, h1⟩ <;> rcases hq with ⟨l, rfl, g1, g2, g3⟩ | ⟨rfl, g1⟩
  · have h5 : ¬ l < k := fun h => by have := cb_lt _ h g2; omega
    have h6 : ¬ k < l := fun h => by have := cb_lt _ h h2; omega
    rw [show k = l by omega]
  · have := cb_lt _ h1 h2; omega
  · have := cb_lt _ g1 g2; omega
  · rfl

theorem pow_succ' (d : Nat) : 2 ^ (d + 1) = 2 ^ d + 2 ^ d := by rw [Nat.pow_succ]; omega

theorem pc_zero : pc 0 = 0 := pcd_zero 12

theorem R_zero (w : Nat) : R 0 w = 0 := rfl

theorem or_bit (h b low r : Nat) (hb : r ≤ b) (hlow : low < 2 ^ r) : (h * 2 ^ (b + 1) + low) ||| 2 ^ b = (2 * h + 1) * 2 ^ b + low := by
  have h1 : 2 ^ r ≤ 2 ^ b := Nat.pow_le_pow_right (by omega) hb
  have e1 : h * 2 ^ (b + 1) + low = 2 ^ (b + 1) * h ||| low := by
    rw [Nat.mul_comm, Nat.two_pow_add_eq_or_of_lt (by rw [Nat.pow_succ]; omega)]
  have e2 : (2 * h + 1) * 2 ^ b + low = 2 ^ b * (2 * h + 1) ||| low := by
    rw [Nat.mul_comm, Nat.two_pow_add_eq_or_of_lt (by omega)]
  have e3 : 2 ^ b * (2 * h + 1) = 2 ^ (b + 1) * h ||| 2 ^ b := by
    rw [← Nat.two_pow_add_eq_or_of_lt (by rw [Nat.pow_succ]; have : 1 ≤ 2 ^ b := Nat.one_le_two_pow; omega), Nat.pow_succ, Nat.mul_add, Nat.mul_assoc]
    omega
  rw [e1, e2, e3, Nat.or_assoc, Nat.or_assoc, Nat.or_comm low]

theorem nth_ok (i r w : Nat) (hr : r ≤ 12) (hw : w ≤ 12) : ∃ p, code_Nth (i : Int) (r : Int) (w : Int) = some p ∧ NthSpec i r w p := by
  have hpr := pow_le r hr
  have hall : cb (isN r w) 4096 = tab (12 - r) w := by
    have := cb_pow 12 r w (by omega)
    rw [if_pos hr] at this
    exact this
  have h4096 := cb_le (isN r w) 4096
  rw [hall] at h4096
  unfold code_Nth
  rw [form_ok]
  simp only [Option.bind_some]
  rw [if_neg (by simp; omega), if_neg (dneg (by omega)), show (12 : Int) = ((12 : Nat) : Int) from rfl, count_ok 12 r w (by omega) hr hw]
  simp only [Option.bind_some]
  by_cases hi : i < tab (12 - r) w
  · rw [show (2 : Nat) ^ 12 = 4096 from rfl, hall, if_neg (dneg (by omega)), missed_ok r hr]
    simp only [Option.bind_some]
    obtain ⟨D, h1, h2⟩ := loop_inv (step := code_Nth_L9 (r : Int)) (fun s => ∃ d h j v : Nat, s = ((j : Int), (v : Int), ((h * 2 ^ (r + d) + (2 ^ r - 1) : Nat) : Int), (r : Int) + d - 1) ∧ d ≤ 12 - r ∧ j < tab d v ∧ j ≤ i ∧ v ≤ w ∧ h * 2 ^ d + 2 ^ d ≤ 2 ^ (12 - r) ∧
        ∀ x, x < 2 ^ d → pc x ≤ v → pc (h * 2 ^ d + x) ≤ w ∧ R (h * 2 ^ d + x) w + j = i + R x v)
      (fun s => (s.2.2.2 + 1 - r).toNat) (fun D => ∃ u : Nat, D = ((u * 2 ^ r + (2 ^ r - 1) : Nat) : Int) ∧ u < 2 ^ (12 - r) ∧ pc u ≤ w ∧ R u w = i) (by
      rintro _ ⟨d, h, j, v, rfl, hd, hj, hji, hv, hh, hx⟩
      unfold code_Nth_L9
      simp only
      cases d with
      | zero =>
        refine Or.inr ⟨_, if_neg (dneg (by omega)), ⟨h, ?_, Nat.lt_of_succ_le (by simpa using hh), ?_, ?_⟩⟩
        · simp
        · have := hx 0 (by simp) (by rw [pc_zero]; omega)
          simpa using this.1
        · have := hx 0 (by simp) (by rw [pc_zero]; omega)
          have hj' : j = 0 := by simpa [tab] using hj
          have h3 := this.2
          simp only [Nat.pow_zero, Nat.mul_one, Nat.add_zero, R_zero] at h3
          omega
      | succ d =>
        have hp : 2 ^ (d + 1) = 2 ^ d + 2 ^ d := pow_succ' d
        have hle : 2 ^ d ≤ 4096 := (pow_le d (by omega)).2
        have hpos : 1 ≤ 2 ^ d := Nat.one_le_two_pow
        have hb : (r : Int) + ((d + 1 : Nat) : Int) - 1 = ((r + d : Nat) : Int) := by omega
        have hcw : cb (isN r v) (2 ^ (r + d)) = tab d v := by
          rw [cb_pow _ _ _ (by omega), if_pos (by omega), show r + d - r = d by omega]
        rw [if_pos (dpos (by omega)), hb, count_ok (r + d) r v (by omega) hr (by omega), hcw]
        simp only [Option.bind_some]
        have hm : h * 2 ^ (d + 1) = 2 * h * 2 ^ d := by rw [hp, ← Nat.two_mul, ← Nat.mul_assoc, Nat.mul_comm h 2]
        have hm2 : (2 * h + 1) * 2 ^ d = h * 2 ^ (d + 1) + 2 ^ d := by rw [Nat.add_mul, hm]; omega
        by_cases hc : j ≥ tab d v
        · obtain ⟨v, rfl⟩ : ∃ v', v = v' + 1 := ⟨v - 1, by
            cases v with
            | zero =>
              have h4 : tab d 0 = 1 := by cases d <;> rfl
              have h5 : tab (d + 1) 0 = 1 := rfl
              omega
            | succ v => rfl⟩
          have htab : tab (d + 1) (v + 1) = tab d (v + 1) + tab d v := rfl
          rw [if_pos (dpos (by omega)), if_pos (by omega), one_shl (r + d) (by omega)]
          have hsz : h * 2 ^ (r + (d + 1)) + (2 ^ r - 1) < 4096 := by
            have e : (h + 1) * 2 ^ (d + 1) ≤ 2 ^ (12 - r) := by rw [Nat.succ_mul]; exact hh
            have e2 := Nat.mul_le_mul_right (2 ^ r) e
            rw [← Nat.pow_add, show 12 - r + r = 12 by omega, Nat.mul_assoc, ← Nat.pow_add, Nat.succ_mul, show d + 1 + r = r + (d + 1) by omega] at e2
            have e3 : 2 ^ r ≤ 2 ^ (r + (d + 1)) := Nat.pow_le_pow_right (by omega) (by omega)
            have e4 : (2 : Nat) ^ 12 = 4096 := rfl
            omega
          have hpb := pow_le (r + d) (by omega)
          refine Or.inl ⟨_, rfl, ⟨d, 2 * h + 1, j - tab d (v + 1), v, ?_, by omega, by omega, by omega, by omega, by omega, ?_⟩, ?_⟩
          · rw [wr_id (by omega) (by omega), wr_id (by omega) (by omega), or_nat _ _ (by omega) (by omega), wr_id (by omega) (by omega), show r + (d + 1) = (r + d) + 1 by omega, or_bit h (r + d) (2 ^ r - 1) r (by omega) (by omega)]
            rw [show (j : Int) - (tab d (v + 1) : Int) = ((j - tab d (v + 1) : Nat) : Int) by omega, show ((v + 1 : Nat) : Int) - 1 = (v : Int) by omega, show ((r + d : Nat) : Int) - 1 = (r : Int) + (d : Int) - 1 by omega]
          · intro x hx1 hx2
            have h6 := pc_top d x (by omega) hx1
            have h7 := hx (2 ^ d + x) (by omega) (by omega)
            rw [R_top_succ d x v (by omega) (by omega), tab_R d _ (by omega), ← Nat.add_assoc] at h7
            rw [hm2]
            refine ⟨h7.1, ?_⟩
            omega
          · simp only
            rw [wr_id (n := ((r + d : Nat) : Int) - 1) (by omega) (by omega)]
            omega
        · refine Or.inl ⟨_, if_neg (dneg (by omega)), ⟨d, 2 * h, j, v, ?_, by omega, by omega, by omega, by omega, by omega, ?_⟩, ?_⟩
          · rw [wr_id (by omega) (by omega), show h * 2 ^ (r + (d + 1)) = 2 * h * 2 ^ (r + d) by rw [show r + (d + 1) = (r + d) + 1 by omega, Nat.pow_succ, Nat.mul_comm (2 ^ (r + d)) 2, ← Nat.mul_assoc, Nat.mul_comm h 2], show ((r + d : Nat) : Int) - 1 = (r : Int) + (d : Int) - 1 by omega]
          · intro x hx1 hx2
            have h7 := hx x (by omega) hx2
            rw [hm] at h7
            exact h7
          · simp only
            rw [wr_id (n := ((r + d : Nat) : Int) - 1) (by omega) (by omega)]
            omega)
      ((i : Int), (w : Int), ((2 ^ r - 1 : Nat) : Int), 11) ⟨12 - r, 0, i, w, by simp; omega, by omega, hi, by omega, by omega, by omega, fun x _ hx2 => ⟨by simpa using hx2, by simp; omega⟩⟩ (by simp only; omega)
    rw [h1]
    simp only [Option.bind_some]
    obtain ⟨u, rfl, h3, h4, h5⟩ := h2
    refine ⟨_, rfl, Or.inl ⟨_, rfl, ?_, by rw [isN_mk]; simpa using h4, by rw [cb_isN]; exact h5⟩⟩
    have e2 := Nat.mul_le_mul_right (2 ^ r) (show u + 1 ≤ 2 ^ (12 - r) from h3)
    rw [← Nat.pow_add, show 12 - r + r = 12 by omega, Nat.succ_mul] at e2
    have e4 : (2 : Nat) ^ 12 = 4096 := rfl
    omega
  · rw [show (2 : Nat) ^ 12 = 4096 from rfl, hall, if_pos (dpos (by omega))]
    exact ⟨_, rfl, Or.inr ⟨rfl, by omega⟩⟩

theorem bit_ok (k b : Nat) (hk : k < 4096) (hb : b ≤ 12) : IntKind.i64.wrap ((BitVec.ofInt IntKind.i64.bits (Int.fdiv (k : Int) (2 ^ (min (Int.toNat (b : Int)) IntKind.i64.bits))) &&& BitVec.ofInt IntKind.i64.bits 1).toNat : Int) = ((k / 2 ^ b % 2 : Nat) : Int) := by
  have h : k / 2 ^ b ≤ k := Nat.div_le_self _ _
  rw [pow_nat b hb, fdiv_nat, show (1 : Int) = ((1 : Nat) : Int) from rfl, and_nat _ _ (by omega) (by omega), Nat.and_one_is_mod]

end Go.Proofs.Ytgdaanhiagoonaa
