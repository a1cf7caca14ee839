/- Plain laws: which jobs and plans are valid, for the program and for the reference. No condition beyond those of each theorem. -/
import Derived.Test.YtmjobkpgnhbcbaaPRcode
import Derived.Test.YtmjobkpgnhbcbaaGrollin
import Derived.Test.YtmjobkpgnhbcbaaGr14
set_option linter.unusedVariables false
set_option maxRecDepth 100000
namespace Go.Proofs.Ytmjobkpgnhbcbaa
open Go Go.V Go.Proofs

abbrev Item := Int × Int × Int × Int

theorem job_in_ok (n lo hi : Int) : job_in n lo hi = some (decide (lo ≤ n ∧ n ≤ hi)) := by
  unfold job_in
  by_cases h : n ≥ lo
  · rw [if_pos (by simpa using h)]
    simp only [ge_iff_le] at h
    simp [h]
  · rw [if_neg (by simpa using h)]
    simp only [ge_iff_le] at h
    simp [h]

theorem rng_if {α : Type} (n lo hi : Int) (A B : α) : (if (!decide (lo ≤ n ∧ n ≤ hi)) = true then A else B) = if decide (n < lo) = true then A else if decide (n > hi) = true then A else B := by
  by_cases h1 : n < lo
  · rw [if_pos (by simp; omega), if_pos (dpos h1)]
  · rw [if_neg (c := decide (n < lo) = true) (dneg h1)]
    by_cases h2 : n > hi
    · rw [if_pos (by simp; omega), if_pos (dpos h2)]
    · rw [if_neg (by simp; omega), if_neg (dneg h2)]

theorem dge (n : Int) (m : Int) : decide (n ≥ m) = decide (n > m - 1) := by
  by_cases h : n ≥ m
  · rw [dpos h, dpos (by omega)]
  · rw [decide_eq_false h, decide_eq_false (by omega)]

/-- The two validity functions look at the items in the same way. -/
theorem jv_step (items : List Item) : job_Valid_L8 items = r11_Valid_L6 items := by
  funext s
  unfold job_Valid_L8 r11_Valid_L6
  simp only [job_in_ok, Option.bind_some, rng_if, dge]
  rfl

theorem jv_same (items : List Item) (wt : Int) : r11_Valid items wt = job_Valid items wt := by
  unfold job_Valid r11_Valid
  rw [jv_step]
  simp only [job_in_ok, Option.bind_some, rng_if]
  rfl

def good1 (x : Item) : Prop := (0 ≤ x.1 ∧ x.1 ≤ 15) ∧ (0 ≤ x.2.1 ∧ x.2.1 ≤ 31) ∧ (0 ≤ x.2.2.1 ∧ x.2.2.1 ≤ 12) ∧ (1 ≤ x.2.2.2 ∧ x.2.2.2 ≤ 400)

structure JobGood (items : List Item) (wt : Int) : Prop where
  len : items.length ≤ 96
  w : 0 ≤ wt ∧ wt ≤ 12
  it : ∀ (i : Nat) (x : Item), items[i]? = some x → good1 x
  asc : ∀ (i : Nat) (x y : Item), items[i]? = some x → items[i + 1]? = some y → x.2.2.1 ≤ y.2.2.1

theorem jobvalid_spec (items : List Item) (wt : Int) : ∃ e, job_Valid items wt = some e ∧ ((e = 0 ∧ JobGood items wt) ∨ (e ≠ 0 ∧ ¬ JobGood items wt)) := by
  unfold job_Valid
  by_cases hl : items.length > 96
  · rw [if_pos (dpos (by omega))]
    exact ⟨_, rfl, .inr ⟨by decide, fun h => by have := h.len; omega⟩⟩
  rw [if_neg (dneg (by omega)), job_in_ok]
  simp only [Option.bind_some]
  by_cases hw : 0 ≤ wt ∧ wt ≤ 12
  · rw [if_neg (by simp [hw])]
    obtain ⟨d, h1, h2⟩ := loop_inv (step := job_Valid_L8 items) (fun s => ∃ i : Nat, s = (i : Int) ∧ i ≤ items.length ∧ (∀ (j : Nat) (x : Item), j < i → items[j]? = some x → good1 x) ∧ (∀ (j : Nat) (x y : Item), j + 1 < i → items[j]? = some x → items[j + 1]? = some y → x.2.2.1 ≤ y.2.2.1))
      (fun s => items.length - s.toNat) (fun d => (d = .inr () ∧ JobGood items wt) ∨ (∃ e, d = .inl e ∧ e ≠ 0 ∧ ¬ JobGood items wt)) (by
      rintro _ ⟨i, rfl, hi, hg, ha⟩
      unfold job_Valid_L8
      simp only [job_in_ok, Option.bind_some]
      by_cases hil : i < items.length
      · rw [if_pos (dpos (by omega)), idx_nat, List.getElem?_eq_getElem hil]
        simp only [Option.bind_some]
        have hx : items[i]? = some items[i] := List.getElem?_eq_getElem hil
        generalize items[i] = x at hx
        by_cases q1 : 0 ≤ x.1 ∧ x.1 ≤ 15
        · by_cases q2 : 0 ≤ x.2.1 ∧ x.2.1 ≤ 31
          · by_cases q3 : 0 ≤ x.2.2.1 ∧ x.2.2.1 ≤ 12
            · by_cases q4 : 1 ≤ x.2.2.2 ∧ x.2.2.2 ≤ 400
              · rw [if_neg (by simp [q1]), if_neg (by simp [q2]), if_neg (by simp [q3]), if_neg (by simp [q4])]
                have hg' : ∀ (j : Nat) (y : Item), j < i + 1 → items[j]? = some y → good1 y := by
                  intro j y hj hy
                  by_cases hji : j < i
                  · exact hg j y hji hy
                  · have : j = i := by omega
                    subst this
                    rw [hx] at hy; cases hy
                    exact ⟨q1, q2, q3, q4⟩
                by_cases h0 : 0 < i
                · rw [if_pos (dpos (by omega)), wr_id (by omega) (by omega), show (i : Int) - 1 = ((i - 1 : Nat) : Int) by omega, idx_nat, List.getElem?_eq_getElem (by omega)]
                  simp only [Option.bind_some]
                  have hy : items[i - 1]? = some items[i - 1] := List.getElem?_eq_getElem (by omega)
                  generalize items[i - 1] = y at hy
                  by_cases q5 : x.2.2.1 < y.2.2.1
                  · rw [if_pos (dpos q5)]
                    refine .inr ⟨_, rfl, .inr ⟨_, rfl, by decide, fun h => ?_⟩⟩
                    have := h.asc (i - 1) y x hy (by rw [show i - 1 + 1 = i by omega]; exact hx)
                    omega
                  · rw [if_neg (dneg q5), wr_id (by omega) (by omega)]
                    refine .inl ⟨_, rfl, ⟨i + 1, by simp, by omega, hg', fun j x' y' hj hx' hy' => ?_⟩, by omega⟩
                    by_cases hji : j + 1 < i
                    · exact ha j x' y' hji hx' hy'
                    · have e : j = i - 1 := by omega
                      subst e
                      rw [show i - 1 + 1 = i by omega, hx] at hy'
                      rw [hy] at hx'
                      cases hx'; cases hy'
                      omega
                · rw [if_neg (dneg (by omega)), wr_id (by omega) (by omega)]
                  exact .inl ⟨_, rfl, ⟨i + 1, by simp, by omega, hg', fun j x' y' hj => by omega⟩, by omega⟩
              · rw [if_neg (by simp [q1]), if_neg (by simp [q2]), if_neg (by simp [q3]), if_pos (by simp; omega)]
                exact .inr ⟨_, rfl, .inr ⟨_, rfl, by decide, fun h => q4 (h.it i x hx).2.2.2⟩⟩
            · rw [if_neg (by simp [q1]), if_neg (by simp [q2]), if_pos (by simp; omega)]
              exact .inr ⟨_, rfl, .inr ⟨_, rfl, by decide, fun h => q3 (h.it i x hx).2.2.1⟩⟩
          · rw [if_neg (by simp [q1]), if_pos (by simp; omega)]
            exact .inr ⟨_, rfl, .inr ⟨_, rfl, by decide, fun h => q2 (h.it i x hx).2.1⟩⟩
        · rw [if_pos (by simp; omega)]
          exact .inr ⟨_, rfl, .inr ⟨_, rfl, by decide, fun h => q1 (h.it i x hx).1⟩⟩
      · rw [if_neg (dneg (by omega))]
        refine .inr ⟨_, rfl, .inl ⟨rfl, ⟨by omega, hw, fun j x hx => hg j x ?_ hx, fun j x y hx hy => ha j x y ?_ hx hy⟩⟩⟩
        · have := (List.getElem?_eq_some_iff.1 hx).1; omega
        · have := (List.getElem?_eq_some_iff.1 hy).1; omega) 0 ⟨0, rfl, by omega, fun j x h => by omega, fun j x y h => by omega⟩ (by simp; omega)
    rw [h1]
    rcases h2 with ⟨rfl, hg⟩ | ⟨e, rfl, he, hg⟩
    · exact ⟨_, rfl, .inl ⟨rfl, hg⟩⟩
    · exact ⟨_, rfl, .inr ⟨he, hg⟩⟩
  · rw [if_pos (by simp; omega)]
    exact ⟨_, rfl, .inr ⟨by decide, fun h => hw h.w⟩⟩

theorem is_out (n : Int) (r w : Int) (h : ¬ (0 ≤ n ∧ n < 4096)) (hr : 0 ≤ r ∧ r ≤ 12) (hw : 0 ≤ w ∧ w ≤ 12) : code_Is n r w = some false ∧ r12_Is n r w = some false := by
  constructor
  · unfold code_Is
    rw [form_ok, in_ok]
    simp only [Option.bind_some]
    rw [if_pos (by simp; omega), if_neg (by simp; omega)]
  · unfold r12_Is
    rw [rform_ok]
    simp only [Option.bind_some]
    rw [if_neg (by simp; omega)]
    by_cases h0 : n < 0
    · rw [if_pos (dpos h0)]
    · rw [if_neg (dneg h0), if_pos (dpos (by omega))]

/-- A job and a plan that fit. -/
structure Good (items : List Item) (wt S : Int) (codes : List Int) : Prop where
  job : JobGood items wt
  st : 0 ≤ S ∧ S ≤ 12
  cl : codes.length = items.length
  code : ∀ (i : Nat) (x : Item) (c : Int), items[i]? = some x → codes[i]? = some c → 0 ≤ c ∧ c < ((2 ^ S.toNat : Nat) : Int) ∧ isN x.2.2.1.toNat wt.toNat c.toNat = true

theorem fdiv_ne (c : Int) (S : Nat) (h : 0 ≤ c) : (Int.fdiv c ((2 ^ S : Nat) : Int) ≠ 0) ↔ ((2 ^ S : Nat) : Int) ≤ c := by
  obtain ⟨k, rfl⟩ := Int.eq_ofNat_of_zero_le h
  rw [fdiv_nat]
  have hp : 0 < 2 ^ S := Nat.two_pow_pos S
  constructor
  · intro h1
    have h2 : k / 2 ^ S ≠ 0 := fun e => h1 (by rw [e]; rfl)
    have h3 := Nat.div_pos_iff.1 (Nat.pos_of_ne_zero h2)
    omega
  · intro h1 h2
    have h3 : k / 2 ^ S = 0 := by omega
    rcases (Nat.div_eq_zero_iff).1 h3 with h4 | h4 <;> omega

/-- One code of a plan, for both. -/
def cgood (x : Item) (wt S c : Int) : Prop := 0 ≤ c ∧ c < ((2 ^ S.toNat : Nat) : Int) ∧ isN x.2.2.1.toNat wt.toNat c.toNat = true

theorem valid_loop (step : Int → Option (Step Int (Unit ⊕ Unit))) (items : List Item) (wt S : Int) (codes : List Int) (hl : items.length ≤ 96) (hc : codes.length = items.length)
    (h1 : ∀ (i : Nat) (x : Item) (c : Int), items[i]? = some x → codes[i]? = some c → cgood x wt S c → step (i : Int) = some (.next ((i : Int) + 1)))
    (h2 : ∀ (i : Nat) (x : Item) (c : Int), items[i]? = some x → codes[i]? = some c → ¬ cgood x wt S c → step (i : Int) = some (.done (.inl ())))
    (h3 : step (items.length : Int) = some (.done (.inr ()))) :
    ∃ d, loop step 0 = some d ∧ ((d = .inr () ∧ ∀ (i : Nat) (x : Item) (c : Int), items[i]? = some x → codes[i]? = some c → cgood x wt S c) ∨ (d = .inl () ∧ ¬ ∀ (i : Nat) (x : Item) (c : Int), items[i]? = some x → codes[i]? = some c → cgood x wt S c)) := by
  refine loop_inv (step := step) (fun s => ∃ i : Nat, s = (i : Int) ∧ i ≤ items.length ∧ ∀ (j : Nat) (x : Item) (c : Int), j < i → items[j]? = some x → codes[j]? = some c → cgood x wt S c) (fun s => items.length - s.toNat) _ ?_ 0 ⟨0, rfl, by omega, fun j x c h => by omega⟩ (by simp; omega)
  rintro _ ⟨i, rfl, hi, hg⟩
  by_cases hil : i < items.length
  · have hx : items[i]? = some items[i] := List.getElem?_eq_getElem hil
    have hcc : codes[i]? = some codes[i] := List.getElem?_eq_getElem (by omega)
    by_cases hq : cgood items[i] wt S codes[i]
    · refine .inl ⟨_, h1 i _ _ hx hcc hq, ⟨i + 1, by simp, by omega, fun j x c hj hjx hjc => ?_⟩, by omega⟩
      by_cases hji : j < i
      · exact hg j x c hji hjx hjc
      · have e : j = i := by omega
        subst e
        rw [hx] at hjx; rw [hcc] at hjc
        cases hjx; cases hjc; exact hq
    · exact .inr ⟨_, h2 i _ _ hx hcc hq, .inr ⟨rfl, fun h => hq (h i _ _ hx hcc)⟩⟩
  · have e : i = items.length := by omega
    subst e
    exact .inr ⟨_, h3, .inl ⟨rfl, fun j x c hx hc => hg j x c (List.getElem?_eq_some_iff.1 hx).1 hx hc⟩⟩

theorem pow_min (S : Int) (hS : 0 ≤ S ∧ S ≤ 12) : (2 : Int) ^ (min (Int.toNat S) IntKind.i64.bits) = ((2 ^ S.toNat : Nat) : Int) := by
  obtain ⟨k, rfl⟩ := Int.eq_ofNat_of_zero_le hS.1
  rw [pow_nat k (by omega)]
  rfl

theorem valid_spec (items : List Item) (wt S : Int) (codes : List Int) (hcl : codes.length < 4611686018427387904) (hil : items.length < 4611686018427387904) :
    ∃ e, rollin_Valid items wt S codes = some e ∧ r14_Valid items wt S codes = some e ∧ ((e = 0 ∧ Good items wt S codes) ∨ (e ≠ 0 ∧ ¬ Good items wt S codes)) := by
  obtain ⟨e, he, hj⟩ := jobvalid_spec items wt
  unfold rollin_Valid r14_Valid
  rw [jv_same, he]
  simp only [Option.bind_some]
  rcases hj with ⟨rfl, hj⟩ | ⟨hne, hj⟩
  · simp only [bne_self_eq_false, Bool.false_eq_true, if_false]
    by_cases hS : 0 ≤ S ∧ S ≤ 12
    · simp only [show decide (S < 0) = false from decide_eq_false (by omega), show decide (S > 12) = false from decide_eq_false (by omega), Bool.false_eq_true, if_false]
      by_cases hc : codes.length = items.length
      · simp only [show ((codes.length : Int) != (items.length : Int)) = false by simp [hc], Bool.false_eq_true, if_false]
        have hl := hj.len
        have hp := pow_le S.toNat (by omega)
        have isx : ∀ (i : Nat) (x : Item) (c : Int), items[i]? = some x → 0 ≤ c ∧ c < 4096 → code_Is c x.2.2.1 wt = some (isN x.2.2.1.toNat wt.toNat c.toNat) ∧ r12_Is c x.2.2.1 wt = some (isN x.2.2.1.toNat wt.toNat c.toNat) := by
          intro i x c hx hcr
          obtain ⟨_, _, hr, _⟩ := hj.it i x hx
          have hw := hj.w
          have e1 : c = (c.toNat : Int) := by omega
          have e2 : x.2.2.1 = (x.2.2.1.toNat : Int) := by omega
          have e3 : wt = (wt.toNat : Int) := by omega
          have a := is_ok c.toNat x.2.2.1.toNat wt.toNat (by omega) (by omega) (by omega)
          have b := ris_ok c.toNat x.2.2.1.toNat wt.toNat (by omega) (by omega) (by omega)
          rw [← e1, ← e2, ← e3] at a b
          exact ⟨a, b⟩
        obtain ⟨d, g1, g2⟩ := valid_loop (rollin_Valid_L11 items wt S codes) items wt S codes hl hc
          (fun i x c hx hcc hq => by
            obtain ⟨q1, q2, q3⟩ := hq
            have hlt := (List.getElem?_eq_some_iff.1 hx).1
            unfold rollin_Valid_L11
            simp only
            rw [if_pos (dpos (by omega)), idx_nat, hcc]
            simp only [Option.bind_some]
            rw [idx_nat, hx]
            simp only [Option.bind_some]
            rw [(isx i x c hx ⟨q1, by omega⟩).1]
            simp only [Option.bind_some]
            rw [if_neg (by simp [q3]), if_pos hS.1, pow_min S hS, if_neg (by
              have := mt (fdiv_ne c S.toNat q1).1 (by omega)
              simpa using this), wr_id (by omega) (by omega)])
          (fun i x c hx hcc hq => by
            have hlt := (List.getElem?_eq_some_iff.1 hx).1
            obtain ⟨_, _, hr, _⟩ := hj.it i x hx
            unfold rollin_Valid_L11
            simp only
            rw [if_pos (dpos (by omega)), idx_nat, hcc]
            simp only [Option.bind_some]
            rw [idx_nat, hx]
            simp only [Option.bind_some]
            by_cases hcr : 0 ≤ c ∧ c < 4096
            · rw [(isx i x c hx hcr).1]
              simp only [Option.bind_some]
              cases hi : isN x.2.2.1.toNat wt.toNat c.toNat
              · rfl
              · rw [if_neg (by simp), if_pos hS.1, pow_min S hS, if_pos (by
                  have := (fdiv_ne c S.toNat hcr.1).2 (by
                    rcases Int.lt_or_le c ((2 ^ S.toNat : Nat) : Int) with h | h
                    · exact absurd ⟨hcr.1, h, hi⟩ hq
                    · exact h)
                  simpa using this)]
            · rw [(is_out c _ wt hcr hr hj.w).1]
              rfl)
          (by
            unfold rollin_Valid_L11
            simp only
            rw [if_neg (dneg (by omega))])
        obtain ⟨d', g1', g2'⟩ := valid_loop (r14_Valid_L11 items wt S codes) items wt S codes hl hc
          (fun i x c hx hcc hq => by
            obtain ⟨q1, q2, q3⟩ := hq
            have hlt := (List.getElem?_eq_some_iff.1 hx).1
            unfold r14_Valid_L11
            simp only
            rw [if_pos (dpos (by omega)), idx_nat, hcc]
            simp only [Option.bind_some]
            rw [if_pos hS.1, pow_min S hS, wr_id (n := 1 * _) (by omega) (by omega), if_neg (dneg (by omega))]
            rw [idx_nat, hx]
            simp only [Option.bind_some]
            rw [(isx i x c hx ⟨q1, by omega⟩).2]
            simp only [Option.bind_some]
            rw [if_neg (by simp [q3]), wr_id (by omega) (by omega)])
          (fun i x c hx hcc hq => by
            have hlt := (List.getElem?_eq_some_iff.1 hx).1
            obtain ⟨_, _, hr, _⟩ := hj.it i x hx
            unfold r14_Valid_L11
            simp only
            rw [if_pos (dpos (by omega)), idx_nat, hcc]
            simp only [Option.bind_some]
            rw [if_pos hS.1, pow_min S hS, wr_id (n := 1 * _) (by omega) (by omega)]
            by_cases hcS : c ≥ 1 * ((2 ^ S.toNat : Nat) : Int)
            · rw [if_pos (dpos hcS)]
            · rw [if_neg (dneg hcS), idx_nat, hx]
              simp only [Option.bind_some]
              by_cases hcr : 0 ≤ c ∧ c < 4096
              · rw [(isx i x c hx hcr).2]
                simp only [Option.bind_some]
                cases hi : isN x.2.2.1.toNat wt.toNat c.toNat
                · rfl
                · exact absurd ⟨hcr.1, by omega, hi⟩ hq
              · rw [(is_out c _ wt hcr hr hj.w).2]
                rfl)
          (by
            unfold r14_Valid_L11
            simp only
            rw [if_neg (dneg (by omega))])
        rw [g1, g1']
        simp only [Option.bind_some]
        rcases g2 with ⟨rfl, g2⟩ | ⟨rfl, g2⟩ <;> rcases g2' with ⟨rfl, g2'⟩ | ⟨rfl, g2'⟩
        · exact ⟨_, rfl, rfl, .inl ⟨rfl, ⟨hj, hS, hc, g2⟩⟩⟩
        · exact absurd g2 g2'
        · exact absurd g2' g2
        · exact ⟨_, rfl, rfl, .inr ⟨by decide, fun h => g2 h.code⟩⟩
      · simp only [show ((codes.length : Int) != (items.length : Int)) = true by simpa using (show ¬ (codes.length : Int) = (items.length : Int) by omega), if_true]
        exact ⟨_, rfl, rfl, .inr ⟨by decide, fun h => hc h.cl⟩⟩
    · by_cases h0 : S < 0
      · simp only [show decide (S < 0) = true from decide_eq_true h0, if_true]
        exact ⟨_, rfl, rfl, .inr ⟨by decide, fun h => hS h.st⟩⟩
      · simp only [show decide (S < 0) = false from decide_eq_false h0, show decide (S > 12) = true from decide_eq_true (by omega), Bool.false_eq_true, if_false, if_true]
        exact ⟨_, rfl, rfl, .inr ⟨by decide, fun h => hS h.st⟩⟩
  · simp only [show (e != 0) = true by simpa using hne, if_true]
    exact ⟨_, rfl, rfl, .inr ⟨hne, fun h => hj h.job⟩⟩

end Go.Proofs.Ytmjobkpgnhbcbaa
