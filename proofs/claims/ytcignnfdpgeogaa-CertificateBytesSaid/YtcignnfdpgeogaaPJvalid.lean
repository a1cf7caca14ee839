
/- Plain laws: which jobs are valid, and that made jobs are. No condition beyond those of each theorem. -/
import Derived.Test.YtcignnfdpgeogaaPgen
import Derived.Test.YtcignnfdpgeogaaGjob
set_option linter.unusedVariables false
set_option linter.unusedSectionVars false
set_option maxRecDepth 100000
namespace Go.Proofs.Ytcignnfdpgeogaa
open Go Go.V Go.Proofs

abbrev Item := Int × Int × Int × Int

theorem job_in_ok (n lo hi : Int) : job_in n lo hi = some (decide (lo ≤ n ∧ n ≤ hi)) := by
  unfold job_in
  by_cases h : n ≥ lo
  · rw [if_pos (by simpa using h)]
    simp only [ge_iff_le] at h
    simp [h]
  · rw [if_neg (by simpa using h)]
    simp only [ge_iff_le] at h
    simp [h]

theorem rng_if {α : Type} (n lo hi : Int) (A B : α) : (if (!decide (lo ≤ n ∧ n ≤ hi)) = true then A else B) = if decide (n < lo) = true then A else if decide (n > hi) = true then A else B := by
  by_cases h1 : n < lo
  · rw [if_pos (by simp; omega), if_pos (dpos h1)]
  · rw [if_neg (c := decide (n < lo) = true) (dneg h1)]
    by_cases h2 : n > hi
    · rw [if_pos (by simp; omega), if_pos (dpos h2)]
    · rw [if_neg (by simp; omega), if_neg (dneg h2)]

theorem dge (n : Int) (m : Int) : decide (n ≥ m) = decide (n > m - 1) := by
  by_cases h : n ≥ m
  · rw [dpos h, dpos (by omega)]
  · rw [decide_eq_false h, decide_eq_false (by omega)]

def good1 (x : Item) : Prop := (0 ≤ x.1 ∧ x.1 ≤ 15) ∧ (0 ≤ x.2.1 ∧ x.2.1 ≤ 31) ∧ (0 ≤ x.2.2.1 ∧ x.2.2.1 ≤ 12) ∧ (1 ≤ x.2.2.2 ∧ x.2.2.2 ≤ 400)

structure JobGood (items : List Item) (wt : Int) : Prop where
  len : items.length ≤ 96
  w : 0 ≤ wt ∧ wt ≤ 12
  it : ∀ (i : Nat) (x : Item), items[i]? = some x → good1 x
  asc : ∀ (i : Nat) (x y : Item), items[i]? = some x → items[i + 1]? = some y → x.2.2.1 ≤ y.2.2.1

theorem jobvalid_spec (items : List Item) (wt : Int) : ∃ e, job_Valid items wt = some e ∧ ((e = 0 ∧ JobGood items wt) ∨ (e ≠ 0 ∧ ¬ JobGood items wt)) := by
  unfold job_Valid
  by_cases hl : items.length > 96
  · rw [if_pos (dpos (by omega))]
    exact ⟨_, rfl, .inr ⟨by decide, fun h => by have := h.len; omega⟩⟩
  rw [if_neg (dneg (by omega)), job_in_ok]
  simp only [Option.bind_some]
  by_cases hw : 0 ≤ wt ∧ wt ≤ 12
  · rw [if_neg (by simp [hw])]
    obtain ⟨d, h1, h2⟩ := loop_inv (step := job_Valid_L8 items) (fun s => ∃ i : Nat, s = (i : Int) ∧ i ≤ items.length ∧ (∀ (j : Nat) (x : Item), j < i → items[j]? = some x → good1 x) ∧ (∀ (j : Nat) (x y : Item), j + 1 < i → items[j]? = some x → items[j + 1]? = some y → x.2.2.1 ≤ y.2.2.1))
      (fun s => items.length - s.toNat) (fun d => (d = .inr () ∧ JobGood items wt) ∨ (∃ e, d = .inl e ∧ e ≠ 0 ∧ ¬ JobGood items wt)) (by
      rintro _ ⟨i, rfl, hi, hg, ha⟩
      unfold job_Valid_L8
      simp only [job_in_ok, Option.bind_some]
      by_cases hil : i < items.length
      · rw [if_pos (dpos (by omega)), idx_nat, List.getElem?_eq_getElem hil]
        simp only [Option.bind_some]
        have hx : items[i]? = some items[i] := List.getElem?_eq_getElem hil
        generalize items[i] = x at hx
        by_cases q1 : 0 ≤ x.1 ∧ x.1 ≤ 15
        · by_cases q2 : 0 ≤ x.2.1 ∧ x.2.1 ≤ 31
          · by_cases q3 : 0 ≤ x.2.2.1 ∧ x.2.2.1 ≤ 12
            · by_cases q4 : 1 ≤ x.2.2.2 ∧ x.2.2.2 ≤ 400
              · rw [if_neg (by simp [q1]), if_neg (by simp [q2]), if_neg (by simp [q3]), if_neg (by simp [q4])]
                have hg' : ∀ (j : Nat) (y : Item), j < i + 1 → items[j]? = some y → good1 y := by
                  intro j y hj hy
                  by_cases hji : j < i
                  · exact hg j y hji hy
                  · have : j = i := by omega
                    subst this
                    rw [hx] at hy; cases hy
                    exact ⟨q1, q2, q3, q4⟩
                by_cases h0 : 0 < i
                · rw [if_pos (dpos (by omega)), wr_id (by omega) (by omega), show (i : Int) - 1 = ((i - 1 : Nat) : Int) by omega, idx_nat, List.getElem?_eq_getElem (by omega)]
                  simp only [Option.bind_some]
                  have hy : items[i - 1]? = some items[i - 1] := List.getElem?_eq_getElem (by omega)
                  generalize items[i - 1] = y at hy
                  by_cases q5 : x.2.2.1 < y.2.2.1
                  · rw [if_pos (dpos q5)]
                    refine .inr ⟨_, rfl, .inr ⟨_, rfl, by decide, fun h => ?_⟩⟩
                    have := h.asc (i - 1) y x hy (by rw [show i - 1 + 1 = i by omega]; exact hx)
                    omega
                  · rw [if_neg (dneg q5), wr_id (by omega) (by omega)]
                    refine .inl ⟨_, rfl, ⟨i + 1, by simp, by omega, hg', fun j x' y' hj hx' hy' => ?_⟩, by omega⟩
                    by_cases hji : j + 1 < i
                    · exact ha j x' y' hji hx' hy'
                    · have e : j = i - 1 := by omega
                      subst e
                      rw [show i - 1 + 1 = i by omega, hx] at hy'
                      rw [hy] at hx'
                      cases hx'; cases hy'
                      omega
                · rw [if_neg (dneg (by omega)), wr_id (by omega) (by omega)]
                  exact .inl ⟨_, rfl, ⟨i + 1, by simp, by omega, hg', fun j x' y' hj => by omega⟩, by omega⟩
              · rw [if_neg (by simp [q1]), if_neg (by simp [q2]), if_neg (by simp [q3]), if_pos (by simp; omega)]
                exact .inr ⟨_, rfl, .inr ⟨_, rfl, by decide, fun h => q4 (h.it i x hx).2.2.2⟩⟩
            · rw [if_neg (by simp [q1]), if_neg (by simp [q2]), if_pos (by simp; omega)]
              exact .inr ⟨_, rfl, .inr ⟨_, rfl, by decide, fun h => q3 (h.it i x hx).2.2.1⟩⟩
          · rw [if_neg (by simp [q1]), if_pos (by simp; omega)]
            exact .inr ⟨_, rfl, .inr ⟨_, rfl, by decide, fun h => q2 (h.it i x hx).2.1⟩⟩
        · rw [if_pos (by simp; omega)]
          exact .inr ⟨_, rfl, .inr ⟨_, rfl, by decide, fun h => q1 (h.it i x hx).1⟩⟩
      · rw [if_neg (dneg (by omega))]
        refine .inr ⟨_, rfl, .inl ⟨rfl, ⟨by omega, hw, fun j x hx => hg j x ?_ hx, fun j x y hx hy => ha j x y ?_ hx hy⟩⟩⟩
        · have := (List.getElem?_eq_some_iff.1 hx).1; omega
        · have := (List.getElem?_eq_some_iff.1 hy).1; omega) 0 ⟨0, rfl, by omega, fun j x h => by omega, fun j x y h => by omega⟩ (by simp; omega)
    rw [h1]
    rcases h2 with ⟨rfl, hg⟩ | ⟨e, rfl, he, hg⟩
    · exact ⟨_, rfl, .inl ⟨rfl, hg⟩⟩
    · exact ⟨_, rfl, .inr ⟨he, hg⟩⟩
  · rw [if_pos (by simp; omega)]
    exact ⟨_, rfl, .inr ⟨by decide, fun h => hw h.w⟩⟩


/-- Items whose rounds ascend up to r. -/
structure Its (its : List Item) (r : Int) : Prop where
  it : ∀ (i : Nat) (x : Item), its[i]? = some x → good1 x ∧ x.2.2.1 ≤ r ∧ x.1 ≤ 2
  asc : ∀ (i : Nat) (x y : Item), its[i]? = some x → its[i + 1]? = some y → x.2.2.1 ≤ y.2.2.1

theorem Its.snoc {its : List Item} {r r' : Int} {x : Item} (h : Its its r) (hr : r ≤ r') (hx : good1 x) (hxr : x.2.2.1 = r') (hx1 : x.1 ≤ 2) : Its (its ++ [x]) r' := by
  have key : ∀ (i : Nat) (y : Item), (its ++ [x])[i]? = some y → (its[i]? = some y) ∨ (i = its.length ∧ y = x) := by
    intro i y hy
    rcases Nat.lt_or_ge i its.length with hi | hi
    · rw [List.getElem?_append_left hi] at hy; exact .inl hy
    · rw [List.getElem?_append_right hi] at hy
      have h0 : i - its.length = 0 := by
        rcases Nat.eq_zero_or_pos (i - its.length) with h | h
        · exact h
        · rw [List.getElem?_eq_none (by simp; omega)] at hy; cases hy
      rw [h0] at hy
      cases hy
      exact .inr ⟨by omega, rfl⟩
  refine ⟨fun i y hy => ?_, fun i y z hy hz => ?_⟩
  · rcases key i y hy with h1 | ⟨_, rfl⟩
    · obtain ⟨h2, h3, h4⟩ := h.it i y h1
      exact ⟨h2, by omega, h4⟩
    · exact ⟨hx, by omega, hx1⟩
  · rcases key i y hy with h1 | ⟨h1, rfl⟩ <;> rcases key (i + 1) z hz with h2 | ⟨h2, rfl⟩
    · exact h.asc i y z h1 h2
    · have := (h.it i y h1).2.1; omega
    · have := (List.getElem?_eq_some_iff.1 h2).1; omega
    · omega

theorem J15_ok (l : List Int) (a b : Int × Int) (ha : 0 ≤ a.1 ∧ a.1 ≤ 2) (hb : 0 ≤ b.1 ∧ b.1 ≤ 5) (its : List Item) (i k r r' : Int) (hk : 0 ≤ k ∧ k ≤ 1000000000) (hr : 0 ≤ r ∧ r ≤ 4) (hr' : r' ≤ r) (hi : 0 < i ∧ i ≤ 1000) (hl : its.length ≤ 1000) (h : Its its r') :
    ∃ x, gen_Maker_Items_J15 l a b its i k r = some (.next (k + 3, its ++ [x], r, i - 1)) ∧ Its (its ++ [x]) r := by
  obtain ⟨v1, e1, q1, q2⟩ := next_ok l k (1 + a.1) hk.1 (by omega) (by omega) (by omega)
  obtain ⟨v2, e2, q3, q4⟩ := next_ok l (k + 1) (1 + b.1) (by omega) (by omega) (by omega) (by omega)
  obtain ⟨v3, e3, q5⟩ := pick_ok l (k + 1 + 1) [80, 142, 199, 262] (by omega) (by omega) (by decide) (by decide)
  have q6 : 1 ≤ v3 ∧ v3 ≤ 400 := (by decide : ∀ x ∈ [(80 : Int), 142, 199, 262], 1 ≤ x ∧ x ≤ 400) v3 q5
  unfold gen_Maker_Items_J15
  rw [wr_id (n := 1 + a.1) (by omega) (by omega), e1]
  simp only [Option.bind_some]
  rw [wr_id (n := 1 + b.1) (by omega) (by omega), e2]
  simp only [Option.bind_some, e3]
  rw [if_pos (by simp only [List.length_cons, List.length_nil]; omega), wr_id (by omega) (by omega)]
  refine ⟨(v1, v2, r, v3), ?_, ?_⟩
  · rw [show k + 1 + 1 + 1 = k + 3 by omega]
  · exact h.snoc hr' ⟨⟨q1, by simp only; omega⟩, ⟨q3, by simp only; omega⟩, ⟨hr.1, by simp only; omega⟩, q6⟩ rfl (by simp only; omega)

theorem J16_ok (l : List Int) (a b : Int × Int) (ha : 0 ≤ a.1 ∧ a.1 ≤ 2) (hb : 0 ≤ b.1 ∧ b.1 ≤ 5) (its : List Item) (i k r : Int) (t : Bool) (hk : 0 ≤ k ∧ k ≤ 100000000) (hr : 0 ≤ r ∧ r ≤ 4) (hi : 0 < i ∧ i ≤ 1000) (hl : its.length ≤ 1000) (h : Its its r) :
    ∃ x k' r', gen_Maker_Items_J16 l a b its r i k t = some (.next (k', its ++ [x], r', i - 1)) ∧ Its (its ++ [x]) r' ∧ 0 ≤ r' ∧ r' ≤ 4 ∧ k ≤ k' ∧ k' ≤ k + 4 := by
  unfold gen_Maker_Items_J16
  cases t with
  | true =>
    obtain ⟨v, e, q1, q2⟩ := next_ok l k 3 hk.1 (by omega) (by omega) (by omega)
    rw [if_pos rfl, e]
    simp only [Option.bind_some]
    rw [wr_id (n := r + v) (by omega) (by omega)]
    obtain ⟨x, h1, h2⟩ := J15_ok l a b ha hb its i (k + 1) (if 4 < r + v then 4 else r + v) r (by omega) (by split <;> omega) (by split <;> omega) hi hl h
    exact ⟨x, _, _, h1, h2, by split <;> omega, by split <;> omega, by omega, by omega⟩
  | false =>
    rw [if_neg (by decide)]
    obtain ⟨x, h1, h2⟩ := J15_ok l a b ha hb its i k r r (by omega) hr (by omega) hi hl h
    exact ⟨x, _, _, h1, h2, hr.1, hr.2, by omega, by omega⟩

theorem items_ok (l : List Int) (k n : Int) (hk : 0 ≤ k ∧ k ≤ 10000000) (hn : 0 ≤ n ∧ n ≤ 90) : ∃ its k', gen_Maker_Items l k n = some (its, k') ∧ k ≤ k' ∧ k' ≤ k + 1000 ∧ (its.length : Int) ≤ n ∧ Its its 4 := by
  obtain ⟨v1, e1, q1, q2⟩ := next_ok l k 4 hk.1 (by omega) (by omega) (by omega)
  obtain ⟨v2, e2, q3, q4⟩ := next_ok l (k + 1) 3 (by omega) (by omega) (by omega) (by omega)
  obtain ⟨v3, e3, q5, q6⟩ := next_ok l (k + 1 + 1) 6 (by omega) (by omega) (by omega) (by omega)
  obtain ⟨v4, e4, q7, q8⟩ := next_ok l (k + 1 + 1 + 1) (n + 1) (by omega) (by omega) (by omega) (by omega)
  unfold gen_Maker_Items
  rw [e1]
  simp only [Option.bind_some, e2, e3]
  rw [wr_id (n := n + 1) (by omega) (by omega), e4]
  simp only [Option.bind_some]
  obtain ⟨d, h1, h2⟩ := loop_inv (step := gen_Maker_Items_L11 l (v1, k + 1) (v2, k + 1 + 1) (v3, k + 1 + 1 + 1))
    (fun s => ∃ (i : Nat) (k' r : Int) (its : List Item), s = (k', its, r, (i : Int)) ∧ (i : Int) + its.length = v4 ∧ 0 ≤ r ∧ r ≤ 4 ∧ Its its r ∧ k ≤ k' ∧ k' + 5 * i ≤ k + 4 + 5 * v4)
    (fun s => s.2.2.2.toNat) (fun d => ∃ (its : List Item) (k' : Int), d = (k', its) ∧ k ≤ k' ∧ k' ≤ k + 1000 ∧ (its.length : Int) ≤ n ∧ Its its 4) (by
    rintro _ ⟨i, k', r, its, rfl, hlen, hr0, hr1, hits, hk1, hk2⟩
    unfold gen_Maker_Items_L11
    simp only
    by_cases hi : 0 < i
    · rw [if_pos (dpos (by omega))]
      have fin : ∀ (k2 : Int) (t : Bool), k ≤ k2 → k2 ≤ k' + 1 → (∃ s', gen_Maker_Items_J16 l (v2, k + 1 + 1) (v3, k + 1 + 1 + 1) its r i k2 t = some (.next s') ∧
          (∃ (i : Nat) (k' r : Int) (its : List Item), s' = (k', its, r, (i : Int)) ∧ (i : Int) + its.length = v4 ∧ 0 ≤ r ∧ r ≤ 4 ∧ Its its r ∧ k ≤ k' ∧ k' + 5 * i ≤ k + 4 + 5 * v4) ∧ s'.2.2.2.toNat < (i : Int).toNat) := by
        intro k2 t hk3 hk4
        obtain ⟨x, k3, r', g1, g2, g3, g4, g5, g6⟩ := J16_ok l (v2, k + 1 + 1) (v3, k + 1 + 1 + 1) (by simp only; omega) (by simp only; omega) its i k2 r t (by omega) ⟨hr0, hr1⟩ (by omega) (by omega) hits
        refine ⟨_, g1, ⟨i - 1, k3, r', its ++ [x], ?_, ?_, g3, g4, g2, by omega, by omega⟩, by simp only; omega⟩
        · rw [show (i : Int) - 1 = ((i - 1 : Nat) : Int) by omega]
        · simp only [List.length_append, List.length_cons, List.length_nil]; omega
      by_cases hv : v1 = 0
      · obtain ⟨v5, e5, q9, q10⟩ := next_ok l k' 4 (by omega) (by omega) (by omega) (by omega)
        rw [if_pos (by simp [hv]), e5]
        simp only [Option.bind_some]
        obtain ⟨s', g1, g2, g3⟩ := fin (k' + 1) (v5 == 0) (by omega) (by omega)
        exact .inl ⟨s', g1, g2, g3⟩
      · rw [if_neg (by simpa using hv)]
        obtain ⟨s', g1, g2, g3⟩ := fin k' false (by omega) (by omega)
        exact .inl ⟨s', g1, g2, g3⟩
    · rw [if_neg (dneg (by omega))]
      refine .inr ⟨_, rfl, its, k', rfl, hk1, by omega, by omega, ⟨fun j x hx => ?_, hits.asc⟩⟩
      obtain ⟨a, b, c⟩ := hits.it j x hx
      exact ⟨a, by omega, c⟩) (k + 1 + 1 + 1 + 1, [], 0, v4) ⟨v4.toNat, k + 1 + 1 + 1 + 1, 0, [], by rw [Int.toNat_of_nonneg q7], by simp; omega, by omega, by omega, ⟨fun i x h => by simp at h, fun i x y h => by simp at h⟩, by omega, by omega⟩ (by simp only; omega)
  rw [h1]
  obtain ⟨its, k', rfl, g1, g2, g3, g4⟩ := h2
  exact ⟨its, k', rfl, g1, g2, g3, g4⟩

theorem job_ok (l : List Int) (k n : Int) (hk : 0 ≤ k ∧ k ≤ 10000000) (hn : 0 ≤ n ∧ n ≤ 90) : ∃ its wt k', gen_Maker_Job l k n = some ((its, wt), k') ∧ k ≤ k' ∧ k' ≤ k + 2000 ∧ (its.length : Int) ≤ n ∧ JobGood its wt ∧ ∀ (i : Nat) (x : Item), its[i]? = some x → x.2.2.1 ≤ 4 ∧ x.1 ≤ 2 := by
  obtain ⟨its, k1, e1, q1, q2, q3, q4⟩ := items_ok l k n hk hn
  obtain ⟨wt, e2, q5⟩ := pick_ok l k1 [0, 1, 2, 3, 12, 12, 12] (by omega) (by omega) (by decide) (by decide)
  have q6 : 0 ≤ wt ∧ wt ≤ 12 := (by decide : ∀ x ∈ [(0 : Int), 1, 2, 3, 12, 12, 12], 0 ≤ x ∧ x ≤ 12) wt q5
  unfold gen_Maker_Job
  rw [e1]
  simp only [Option.bind_some, e2]
  exact ⟨its, wt, k1 + 1, rfl, by omega, by omega, q3, ⟨by omega, q6, fun i x hx => (q4.it i x hx).1, q4.asc⟩, fun i x hx => (q4.it i x hx).2⟩

end Go.Proofs.Ytcignnfdpgeogaa
