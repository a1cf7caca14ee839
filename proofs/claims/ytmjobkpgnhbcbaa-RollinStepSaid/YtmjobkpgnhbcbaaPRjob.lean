/- Plain laws: made jobs and plans fit. No condition beyond those of each theorem. -/
import Derived.Test.YtmjobkpgnhbcbaaPRrun
import Derived.Test.YtmjobkpgnhbcbaaGlaw14plan
import Derived.Test.YtmjobkpgnhbcbaaGlaw14sane
set_option linter.unusedVariables false
set_option linter.unusedSectionVars false
set_option maxRecDepth 100000
namespace Go.Proofs.Ytmjobkpgnhbcbaa
open Go Go.V Go.Proofs

/-- Items whose rounds ascend up to r. -/
structure Its (its : List Item) (r : Int) : Prop where
  it : ∀ (i : Nat) (x : Item), its[i]? = some x → good1 x ∧ x.2.2.1 ≤ r
  asc : ∀ (i : Nat) (x y : Item), its[i]? = some x → its[i + 1]? = some y → x.2.2.1 ≤ y.2.2.1

theorem Its.snoc {its : List Item} {r r' : Int} {x : Item} (h : Its its r) (hr : r ≤ r') (hx : good1 x) (hxr : x.2.2.1 = r') : Its (its ++ [x]) r' := by
  have key : ∀ (i : Nat) (y : Item), (its ++ [x])[i]? = some y → (its[i]? = some y) ∨ (i = its.length ∧ y = x) := by
    intro i y hy
    rcases Nat.lt_or_ge i its.length with hi | hi
    · rw [List.getElem?_append_left hi] at hy; exact .inl hy
    · rw [List.getElem?_append_right hi] at hy
      have h0 : i - its.length = 0 := by
        rcases Nat.eq_zero_or_pos (i - its.length) with h | h
        · exact h
        · rw [List.getElem?_eq_none (by simp; omega)] at hy; cases hy
      rw [h0] at hy
      cases hy
      exact .inr ⟨by omega, rfl⟩
  refine ⟨fun i y hy => ?_, fun i y z hy hz => ?_⟩
  · rcases key i y hy with h1 | ⟨_, rfl⟩
    · obtain ⟨h2, h3⟩ := h.it i y h1
      exact ⟨h2, by omega⟩
    · exact ⟨hx, by omega⟩
  · rcases key i y hy with h1 | ⟨h1, rfl⟩ <;> rcases key (i + 1) z hz with h2 | ⟨h2, rfl⟩
    · exact h.asc i y z h1 h2
    · have := (h.it i y h1).2; omega
    · have := (List.getElem?_eq_some_iff.1 h2).1; omega
    · omega

theorem J15_ok (l : List Int) (a b : Int × Int) (ha : 0 ≤ a.1 ∧ a.1 ≤ 2) (hb : 0 ≤ b.1 ∧ b.1 ≤ 5) (its : List Item) (i k r r' : Int) (hk : 0 ≤ k ∧ k ≤ 1000000000) (hr : 0 ≤ r ∧ r ≤ 4) (hr' : r' ≤ r) (hi : 0 < i ∧ i ≤ 1000) (hl : its.length ≤ 1000) (h : Its its r') :
    ∃ x, gen_Maker_Items_J15 l a b its i k r = some (.next (k + 3, its ++ [x], r, i - 1)) ∧ Its (its ++ [x]) r := by
  obtain ⟨v1, e1, q1, q2⟩ := next_ok l k (1 + a.1) hk.1 (by omega) (by omega) (by omega)
  obtain ⟨v2, e2, q3, q4⟩ := next_ok l (k + 1) (1 + b.1) (by omega) (by omega) (by omega) (by omega)
  obtain ⟨v3, e3, q5⟩ := pick_ok l (k + 1 + 1) [80, 142, 199, 262] (by omega) (by omega) (by decide) (by decide)
  have q6 : 1 ≤ v3 ∧ v3 ≤ 400 := (by decide : ∀ x ∈ [(80 : Int), 142, 199, 262], 1 ≤ x ∧ x ≤ 400) v3 q5
  unfold gen_Maker_Items_J15
  rw [wr_id (n := 1 + a.1) (by omega) (by omega), e1]
  simp only [Option.bind_some]
  rw [wr_id (n := 1 + b.1) (by omega) (by omega), e2]
  simp only [Option.bind_some, e3]
  rw [if_pos (by simp only [List.length_cons, List.length_nil]; omega), wr_id (by omega) (by omega)]
  refine ⟨(v1, v2, r, v3), ?_, ?_⟩
  · rw [show k + 1 + 1 + 1 = k + 3 by omega]
  · exact h.snoc hr' ⟨⟨q1, by simp only; omega⟩, ⟨q3, by simp only; omega⟩, ⟨hr.1, by simp only; omega⟩, q6⟩ rfl

theorem J16_ok (l : List Int) (a b : Int × Int) (ha : 0 ≤ a.1 ∧ a.1 ≤ 2) (hb : 0 ≤ b.1 ∧ b.1 ≤ 5) (its : List Item) (i k r : Int) (t : Bool) (hk : 0 ≤ k ∧ k ≤ 100000000) (hr : 0 ≤ r ∧ r ≤ 4) (hi : 0 < i ∧ i ≤ 1000) (hl : its.length ≤ 1000) (h : Its its r) :
    ∃ x k' r', gen_Maker_Items_J16 l a b its r i k t = some (.next (k', its ++ [x], r', i - 1)) ∧ Its (its ++ [x]) r' ∧ 0 ≤ r' ∧ r' ≤ 4 ∧ k ≤ k' ∧ k' ≤ k + 4 := by
  unfold gen_Maker_Items_J16
  cases t with
  | true =>
    obtain ⟨v, e, q1, q2⟩ := next_ok l k 3 hk.1 (by omega) (by omega) (by omega)
    rw [if_pos rfl, e]
    simp only [Option.bind_some]
    rw [wr_id (n := r + v) (by omega) (by omega)]
    obtain ⟨x, h1, h2⟩ := J15_ok l a b ha hb its i (k + 1) (if 4 < r + v then 4 else r + v) r (by omega) (by split <;> omega) (by split <;> omega) hi hl h
    exact ⟨x, _, _, h1, h2, by split <;> omega, by split <;> omega, by omega, by omega⟩
  | false =>
    rw [if_neg (by decide)]
    obtain ⟨x, h1, h2⟩ := J15_ok l a b ha hb its i k r r (by omega) hr (by omega) hi hl h
    exact ⟨x, _, _, h1, h2, hr.1, hr.2, by omega, by omega⟩

theorem items_ok (l : List Int) (k n : Int) (hk : 0 ≤ k ∧ k ≤ 10000000) (hn : 0 ≤ n ∧ n ≤ 90) : ∃ its k', gen_Maker_Items l k n = some (its, k') ∧ k ≤ k' ∧ k' ≤ k + 1000 ∧ (its.length : Int) ≤ n ∧ Its its 4 := by
  obtain ⟨v1, e1, q1, q2⟩ := next_ok l k 4 hk.1 (by omega) (by omega) (by omega)
  obtain ⟨v2, e2, q3, q4⟩ := next_ok l (k + 1) 3 (by omega) (by omega) (by omega) (by omega)
  obtain ⟨v3, e3, q5, q6⟩ := next_ok l (k + 1 + 1) 6 (by omega) (by omega) (by omega) (by omega)
  obtain ⟨v4, e4, q7, q8⟩ := next_ok l (k + 1 + 1 + 1) (n + 1) (by omega) (by omega) (by omega) (by omega)
  unfold gen_Maker_Items
  rw [e1]
  simp only [Option.bind_some, e2, e3]
  rw [wr_id (n := n + 1) (by omega) (by omega), e4]
  simp only [Option.bind_some]
  obtain ⟨d, h1, h2⟩ := loop_inv (step := gen_Maker_Items_L11 l (v1, k + 1) (v2, k + 1 + 1) (v3, k + 1 + 1 + 1))
    (fun s => ∃ (i : Nat) (k' r : Int) (its : List Item), s = (k', its, r, (i : Int)) ∧ (i : Int) + its.length = v4 ∧ 0 ≤ r ∧ r ≤ 4 ∧ Its its r ∧ k ≤ k' ∧ k' + 5 * i ≤ k + 4 + 5 * v4)
    (fun s => s.2.2.2.toNat) (fun d => ∃ (its : List Item) (k' : Int), d = (k', its) ∧ k ≤ k' ∧ k' ≤ k + 1000 ∧ (its.length : Int) ≤ n ∧ Its its 4) (by
    rintro _ ⟨i, k', r, its, rfl, hlen, hr0, hr1, hits, hk1, hk2⟩
    unfold gen_Maker_Items_L11
    simp only
    by_cases hi : 0 < i
    · rw [if_pos (dpos (by omega))]
      have fin : ∀ (k2 : Int) (t : Bool), k ≤ k2 → k2 ≤ k' + 1 → (∃ s', gen_Maker_Items_J16 l (v2, k + 1 + 1) (v3, k + 1 + 1 + 1) its r i k2 t = some (.next s') ∧
          (∃ (i : Nat) (k' r : Int) (its : List Item), s' = (k', its, r, (i : Int)) ∧ (i : Int) + its.length = v4 ∧ 0 ≤ r ∧ r ≤ 4 ∧ Its its r ∧ k ≤ k' ∧ k' + 5 * i ≤ k + 4 + 5 * v4) ∧ s'.2.2.2.toNat < (i : Int).toNat) := by
        intro k2 t hk3 hk4
        obtain ⟨x, k3, r', g1, g2, g3, g4, g5, g6⟩ := J16_ok l (v2, k + 1 + 1) (v3, k + 1 + 1 + 1) (by simp only; omega) (by simp only; omega) its i k2 r t (by omega) ⟨hr0, hr1⟩ (by omega) (by omega) hits
        refine ⟨_, g1, ⟨i - 1, k3, r', its ++ [x], ?_, ?_, g3, g4, g2, by omega, by omega⟩, by simp only; omega⟩
        · rw [show (i : Int) - 1 = ((i - 1 : Nat) : Int) by omega]
        · simp only [List.length_append, List.length_cons, List.length_nil]; omega
      by_cases hv : v1 = 0
      · obtain ⟨v5, e5, q9, q10⟩ := next_ok l k' 4 (by omega) (by omega) (by omega) (by omega)
        rw [if_pos (by simp [hv]), e5]
        simp only [Option.bind_some]
        obtain ⟨s', g1, g2, g3⟩ := fin (k' + 1) (v5 == 0) (by omega) (by omega)
        exact .inl ⟨s', g1, g2, g3⟩
      · rw [if_neg (by simpa using hv)]
        obtain ⟨s', g1, g2, g3⟩ := fin k' false (by omega) (by omega)
        exact .inl ⟨s', g1, g2, g3⟩
    · rw [if_neg (dneg (by omega))]
      refine .inr ⟨_, rfl, its, k', rfl, hk1, by omega, by omega, ⟨fun j x hx => ?_, hits.asc⟩⟩
      obtain ⟨a, b⟩ := hits.it j x hx
      exact ⟨a, by omega⟩) (k + 1 + 1 + 1 + 1, [], 0, v4) ⟨v4.toNat, k + 1 + 1 + 1 + 1, 0, [], by rw [Int.toNat_of_nonneg q7], by simp; omega, by omega, by omega, ⟨fun i x h => by simp at h, fun i x y h => by simp at h⟩, by omega, by omega⟩ (by simp only; omega)
  rw [h1]
  obtain ⟨its, k', rfl, g1, g2, g3, g4⟩ := h2
  exact ⟨its, k', rfl, g1, g2, g3, g4⟩

theorem job_ok (l : List Int) (k n : Int) (hk : 0 ≤ k ∧ k ≤ 10000000) (hn : 0 ≤ n ∧ n ≤ 90) : ∃ its wt k', gen_Maker_Job l k n = some ((its, wt), k') ∧ k ≤ k' ∧ k' ≤ k + 2000 ∧ (its.length : Int) ≤ n ∧ JobGood its wt ∧ ∀ (i : Nat) (x : Item), its[i]? = some x → x.2.2.1 ≤ 4 := by
  obtain ⟨its, k1, e1, q1, q2, q3, q4⟩ := items_ok l k n hk hn
  obtain ⟨wt, e2, q5⟩ := pick_ok l k1 [0, 1, 2, 3, 12, 12, 12] (by omega) (by omega) (by decide) (by decide)
  have q6 : 0 ≤ wt ∧ wt ≤ 12 := (by decide : ∀ x ∈ [(0 : Int), 1, 2, 3, 12, 12, 12], 0 ≤ x ∧ x ≤ 12) wt q5
  unfold gen_Maker_Job
  rw [e1]
  simp only [Option.bind_some, e2]
  exact ⟨its, wt, k1 + 1, rfl, by omega, by omega, q3, ⟨by omega, q6, fun i x hx => (q4.it i x hx).1, q4.asc⟩, fun i x hx => (q4.it i x hx).2⟩

theorem ones_isN (r w : Nat) : isN r w (2 ^ r - 1) = true := by
  have hp := Nat.two_pow_pos r
  have h1 : (2 ^ r - 1) % 2 ^ r = 2 ^ r - 1 := Nat.mod_eq_of_lt (by omega)
  have h2 : (2 ^ r - 1) / 2 ^ r = 0 := Nat.div_eq_of_lt (by omega)
  simp [isN, h1, h2, pc, pcd_zero]

set_option maxHeartbeats 1000000 in
theorem plan_ok (l : List Int) (k : Int) (its : List Item) (wt : Int) (hk : 0 ≤ k ∧ k ≤ 20000000) (hj : JobGood its wt) (h4 : ∀ (i : Nat) (x : Item), its[i]? = some x → x.2.2.1 ≤ 4) :
    ∃ S codes k', law14_plan l k its wt = some ((S, codes), k') ∧ k ≤ k' ∧ k' ≤ k + 200 ∧ Good its wt S codes := by
  have hl := hj.len
  have hw := hj.w
  unfold law14_plan
  obtain ⟨m, h1, h2, h3, h5⟩ : ∃ m, loop (law14_plan_L9 its) (0, 0) = some m ∧ 0 ≤ m ∧ m ≤ 4 ∧ ∀ (i : Nat) (x : Item), its[i]? = some x → x.2.2.1 ≤ m := by
    obtain ⟨d, h1, h2⟩ := loop_inv (step := law14_plan_L9 its) (fun s => ∃ (i : Nat) (m : Int), s = (m, (i : Int)) ∧ i ≤ its.length ∧ 0 ≤ m ∧ m ≤ 4 ∧ ∀ (j : Nat) (x : Item), j < i → its[j]? = some x → x.2.2.1 ≤ m) (fun s => its.length - s.2.toNat)
      (fun m => 0 ≤ m ∧ m ≤ 4 ∧ ∀ (i : Nat) (x : Item), its[i]? = some x → x.2.2.1 ≤ m) (by
      rintro _ ⟨i, m, rfl, hi, hm0, hm1, hx⟩
      unfold law14_plan_L9
      simp only
      by_cases hil : i < its.length
      · have hy : its[i]? = some its[i] := List.getElem?_eq_getElem hil
        generalize its[i] = y at hy
        have hy4 := h4 i y hy
        rw [if_pos (dpos (by omega)), idx_nat, hy]
        simp only [Option.bind_some]
        rw [wr_id (by omega) (by omega)]
        refine .inl ⟨_, rfl, ⟨i + 1, _, rfl, by omega, by split <;> omega, by split <;> omega, fun j x hj hjx => ?_⟩, by simp only; omega⟩
        by_cases hji : j < i
        · have := hx j x hji hjx; split <;> omega
        · have e : j = i := by omega
          subst e
          rw [hy] at hjx; cases hjx
          split <;> omega
      · rw [if_neg (dneg (by omega))]
        exact .inr ⟨_, rfl, hm0, hm1, fun j x hjx => hx j x (by have := (List.getElem?_eq_some_iff.1 hjx).1; omega) hjx⟩) (0, 0) ⟨0, 0, rfl, by omega, by omega, by omega, fun j x h => by omega⟩ (by simp; omega)
    exact ⟨d, h1, h2⟩
  rw [h1]
  simp only [Option.bind_some]
  obtain ⟨v, e1, q1, q2⟩ := next_ok l k 5 hk.1 (by omega) (by omega) (by omega)
  rw [e1]
  simp only [Option.bind_some]
  have eS : (if (IntKind.i64.wrap (m + v)) < 12 then (IntKind.i64.wrap (m + v)) else 12) = m + v := by
    rw [wr_id (by omega) (by omega), if_pos (by omega)]
  obtain ⟨s, hs⟩ : ∃ s : Nat, m + v = (s : Int) := ⟨(m + v).toNat, by omega⟩
  have hs12 : s ≤ 8 := by omega
  have hp := pow_le s (by omega)
  have hp8 : 2 ^ s ≤ 2 ^ 8 := Nat.pow_le_pow_right (by omega) hs12
  obtain ⟨d, g1, g2⟩ := loop_inv (step := law14_plan_L21 l its wt m (v, k + 1)) (fun st => ∃ (i : Nat) (k' : Int) (cs : List Int), st = (k', cs, (i : Int)) ∧ i ≤ its.length ∧ cs.length = i ∧ k' = k + 1 + i ∧
      ∀ (j : Nat) (x : Item) (c : Int), its[j]? = some x → cs[j]? = some c → 0 ≤ c ∧ c < ((2 ^ s : Nat) : Int) ∧ isN x.2.2.1.toNat wt.toNat c.toNat = true)
    (fun st => its.length - st.2.2.toNat) (fun d => ∃ (k' : Int) (cs : List Int), d = (k', cs) ∧ k ≤ k' ∧ k' ≤ k + 200 ∧ cs.length = its.length ∧ ∀ (j : Nat) (x : Item) (c : Int), its[j]? = some x → cs[j]? = some c → 0 ≤ c ∧ c < ((2 ^ s : Nat) : Int) ∧ isN x.2.2.1.toNat wt.toNat c.toNat = true) (by
    rintro _ ⟨i, k', cs, rfl, hi, hcl, hk', hg⟩
    unfold law14_plan_L21
    simp only [eS]
    simp only [hs]
    by_cases hil : i < its.length
    · have hy : its[i]? = some its[i] := List.getElem?_eq_getElem hil
      generalize its[i] = y at hy
      obtain ⟨_, _, hr, _⟩ := hj.it i y hy
      have hr4 := h4 i y hy
      have hrm := h5 i y hy
      obtain ⟨r, hr'⟩ : ∃ r : Nat, y.2.2.1 = (r : Int) := ⟨y.2.2.1.toNat, by omega⟩
      obtain ⟨w, hw'⟩ : ∃ w : Nat, wt = (w : Int) := ⟨wt.toNat, by omega⟩
      have hpr := pow_le r (by omega)
      have hprs : 2 ^ r ≤ 2 ^ s := Nat.pow_le_pow_right (by omega) (by omega)
      rw [if_pos (dpos (by omega)), idx_nat, hy]
      simp only [Option.bind_some]
      rw [if_pos (by omega), one_shl s (by omega)]
      obtain ⟨u, e2, q3⟩ := next_nat l k' ((2 ^ s : Nat) : Int) (by omega) (by omega) (by omega) (by omega)
      rw [e2]
      simp only [Option.bind_some]
      obtain ⟨p, e3', hsp⟩ := rnext_ok u r w (by omega) (by omega)
      have e3 : r12_Next (u : Int) y.2.2.1 wt = some p := by rw [hr', hw']; exact e3'
      rw [e3]
      simp only [Option.bind_some]
      have fin : ∀ c : Int, 0 ≤ c → c < ((2 ^ s : Nat) : Int) → isN r w c.toNat = true → ∃ st', law14_plan_J34 cs (i : Int) ((u : Int), k' + 1) c = some (.next st') ∧
          (∃ (i : Nat) (k' : Int) (cs : List Int), st' = (k', cs, (i : Int)) ∧ i ≤ its.length ∧ cs.length = i ∧ k' = k + 1 + i ∧
            ∀ (j : Nat) (x : Item) (c : Int), its[j]? = some x → cs[j]? = some c → 0 ≤ c ∧ c < ((2 ^ s : Nat) : Int) ∧ isN x.2.2.1.toNat wt.toNat c.toNat = true) ∧ its.length - st'.2.2.toNat < its.length - (i : Int).toNat := by
        intro c hc0 hc1 hc2
        unfold law14_plan_J34
        rw [if_pos (by simp only [List.length_cons, List.length_nil]; omega), wr_id (by omega) (by omega)]
        refine ⟨_, rfl, ⟨i + 1, _, _, rfl, by omega, by simp; omega, by omega, fun j x c' hjx hjc => ?_⟩, by simp only; omega⟩
        rcases Nat.lt_or_ge j cs.length with hj1 | hj1
        · rw [List.getElem?_append_left hj1] at hjc
          exact hg j x c' hjx hjc
        · rw [List.getElem?_append_right hj1] at hjc
          have h0 : j - cs.length = 0 := by
            rcases Nat.eq_zero_or_pos (j - cs.length) with h | h
            · exact h
            · rw [List.getElem?_eq_none (by simp; omega)] at hjc; cases hjc
          rw [h0] at hjc
          cases hjc
          have e : j = i := by omega
          subst e
          rw [hy] at hjx; cases hjx
          rw [hr', hw']
          exact ⟨hc0, hc1, hc2⟩
      have dflt := fin ((2 ^ r - 1 : Nat) : Int) (by omega) (by omega) (by rw [Int.toNat_natCast]; exact ones_isN r w)
      have ew : IntKind.i64.wrap ((IntKind.i64.wrap (1 * 2 ^ (min (Int.toNat (y.2.2.1)) IntKind.i64.bits))) - 1) = ((2 ^ r - 1 : Nat) : Int) := by
        rw [hr', one_shl r (by omega), wr_id (by omega) (by omega)]
        omega
      rcases hsp with ⟨c, rfl, p1, p2, p3, p4⟩ | ⟨rfl, p1⟩
      · simp only [bne_self_eq_false, Bool.false_eq_true, if_false]
        rw [if_pos (by omega)]
        by_cases hcs : (c : Int) ≥ ((2 ^ s : Nat) : Int)
        · rw [if_pos (dpos hcs), if_pos (by omega), ew]
          obtain ⟨st', t1, t2, t3⟩ := dflt
          exact .inl ⟨st', t1, t2, t3⟩
        · rw [if_neg (dneg hcs)]
          obtain ⟨st', t1, t2, t3⟩ := fin (c : Int) (by omega) (by omega) (by rw [Int.toNat_natCast]; exact p3)
          exact .inl ⟨st', t1, t2, t3⟩
      · rw [if_pos (by simp), if_pos (by omega), ew]
        obtain ⟨st', t1, t2, t3⟩ := dflt
        exact .inl ⟨st', t1, t2, t3⟩
    · rw [if_neg (dneg (by omega))]
      exact .inr ⟨_, rfl, _, _, rfl, by omega, by omega, by omega, hg⟩) (k + 1, [], 0) ⟨0, _, [], rfl, by omega, rfl, by simp, fun j x c _ h => by simp at h⟩ (by simp; omega)
  rw [g1]
  obtain ⟨k', cs, rfl, p1, p2, p3, p4⟩ := g2
  refine ⟨m + v, cs, k', by simp only [Option.bind_some, eS], p1, p2, ⟨hj, by omega, p3, fun i x c hx hc => ?_⟩⟩
  have := p4 i x c hx hc
  rw [hs]
  exact this

theorem sane14_ok : law14_sane = some true := by decide +kernel

end Go.Proofs.Ytmjobkpgnhbcbaa
