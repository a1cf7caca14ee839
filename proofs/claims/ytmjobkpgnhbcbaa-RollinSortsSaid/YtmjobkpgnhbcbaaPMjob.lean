/- Plain laws: made jobs and plans fit. No condition beyond those of each theorem. -/
import Derived.Test.YtmjobkpgnhbcbaaPMrun
import Derived.Test.YtmjobkpgnhbcbaaGlaw14plan
import Derived.Test.YtmjobkpgnhbcbaaGlaw14sane
set_option linter.unusedVariables false
set_option linter.unusedSectionVars false
set_option maxRecDepth 100000
namespace Go.Proofs.Ytmjobkpgnhbcbaa
open Go Go.V Go.Proofs

theorem ones_isN (r w : Nat) : isN r w (2 ^ r - 1) = true := by
  have hp := Nat.two_pow_pos r
  have h1 : (2 ^ r - 1) % 2 ^ r = 2 ^ r - 1 := Nat.mod_eq_of_lt (by omega)
  have h2 : (2 ^ r - 1) / 2 ^ r = 0 := Nat.div_eq_of_lt (by omega)
  simp [isN, h1, h2, pc, pcd_zero]

set_option maxHeartbeats 1000000 in
theorem plan_ok (l : List Int) (k : Int) (its : List Item) (wt : Int) (hk : 0 ≤ k ∧ k ≤ 20000000) (hj : JobGood its wt) (h4 : ∀ (i : Nat) (x : Item), its[i]? = some x → x.2.2.1 ≤ 4) :
    ∃ S codes k', law14_plan l k its wt = some ((S, codes), k') ∧ k ≤ k' ∧ k' ≤ k + 200 ∧ Good its wt S codes := by
  have hl := hj.len
  have hw := hj.w
  unfold law14_plan
  obtain ⟨m, h1, h2, h3, h5⟩ : ∃ m, loop (law14_plan_L9 its) (0, 0) = some m ∧ 0 ≤ m ∧ m ≤ 4 ∧ ∀ (i : Nat) (x : Item), its[i]? = some x → x.2.2.1 ≤ m := by
    obtain ⟨d, h1, h2⟩ := loop_inv (step := law14_plan_L9 its) (fun s => ∃ (i : Nat) (m : Int), s = (m, (i : Int)) ∧ i ≤ its.length ∧ 0 ≤ m ∧ m ≤ 4 ∧ ∀ (j : Nat) (x : Item), j < i → its[j]? = some x → x.2.2.1 ≤ m) (fun s => its.length - s.2.toNat)
      (fun m => 0 ≤ m ∧ m ≤ 4 ∧ ∀ (i : Nat) (x : Item), its[i]? = some x → x.2.2.1 ≤ m) (by
      rintro _ ⟨i, m, rfl, hi, hm0, hm1, hx⟩
      unfold law14_plan_L9
      simp only
      by_cases hil : i < its.length
      · have hy : its[i]? = some its[i] := List.getElem?_eq_getElem hil
        generalize its[i] = y at hy
        have hy4 := h4 i y hy
        rw [if_pos (dpos (by omega)), idx_nat, hy]
        simp only [Option.bind_some]
        rw [wr_id (by omega) (by omega)]
        refine .inl ⟨_, rfl, ⟨i + 1, _, rfl, by omega, by split <;> omega, by split <;> omega, fun j x hj hjx => ?_⟩, by simp only; omega⟩
        by_cases hji : j < i
        · have := hx j x hji hjx; split <;> omega
        · have e : j = i := by omega
          subst e
          rw [hy] at hjx; cases hjx
          split <;> omega
      · rw [if_neg (dneg (by omega))]
        exact .inr ⟨_, rfl, hm0, hm1, fun j x hjx => hx j x (by have := (List.getElem?_eq_some_iff.1 hjx).1; omega) hjx⟩) (0, 0) ⟨0, 0, rfl, by omega, by omega, by omega, fun j x h => by omega⟩ (by simp; omega)
    exact ⟨d, h1, h2⟩
  rw [h1]
  simp only [Option.bind_some]
  obtain ⟨v, e1, q1, q2⟩ := next_ok l k 5 hk.1 (by omega) (by omega) (by omega)
  rw [e1]
  simp only [Option.bind_some]
  have eS : (if (IntKind.i64.wrap (m + v)) < 12 then (IntKind.i64.wrap (m + v)) else 12) = m + v := by
    rw [wr_id (by omega) (by omega), if_pos (by omega)]
  obtain ⟨s, hs⟩ : ∃ s : Nat, m + v = (s : Int) := ⟨(m + v).toNat, by omega⟩
  have hs12 : s ≤ 8 := by omega
  have hp := pow_le s (by omega)
  have hp8 : 2 ^ s ≤ 2 ^ 8 := Nat.pow_le_pow_right (by omega) hs12
  obtain ⟨d, g1, g2⟩ := loop_inv (step := law14_plan_L21 l its wt m (v, k + 1)) (fun st => ∃ (i : Nat) (k' : Int) (cs : List Int), st = (k', cs, (i : Int)) ∧ i ≤ its.length ∧ cs.length = i ∧ k' = k + 1 + i ∧
      ∀ (j : Nat) (x : Item) (c : Int), its[j]? = some x → cs[j]? = some c → 0 ≤ c ∧ c < ((2 ^ s : Nat) : Int) ∧ isN x.2.2.1.toNat wt.toNat c.toNat = true)
    (fun st => its.length - st.2.2.toNat) (fun d => ∃ (k' : Int) (cs : List Int), d = (k', cs) ∧ k ≤ k' ∧ k' ≤ k + 200 ∧ cs.length = its.length ∧ ∀ (j : Nat) (x : Item) (c : Int), its[j]? = some x → cs[j]? = some c → 0 ≤ c ∧ c < ((2 ^ s : Nat) : Int) ∧ isN x.2.2.1.toNat wt.toNat c.toNat = true) (by
    rintro _ ⟨i, k', cs, rfl, hi, hcl, hk', hg⟩
    unfold law14_plan_L21
    simp only [eS]
    simp only [hs]
    by_cases hil : i < its.length
    · have hy : its[i]? = some its[i] := List.getElem?_eq_getElem hil
      generalize its[i] = y at hy
      obtain ⟨_, _, hr, _⟩ := hj.it i y hy
      have hr4 := h4 i y hy
      have hrm := h5 i y hy
      obtain ⟨r, hr'⟩ : ∃ r : Nat, y.2.2.1 = (r : Int) := ⟨y.2.2.1.toNat, by omega⟩
      obtain ⟨w, hw'⟩ : ∃ w : Nat, wt = (w : Int) := ⟨wt.toNat, by omega⟩
      have hpr := pow_le r (by omega)
      have hprs : 2 ^ r ≤ 2 ^ s := Nat.pow_le_pow_right (by omega) (by omega)
      rw [if_pos (dpos (by omega)), idx_nat, hy]
      simp only [Option.bind_some]
      rw [if_pos (by omega), one_shl s (by omega)]
      obtain ⟨u, e2, q3⟩ := next_nat l k' ((2 ^ s : Nat) : Int) (by omega) (by omega) (by omega) (by omega)
      rw [e2]
      simp only [Option.bind_some]
      obtain ⟨p, e3', hsp⟩ := rnext_ok u r w (by omega) (by omega)
      have e3 : r12_Next (u : Int) y.2.2.1 wt = some p := by rw [hr', hw']; exact e3'
      rw [e3]
      simp only [Option.bind_some]
      have fin : ∀ c : Int, 0 ≤ c → c < ((2 ^ s : Nat) : Int) → isN r w c.toNat = true → ∃ st', law14_plan_J34 cs (i : Int) ((u : Int), k' + 1) c = some (.next st') ∧
          (∃ (i : Nat) (k' : Int) (cs : List Int), st' = (k', cs, (i : Int)) ∧ i ≤ its.length ∧ cs.length = i ∧ k' = k + 1 + i ∧
            ∀ (j : Nat) (x : Item) (c : Int), its[j]? = some x → cs[j]? = some c → 0 ≤ c ∧ c < ((2 ^ s : Nat) : Int) ∧ isN x.2.2.1.toNat wt.toNat c.toNat = true) ∧ its.length - st'.2.2.toNat < its.length - (i : Int).toNat := by
        intro c hc0 hc1 hc2
        unfold law14_plan_J34
        rw [if_pos (by simp only [List.length_cons, List.length_nil]; omega), wr_id (by omega) (by omega)]
        refine ⟨_, rfl, ⟨i + 1, _, _, rfl, by omega, by simp; omega, by omega, fun j x c' hjx hjc => ?_⟩, by simp only; omega⟩
        rcases Nat.lt_or_ge j cs.length with hj1 | hj1
        · rw [List.getElem?_append_left hj1] at hjc
          exact hg j x c' hjx hjc
        · rw [List.getElem?_append_right hj1] at hjc
          have h0 : j - cs.length = 0 := by
            rcases Nat.eq_zero_or_pos (j - cs.length) with h | h
            · exact h
            · rw [List.getElem?_eq_none (by simp; omega)] at hjc; cases hjc
          rw [h0] at hjc
          cases hjc
          have e : j = i := by omega
          subst e
          rw [hy] at hjx; cases hjx
          rw [hr', hw']
          exact ⟨hc0, hc1, hc2⟩
      have dflt := fin ((2 ^ r - 1 : Nat) : Int) (by omega) (by omega) (by rw [Int.toNat_natCast]; exact ones_isN r w)
      have ew : IntKind.i64.wrap ((IntKind.i64.wrap (1 * 2 ^ (min (Int.toNat (y.2.2.1)) IntKind.i64.bits))) - 1) = ((2 ^ r - 1 : Nat) : Int) := by
        rw [hr', one_shl r (by omega), wr_id (by omega) (by omega)]
        omega
      rcases hsp with ⟨c, rfl, p1, p2, p3, p4⟩ | ⟨rfl, p1⟩
      · simp only [bne_self_eq_false, Bool.false_eq_true, if_false]
        rw [if_pos (by omega)]
        by_cases hcs : (c : Int) ≥ ((2 ^ s : Nat) : Int)
        · rw [if_pos (dpos hcs), if_pos (by omega), ew]
          obtain ⟨st', t1, t2, t3⟩ := dflt
          exact .inl ⟨st', t1, t2, t3⟩
        · rw [if_neg (dneg hcs)]
          obtain ⟨st', t1, t2, t3⟩ := fin (c : Int) (by omega) (by omega) (by rw [Int.toNat_natCast]; exact p3)
          exact .inl ⟨st', t1, t2, t3⟩
      · rw [if_pos (by simp), if_pos (by omega), ew]
        obtain ⟨st', t1, t2, t3⟩ := dflt
        exact .inl ⟨st', t1, t2, t3⟩
    · rw [if_neg (dneg (by omega))]
      exact .inr ⟨_, rfl, _, _, rfl, by omega, by omega, by omega, hg⟩) (k + 1, [], 0) ⟨0, _, [], rfl, by omega, rfl, by simp, fun j x c _ h => by simp at h⟩ (by simp; omega)
  rw [g1]
  obtain ⟨k', cs, rfl, p1, p2, p3, p4⟩ := g2
  refine ⟨m + v, cs, k', by simp only [Option.bind_some, eS], p1, p2, ⟨hj, by omega, p3, fun i x c hx hc => ?_⟩⟩
  have := p4 i x c hx hc
  rw [hs]
  exact this

theorem sane14_ok : law14_sane = some true := by decide +kernel

end Go.Proofs.Ytmjobkpgnhbcbaa
