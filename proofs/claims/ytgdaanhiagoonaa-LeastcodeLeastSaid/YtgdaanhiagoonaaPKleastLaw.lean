/- Plain law of LeastcodeLeast: no code can be made less: with any item at the next lower code of its form, some relation to items before it fails. No condition. -/
import Derived.Test.YtgdaanhiagoonaaPKuse
import Derived.Test.YtgdaanhiagoonaaGLeastcodeLeast
set_option linter.unusedVariables false
set_option linter.unusedSectionVars false
set_option linter.unusedSimpArgs false
set_option maxRecDepth 100000
namespace Go.Proofs.Ytgdaanhiagoonaa
open Go Go.V Go.Proofs

/-- How many codes of a form lie below a number. -/
def cnt (r w : Nat) : Nat → Nat
  | 0 => 0
  | k + 1 => if isN r w k = true then cnt r w k + 1 else cnt r w k
theorem cnt_step (r w k : Nat) : cnt r w k ≤ cnt r w (k + 1) ∧ cnt r w (k + 1) ≤ cnt r w k + 1 := by
  conv => rhs; lhs; unfold cnt
  conv => lhs; rhs; unfold cnt
  split <;> omega
theorem cnt_mono (r w : Nat) {k l : Nat} (h : k ≤ l) : cnt r w k ≤ cnt r w l := by
  induction l with
  | zero => rw [show k = 0 by omega]; exact Nat.le_refl _
  | succ l ih =>
    by_cases e : k = l + 1
    · subst e; exact Nat.le_refl _
    · have := ih (by omega)
      have := (cnt_step r w l).1
      omega
theorem cnt_le (r w : Nat) : ∀ k, cnt r w k ≤ k
  | 0 => Nat.le_refl 0
  | k + 1 => by have := cnt_le r w k; have := (cnt_step r w k).2; omega
theorem cnt_at {r w k : Nat} (h : isN r w k = true) : cnt r w (k + 1) = cnt r w k + 1 := by
  conv => lhs; unfold cnt
  rw [if_pos h]
theorem cnt_skip {r w k : Nat} (h : isN r w k = false) : cnt r w (k + 1) = cnt r w k := by
  conv => lhs; unfold cnt
  rw [if_neg (by rw [h]; decide)]
theorem cnt_prev (r w : Nat) : ∀ k, 0 < cnt r w k → ∃ l, l < k ∧ isN r w l = true ∧ cnt r w l = cnt r w k - 1
  | 0, h => absurd h (Nat.lt_irrefl 0)
  | k + 1, h => by
    cases hi : isN r w k with
    | true => exact ⟨k, by omega, hi, by rw [cnt_at hi]; omega⟩
    | false =>
      rw [cnt_skip hi] at h ⊢
      obtain ⟨l, h1, h2, h3⟩ := cnt_prev r w k h
      exact ⟨l, by omega, h2, h3⟩

theorem rrank_ok (k r w : Nat) (hk : k < 4096) (hr : r ≤ 12) (hw : w ≤ 12) (hi : isN r w k = true) : r12_Rank (k : Int) (r : Int) (w : Int) = some (((cnt r w k : Nat) : Int), 0) := by
  unfold r12_Rank
  rw [rform_ok]
  simp only [obind]
  rw [if_neg (by simp; omega), ris_ok k r w hk hr hw, hi]
  simp only [obind, Bool.not_true, Bool.false_eq_true, if_false]
  obtain ⟨d, h1, h2⟩ := loop_inv (step := r12_Rank_L7 (k : Int) (r : Int) (w : Int)) (fun s => ∃ x : Nat, s = (((cnt r w x : Nat) : Int), (x : Int)) ∧ x ≤ k) (fun s => k - s.2.toNat) (fun d => d = ((cnt r w k : Nat) : Int)) (by
    rintro _ ⟨x, rfl, hx⟩
    unfold r12_Rank_L7
    simp only
    by_cases h : x < k
    · have hle := cnt_le r w x
      rw [if_pos (dpos (by omega)), ris_ok x r w (by omega) hr hw]
      simp only [obind]
      rw [wr_id (n := (x : Int) + 1) (by omega) (by omega), wr_id (n := ((cnt r w x : Nat) : Int) + 1) (by omega) (by omega)]
      cases hix : isN r w x with
      | true => exact .inl ⟨_, if_pos rfl, ⟨x + 1, by rw [cnt_at hix]; rfl, by omega⟩, by simp only; omega⟩
      | false => exact .inl ⟨_, if_neg (by decide), ⟨x + 1, by rw [cnt_skip hix]; rfl, by omega⟩, by simp only; omega⟩
    · rw [if_neg (dneg (by omega))]
      have : x = k := by omega
      subst this
      exact .inr ⟨_, rfl, rfl⟩) (0, 0) ⟨0, rfl, by omega⟩ (by simp; omega)
  rw [h1, h2]
  rfl

theorem rnth_ok (k r w : Nat) (hk : k < 4096) (hr : r ≤ 12) (hw : w ≤ 12) (hi : isN r w k = true) : r12_Nth ((cnt r w k : Nat) : Int) (r : Int) (w : Int) = some ((k : Int), 0) := by
  unfold r12_Nth
  rw [rform_ok]
  simp only [obind]
  rw [if_neg (by simp; omega), if_neg (dneg (by omega))]
  obtain ⟨d, h1, h2⟩ := loop_inv (step := r12_Nth_L4 (r : Int) (w : Int)) (fun s => ∃ x : Nat, s = (((cnt r w k - cnt r w x : Nat) : Int), (x : Int)) ∧ x ≤ k) (fun s => k + 1 - s.2.toNat) (fun d => d = .inl (k : Int)) (by
    rintro _ ⟨x, rfl, hx⟩
    unfold r12_Nth_L4
    simp only
    have hck := cnt_le r w k
    rw [if_pos (dpos (by omega)), ris_ok x r w (by omega) hr hw]
    simp only [obind]
    rw [wr_id (n := (x : Int) + 1) (by omega) (by omega)]
    cases hix : isN r w x with
    | true =>
      simp only [Bool.not_true, Bool.false_eq_true, if_false]
      by_cases e : x = k
      · subst e
        rw [if_pos (by rw [Nat.sub_self]; rfl)]
        exact .inr ⟨_, rfl, rfl⟩
      · have h3 := cnt_mono r w (show x + 1 ≤ k by omega)
        rw [cnt_at hix] at h3
        rw [if_neg (by rw [beq_iff_eq]; omega), wr_id (by omega) (by omega)]
        refine .inl ⟨_, rfl, ⟨x + 1, ?_, by omega⟩, by simp only; omega⟩
        rw [cnt_at hix, show ((cnt r w k - cnt r w x : Nat) : Int) - 1 = ((cnt r w k - (cnt r w x + 1) : Nat) : Int) by omega]
        rfl
    | false =>
      have hne : x ≠ k := fun e => by subst e; rw [hi] at hix; cases hix
      simp only [Bool.not_false, if_true]
      exact .inl ⟨_, rfl, ⟨x + 1, by rw [cnt_skip hix]; rfl, by omega⟩, by simp only; omega⟩) (((cnt r w k : Nat) : Int), 0) ⟨0, by simp [cnt], by omega⟩ (by simp; omega)
  rw [h1, h2]
  rfl

section
variable {its : List Item} {wt k e : Int} (hg : JobGood its wt) {v : List Int} (hv : IsLst its wt v) (S : Int)
include hg hv

theorem KL36_ok (y : Nat) (hy : y < its.length) (less f : Int) (hlt : less < need its v y) (h0 : 0 ≤ less) :
    loop (law13_LeastcodeLeast_L36 ((its, wt), k) ((S, v), e) (y : Int) (less, f)) (true, 0) = some false := by
  have hl := hg.len
  have hc := hv.c12 hg
  have hvl := hv.len
  obtain ⟨d, h1, h2⟩ := loop_inv (step := law13_LeastcodeLeast_L36 ((its, wt), k) ((S, v), e) (y : Int) (less, f)) (fun s => ∃ (b : Bool) (t : Nat), s = (b, (t : Int)) ∧ t ≤ its.length ∧ (b = true → ∀ x, x < t → rel its x y > 0 → v.getD x 0 + rel its x y - 1 ≤ less)) (fun s => its.length - s.2.toNat)
    (fun d => d = false) (by
    rintro _ ⟨b, t, rfl, ht, hb⟩
    unfold law13_LeastcodeLeast_L36
    simp only [hvl]
    by_cases h : t < its.length
    · rw [if_pos (dpos (by omega)), wr_id (n := (t : Int) + 1) (by omega) (by omega)]
      cases b with
      | false =>
        rw [if_neg (by decide)]
        exact .inl ⟨_, rfl, ⟨false, t + 1, rfl, by omega, fun q => by cases q⟩, by simp only; omega⟩
      | true =>
        have hb' := hb rfl
        have hrr := rel_range its t y
        rw [if_pos rfl, kind_ok its wt t y h hy]
        simp only [obind]
        by_cases hr : rel its t y = 0
        · rw [if_pos (by rw [hr]; rfl)]
          refine .inl ⟨_, rfl, ⟨true, t + 1, rfl, by omega, fun _ x hx hxr => ?_⟩, by simp only; omega⟩
          by_cases q : x = t
          · subst q; omega
          · exact hb' x (by omega) hxr
        · have hct := hc t
          have hst := str_range its t y
          rw [if_neg (by rw [beq_iff_eq]; exact hr), idx_getD (by omega)]
          simp only [obind]
          rw [strict_ok its wt t y h hy]
          simp only [obind]
          rw [wr_id (n := v.getD t 0 + str its t y) (by omega) (by omega), str_eq (by omega)]
          refine .inl ⟨_, rfl, ⟨_, t + 1, rfl, by omega, fun q x hx hxr => ?_⟩, by simp only; omega⟩
          have q' := of_decide_eq_true q
          by_cases q2 : x = t
          · subst q2; omega
          · exact hb' x (by omega) hxr
    · rw [if_neg (dneg (by omega))]
      refine .inr ⟨_, rfl, ?_⟩
      cases b with
      | false => rfl
      | true =>
        have hb' := hb rfl
        rcases needU_at its v y its.length with q | ⟨x, q1, q2, q3⟩
        · unfold need at hlt; omega
        · have := hb' x (by omega) q2
          unfold need at hlt; omega) (true, 0) ⟨true, 0, rfl, by omega, fun _ x hx => by omega⟩ (by simp; omega)
  rw [h1, h2]

theorem KL22_ok : loop (law13_LeastcodeLeast_L22 ((its, wt), k) ((S, v), e)) 0 = some (.inr ()) := by
  have hl := hg.len
  have hvl := hv.len
  have h := loop_count (law13_LeastcodeLeast_L22 ((its, wt), k) ((S, v), e)) (.inr ()) 0 its.length (by omega) (by omega) (fun y _ hy => by
    unfold law13_LeastcodeLeast_L22
    simp only [hvl]
    obtain ⟨a, ha⟩ : ∃ a, its[y]? = some a := ⟨_, List.getElem?_eq_getElem hy⟩
    have har : rOf its y = a.2.2.1 := by unfold rOf; rw [ha]
    have hr := hg.r y
    have hw := hg.w
    have he := hv.eq y hy
    rw [if_pos (dpos (by omega)), idx_getD (by omega), idx_nat, ha]
    simp only [obind]
    rw [wr_id (n := (y : Int) + 1) (by omega) (by omega), ← har]
    rcases (nx_ok (needU_nn its v y) hr hw).2.2 with ⟨c, e1, e0, e2, e3, e4⟩ | ⟨e1, _⟩
    · rw [he] at e1
      have e5 : v.getD y 0 = (c : Int) := congrArg Prod.fst e1
      have hR := rrank_ok c (rOf its y).toNat wt.toNat e2 (by omega) (by omega) e3
      rw [show (((rOf its y).toNat : Nat) : Int) = rOf its y by omega, show ((wt.toNat : Nat) : Int) = wt by omega] at hR
      rw [e5, hR]
      simp only [obind, bne_self_eq_false, Bool.false_eq_true, if_false]
      by_cases h0 : cnt (rOf its y).toNat wt.toNat c = 0
      · rw [if_pos (by rw [h0]; rfl)]
      · obtain ⟨l, l1, l2, l3⟩ := cnt_prev (rOf its y).toNat wt.toNat c (by omega)
        have hN := rnth_ok l (rOf its y).toNat wt.toNat (by omega) (by omega) (by omega) l2
        have hcl := cnt_le (rOf its y).toNat wt.toNat c
        rw [show (((rOf its y).toNat : Nat) : Int) = rOf its y by omega, show ((wt.toNat : Nat) : Int) = wt by omega, l3] at hN
        rw [if_neg (by rw [beq_iff_eq]; omega), wr_id (n := ((cnt (rOf its y).toNat wt.toNat c : Nat) : Int) - 1) (by omega) (by omega), show ((cnt (rOf its y).toNat wt.toNat c : Nat) : Int) - 1 = ((cnt (rOf its y).toNat wt.toNat c - 1 : Nat) : Int) by omega, hN]
        simp only [obind]
        have hlt : (l : Int) < need its v y := by
          have hnn := needU_nn its v y
          rcases Nat.lt_or_ge l (need its v y).toNat with q | q
          · omega
          · have := e4 l q l1
            rw [l2] at this; cases this
        rw [KL36_ok hg hv S y hy (l : Int) 0 hlt (by omega)]
        simp only [obind, Bool.false_eq_true, if_false]
    · rw [he] at e1
      have := congrArg Prod.snd e1
      simp at this) (by
    unfold law13_LeastcodeLeast_L22
    simp only [hvl]
    rw [if_neg (dneg (by omega))])
  rw [show ((0 : Nat) : Int) = 0 from rfl] at h
  exact h
end

theorem leastLaw_ok (l : List Int) : law13_LeastcodeLeast l = some true := by
  unfold law13_LeastcodeLeast gen_New
  simp only [obind]
  obtain ⟨its, wt, k, h1, _, _, _, hg, _⟩ := job_ok l 0 14 (by omega) (by omega)
  rw [h1]
  simp only [obind]
  rcases Least_cases hg with ⟨v, S, m, hv, e1, hm, hS⟩ | ⟨e1, hs⟩
  · rw [e1]
    simp only [obind, bne_self_eq_false, Bool.false_eq_true, if_false]
    rw [if_neg (by rw [hv.len]; simp), KL22_ok hg hv S]
    simp only [obind]
    rw [sane13_ok]
    rfl
  · rw [e1]
    simp only [obind]
    rw [if_pos (by decide), if_pos (by decide), sane13_ok]
    rfl
end Go.Proofs.Ytgdaanhiagoonaa
