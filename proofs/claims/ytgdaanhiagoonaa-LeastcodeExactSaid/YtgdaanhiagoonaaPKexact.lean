/- Plain law of LeastcodeExact: all functions answer as the reference does, for made, spoiled and arbitrary jobs. No condition. -/
import Derived.Test.YtgdaanhiagoonaaPKref13
import Derived.Test.YtgdaanhiagoonaaPKchain
import Derived.Test.YtgdaanhiagoonaaPJspoil
import Derived.Test.YtgdaanhiagoonaaGLeastcodeExact
set_option linter.unusedVariables false
set_option linter.unusedSectionVars false
set_option linter.unusedSimpArgs false
set_option maxRecDepth 100000
namespace Go.Proofs.Ytgdaanhiagoonaa
open Go Go.V Go.Proofs

theorem plans_same (S : Int) (v : List Int) (h : v.length < 4611686018427387904) : gen_Plans S v S v = some true := by
  unfold gen_Plans
  rw [if_pos (by simp), ints_same v h]
  rfl

theorem exact13_ok (its : List Item) (wt : Int) (c : List Int) (hc : c.length ≤ 1000) : law13_exact its wt c = some true := by
  obtain ⟨e, h1, h2⟩ := jobvalid_spec its wt
  unfold law13_exact
  rcases h2 with ⟨rfl, hg⟩ | ⟨hne, _⟩
  · have hl := hg.len
    obtain ⟨p, a1, a2⟩ := Least_ok hg
    obtain ⟨q, b1, b2⟩ := rLeast_ok hg
    have e := spec_uniq hg a2 b2
    subst e
    have hpl : p.1.2.length < 4611686018427387904 := by
      rcases a2 with ⟨v, S, m, hv, rfl, _⟩ | ⟨rfl, _⟩
      · show v.length < _
        rw [hv.len]; omega
      · simp
    obtain ⟨r, c1, c2⟩ := bound_same hg c hc
    obtain ⟨w, d1, d2, d3⟩ := wit_same hg
    rw [a1, b1]
    simp only [obind]
    rw [c1]
    simp only [obind]
    rw [c2]
    simp only [obind]
    rw [plans_same _ _ hpl]
    simp only [obind, bne_self_eq_false, Bool.false_eq_true, if_false, Bool.not_true]
    rw [d1]
    simp only [obind]
    rw [d2]
    simp only [obind]
    rw [ints_same _ (by omega)]
    simp
  · have hb : (e != 0) = true := bne_iff_ne.2 hne
    unfold leastcode_Least r13_Least leastcode_Bound r13_Bound leastcode_Witness r13_Witness r13_Least
    rw [jv_same, h1]
    simp only [obind, hb, if_true]
    rw [plans_same _ _ (by simp)]
    simp only [obind, bne_self_eq_false, Bool.false_eq_true, if_false, Bool.not_true]
    rw [ints_same _ (by simp)]
    simp

theorem LE22_ok (i : Nat) (hi : i ≤ 10) (c : List Int) (hc : c.length ≤ 1000) (kk k : Int) (its : List Item) (wt : Int) : law13_LeastcodeExact_J22 (i : Int) (c, kk) k its wt = some (.next (k, ((i + 1 : Nat) : Int))) := by
  unfold law13_LeastcodeExact_J22
  simp only
  rw [exact13_ok its wt c hc]
  simp only [obind, Bool.not_true, Bool.false_eq_true, if_false]
  rw [wr_id (by omega) (by omega)]
  rfl

theorem leastExact_ok (l : List Int) (its : List Item) (wt : Int) (c : List Int) : law13_LeastcodeExact l its wt c = some true := by
  unfold law13_LeastcodeExact gen_New
  simp only [obind]
  obtain ⟨d, h1, h2⟩ := loop_inv (step := law13_LeastcodeExact_L11 (l, 0)) (fun s => ∃ (k : Int) (i : Nat), s = (k, (i : Int)) ∧ i ≤ 4 ∧ 0 ≤ k ∧ k ≤ 10000 * i) (fun s => 4 - s.2.toNat) (fun d => d = .inr ()) (by
    rintro _ ⟨k, i, rfl, hi, hk0, hk⟩
    unfold law13_LeastcodeExact_L11
    simp only
    by_cases h : i < 4
    · obtain ⟨its, wt, k1, e1, q1, q2, q3, _⟩ := job_ok l k 12 (by omega) (by omega)
      rw [if_pos (dpos (by omega)), e1]
      simp only [obind]
      obtain ⟨c, k2, e2, q4, q5, q6⟩ := chain_ok l k1 its wt (by omega) (by omega)
      rw [e2]
      simp only [obind]
      by_cases h3 : i = 3
      · obtain ⟨its', wt', k3, e3, q7, q8, q9⟩ := spoil_ok l k2 its wt (by omega) (by omega)
        rw [if_pos (by rw [beq_iff_eq]; omega), e3]
        simp only [obind]
        rw [LE22_ok i (by omega) c (by omega)]
        exact .inl ⟨_, rfl, ⟨k3, i + 1, rfl, by omega, by omega, by omega⟩, by simp only; omega⟩
      · rw [if_neg (by rw [beq_iff_eq]; omega), LE22_ok i (by omega) c (by omega)]
        exact .inl ⟨_, rfl, ⟨k2, i + 1, rfl, by omega, by omega, by omega⟩, by simp only; omega⟩
    · rw [if_neg (dneg (by omega))]
      exact .inr ⟨_, rfl, rfl⟩) (0, 0) ⟨0, 0, rfl, by omega, by omega, by omega⟩ (by simp)
  rw [h1, h2]
  simp only [obind]
  by_cases hl : (its.length : Int) > 30
  · rw [if_pos (dpos hl)]
  rw [if_neg (dneg hl)]
  by_cases hr : (c.length : Int) > 60
  · rw [if_pos (dpos hr)]
  rw [if_neg (dneg hr), exact13_ok its wt c (by omega)]
  simp only [obind]
  rw [if_pos trivial, four_IT]
  simp only [obind]
  rw [exact13_ok IT 3 c (by omega)]
  simp only [obind]
  rw [if_pos trivial, sane13_ok]
  rfl
end Go.Proofs.Ytgdaanhiagoonaa
