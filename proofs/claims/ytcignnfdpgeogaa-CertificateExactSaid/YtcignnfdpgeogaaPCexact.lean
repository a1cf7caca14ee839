/- Plain law of CertificateExact: all functions answer as the reference does, for made, spoiled and arbitrary jobs and proofs. No condition. -/
import Derived.Test.YtcignnfdpgeogaaPCsane
import Derived.Test.YtcignnfdpgeogaaPJspoil
import Derived.Test.YtcignnfdpgeogaaGCertificateExact
set_option linter.unusedVariables false
set_option linter.unusedSectionVars false
set_option linter.unusedSimpArgs false
set_option maxRecDepth 100000
namespace Go.Proofs.Ytcignnfdpgeogaa
open Go Go.V Go.Proofs

theorem proofs_same (S : Int) (v c : List Int) (h : v.length < 4611686018427387904) (h2 : c.length < 4611686018427387904) : gen_Proofs S v c S v c = some true := by
  unfold gen_Proofs gen_Plans
  rw [if_pos (by simp), ints_same v h]
  simp only [obind]
  rw [if_pos trivial, ints_same c h2]
  rfl
theorem CE60_ok (i : Nat) (hi : i ≤ 10) (S kk k : Int) (codes c : List Int) (its : List Item) (wt : Int) (hl : its.length ≤ 1000) : law15_CertificateExact_J60 (i : Int) (((S, codes), c), kk) k its wt = some (.next (k, ((i + 1 : Nat) : Int))) := by
  obtain ⟨e, e1, e2, _⟩ := Check_ok its wt S codes c (.inr hl)
  unfold law15_CertificateExact_J60
  simp only
  rw [e1, e2]
  simp only [obind, bne_self_eq_false, Bool.false_eq_true, if_false]
  rw [wr_id (by omega) (by omega)]
  rfl

theorem certExact_ok (l : List Int) (its : List Item) (wt S : Int) (codes c : List Int) : law15_CertificateExact l its wt S codes c = some true := by
  unfold law15_CertificateExact gen_New
  simp only [obind]
  obtain ⟨d, h1, h2⟩ := loop_inv (step := law15_CertificateExact_L14 (l, 0)) (fun s => ∃ (k : Int) (i : Nat), s = (k, (i : Int)) ∧ i ≤ 4 ∧ 0 ≤ k ∧ k ≤ 10000 * i) (fun s => 4 - s.2.toNat) (fun d => d = .inr ()) (by
    rintro _ ⟨k, i, rfl, hi, hk0, hk⟩
    unfold law15_CertificateExact_L14
    simp only
    by_cases h : i < 4
    · obtain ⟨its, wt, k1, e1, q1, q2, q3, hg, _⟩ := job_ok l k 12 (by omega) (by omega)
      rw [if_pos (dpos (by omega)), e1]
      simp only [obind]
      have hmk : ∃ S v w e, certificate_Make its wt = some (((S, v), w), e) ∧ r15_Make its wt = some (((S, v), w), e) ∧ v.length ≤ 1000 ∧ w.length ≤ 1000 ∧ (0 ≤ S ∧ S ≤ 12) ∧ ∀ y, 0 ≤ v.getD y 0 ∧ v.getD y 0 ≤ 4095 := by
        rcases Make_ok hg with ⟨v, S, m, w, hv, hm, hS, hA, hwl, m1, m2, _⟩ | ⟨m1, m2⟩
        · exact ⟨S, v, w, 0, m1, m2, by rw [hv.len]; omega, by omega, hA.1.st, hv.c12 hg⟩
        · exact ⟨0, [], [], 15, m1, m2, by simp, by simp, by omega, fun y => by simp⟩
      obtain ⟨S, v, w, e, m1, m2, hv1, hw1, hS1, hvr⟩ := hmk
      rw [m1]
      simp only [obind]
      rw [m2]
      simp only [obind]
      rw [proofs_same S v w (by omega) (by omega)]
      simp only [obind, bne_self_eq_false, Bool.false_eq_true, if_false, Bool.not_true]
      obtain ⟨S2, v2, w2, k2, s1, s2, s3, s4, s5, s6, s7, s8⟩ := spoil15_ok l k1 S v w (by omega) hv1 hw1 (by omega) 4095 (by omega) (fun y => by have := hvr y; omega)
      rw [s1]
      simp only [obind]
      obtain ⟨x1, a1, a2, _⟩ := Check_ok its wt S v w (.inr (by omega))
      rw [a1, a2]
      simp only [obind, bne_self_eq_false, Bool.false_eq_true, if_false]
      obtain ⟨x2, b1, b2, _⟩ := Check_ok its wt S2 v2 w2 (.inr (by omega))
      rw [b1, b2]
      simp only [obind, bne_self_eq_false, Bool.false_eq_true, if_false]
      obtain ⟨S3, v3, w3, k3, t1, t2, t3, t4, t5, _⟩ := spoil15_ok l k2 S2 v2 w2 (by omega) (by omega) (by omega) (by omega) 4099 (by omega) s8
      rw [t1]
      simp only [obind]
      by_cases h3 : i = 3
      · obtain ⟨its', wt', k4, e3, q7, q8, q9⟩ := spoil_ok l k3 its wt (by omega) (by omega)
        rw [if_pos (by rw [beq_iff_eq]; omega), e3]
        simp only [obind]
        rw [CE60_ok i (by omega) S3 k3 k4 v3 w3 its' wt' (by omega)]
        exact .inl ⟨_, rfl, ⟨k4, i + 1, rfl, by omega, by omega, by omega⟩, by simp only; omega⟩
      · rw [if_neg (by rw [beq_iff_eq]; omega), CE60_ok i (by omega) S3 k3 k3 v3 w3 its wt (by omega)]
        exact .inl ⟨_, rfl, ⟨k3, i + 1, rfl, by omega, by omega, by omega⟩, by simp only; omega⟩
    · rw [if_neg (dneg (by omega))]
      exact .inr ⟨_, rfl, rfl⟩) (0, 0) ⟨0, 0, rfl, by omega, by omega, by omega⟩ (by simp)
  rw [h1, h2]
  simp only [obind]
  have hJ : ∀ t : Bool, (t = false → its.length ≤ 1000) → law15_CertificateExact_J70 its wt S codes c t = some true := by
    intro t ht
    unfold law15_CertificateExact_J70
    cases t with
    | true => rw [if_pos rfl, sane15_ok]; rfl
    | false =>
      obtain ⟨x1, a1, a2, _⟩ := Check_ok its wt S codes c (.inr (ht rfl))
      rw [if_neg (by decide), a1, a2]
      simp only [obind, beq_self_eq_true, if_true]
      rw [sane15_ok]
      rfl
  by_cases hl : (its.length : Int) > 30
  · rw [if_pos (dpos hl)]
    exact hJ true (fun h => by cases h)
  · rw [if_neg (dneg hl)]
    exact hJ _ (fun _ => by omega)
end Go.Proofs.Ytcignnfdpgeogaa
