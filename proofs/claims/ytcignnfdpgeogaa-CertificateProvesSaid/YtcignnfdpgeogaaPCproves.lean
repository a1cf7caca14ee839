/- Plain law of CertificateProves: whatever proof is accepted, its plan sorts the job on the machine, and no plan with fewer steps does. No condition. -/
import Derived.Test.YtcignnfdpgeogaaPCsane
import Derived.Test.YtcignnfdpgeogaaPMsorted
import Derived.Test.YtcignnfdpgeogaaGCertificateProves
set_option linter.unusedVariables false
set_option linter.unusedSectionVars false
set_option linter.unusedSimpArgs false
set_option maxRecDepth 100000
namespace Go.Proofs.Ytcignnfdpgeogaa
open Go Go.V Go.Proofs

/-- Codes that satisfy all relations have room. -/
theorem codes_upper {its : List Item} {wt S : Int} {codes : List Int} (hG : Good its wt S codes) (hrel : RelOK its codes) : Upper its wt codes := by
  intro y hy
  have hyc : y < codes.length := by rw [hG.cl]; exact hy
  obtain ⟨c1, c2, c3⟩ := hG.code y _ _ (List.getElem?_eq_getElem hy) (List.getElem?_eq_getElem hyc)
  have hcd : codes.getD y 0 = codes[y] := by rw [List.getD_eq_getElem?_getD, List.getElem?_eq_getElem hyc]; rfl
  have hr : rOf its y = its[y].2.2.1 := by unfold rOf; rw [List.getElem?_eq_getElem hy]
  have hsm := codes_small hG y
  rw [← hcd] at c1 c2 c3
  rw [← hr] at c3
  have hn : need its codes y ≤ codes.getD y 0 := by
    rcases needU_at its codes y its.length with h0 | ⟨x, h1, h2, h3⟩
    · have : need its codes y = 0 := h0
      omega
    · have := hrel x y h2
      have : need its codes y = codes.getD x 0 + rel its x y - 1 := h3.symm
      omega
  rcases (nx_ok (needU_nn its codes y) (hG.job.r y) hG.job.w).2.2 with ⟨k, e, h1, h2, h3, h4⟩ | ⟨e, h1⟩
  · rw [e]
    refine ⟨rfl, ?_⟩
    simp only
    rcases Nat.lt_or_ge (codes.getD y 0).toNat k with q | q
    · have := h4 _ (by omega) q
      rw [c3] at this; cases this
    · omega
  · have := h1 (codes.getD y 0).toNat (by omega) (by omega)
    rw [c3] at this; cases this

theorem accept_least {its : List Item} {wt S T : Int} {codes c v : List Int} {m : Nat} (hA : Accepts its wt S codes c) (hv : IsLst its wt v) (hm : IsMx v m) (hT : LongSpec m T) : T = S := by
  have hA' := hA
  obtain ⟨hG, hrel, hC, b0, b, b1, b2, b3⟩ := hA
  obtain ⟨_, _, q2, q3⟩ := bdr_le hG.job hv hC c.length (Nat.le_refl _)
  have h1 : S ≤ T := by
    refine long_mono ?_ b3 hT
    by_cases hz : 0 < c.length
    · have := q2 hz
      have := hm.1 (c.getD (c.length - 1) 0).toNat
      omega
    · have := q3 (by omega)
      omega
  have h2 : T ≤ S := by
    have hle := upper_le hG.job (codes_upper hG hrel) hv
    have hmS : m < 2 ^ S.toNat := by
      rcases hm.2 with e | ⟨y, hy, e⟩
      · rw [e]; exact Nat.two_pow_pos _
      · have hyl : y < its.length := by rw [← hv.len]; exact hy
        have hyc : y < codes.length := by rw [hG.cl]; exact hyl
        obtain ⟨c1, c2, _⟩ := hG.code y _ _ (List.getElem?_eq_getElem hyl) (List.getElem?_eq_getElem hyc)
        have hcd : codes.getD y 0 = codes[y] := by rw [List.getD_eq_getElem?_getD, List.getElem?_eq_getElem hyc]; rfl
        have := hle y hyl
        omega
    obtain ⟨n, rfl, hn, h3, h4⟩ := hT
    rcases h4 with rfl | h4
    · have := hG.st; omega
    · rcases Nat.lt_or_ge S.toNat n with q | q
      · have h5 : 2 ^ S.toNat ≤ 2 ^ (n - 1) := Nat.pow_le_pow_right (by omega) (by omega)
        rw [Nat.div_eq_of_lt (by omega)] at h4
        cases h4
      · have := hG.st; omega
  omega

theorem certProves_ok (l : List Int) : law15_CertificateProves l = some true := by
  unfold law15_CertificateProves gen_New
  simp only [obind]
  obtain ⟨its, wt, k, h1, k0, k1, _, hg, _⟩ := job_ok l 0 12 (by omega) (by omega)
  have hl := hg.len
  rw [h1]
  simp only [obind]
  rcases Make_ok0 hg with ⟨v, T, m, w, hv, hm, hT, hA, hwl, m1, hLeast⟩ | m1
  rotate_left
  · rw [m1]
    simp only [obind]
    rw [if_pos (by decide), if_pos (by decide), sane15_ok]
    rfl
  have hvl := hv.len
  have hc := hv.c12 hg
  rw [m1]
  simp only [obind, bne_self_eq_false, Bool.false_eq_true, if_false]
  obtain ⟨e0, e1, e2, _⟩ := Check_ok0 its wt T v w (by omega)
  have he0 := e2.2 hA
  subst he0
  rw [e1]
  simp only [obind, bne_self_eq_false, Bool.false_eq_true, if_false]
  have hT12 := hA.1.st
  obtain ⟨d, g1, g2⟩ := loop_inv (step := law15_CertificateProves_L25 (l, 0) ((its, wt), k)) (fun s => ∃ (k2 S : Int) (codes c : List Int) (i : Nat), s = (k2, S, codes, c, (i : Int)) ∧ i ≤ 4 ∧ codes.length = its.length ∧ c.length ≤ 41 ∧ k ≤ k2 ∧ k2 ≤ k + 10 * i ∧ -(i : Int) ≤ S ∧ S ≤ 12 + i ∧ ∀ y, -(4095 + 4 * (i : Int)) ≤ codes.getD y 0 ∧ codes.getD y 0 ≤ 4095 + 4 * (i : Int)) (fun s => 4 - s.2.2.2.2.toNat) (fun d => d = .inr ()) (by
    rintro _ ⟨k2, S, codes, c, i, rfl, hi, hcl, hcc, q1, q2, q3, q4, q5⟩
    unfold law15_CertificateProves_L25
    simp only
    by_cases h : i < 4
    · rw [if_pos (dpos (by omega))]
      obtain ⟨e, f1, f2, _⟩ := Check_ok0 its wt S codes c (by omega)
      obtain ⟨S3, v3, w3, k3, t1, t2, t3, t4, t5, t6, t7, t8⟩ := spoil15_ok l k2 S codes c (by omega) (by omega) (by omega) (by omega) (4095 + 4 * (i : Int)) (by omega) q5
      have hnext : ∃ (k2 S : Int) (codes c : List Int) (i2 : Nat), (k3, S3, v3, w3, (i : Int) + 1) = (k2, S, codes, c, (i2 : Int)) ∧ i2 ≤ 4 ∧ codes.length = its.length ∧ c.length ≤ 41 ∧ k ≤ k2 ∧ k2 ≤ k + 10 * i2 ∧ -(i2 : Int) ≤ S ∧ S ≤ 12 + i2 ∧ ∀ y, -(4095 + 4 * (i2 : Int)) ≤ codes.getD y 0 ∧ codes.getD y 0 ≤ 4095 + 4 * (i2 : Int) :=
        ⟨k3, S3, v3, w3, i + 1, rfl, by omega, by omega, by omega, by omega, by omega, by omega, by omega, fun y => by have := t8 y; omega⟩
      rw [f1]
      simp only [obind]
      rw [wr_id (n := (i : Int) + 1) (by omega) (by omega)]
      by_cases h0 : e = 0
      · have hAc := f2.1 h0
        have hST := accept_least hAc hv hm hT
        obtain ⟨hG, hrel, _⟩ := hAc
        have hrl : (rows ((yard its S codes).B (S.toNat + 1)) (trains its)).length ≤ 1000 := by rw [rows_len]; have := T_le hG; omega
        obtain ⟨b, b1, b2⟩ := jsorted_ok hG.job _ hrl
        have hb : b = true := b2.2 ((sorted_iff hG).2 hrel)
        subst hb
        rw [if_pos (by rw [h0]; rfl), Run_ok hG]
        simp only [obind]
        rw [b1]
        simp only [obind]
        rw [hLeast]
        simp only [obind, bne_self_eq_false, Bool.false_eq_true, if_false, Bool.not_true]
        rw [if_neg (by rw [hST]; simp), t1]
        simp only [obind]
        exact .inl ⟨_, rfl, hnext, by simp only; omega⟩
      · rw [if_neg (by rw [beq_iff_eq]; exact h0), t1]
        simp only [obind]
        exact .inl ⟨_, rfl, hnext, by simp only; omega⟩
    · rw [if_neg (dneg (by omega))]
      exact .inr ⟨_, rfl, rfl⟩) (k, T, v, w, 0) ⟨k, T, v, w, 0, rfl, by omega, hvl, hwl, by omega, by omega, by omega, by omega, fun y => by have := hc y; omega⟩ (by simp)
  rw [g1, g2]
  simp only [obind]
  rw [sane15_ok]
  rfl
end Go.Proofs.Ytcignnfdpgeogaa
