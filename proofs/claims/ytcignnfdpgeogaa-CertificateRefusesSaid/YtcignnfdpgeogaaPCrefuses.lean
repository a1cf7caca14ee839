/- Plain law of CertificateRefuses: a plan with one step more than the least one, or codes that break a relation, is never accepted. No condition. -/
import Derived.Test.YtcignnfdpgeogaaPCsane
import Derived.Test.YtcignnfdpgeogaaGCertificateRefuses
set_option linter.unusedVariables false
set_option linter.unusedSectionVars false
set_option linter.unusedSimpArgs false
set_option maxRecDepth 100000
namespace Go.Proofs.Ytcignnfdpgeogaa
open Go Go.V Go.Proofs

/-- An accepted proof has the least number of steps. -/
theorem accept_steps {its : List Item} {wt S T : Int} {codes c v : List Int} {m : Nat} (hA : Accepts its wt S codes c) (hv : IsLst its wt v) (hm : IsMx v m) (hT : LongSpec m T) : S ≤ T := by
  obtain ⟨hG, hrel, hC, b0, b, b1, b2, b3⟩ := hA
  obtain ⟨_, _, q2, q3⟩ := bdr_le hG.job hv hC c.length (Nat.le_refl _)
  refine long_mono ?_ b3 hT
  by_cases hz : 0 < c.length
  · have := q2 hz
    have := hm.1 (c.getD (c.length - 1) 0).toNat
    omega
  · have := q3 (by omega)
    omega

theorem certRefuses_ok (l chain : List Int) : law15_CertificateRefuses l chain = some true := by
  unfold law15_CertificateRefuses gen_New
  simp only [obind]
  obtain ⟨its, wt, k, h1, k0, k1, _, hg, _⟩ := job_ok l 0 12 (by omega) (by omega)
  have hl := hg.len
  rw [h1]
  simp only [obind]
  rcases Make_ok0 hg with ⟨v, S, m, w, hv, hm, hS, hA, hwl, m1, _⟩ | m1
  rotate_left
  · rw [m1]
    simp only [obind]
    rw [if_pos (by decide)]
    unfold law15_CertificateRefuses_J21
    rw [if_pos rfl]
    simp only
    rw [if_neg (by decide), if_pos (by decide), sane15_ok]
    rfl
  have hvl := hv.len
  have hc := hv.c12 hg
  rw [m1]
  simp only [obind, bne_self_eq_false, Bool.false_eq_true, if_false]
  cases ht : decide ((chain.length : Int) > 40) with
  | true =>
    unfold law15_CertificateRefuses_J21
    rw [if_pos rfl]
    simp only
    rw [if_pos (by simp), sane15_ok]
    rfl
  | false =>
    unfold law15_CertificateRefuses_J21
    rw [if_neg (by decide)]
    have hS12 := hA.1.st
    obtain ⟨d, g1, g2⟩ := loop_inv (step := law15_CertificateRefuses_L33 chain ((its, wt), k) (((S, v), w), 0)) (fun s => ∃ (c : List Int) (i : Nat), s = (c, (i : Int)) ∧ i ≤ 3) (fun s => 3 - s.2.toNat) (fun d => d = .inr ()) (by
      rintro _ ⟨c, i, rfl, hi⟩
      unfold law15_CertificateRefuses_L33
      simp only
      by_cases h : i < 3
      · obtain ⟨c', hc'⟩ : ∃ c', ([w, [], chain] : List (List Int))[i]? = some c' := ⟨_, List.getElem?_eq_getElem (by simpa using h)⟩
        rw [if_pos (dpos (by simp only [List.length_cons, List.length_nil]; omega)), idx_nat, hc']
        simp only [obind]
        rw [wr_id (n := S + 1) (by omega) (by omega)]
        obtain ⟨e, e1, e2, _⟩ := Check_ok0 its wt (S + 1) v c' (by omega)
        have hne : e ≠ 0 := fun q => by
          have := accept_steps (e2.1 q) hv hm hS
          omega
        rw [e1]
        simp only [obind]
        rw [if_neg (by rw [beq_iff_eq]; exact hne), wr_id (by omega) (by omega)]
        exact .inl ⟨_, rfl, ⟨c', i + 1, rfl, by omega⟩, by simp only; omega⟩
      · rw [if_neg (dneg (by simp only [List.length_cons, List.length_nil]; omega))]
        exact .inr ⟨_, rfl, rfl⟩) (w, 0) ⟨w, 0, rfl, by omega⟩ (by simp)
    simp only
    rw [g1, g2]
    simp only [obind]
    have h45 : ∀ y : Nat, y < its.length → loop (law15_CertificateRefuses_L45 ((its, wt), k) (((S, v), w), 0) (y : Int)) 0 = some (.inr ()) := fun y hy => by
      have h := loop_count (law15_CertificateRefuses_L45 ((its, wt), k) (((S, v), w), 0) (y : Int)) (.inr ()) 0 its.length (by omega) (by omega) (fun x _ hx => by
        unfold law15_CertificateRefuses_L45
        simp only [hvl]
        rw [if_pos (dpos (by omega)), kind_ok its wt x y hx hy]
        simp only [obind]
        rw [wr_id (n := (x : Int) + 1) (by omega) (by omega)]
        by_cases hr0 : rel its x y = 0
        · rw [if_pos (by rw [hr0]; rfl)]
        · have hrr := rel_range its x y
          have hr : rel its x y > 0 := by omega
          have hcx := hc x
          have hcy := hc y
          have hsr := str_range its x y
          rw [if_neg (by rw [beq_iff_eq]; exact hr0), idx_getD (l := v) (i := x) (by omega)]
          simp only [obind]
          rw [idx_getD (l := v) (i := y) (by omega)]
          simp only [obind]
          rw [strict_ok its wt x y hx hy]
          simp only [obind]
          rw [wr_id (n := v.getD x 0 + str its x y) (by omega) (by omega), str_eq hr]
          by_cases heq : v.getD x 0 + (rel its x y - 1) = v.getD y 0
          · rw [if_neg (by rw [heq]; simp)]
            by_cases hz : v.getD y 0 = 0
            · rw [if_pos (by rw [hz]; rfl)]
            · rw [if_neg (by rw [beq_iff_eq]; exact hz), if_pos (by simp only [List.length_nil]; omega)]
              simp only [List.nil_append]
              rw [idx_getD (l := v) (i := y) (by omega)]
              simp only [obind, Int.toNat_natCast]
              rw [wr_id (n := v.getD y 0 - 1) (by omega) (by omega)]
              obtain ⟨e, e1, _, e3, e4⟩ := Check_ok0 its wt S (v.set y (v.getD y 0 - 1)) w (by omega)
              have hxy : x ≠ y := fun q => by subst q; have := (rel_blk hr).1; omega
              have hbad : ¬ RelOK its (v.set y (v.getD y 0 - 1)) := fun q => by
                have := q x y hr
                rw [getD_set, getD_set, if_neg (fun z => hxy z.1.symm), if_pos ⟨rfl, by omega⟩] at this
                omega
              have he : e = 12 ∨ e = 1 := by
                by_cases hgd : Good its wt S (v.set y (v.getD y 0 - 1))
                · exact .inl (e3 hgd hbad)
                · exact .inr (e4 hg hgd)
              rw [e1]
              simp only [obind]
              rcases he with rfl | rfl
              · rw [if_neg (by decide)]
              · rw [if_pos (by decide), if_neg (by decide)]
          · rw [if_pos (bne_iff_ne.2 heq)]) (by
        unfold law15_CertificateRefuses_L45
        simp only [hvl]
        rw [if_neg (dneg (by omega))])
      rw [show ((0 : Nat) : Int) = 0 from rfl] at h
      exact h
    have h := loop_count (law15_CertificateRefuses_L43 ((its, wt), k) (((S, v), w), 0)) (.inr ()) 0 its.length (by omega) (by omega) (fun y _ hy => by
      unfold law15_CertificateRefuses_L43
      simp only [hvl]
      rw [if_pos (dpos (by omega)), h45 y hy]
      simp only [obind]
      rw [wr_id (by omega) (by omega)]) (by
      unfold law15_CertificateRefuses_L43
      simp only [hvl]
      rw [if_neg (dneg (by omega))])
    rw [show ((0 : Nat) : Int) = 0 from rfl] at h
    rw [h]
    simp only [obind]
    rw [sane15_ok]
    rfl
end Go.Proofs.Ytcignnfdpgeogaa
