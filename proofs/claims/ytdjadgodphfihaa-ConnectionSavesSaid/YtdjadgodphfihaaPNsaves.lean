/- Plain law of ConnectionSaves: the best departure, for any costs, is one of Saves, and Saves ascend from the planned time. No condition. -/
import Derived.Test.YtdjadgodphfihaaPNconn
import Derived.Test.YtdjadgodphfihaaGConnectionSaves
set_option linter.unusedVariables false
set_option linter.unusedSectionVars false
set_option linter.unusedSimpArgs false
set_option maxRecDepth 100000
namespace Go.Proofs.Ytdjadgodphfihaa
open Go Go.V Go.Proofs

theorem place_ok (p n : Int) (hn : 1 ≤ n ∧ n ≤ 2000000) : ∃ q, yardgen_Place p n = some q ∧ 0 ≤ q ∧ q < n := by
  obtain ⟨h1, h2⟩ := tmod_range p n (by omega)
  unfold yardgen_Place
  rw [if_neg (dneg (by omega)), if_pos (by omega)]
  by_cases h : Int.tmod p n < 0
  · rw [if_pos (dpos h), wr_id (by omega) (by omega)]
    exact ⟨_, rfl, by omega, by omega⟩
  · rw [if_neg (dneg h)]
    exact ⟨_, rfl, by omega, by omega⟩

theorem connSaves_ok (l : List Int) (p1 p2 : Int) : law41_ConnectionSaves l p1 p2 = some true := by
  unfold law41_ConnectionSaves gen_New
  simp only [obind]
  obtain ⟨P, L, rd, mi, ms, k, h1, hc, _, _⟩ := made_ok l
  have hp := hc.p
  have hl := hc.l
  have hsl := svs_len hc
  have hpos := svs_pos P L rd
  rw [h1]
  simp only [obind]
  rw [Saves_good hc]
  simp only [obind, bne_self_eq_false, Bool.false_eq_true, if_false]
  rw [if_neg (by rw [beq_iff_eq]; omega), show (0 : Int) = ((0 : Nat) : Int) from rfl, idx_getD hpos]
  simp only [obind]
  rw [svs_head hc, if_neg (by simp), wr_id (n := ((svs P L rd).length : Int) - 1) (by omega) (by omega), show ((svs P L rd).length : Int) - 1 = (((svs P L rd).length - 1 : Nat) : Int) by omega, idx_getD (by omega)]
  simp only [obind]
  have hlast := svs_range hc (svs_at (show (svs P L rd).length - 1 < (svs P L rd).length by omega))
  obtain ⟨mi', e1, a0, a1⟩ := place_ok p1 1000001 (by omega)
  obtain ⟨ms', e2, b0, b1⟩ := place_ok p2 1000001 (by omega)
  rw [if_neg (dneg (by omega)), e1]
  simp only [obind]
  rw [e2]
  simp only [obind]
  have hc' : CV P L rd mi' ms' := ⟨hc.r, hc.p, hc.l, hc.n, by omega, by omega⟩
  obtain ⟨b, h2, hb, _⟩ := Best_good hc'
  rw [h2]
  simp only [obind]
  obtain ⟨jb, hjb, ejb⟩ := List.getElem_of_mem hb
  have hjb' : (svs P L rd).getD jb 0 = b := by rw [List.getD_eq_getElem?_getD, List.getElem?_eq_getElem hjb]; exact ejb
  obtain ⟨d, g1, g2⟩ := loop_inv (step := law41_ConnectionSaves_L29 (svs P L rd, 0) (b, cost P rd mi' ms' b, 0)) (fun s => ∃ (f : Bool) (i : Nat), s = (f, (i : Int)) ∧ i ≤ (svs P L rd).length ∧ (jb < i → f = true)) (fun s => (svs P L rd).length - s.2.toNat) (fun d => d = .inr true) (by
    rintro _ ⟨f, i, rfl, hi, hf⟩
    unfold law41_ConnectionSaves_L29
    simp only
    by_cases h : i < (svs P L rd).length
    · rw [if_pos (dpos (by omega))]
      have hJ : ∀ g : Bool, (jb < i + 1 → g = true) → ∃ s', law41_ConnectionSaves_J31 (svs P L rd, 0) (i : Int) g = some (.next s') ∧ (∃ (f : Bool) (i : Nat), s' = (f, (i : Int)) ∧ i ≤ (svs P L rd).length ∧ (jb < i → f = true)) ∧ (svs P L rd).length - s'.2.toNat < (svs P L rd).length - ((i : Int)).toNat := by
        intro g hg
        unfold law41_ConnectionSaves_J31
        simp only
        by_cases h0 : 0 < i
        · have := svs_lt (P := P) (L := L) (rd := rd) (i := i - 1) (j := i) (by omega) h
          rw [if_pos (dpos (by omega)), idx_getD h]
          simp only [obind]
          rw [wr_id (n := (i : Int) - 1) (by omega) (by omega), show (i : Int) - 1 = ((i - 1 : Nat) : Int) by omega, idx_getD (by omega)]
          simp only [obind]
          rw [if_neg (dneg (by omega)), wr_id (by omega) (by omega)]
          exact ⟨_, rfl, ⟨g, i + 1, rfl, by omega, hg⟩, by simp only; omega⟩
        · rw [if_neg (dneg (by omega)), wr_id (by omega) (by omega)]
          exact ⟨_, rfl, ⟨g, i + 1, rfl, by omega, hg⟩, by simp only; omega⟩
      cases f with
      | true =>
        rw [if_pos rfl]
        exact .inl (hJ true (fun _ => rfl))
      | false =>
        rw [if_neg (by decide), idx_getD h]
        simp only [obind]
        refine .inl (hJ _ (fun hj => ?_))
        have hnj : ¬ jb < i := fun q => by have := hf q; cases this
        have : jb = i := by omega
        subst this
        rw [hjb']; simp
    · rw [if_neg (dneg (by omega)), hf (by omega)]
      exact .inr ⟨_, rfl, rfl⟩) (false, 0) ⟨false, 0, rfl, by omega, fun h => by omega⟩ (by simp; omega)
  rw [show ((0 : Nat) : Int) = 0 from rfl] at *
  rw [g1, g2]
  simp only [obind]
  rw [if_pos (by simp), if_pos trivial, sane41_ok]
  rfl
end Go.Proofs.Ytdjadgodphfihaa
