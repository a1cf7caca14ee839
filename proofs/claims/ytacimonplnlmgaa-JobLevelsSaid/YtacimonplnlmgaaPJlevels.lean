/- Plain law of JobLevels: each level is what the items before it need. No condition. -/
import Derived.Test.YtacimonplnlmgaaPJsane
import Derived.Test.YtacimonplnlmgaaGJobLevels
set_option linter.unusedVariables false
set_option linter.unusedSectionVars false
set_option maxRecDepth 100000
namespace Go.Proofs.Ytacimonplnlmgaa
open Go Go.V Go.Proofs

theorem JL18_ok {its : List Item} {wt : Int} (hg : JobGood its wt) {v : List Int} (hv : IsLev its v) (hB : LevB its v) (k e : Int) (y : Nat) (hy : y < its.length) :
    loop (law11_JobLevels_L18 ((its, wt), k) (v, e) (y : Int)) (0, 0) = some (.inr (need its v y)) := by
  have hl := hg.len
  obtain ⟨d, h1, h2⟩ := loop_inv (step := law11_JobLevels_L18 ((its, wt), k) (v, e) (y : Int)) (fun s => ∃ m : Nat, s = (needU its v y m, (m : Int)) ∧ m ≤ its.length) (fun s => its.length - s.2.toNat)
    (fun d => d = .inr (need its v y)) (by
    rintro _ ⟨m, rfl, hm⟩
    unfold law11_JobLevels_L18
    simp only [hv.len]
    by_cases h : m < its.length
    · rw [if_pos (dpos (by omega)), Relation_good hg m y h hy]
      simp only [Option.bind_some, bne_self_eq_false, Bool.false_eq_true, if_false]
      by_cases hr : rel its m y > 0
      · have hvm := hB m
        have hbm := hg.b m
        have hrr := rel_range its m y
        rw [if_pos (dpos hr), idx_getD (by rw [hv.len]; exact h)]
        simp only [Option.bind_some]
        rw [wr_id (n := v.getD m 0 + rel its m y) (by omega) (by omega), wr_id (n := v.getD m 0 + rel its m y - 1) (by omega) (by omega), wr_id (n := (m : Int) + 1) (by omega) (by omega)]
        refine .inl ⟨_, rfl, ⟨m + 1, ?_, by omega⟩, by simp only; omega⟩
        simp only [needU, if_pos hr]
        rfl
      · rw [if_neg (dneg hr), wr_id (by omega) (by omega)]
        refine .inl ⟨_, rfl, ⟨m + 1, ?_, by omega⟩, by simp only; omega⟩
        simp only [needU, if_neg hr]
        rfl
    · rw [if_neg (dneg (by omega))]
      have : m = its.length := by omega
      subst this
      exact .inr ⟨_, rfl, rfl⟩) (0, 0) ⟨0, rfl, by omega⟩ (by simp; omega)
  rw [h1, h2]

theorem jobLevels_ok (l : List Int) : law11_JobLevels l = some true := by
  unfold law11_JobLevels gen_New
  simp only [Option.bind_some]
  obtain ⟨its, wt, k, h1, _, _, _, hg, _⟩ := job_ok l 0 14 (by omega) (by omega)
  obtain ⟨v, h2, _, hv, hB⟩ := Levels_good hg
  have hl := hg.len
  rw [h1]
  simp only [Option.bind_some]
  rw [h2]
  simp only [Option.bind_some, bne_self_eq_false, Bool.false_eq_true, if_false, hv.len]
  have h3 := loop_count (law11_JobLevels_L16 ((its, wt), k) (v, 0)) (.inr ()) 0 its.length (by omega) (by omega) (fun y _ hy => by
    unfold law11_JobLevels_L16
    simp only [hv.len]
    rw [if_pos (dpos (by omega)), JL18_ok hg hv hB k 0 y hy]
    simp only [Option.bind_some]
    rw [idx_getD (by rw [hv.len]; exact hy)]
    simp only [Option.bind_some]
    rw [if_neg (by rw [hv.eq y hy]; simp), wr_id (by omega) (by omega)]) (by
    unfold law11_JobLevels_L16
    simp only [hv.len]
    rw [if_neg (dneg (by omega))])
  rw [show ((0 : Nat) : Int) = 0 from rfl] at h3
  rw [h3]
  simp only [Option.bind_some]
  rw [sane11_ok]
  rfl
end Go.Proofs.Ytacimonplnlmgaa
