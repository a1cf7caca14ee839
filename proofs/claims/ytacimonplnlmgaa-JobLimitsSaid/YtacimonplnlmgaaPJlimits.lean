/- Plain law of JobLimits: a job may have exactly 96 items; items in the reverse order of their blocks have the levels of their blocks. The integers are of Go's int. -/
import Derived.Test.YtacimonplnlmgaaPJsane
import Derived.Test.YtacimonplnlmgaaGJobLimits
set_option linter.unusedVariables false
set_option linter.unusedSectionVars false
set_option linter.unusedSimpArgs false
set_option maxRecDepth 100000
namespace Go.Proofs.Ytacimonplnlmgaa
open Go Go.V Go.Proofs

theorem place_ok (p n : Int) (h : -9223372036854775808 ≤ p ∧ p < 9223372036854775808) (hn : 0 < n ∧ n ≤ 1000) : ∃ q : Nat, (Int.tmod (IntKind.i64.wrap ((Int.tmod p n) + n)) n) = (q : Int) ∧ (q : Int) < n := by
  obtain ⟨h1, h2⟩ := tmod_range p n hn.1
  rw [wr_id (by omega) (by omega)]
  have h3 := Int.tmod_nonneg n (by omega : 0 ≤ Int.tmod p n + n)
  obtain ⟨_, h4⟩ := tmod_range (Int.tmod p n + n) n hn.1
  exact ⟨(Int.tmod (Int.tmod p n + n) n).toNat, by omega, by omega⟩

def limIt (B i : Nat) : Item := (15, ((B - i : Nat) : Int), 12, 400)
def limIts (B n : Nat) : List Item := (List.range n).map (limIt B)
theorem lim_get {B n i : Nat} (h : i < n) : (limIts B n)[i]? = some (limIt B i) := by unfold limIts; rw [List.getElem?_map, List.getElem?_range h]; rfl
theorem lim_get' {B n i : Nat} {x : Item} (h : (limIts B n)[i]? = some x) : i < n ∧ x = limIt B i := by
  have hl := (List.getElem?_eq_some_iff.1 h).1
  have hl' : i < n := by simpa [limIts] using hl
  rw [lim_get hl'] at h
  exact ⟨hl', (Option.some.inj h).symm⟩
theorem lim_len (B n : Nat) : (limIts B n).length = n := by simp [limIts]
theorem lim_b {B n i : Nat} (h : i < n) : bOf (limIts B n) i = ((B - i : Nat) : Int) := by unfold bOf; rw [lim_get h]; rfl

theorem lim_good (B n : Nat) (hB : B ≤ 31) (hn : n ≤ 96) : JobGood (limIts B n) 12 := by
  refine ⟨by rw [lim_len]; omega, by omega, fun i x hx => ?_, fun i x y hx hy => ?_⟩
  · obtain ⟨_, rfl⟩ := lim_get' hx
    exact ⟨⟨by simp only [limIt]; omega, by simp only [limIt]; omega⟩, ⟨by simp only [limIt]; omega, by simp only [limIt]; omega⟩, ⟨by simp only [limIt]; omega, by simp only [limIt]; omega⟩, by simp only [limIt]; omega⟩
  · obtain ⟨_, rfl⟩ := lim_get' hx
    obtain ⟨_, rfl⟩ := lim_get' hy
    exact Int.le_refl _
def limLv (B n : Nat) : List Int := (List.range n).map fun i => ((B - i : Nat) : Int)
theorem limLv_get {B n i : Nat} (h : i < n) : (limLv B n).getD i 0 = ((B - i : Nat) : Int) := by
  unfold limLv
  rw [List.getD_eq_getElem?_getD, List.getElem?_map, List.getElem?_range h]; rfl

theorem lim_lev (B n : Nat) (hB : B ≤ 31) (hn : 95 ≤ n) : IsLev (limIts B n) (limLv B n) := by
  refine ⟨by simp [limLv, limIts], fun y hy => ?_⟩
  rw [lim_len] at hy
  rw [limLv_get hy]
  unfold need
  rw [lim_len]
  refine Int.le_antisymm ?_ ?_
  · by_cases h0 : B - y = 0
    · rw [h0]; exact needU_nonneg _ _ _ _
    · have hx : y + 1 < n := by omega
      have hr : rel (limIts B n) (y + 1) y = 2 := by
        unfold rel
        rw [lim_get hx, lim_get hy]
        have hne : ¬ ((limIt B (y + 1)).1 ≠ (limIt B y).1 ∨ (limIt B (y + 1)).2.1 ≥ (limIt B y).2.1) := by simp only [limIt]; omega
        show relI (limIt B (y + 1)) (limIt B y) (y + 1) y = 2
        unfold relI
        rw [if_neg hne, if_pos (by omega)]
      have := needU_ge (limIts B n) (limLv B n) y n (y + 1) hx (by omega)
      rw [limLv_get hx, hr] at this
      omega
  · rcases needU_at (limIts B n) (limLv B n) y n with h0 | ⟨x, h1, h2, h3⟩
    · rw [h0]; omega
    · have hb := (rel_blk h2).1
      rw [lim_b h1, lim_b hy] at hb
      rw [← h3, limLv_get h1]
      rcases rel_range (limIts B n) x y with e | e | e <;> omega

theorem jobLimits_ok (p0 p1 : Int) (h0 : -9223372036854775808 ≤ p0 ∧ p0 < 9223372036854775808) (h1 : -9223372036854775808 ≤ p1 ∧ p1 < 9223372036854775808) : law11_JobLimits p0 p1 = some true := by
  obtain ⟨q0, e0, l0⟩ := place_ok p0 3 h0 (by omega)
  obtain ⟨q1, e1, l1⟩ := place_ok p1 32 h1 (by omega)
  have hN : IntKind.i64.wrap (95 + (q0 : Int)) = ((95 + q0 : Nat) : Int) := by rw [wr_id (by omega) (by omega)]; omega
  have hB : IntKind.i64.wrap ((IntKind.i64.wrap (1 + (q1 : Int))) - 1) = (q1 : Int) := by rw [wr_id (n := 1 + (q1 : Int)) (by omega) (by omega), wr_id (by omega) (by omega)]; omega
  have hloop : loop (law11_JobLimits_L5 p0 p1) (([] : List Item), 0) = some (limIts q1 (95 + q0)) := by
    obtain ⟨d, g1, g2⟩ := loop_inv (step := law11_JobLimits_L5 p0 p1) (fun st => ∃ m : Nat, st = (limIts q1 m, (m : Int)) ∧ m ≤ 95 + q0) (fun st => 95 + q0 - st.2.toNat)
      (fun d => d = limIts q1 (95 + q0)) (by
      rintro _ ⟨m, rfl, hm⟩
      unfold law11_JobLimits_L5
      simp only [e0, e1, hN, hB]
      by_cases h : m < 95 + q0
      · rw [if_pos (dpos (by omega)), if_pos (by rw [lim_len]; simp only [List.length_cons, List.length_nil]; omega), wr_id (n := (q1 : Int) - m) (by omega) (by omega), wr_id (n := (m : Int) + 1) (by omega) (by omega)]
        refine .inl ⟨_, rfl, ⟨m + 1, ?_, by omega⟩, by simp only; omega⟩
        have e : (if (q1 : Int) - m > 0 then (q1 : Int) - m else 0) = ((q1 - m : Nat) : Int) := by split <;> omega
        rw [e]
        unfold limIts
        rw [List.range_succ, List.map_append]
        rfl
      · rw [if_neg (dneg (by omega))]
        have : m = 95 + q0 := by omega
        subst this
        exact .inr ⟨_, rfl, rfl⟩) (([] : List Item), 0) ⟨0, rfl, by omega⟩ (by simp; omega)
    rw [g1, g2]
  unfold law11_JobLimits
  rw [hloop]
  simp only [obind, e0, hN]
  by_cases h97 : q0 = 2
  · have hv : job_Valid (limIts q1 (95 + q0)) 12 = some 3 := by
      unfold job_Valid
      rw [if_pos (dpos (by rw [lim_len]; omega))]
    have hL : job_Levels (limIts q1 (95 + q0)) 12 = some ([], 3) := by
      unfold job_Levels
      rw [hv]; rfl
    rw [hL]
    simp only [obind]
    rw [if_pos (dpos (by omega)), if_pos (by decide), hv]
    simp only [obind]
    rw [if_pos (by decide), if_pos (by decide), sane11_ok]
    rfl
  · have hg := lim_good q1 (95 + q0) (by omega) (by omega)
    obtain ⟨v, h2, _, hv, hBv⟩ := Levels_good hg
    have e : v = limLv q1 (95 + q0) := lev_unique (fun i => (hg.b i).1) hv (lim_lev q1 (95 + q0) (by omega) (by omega))
    have hll : (limLv q1 (95 + q0)).length = 95 + q0 := by simp [limLv]
    subst e
    rw [h2]
    simp only [obind]
    rw [if_neg (dneg (by omega)), if_neg (by simp), if_neg (by rw [hll]; simp)]
    have h3 := loop_count (law11_JobLimits_L22 (limIts q1 (95 + q0)) (limLv q1 (95 + q0), 0)) (.inr ()) 0 (95 + q0) (by omega) (by omega) (fun y _ hy => by
      unfold law11_JobLimits_L22
      simp only [hll]
      rw [if_pos (dpos (by omega)), idx_getD (by rw [hll]; exact hy), idx_nat, lim_get hy]
      simp only [obind]
      rw [limLv_get hy, if_neg (by simp [limIt]), wr_id (by omega) (by omega)]) (by
      unfold law11_JobLimits_L22
      simp only [hll]
      rw [if_neg (dneg (by omega))])
    rw [show ((0 : Nat) : Int) = 0 from rfl] at h3
    rw [h3]
    simp only [obind]
    rw [sane11_ok]
    rfl
end Go.Proofs.Ytacimonplnlmgaa
