/- Plain law of JobChain: the deepest chain is a chain, and as many of its steps are strict as the greatest level says. No condition. -/
import Derived.Test.YtacimonplnlmgaaPJdeep
import Derived.Test.YtacimonplnlmgaaGJobChain
set_option linter.unusedVariables false
set_option linter.unusedSectionVars false
set_option linter.unusedSimpArgs false
set_option maxRecDepth 100000
namespace Go.Proofs.Ytacimonplnlmgaa
open Go Go.V Go.Proofs

theorem JC20_ok (v : List Int) (e m : Int) (hl : v.length ≤ 1000) (h0 : 0 ≤ m) (hle : ∀ i, i < v.length → v.getD i 0 ≤ m) (hat : m = 0 ∨ ∃ i, i < v.length ∧ v.getD i 0 = m) : loop (law11_JobChain_L20 (v, e)) (0, 0) = some m := by
  obtain ⟨d, h1, h2⟩ := loop_inv (step := law11_JobChain_L20 (v, e)) (fun s => ∃ (i : Nat) (x : Int), s = (x, (i : Int)) ∧ i ≤ v.length ∧ 0 ≤ x ∧ x ≤ m ∧ ∀ j, j < i → v.getD j 0 ≤ x) (fun s => v.length - s.2.toNat)
    (fun x => 0 ≤ x ∧ x ≤ m ∧ ∀ j, j < v.length → v.getD j 0 ≤ x) (by
    rintro _ ⟨i, x, rfl, hi, hx0, hxm, hj⟩
    unfold law11_JobChain_L20
    simp only
    by_cases hil : i < v.length
    · have := hle i hil
      rw [if_pos (dpos (by omega)), idx_getD hil]
      simp only [Option.bind_some]
      rw [wr_id (by omega) (by omega)]
      refine .inl ⟨_, rfl, ⟨i + 1, _, rfl, by omega, by split <;> omega, by split <;> omega, fun j hji => ?_⟩, by simp only; omega⟩
      by_cases e : j = i
      · subst e; split <;> omega
      · have := hj j (by omega)
        split <;> omega
    · rw [if_neg (dneg (by omega))]
      exact .inr ⟨_, rfl, hx0, hxm, fun j hjl => hj j (by omega)⟩) (0, 0) ⟨0, 0, rfl, by omega, by omega, h0, fun j h => by omega⟩ (by simp; omega)
  obtain ⟨p1, p2, p3⟩ := h2
  have : d = m := by
    rcases hat with h | ⟨i, hi, h⟩
    · omega
    · have := p3 i hi; omega
  rw [h1, this]

theorem jobChain_ok (l : List Int) : law11_JobChain l = some true := by
  unfold law11_JobChain gen_New
  simp only [Option.bind_some]
  obtain ⟨its, wt, k, h1, _, _, _, hg, _⟩ := job_ok l 0 20 (by omega) (by omega)
  obtain ⟨v, h2, hlv, hv, hB⟩ := Levels_good hg
  have hl := hg.len
  have hvl := hv.len
  rw [h1]
  simp only [obind]
  rw [h2]
  simp only [obind]
  rcases Deepest_good hg hv hB hlv with ⟨h0, hD⟩ | ⟨y0, hy0, hmax, _, hD⟩
  · rw [hD]
    simp only [obind, bne_self_eq_false, Bool.false_eq_true, if_false]
    have hv0 : v.length = 0 := by omega
    rw [if_neg (by simp [hvl]), if_neg (by rw [hv0]; decide), JC20_ok v 0 0 (by omega) (by omega) (fun i hi => by omega) (.inl rfl)]
    simp only [obind]
    rw [show loop (law11_JobChain_L25 ((its, wt), k) ([], 0)) (0, 1) = some (.inr 0) from loop_of 1 (by omega) rfl]
    simp only [obind]
    rw [if_pos (by decide), sane11_ok]
    rfl
  · rw [hD]
    simp only [obind, bne_self_eq_false, Bool.false_eq_true, if_false]
    obtain ⟨f1, f2, f3, f4, f5⟩ := down_facts hg hv hB 40 y0 (by have := hg.b y0; omega) hy0
    generalize down its v 40 y0 = c at f1 f2 f3 f4 f5 ⊢
    have hc0 : 0 < c.length := (List.getElem?_eq_some_iff.1 f2).1
    have hrev : ∀ i : Nat, i < c.length → c.reverse[i]? = c[c.length - 1 - i]? := fun i hi => List.getElem?_reverse hi
    rw [if_neg (by simp [hvl]), if_neg (by rw [castL_len, List.length_reverse, beq_eq_false_iff_ne.2 (by omega : (c.length : Int) ≠ 0), beq_eq_false_iff_ne.2 (by omega : (v.length : Int) ≠ 0)]; decide), JC20_ok v 0 (v.getD y0 0) (by omega) (hB y0).1 (fun i hi => hmax i (by omega)) (.inr ⟨y0, by omega, rfl⟩)]
    simp only [obind]
    obtain ⟨d, g1, g2⟩ := loop_inv (step := law11_JobChain_L25 ((its, wt), k) (castL c.reverse, 0)) (fun s => ∃ (i a : Nat), s = (v.getD a 0, (i : Int)) ∧ 1 ≤ i ∧ i ≤ c.length ∧ c[c.length - i]? = some a) (fun s => c.length - s.2.toNat)
      (fun d => d = .inr (v.getD y0 0)) (by
      rintro _ ⟨i, a, rfl, hi1, hi, ha⟩
      unfold law11_JobChain_L25
      simp only [castL_len, List.length_reverse]
      by_cases hil : i < c.length
      · have hb : c[c.length - 1 - i]? = some c[c.length - 1 - i] := List.getElem?_eq_getElem (by omega)
        generalize c[c.length - 1 - i] = b at hb
        obtain ⟨r1, r2⟩ := f3 (c.length - 1 - i) b a hb (by rw [show c.length - 1 - i + 1 = c.length - i by omega]; exact ha)
        have hal := f1 a (List.mem_of_getElem? ha)
        have hbl := f1 b (List.mem_of_getElem? hb)
        have hva := hB a
        have hba := hg.b a
        have hrr := rel_range its a b
        rw [if_pos (dpos (by omega)), wr_id (n := (i : Int) - 1) (by omega) (by omega), show (i : Int) - 1 = ((i - 1 : Nat) : Int) by omega, idx_nat, castL_get, hrev (i - 1) (by omega),
          show c.length - 1 - (i - 1) = c.length - i by omega, ha]
        simp only [Option.map_some, obind]
        rw [idx_nat, castL_get, hrev i hil, hb]
        simp only [Option.map_some, obind]
        rw [Relation_good hg a b hal hbl]
        simp only [obind, bne_self_eq_false, Bool.false_eq_true, if_false]
        rw [if_neg (by simp; omega), wr_id (n := rel its a b - 1) (by omega) (by omega), wr_id (n := v.getD a 0 + (rel its a b - 1)) (by omega) (by omega), wr_id (n := (i : Int) + 1) (by omega) (by omega)]
        refine .inl ⟨_, rfl, ⟨i + 1, b, ?_, by omega, by omega, by rw [show c.length - (i + 1) = c.length - 1 - i by omega]; exact hb⟩, by simp only; omega⟩
        rw [r2, show v.getD a 0 + (rel its a b - 1) = v.getD a 0 + rel its a b - 1 by omega]
        rfl
      · rw [if_neg (dneg (by omega))]
        refine .inr ⟨_, rfl, ?_⟩
        rw [show c.length - i = 0 by omega, f2] at ha
        cases ha
        rfl) (0, 1) (by
      have hlast : c[c.length - 1]? = some c[c.length - 1] := List.getElem?_eq_getElem (by omega)
      refine ⟨1, c[c.length - 1], ?_, by omega, by omega, hlast⟩
      rw [f4 _ hlast]
      rfl) (by simp; omega)
    rw [g1, g2]
    simp only [obind]
    rw [if_pos (by simp), sane11_ok]
    rfl
end Go.Proofs.Ytacimonplnlmgaa
