/- Plain law of LeastcodeLevels: if all items are of round 0, the least code of each item is the code whose index is its level. No condition. -/
import Derived.Test.YtgdaanhiagoonaaPKlevels0
import Derived.Test.YtgdaanhiagoonaaGLeastcodeLevels
set_option linter.unusedVariables false
set_option linter.unusedSectionVars false
set_option linter.unusedSimpArgs false
set_option maxRecDepth 100000
namespace Go.Proofs.Ytgdaanhiagoonaa
open Go Go.V Go.Proofs

def flat1 (a : Item) : Item := (a.1, a.2.1, 0, a.2.2.2)
theorem KV13_ok (its : List Item) (wt k : Int) (hl : its.length ≤ 1000) : loop (law13_LeastcodeLevels_L13 ((its, wt), k)) (its, 0) = some (its.map flat1) := by
  obtain ⟨d, h1, h2⟩ := loop_inv (step := law13_LeastcodeLevels_L13 ((its, wt), k)) (fun s => ∃ (d : List Item) (i : Nat), s = (d, (i : Int)) ∧ i ≤ its.length ∧ d.length = its.length ∧ ∀ j, d[j]? = if j < i then (its[j]?).map flat1 else its[j]?) (fun s => its.length - s.2.toNat) (fun d => d = its.map flat1) (by
    rintro _ ⟨d, i, rfl, hi, hd, hj⟩
    unfold law13_LeastcodeLevels_L13
    simp only
    by_cases h : i < its.length
    · have hx : its[i]? = some its[i] := List.getElem?_eq_getElem h
      generalize its[i] = a at hx
      rw [if_pos (dpos (by omega)), idx_nat, hj i, if_neg (by omega), hx]
      simp only [obind, Int.toNat_natCast]
      rw [wr_id (by omega) (by omega)]
      refine .inl ⟨_, rfl, ⟨_, i + 1, rfl, by omega, by rw [List.length_set]; exact hd, fun j => ?_⟩, by simp only; omega⟩
      rw [List.getElem?_set]
      by_cases e : i = j
      · subst e
        rw [if_pos rfl, if_pos (by omega), if_pos (by omega), hx]
        rfl
      · rw [if_neg e, hj j]
        by_cases q : j < i
        · rw [if_pos q, if_pos (by omega)]
        · rw [if_neg q, if_neg (by omega)]
    · rw [if_neg (dneg (by omega))]
      refine .inr ⟨_, rfl, ?_⟩
      apply List.ext_getElem? 
      intro j
      rw [hj j, List.getElem?_map]
      by_cases q : j < i
      · rw [if_pos q]
      · rw [if_neg q, List.getElem?_eq_none (by omega)]; rfl) (its, 0) ⟨its, 0, rfl, by omega, rfl, fun j => by rw [if_neg (by omega)]⟩ (by simp; omega)
  rw [h1, h2]

theorem flat_good {its : List Item} {wt : Int} (hg : JobGood its wt) : JobGood (its.map flat1) wt := by
  have key : ∀ (i : Nat) (x : Item), (its.map flat1)[i]? = some x → ∃ a, its[i]? = some a ∧ x = flat1 a := by
    intro i x hx
    rw [List.getElem?_map] at hx
    cases h : its[i]? with
    | none => rw [h] at hx; cases hx
    | some a => rw [h] at hx; cases hx; exact ⟨a, rfl, rfl⟩
  refine ⟨by rw [List.length_map]; exact hg.len, hg.w, fun i x hx => ?_, fun i x y hx hy => ?_⟩
  · obtain ⟨a, ha, rfl⟩ := key i x hx
    obtain ⟨g1, g2, g3, g4⟩ := hg.it i a ha
    exact ⟨g1, g2, ⟨Int.le_refl 0, by show (0 : Int) ≤ 12; omega⟩, g4⟩
  · obtain ⟨a, ha, rfl⟩ := key i x hx
    obtain ⟨b, hb, rfl⟩ := key (i + 1) y hy
    exact Int.le_refl 0
theorem flat_r (its : List Item) (y : Nat) : rOf (its.map flat1) y = 0 := by
  unfold rOf
  rw [List.getElem?_map]
  cases its[y]? <;> rfl

theorem levels13_ok (l : List Int) : law13_LeastcodeLevels l = some true := by
  unfold law13_LeastcodeLevels gen_New
  simp only [obind]
  obtain ⟨its0, wt, k, h1, k0, k1, _, hg0, _⟩ := job_ok l 0 14 (by omega) (by omega)
  have hl0 := hg0.len
  rw [h1]
  simp only [obind]
  rw [KV13_ok its0 wt k (by omega)]
  simp only [obind]
  have hg := flat_good hg0
  have h0 := flat_r its0
  generalize its0.map flat1 = its at hg h0 ⊢
  have hl := hg.len
  have hw := hg.w
  obtain ⟨lv, e1, _, hlv, hB⟩ := Levels_good hg
  have hlvl := hlv.len
  rw [e1]
  simp only [obind]
  have hnth : ∀ y, y < its.length → ∃ p, code_Nth (lv.getD y 0) 0 wt = some p ∧ NthSpec (lv.getD y 0).toNat 0 wt.toNat p := fun y hy => by
    obtain ⟨p, q1, q2⟩ := nth_ok (lv.getD y 0).toNat 0 wt.toNat (by omega) (by omega)
    have := (hB y).1
    rw [show (((lv.getD y 0).toNat : Nat) : Int) = lv.getD y 0 by omega, show ((wt.toNat : Nat) : Int) = wt by omega] at q1
    exact ⟨p, q1, q2⟩
  have hfin : ∀ x20, leastcode_Least its wt = some x20 → LeastSpec its wt x20 → loop (law13_LeastcodeLevels_L28 ((its0, wt), k) (lv, 0) x20) 0 = some (.inl true) ∨ (loop (law13_LeastcodeLevels_L28 ((its0, wt), k) (lv, 0) x20) 0 = some (.inr ()) ∧ x20.2 = 0 ∧ x20.1.2.length = lv.length) := by
    intro x20 _ hx
    obtain ⟨d, g1, g2⟩ := loop_inv (step := law13_LeastcodeLevels_L28 ((its0, wt), k) (lv, 0) x20) (fun s => ∃ i : Nat, s = (i : Int) ∧ i ≤ its.length ∧ ∀ j, j < i → lv.getD j 0 < ((cb (isN 0 wt.toNat) 4096 : Nat) : Int)) (fun s => its.length - s.toNat)
      (fun d => d = .inl true ∨ (d = .inr () ∧ x20.2 = 0 ∧ x20.1.2.length = lv.length)) (by
      rintro _ ⟨i, rfl, hi, hj⟩
      unfold law13_LeastcodeLevels_L28
      simp only [hlvl]
      by_cases h : i < its.length
      · obtain ⟨p, q1, q2⟩ := hnth i h
        have hBi := (hB i).1
        rw [if_pos (dpos (by omega)), idx_getD (by omega)]
        simp only [obind]
        rw [q1]
        simp only [obind]
        rw [wr_id (n := (i : Int) + 1) (by omega) (by omega)]
        rcases q2 with ⟨c, rfl, c1, c2, c3⟩ | ⟨rfl, c1⟩
        · have hlt := cb_lt (isN 0 wt.toNat) c1 c2
          have hnext : ∃ i2 : Nat, (i : Int) + 1 = (i2 : Int) ∧ i2 ≤ its.length ∧ ∀ j, j < i2 → lv.getD j 0 < ((cb (isN 0 wt.toNat) 4096 : Nat) : Int) := ⟨i + 1, rfl, by omega, fun j hji => by
            by_cases e : j = i
            · subst e; omega
            · exact hj j (by omega)⟩
          rw [if_neg (by simp)]
          rcases hx with ⟨v, S, m, hv, rfl, _⟩ | ⟨rfl, _⟩
          · obtain ⟨v0, v1, v2, v3⟩ := lvl_lst hg h0 hlv hv i h
            have hvl := hv.len
            have hvc : (v.getD i 0).toNat = c := by
              rcases Nat.lt_trichotomy (v.getD i 0).toNat c with q | q | q
              · have := cb_lt (isN 0 wt.toNat) q v2; omega
              · exact q
              · have := cb_lt (isN 0 wt.toNat) q c2; omega
            rw [if_pos (by simp), if_neg (dneg (by simp only; omega)), idx_getD (by simp only; omega)]
            simp only [obind]
            rw [if_neg (by rw [show v.getD i 0 = (c : Int) by omega]; simp)]
            exact .inl ⟨_, rfl, hnext, by omega⟩
          · rw [if_neg (by decide)]
            exact .inl ⟨_, rfl, hnext, by omega⟩
        · rw [if_pos (by decide)]
          rcases hx with ⟨v, S, m, hv, rfl, _⟩ | ⟨rfl, _⟩
          · have := lvl_lt hg h0 hlv hv i h
            omega
          · rw [if_pos (by decide), sane13_ok]
            exact .inr ⟨_, rfl, .inl rfl⟩
      · rw [if_neg (dneg (by omega))]
        refine .inr ⟨_, rfl, .inr ⟨rfl, ?_⟩⟩
        rcases hx with ⟨v, S, m, hv, rfl, _⟩ | ⟨rfl, hs⟩
        · exact ⟨rfl, by show v.length = _; rw [hv.len]⟩
        · exact absurd hs (lvl_free hg h0 hlv (fun y hy => hj y (by omega)))) 0 ⟨0, rfl, by omega, fun j h => by omega⟩ (by simp; omega)
    rcases g2 with rfl | ⟨rfl, g2⟩
    · exact .inl g1
    · exact .inr ⟨g1, g2⟩
  obtain ⟨x20, e2, e3⟩ := Least_ok hg
  rw [e2]
  simp only [obind, bne_self_eq_false, Bool.false_eq_true, if_false]
  rw [if_neg (by rw [hlvl]; simp)]
  rcases hfin x20 e2 e3 with g | ⟨g, g1, g2⟩
  · rw [g]; rfl
  · rw [g]
    simp only [obind]
    rw [if_pos (by rw [g1]; rfl), if_pos (by rw [g2]; simp), sane13_ok]
    rfl
end Go.Proofs.Ytgdaanhiagoonaa
