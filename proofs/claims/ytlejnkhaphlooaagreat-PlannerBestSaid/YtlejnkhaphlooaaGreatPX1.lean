/- Plain laws of the functions that the statement reaches, text by text. Conditions: those of each theorem. -/
import Derived.Test.YtlejnkhaphlooaaGreatPX0
import Derived.Test.YtlejnkhaphlooaaGreatGPlannerBest
set_option linter.unusedVariables false
set_option linter.unusedSimpArgs false
set_option maxRecDepth 100000
namespace Go.Proofs.YtlejnkhaphlooaaGreat
open Go Go.V Go.Proofs

theorem best_J (x9 : List Sc × Int) (hs : x9.1.Pairwise bef) (hl : x9.1.length ≤ 4) {i : Nat} (hi : i < x9.1.length) (f : Bool) : law17_PlannerBest_J42 x9 (i : Int) (x9.1[i]) f = some (.next (f, ((i + 1 : Nat) : Int))) := by
  unfold law17_PlannerBest_J42
  by_cases c : i = 0
  · subst c
    rw [if_neg (dneg (by omega)), lk1 (by omega)]
  · obtain ⟨j, rfl⟩ : ∃ j, i = j + 1 := ⟨i - 1, by omega⟩
    have hj : j < x9.1.length := by omega
    have w1 : IntKind.i64.wrap (((j + 1 : Nat) : Int) - 1) = (j : Int) := by rw [wr_id (by omega) (by omega)]; omega
    have hx : idx x9.1 (j : Int) = some x9.1[j] := by rw [idx_nat, List.getElem?_eq_getElem hj]
    have hb : bef x9.1[j] x9.1[j + 1] := List.pairwise_iff_getElem.1 hs j (j + 1) hj hi (by omega)
    generalize x9.1[j] = a at hb hx
    generalize x9.1[j + 1] = b at hb
    unfold bef at hb
    rw [if_pos (dpos (by omega)), w1, hx]
    simp only [obind]
    rw [if_neg (dneg (by omega)), lk1 (by omega)]
    by_cases c1 : b.2.1 = a.2.1
    · rw [if_pos (by simpa using c1), if_neg (dneg (by omega))]
      by_cases c2 : b.2.2.1 = a.2.2.1
      · rw [if_pos (by simpa using c2), if_neg (dneg (by omega))]
      · rw [if_neg (by simpa using c2)]
    · rw [if_neg (by simpa using c1)]
theorem pbest_ok (t : List Int) : law17_PlannerBest t = some true := by
  unfold law17_PlannerBest gen_New
  simp only [obind]
  obtain ⟨its, k1, e1, q1, q2, q3, hg, hN⟩ := made_items t 0 14 (by omega) (by omega)
  rw [e1]
  simp only [obind]
  rw [Schemes_ok hg]
  simp only [obind]
  unfold schR
  by_cases c : schL its = []
  · rw [if_pos c, if_pos (by decide), if_pos (by decide), sane17]
    rfl
  · rw [if_neg c, if_neg (by simp)]
    have hlen : (insAll (schL its)).length ≤ 4 := by rw [insAll_len _ _ rfl]; exact schL_len its
    have hpos : 0 < (insAll (schL its)).length := by rw [insAll_len _ _ rfl]; exact List.length_pos_iff.2 c
    have hsort := schR_sorted hg
    obtain ⟨d, hd, rfl⟩ := loop_inv (step := law17_PlannerBest_L16 (its, k1) (insAll (schL its), 0)) (fun s => ∃ i : Nat, s.2 = (i : Int) ∧ i ≤ (insAll (schL its)).length ∧ (s.1 = true ∨ ∀ j (hj : j < (insAll (schL its)).length), j < i → ¬ ((insAll (schL its))[j].1 = 12 ∧ (insAll (schL its))[j].2.1 = (insAll (schL its))[0].2.1))) (fun s => 4 - s.2.toNat) (fun d => d = .inr true) (by
      rintro ⟨f, _⟩ ⟨i, rfl, hi, hf⟩
      dsimp only at hf ⊢
      unfold law17_PlannerBest_L16
      dsimp only
      by_cases h : i < (insAll (schL its)).length
      · left
        obtain ⟨w, S, v, hw, hs, hP, hl⟩ := schR_mem hg (List.getElem_mem h)
        obtain ⟨_, _, _, _, hG⟩ := id hP
        obtain ⟨cc, hM, hA, _⟩ := make_plan hG.job hl
        have hx : idx (insAll (schL its)) (i : Int) = some (scOf its w S v) := by rw [idx_nat, List.getElem?_eq_getElem h, hs]
        have h0x : idx (insAll (schL its)) 0 = some (insAll (schL its))[0] := by rw [show (0 : Int) = ((0 : Nat) : Int) from rfl, idx_nat, List.getElem?_eq_getElem hpos]
        have hJ := fun f => best_J (insAll (schL its), 0) hsort hlen h f
        rw [hs] at hJ
        rw [if_pos (dpos (by omega)), hx]
        simp only [obind]
        rw [show (scOf its w S v).1 = w from rfl, hM]
        simp only [obind]
        rw [Run_ok hG]
        simp only [obind]
        rw [Pushes_ok' hG]
        simp only [obind]
        rw [if_neg (by decide), if_neg (by decide), if_neg (by decide), if_neg (by simp [scOf]), if_neg (by simp [scOf]), if_neg (by simp [scOf])]
        by_cases c1 : f = true
        · rw [if_pos c1, hJ]
          exact ⟨_, rfl, ⟨i + 1, rfl, by omega, .inl rfl⟩, by dsimp only; omega⟩
        · rw [if_neg c1]
          have hf' := hf.resolve_left c1
          by_cases c2 : w = 12
          · rw [if_pos (by simpa using c2), h0x]
            simp only [obind]
            rw [hJ]
            refine ⟨_, rfl, ⟨i + 1, rfl, by omega, ?_⟩, by dsimp only; omega⟩
            dsimp only
            by_cases c3 : (scOf its w S v).2.1 = (insAll (schL its))[0].2.1
            · left; simpa using c3
            · right
              intro j hj hji hc
              by_cases e : j = i
              · subst e
                rw [hs] at hc
                exact c3 hc.2
              · exact hf' j hj (by omega) hc
          · rw [if_neg (by simpa using c2), hJ]
            refine ⟨_, rfl, ⟨i + 1, rfl, by omega, .inr fun j hj hji hc => ?_⟩, by dsimp only; omega⟩
            by_cases e : j = i
            · subst e
              rw [hs] at hc
              exact c2 hc.1
            · exact hf' j hj (by omega) hc
      · right
        rw [if_neg (dneg (by omega))]
        refine ⟨_, rfl, ?_⟩
        rcases hf with hf | hf
        · rw [hf]
        · exfalso
          obtain ⟨w, S, v, hw, hs, hP, hl⟩ := schR_mem hg (List.getElem_mem hpos)
          obtain ⟨S', v', hP', hle, hm⟩ := geo_least hP
          have hm' := (insAll_mem (scOf its 12 S' v') _ _ rfl).2 hm
          obtain ⟨j, hj, he⟩ := List.getElem_of_mem hm'
          refine hf j hj (by omega) ?_
          rw [he, hs]
          refine ⟨rfl, ?_⟩
          show S' = S
          by_cases c0 : j = 0
          · subst c0
            rw [hs] at he
            have : S = S' := congrArg (fun x : Sc => x.2.1) he
            omega
          · have hb := List.pairwise_iff_getElem.1 hsort 0 j hpos hj (by omega)
            rw [he, hs] at hb
            have hb' : S ≤ S' := by
              rcases hb with hb | ⟨hb, _⟩
              · have : S < S' := hb
                omega
              · have : S = S' := hb
                omega
            omega) (false, 0) ⟨0, rfl, by omega, .inr fun j _ h => by omega⟩ (by dsimp only; omega)
    rw [hd]
    simp only [obind]
    rw [if_pos trivial, sane17]
    rfl
end Go.Proofs.YtlejnkhaphlooaaGreat
