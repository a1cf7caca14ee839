/- Plain laws of the functions that the statement reaches, text by text. Conditions: those of each theorem. -/
import Derived.Test.YtlejnkhaphlooaaGreatPX0
import Derived.Test.YtlejnkhaphlooaaGreatGPlannerRoom
set_option linter.unusedVariables false
set_option linter.unusedSimpArgs false
set_option maxRecDepth 100000
namespace Go.Proofs.YtlejnkhaphlooaaGreat
open Go Go.V Go.Proofs

theorem longer_ok (l b : List Int) (k kk : Int) (hk : 0 ≤ k) (hk2 : k ≤ 100000) (hl : b.length ≤ 31) (hb : ∀ x ∈ b, 300 ≤ x ∧ x ≤ 4000) :
    ∃ k' c, loop (law17_PlannerRoom_L26 (l, 0) (b, kk)) (k, (([] : List Int) ++ b), 0) = some (k', c) ∧ k ≤ k' ∧ k' ≤ k + 32 ∧ c.length = b.length ∧ ∀ i, i < b.length → vw b i ≤ vw c i ∧ vw c i ≤ 5000 := by
  obtain ⟨d, h1, h2⟩ := loop_inv (step := law17_PlannerRoom_L26 (l, 0) (b, kk)) (fun s => ∃ t : Nat, s.2.2 = (t : Int) ∧ t ≤ b.length ∧ k ≤ s.1 ∧ s.1 ≤ k + t ∧ s.2.1.length = b.length ∧ (∀ i, i < t → vw b i ≤ vw s.2.1 i ∧ vw s.2.1 i ≤ 5000) ∧ ∀ i, t ≤ i → i < b.length → vw s.2.1 i = vw b i) (fun s => b.length - s.2.2.toNat)
    (fun d => k ≤ d.1 ∧ d.1 ≤ k + 32 ∧ d.2.length = b.length ∧ ∀ i, i < b.length → vw b i ≤ vw d.2 i ∧ vw d.2 i ≤ 5000) (by
      rintro ⟨e, c, _⟩ ⟨t, rfl, ht, h1, h2, h3, h4, h5⟩
      dsimp only at h1 h2 h3 h4 h5 ⊢
      unfold law17_PlannerRoom_L26
      dsimp only
      rw [List.nil_append]
      by_cases hlt : t < b.length
      · left
        obtain ⟨v, e1, e2⟩ := pick_ok l e [0, 100, 1000] (by omega) (by omega) (by decide) (by decide)
        rw [if_pos (dpos (by omega)), vw_idx (by omega : t < c.length)]
        simp only [obind]
        rw [e1]
        simp only [obind, Int.toNat_natCast]
        have hv : 0 ≤ v ∧ v ≤ 1000 := (by decide : ∀ x ∈ [(0 : Int), 100, 1000], 0 ≤ x ∧ x ≤ 1000) v e2
        have hat := hb _ (vw_mem hlt)
        rw [h5 t (Nat.le_refl _) hlt, wr_id (n := vw b t + v) (by omega) (by omega), lk1 (by omega)]
        refine ⟨_, rfl, ⟨t + 1, rfl, by omega, by dsimp only; omega, by dsimp only; omega, by simp [h3], fun i hi => ?_, fun i hi hi2 => ?_⟩, by dsimp only; omega⟩
        · dsimp only
          rw [vw_set (by omega)]
          by_cases e : i = t
          · subst e; rw [if_pos rfl]; omega
          · rw [if_neg e]; exact h4 i (by omega)
        · dsimp only
          rw [vw_set (by omega), if_neg (by omega)]; exact h5 i (by omega) hi2
      · right
        rw [if_neg (dneg (by omega))]
        obtain rfl : t = b.length := by omega
        exact ⟨_, rfl, h1, by dsimp only; omega, h3, h4⟩) (k, (([] : List Int) ++ b), 0) ⟨0, rfl, by omega, by dsimp only; omega, by dsimp only; omega, by simp, fun i h => by omega, fun i _ _ => by simp⟩ (by dsimp only; omega)
  exact ⟨d.1, d.2, h1, h2⟩

/-- What fits goes on to fit. -/
theorem fit_more {a b c l : List Int} (h : Asg a b l) (hl : b.length ≤ c.length) (hle : ∀ i, i < b.length → vw b i ≤ vw c i) : ¬ Few a c :=
  nofew_f (fun i => (vw l i).toNat) (fun i hi h0 => by
    obtain ⟨t, ht, e1, e2⟩ := h.at_ i hi h0
    have := hle t ht
    rw [e1, Int.toNat_natCast]; exact ⟨by omega, by omega⟩) fun i j hi hj h1 h2 e => by
    obtain ⟨t, _, e1, _⟩ := h.at_ i hi h1
    obtain ⟨u, _, e2, _⟩ := h.at_ j hj h2
    exact h.inj i j hi hj h1 h2 (by omega)
theorem room_ok (t : List Int) : law17_PlannerRoom t = some true := by
  unfold law17_PlannerRoom gen_New
  simp only [obind]
  obtain ⟨its, k1, e1, q1, q2, q3, hg, hN⟩ := made_items t 0 12 (by omega) (by omega)
  rw [e1]
  simp only [obind]
  obtain ⟨tr, k2, e2, a1, a2, _, t4, t5⟩ := tracks_ok t k1 (by omega)
  rw [e2]
  simp only [obind]
  have hT : TrOK tr := tr_ok (by omega) fun x hx => by have := t5 x hx; omega
  obtain ⟨k3, z, f1, f2, f3, f4, f5⟩ := longer_ok t tr k2 k2 (by omega) (by omega) (by omega) t5
  obtain ⟨u, g1, g2⟩ := pick_ok t k3 [300, 4000] (by omega) (by omega) (by decide) (by decide)
  have hu : 300 ≤ u ∧ u ≤ 4000 := (by decide : ∀ x ∈ [(300 : Int), 4000], 300 ≤ x ∧ x ≤ 4000) u g2
  have hT2 : TrOK (z ++ [u]) := tr_ok (by simp; omega) fun x hx => by
    rcases List.mem_append.1 hx with hx | hx
    · obtain ⟨i, hi, rfl⟩ := vw_of_mem hx
      have h1 := f5 i (by omega)
      have h2 := t5 _ (vw_mem (by omega : i < tr.length))
      omega
    · rw [List.mem_singleton.1 hx]; omega
  have more : ∀ {S : Int} {v l : List Int}, Asg (ldOf its S v) tr l → ¬ Few (ldOf its S v) (z ++ [u]) := fun ha => fit_more ha (by simp; omega) fun i hi => by
    have h1 := f5 i hi
    have h2 : vw (z ++ [u]) i = vw z i := by rw [vw_elem (by simp; omega), vw_elem (by omega), List.getElem_append_left]
    omega
  have main : ∃ s r e s' r' e', planner_Plan its tr = some (s, r, e) ∧ planner_Plan its (z ++ [u]) = some (s', r', e') ∧ ((e = 15 ∧ e' = 15) ∨ (e = 14 ∧ e' ≠ 15) ∨ (e = 0 ∧ e' = 0 ∧ s'.2.1.1.1 ≤ s.2.1.1.1)) := by
    obtain ⟨s, r, e, h1, h2⟩ := Plan_ok hg hN hT
    obtain ⟨s', r', e', h3, h4⟩ := Plan_ok hg hN hT2
    refine ⟨s, r, e, s', r', e', h1, h3, ?_⟩
    rcases h2 with ⟨h2, _, _, rfl⟩ | ⟨hne, h2⟩
    · rcases h4 with ⟨_, _, _, rfl⟩ | ⟨hne, _⟩
      · exact .inl ⟨rfl, rfl⟩
      · exact absurd h2 hne
    · rcases h4 with ⟨h4, _, _, _⟩ | ⟨_, h4⟩
      · exact absurd h4 hne
      · cases h2 with
        | room => exact .inr (.inl ⟨rfl, by cases h4 <;> decide⟩)
        | @fits P w S v c l Q hL hP hl hA hc ha hn =>
          have hno : ¬ NoFit its (z ++ [u]) (scOf its w S v) := fun h => by
            obtain ⟨r, hr⟩ := h S v hl
            exact more ha hr.few
          refine .inr (.inr ?_)
          cases h4 with
          | room hL' hP' hl' hM' hr' hn' => exact absurd (hn' _ (by rw [hL]; simp)) hno
          | @fits P' w' S' v' c' l' Q' hL' hP' hl' hA' hc' ha' hn' =>
            refine ⟨rfl, rfl, ?_⟩
            show S' ≤ S
            have hsort := schR_sorted hg
            have hE := hL.symm.trans hL'
            by_cases c1 : P.length < P'.length
            · exfalso
              have h5 : (P ++ scOf its w S v :: Q)[P.length]? = (P' ++ scOf its w' S' v' :: Q')[P.length]? := by rw [hE]
              rw [List.getElem?_append_left c1, List.getElem?_append_right (Nat.le_refl _), Nat.sub_self, List.getElem?_cons_zero] at h5
              exact hno (hn' _ (List.mem_of_getElem? h5.symm))
            · by_cases c2 : P.length = P'.length
              · have h5 := (List.append_inj hE c2).2
                have h6 : S = S' := congrArg (fun x : Sc => x.2.1) (List.cons.inj h5).1
                omega
              · have c3 : P'.length < P.length := by omega
                have h5 : (P ++ scOf its w S v :: Q)[P'.length]? = (P' ++ scOf its w' S' v' :: Q')[P'.length]? := by rw [hE]
                rw [List.getElem?_append_left c3, List.getElem?_append_right (Nat.le_refl _), Nat.sub_self, List.getElem?_cons_zero] at h5
                have h6 := List.mem_of_getElem? h5
                rw [hL] at hsort
                have hb := (List.pairwise_append.1 hsort).2.2 _ h6 (scOf its w S v) List.mem_cons_self
                rcases hb with hb | ⟨hb, _⟩
                · have : S' < S := hb
                  omega
                · have : S' = S := hb
                  omega
  obtain ⟨s, r, e, s', r', e', h1, h3, hm⟩ := main
  rw [h1]
  simp only [obind]
  rw [if_pos (by simp; omega), f1]
  simp only [obind]
  rw [g1]
  simp only [obind]
  rw [if_pos (by simp; omega), h3]
  simp only [obind]
  rcases hm with ⟨rfl, rfl⟩ | ⟨rfl, hm⟩ | ⟨rfl, rfl, hm⟩
  · rw [if_pos (by decide), if_pos (by decide), if_pos (by decide), sane17]; rfl
  · rw [if_pos (by decide), if_pos (by simpa using hm), if_neg (by decide), if_pos (by decide), sane17]; rfl
  · rw [if_neg (by decide), if_pos (by decide), if_pos (dpos hm), sane17]; rfl
end Go.Proofs.YtlejnkhaphlooaaGreat
