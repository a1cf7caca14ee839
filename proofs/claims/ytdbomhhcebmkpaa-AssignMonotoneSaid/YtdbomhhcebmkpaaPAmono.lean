/- Plain law of AssignMonotone: longer tracks, more tracks and shorter loads do not make an assignment impossible. No condition. -/
import Derived.Test.YtdbomhhcebmkpaaPAdual
import Derived.Test.YtdbomhhcebmkpaaGAssignMonotone
set_option linter.unusedVariables false
set_option linter.unusedSimpArgs false
namespace Go.Proofs.Ytdbomhhcebmkpaa
open Go Go.V Go.Proofs
theorem less_ok (l a b : List Int) (k kk : Int) (hk : 0 ≤ k) (hk2 : k ≤ 100000) (hl : a.length ≤ 32) (ha : ∀ x ∈ a, 0 ≤ x ∧ x ≤ 38400) :
    ∃ k' c, loop (law16_AssignMonotone_L21 (l, 0) (a, b, kk)) (k, (([] : List Int) ++ a), 0) = some (k', c) ∧ k ≤ k' ∧ k' ≤ k + 32 ∧ c.length = a.length ∧ ∀ i, i < a.length → 0 ≤ vw c i ∧ vw c i ≤ vw a i := by
  obtain ⟨d, h1, h2⟩ := loop_inv (step := law16_AssignMonotone_L21 (l, 0) (a, b, kk)) (fun s => ∃ t : Nat, s.2.2 = (t : Int) ∧ t ≤ a.length ∧ k ≤ s.1 ∧ s.1 ≤ k + t ∧ s.2.1.length = a.length ∧ (∀ i, i < t → 0 ≤ vw s.2.1 i ∧ vw s.2.1 i ≤ vw a i) ∧ ∀ i, t ≤ i → i < a.length → vw s.2.1 i = vw a i) (fun s => a.length - s.2.2.toNat)
    (fun d => k ≤ d.1 ∧ d.1 ≤ k + 32 ∧ d.2.length = a.length ∧ ∀ i, i < a.length → 0 ≤ vw d.2 i ∧ vw d.2 i ≤ vw a i) (by
      rintro ⟨e, c, _⟩ ⟨t, rfl, ht, h1, h2, h3, h4, h5⟩
      dsimp only at h1 h2 h3 h4 h5 ⊢
      unfold law16_AssignMonotone_L21
      dsimp only
      rw [List.nil_append]
      by_cases hlt : t < a.length
      · left
        obtain ⟨v, e1, e2⟩ := pick_ok l e [0, 0, 1, 4] (by omega) (by omega) (by decide) (by decide)
        rw [if_pos (dpos (by omega)), vw_idx (by omega : t < c.length), e1]
        simp only [Option.bind_some, Int.toNat_natCast]
        have hv : 0 ≤ v ∧ v ≤ 4 := by simp only [List.mem_cons, List.not_mem_nil, or_false] at e2; omega
        have hat := ha _ (vw_mem hlt)
        rw [h5 t (Nat.le_refl _) hlt, wr_id (n := vw a t - v) (by omega) (by omega), wk1 (by omega)]
        refine ⟨_, rfl, ⟨t + 1, rfl, by omega, by dsimp only; omega, by dsimp only; omega, by simp [h3], fun i hi => ?_, fun i hi hi2 => ?_⟩, by dsimp only; omega⟩
        · dsimp only
          rw [vw_set (by omega)]
          by_cases e : i = t
          · subst e; rw [if_pos rfl]; split <;> omega
          · rw [if_neg e]; exact h4 i (by omega)
        · dsimp only
          rw [vw_set (by omega), if_neg (by omega)]; exact h5 i (by omega) hi2
      · right
        rw [if_neg (dneg (by omega))]
        obtain rfl : t = a.length := by omega
        exact ⟨_, rfl, h1, by dsimp only; omega, h3, h4⟩) (k, (([] : List Int) ++ a), 0) ⟨0, rfl, by omega, by dsimp only; omega, by dsimp only; omega, by simp, fun i h => by omega, fun i _ _ => by simp⟩ (by dsimp only; omega)
  exact ⟨d.1, d.2, h1, h2⟩
theorem more_ok (l a b : List Int) (k kk : Int) (hk : 0 ≤ k) (hk2 : k ≤ 100000) (hl : b.length ≤ 31) (hb : ∀ x ∈ b, 1 ≤ x ∧ x ≤ 30) :
    ∃ k' c, loop (law16_AssignMonotone_L36 (l, 0) (a, b, kk)) (k, (([] : List Int) ++ b), 0) = some (k', c) ∧ k ≤ k' ∧ k' ≤ k + 32 ∧ c.length = b.length ∧ ∀ i, i < b.length → vw b i ≤ vw c i ∧ vw c i ≤ 34 := by
  obtain ⟨d, h1, h2⟩ := loop_inv (step := law16_AssignMonotone_L36 (l, 0) (a, b, kk)) (fun s => ∃ t : Nat, s.2.2 = (t : Int) ∧ t ≤ b.length ∧ k ≤ s.1 ∧ s.1 ≤ k + t ∧ s.2.1.length = b.length ∧ (∀ i, i < t → vw b i ≤ vw s.2.1 i ∧ vw s.2.1 i ≤ 34) ∧ ∀ i, t ≤ i → i < b.length → vw s.2.1 i = vw b i) (fun s => b.length - s.2.2.toNat)
    (fun d => k ≤ d.1 ∧ d.1 ≤ k + 32 ∧ d.2.length = b.length ∧ ∀ i, i < b.length → vw b i ≤ vw d.2 i ∧ vw d.2 i ≤ 34) (by
      rintro ⟨e, c, _⟩ ⟨t, rfl, ht, h1, h2, h3, h4, h5⟩
      dsimp only at h1 h2 h3 h4 h5 ⊢
      unfold law16_AssignMonotone_L36
      dsimp only
      rw [List.nil_append]
      by_cases hlt : t < b.length
      · left
        obtain ⟨v, e1, e2⟩ := pick_ok l e [0, 0, 1, 4] (by omega) (by omega) (by decide) (by decide)
        rw [if_pos (dpos (by omega)), vw_idx (by omega : t < c.length), e1]
        simp only [Option.bind_some, Int.toNat_natCast]
        have hv : 0 ≤ v ∧ v ≤ 4 := by simp only [List.mem_cons, List.not_mem_nil, or_false] at e2; omega
        have hat := hb _ (vw_mem hlt)
        rw [h5 t (Nat.le_refl _) hlt, wr_id (n := vw b t + v) (by omega) (by omega), wk1 (by omega)]
        refine ⟨_, rfl, ⟨t + 1, rfl, by omega, by dsimp only; omega, by dsimp only; omega, by simp [h3], fun i hi => ?_, fun i hi hi2 => ?_⟩, by dsimp only; omega⟩
        · dsimp only
          rw [vw_set (by omega)]
          by_cases e : i = t
          · subst e; rw [if_pos rfl]; omega
          · rw [if_neg e]; exact h4 i (by omega)
        · dsimp only
          rw [vw_set (by omega), if_neg (by omega)]; exact h5 i (by omega) hi2
      · right
        rw [if_neg (dneg (by omega))]
        obtain rfl : t = b.length := by omega
        exact ⟨_, rfl, h1, by dsimp only; omega, h3, h4⟩) (k, (([] : List Int) ++ b), 0) ⟨0, rfl, by omega, by dsimp only; omega, by dsimp only; omega, by simp, fun i h => by omega, fun i _ _ => by simp⟩ (by dsimp only; omega)
  exact ⟨d.1, d.2, h1, h2⟩
theorem mono_ok (l : List Int) : law16_AssignMonotone l = some true := by
  unfold law16_AssignMonotone gen_New
  simp only [Option.bind_some]
  obtain ⟨a, b, k, e1, e2, e3, hV, hal, hbl, hb30⟩ := lists_ok l 0 7 (by omega) (by omega) (by omega) (by omega)
  rw [e1]
  simp only [Option.bind_some]
  obtain ⟨k1, c, f1, f2, f3, f4, f5⟩ := less_ok l a b k k (by omega) (by omega) (by omega) hV.2.2.1
  obtain ⟨k2, d, g1, g2, g3, g4, g5⟩ := more_ok l a b k1 k (by omega) (by omega) (by omega) (fun x hx => ⟨(hV.2.2.2 x hx).1, hb30 x hx⟩)
  obtain ⟨v, v1, v2, v3⟩ := from_ok l k2 1 20 (by omega) (by omega) (by omega) (by omega) (by omega)
  have hV2 : Vd c (d ++ [v]) := by
    refine ⟨by omega, by simp; omega, fun x hx => ?_, fun x hx => ?_⟩
    · obtain ⟨i, hi, rfl⟩ := vw_of_mem hx
      have := f5 i (by omega)
      have := hV.2.2.1 _ (vw_mem (by omega : i < a.length))
      omega
    · simp only [List.mem_append, List.mem_singleton] at hx
      rcases hx with hx | rfl
      · obtain ⟨i, hi, rfl⟩ := vw_of_mem hx
        have := g5 i (by omega)
        have := hV.2.2.2 _ (vw_mem (by omega : i < b.length))
        omega
      · omega
  have rest : ∀ x : (List Int) × (List Int) × Int, assign_Match a b = some x → ((∃ r, x = (r, [], 0) ∧ Asg a b r) ∨ ∃ r, x = ([], r, 14)) → True := fun _ _ _ => trivial
  have hm : ∀ {β : Type} (f : (List Int) × (List Int) × Int → Option β), (loop (law16_AssignMonotone_L21 (l, 0) (a, b, k)) (k, (([] : List Int) ++ a), 0)) = some (k1, c) := fun _ => f1
  rcases match_two hV with ⟨r, h1, h2⟩ | ⟨r, h1, h2⟩
  · rw [h1]
    simp only [Option.bind_some]
    rw [if_pos (by simp; omega), if_pos (by simp; omega), f1]
    simp only [Option.bind_some]
    rw [g1]
    simp only [Option.bind_some]
    rw [v1]
    simp only [Option.bind_some]
    rw [if_pos (by simp; omega)]
    rcases match_two hV2 with ⟨r2, h3, h4⟩ | ⟨r2, h3, h4⟩
    · rw [h3]
      simp only [Option.bind_some]
      rw [if_neg (by decide), if_pos (by decide), if_pos (by decide), sane16]; rfl
    · refine absurd h4.few (nofew_f (fun i => (vw r i).toNat) (fun i hi hn => ?_) fun i j hi hj hin hjn e => ?_)
      · have q := f5 i (by omega)
        obtain ⟨t, q1, q2, q3⟩ := h2.at_ i (by omega) (by omega)
        rw [q2, Int.toNat_natCast]
        refine ⟨by simp; omega, ?_⟩
        have q4 := g5 t q1
        have q5 : vw (d ++ [v]) t = vw d t := by rw [vw_elem (by simp; omega), vw_elem (by omega), List.getElem_append_left]
        rw [q5]; omega
      · have q := f5 i (by omega)
        have q' := f5 j (by omega)
        obtain ⟨t, q1, q2, q3⟩ := h2.at_ i (by omega) (by omega)
        obtain ⟨u, q4, q5, q6⟩ := h2.at_ j (by omega) (by omega)
        exact h2.inj i j (by omega) (by omega) (by omega) (by omega) (by omega)
  · rw [h1]
    simp only [Option.bind_some]
    rw [if_pos (by simp; omega), if_pos (by simp; omega), f1]
    simp only [Option.bind_some]
    rw [g1]
    simp only [Option.bind_some]
    rw [v1]
    simp only [Option.bind_some]
    rw [if_pos (by simp; omega)]
    rcases match_two hV2 with ⟨r2, h3, h4⟩ | ⟨r2, h3, h4⟩
    · rw [h3]
      simp only [Option.bind_some]
      rw [if_pos (by decide), if_neg (by decide), if_pos (by decide), sane16]; rfl
    · rw [h3]
      simp only [Option.bind_some]
      rw [if_pos (by decide), if_neg (by decide), if_pos (by decide), sane16]; rfl
end Go.Proofs.Ytdbomhhcebmkpaa
