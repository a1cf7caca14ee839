
/- Running shifts is applying them one after another. No condition beyond those of each theorem. -/
import Derived.Test.YtgeceohdppecgaaPIrun
import Derived.Test.YtgeceohdppecgaaGInventoryRuns
set_option linter.unusedVariables false
set_option linter.unusedSimpArgs false
namespace Go.Proofs.Ytgeceohdppecgaa
open Go Go.V Go.Proofs

theorem inventoryRuns_ok (l : List Int) : law42_InventoryRuns l = some true := by
  unfold law42_InventoryRuns
  rw [show gen_New l = some (l, 0) from rfl]
  simp only [Option.bind_some]
  obtain ⟨T, L, s, k, hm, hV, hT, hL, hk1, hk2⟩ := made_ok l 0 (by omega) (by omega)
  rw [hm]
  simp only [Option.bind_some]
  obtain ⟨n, hn, n0, n1⟩ := next_ok l k 10 hk1 (by omega) (by omega) (by omega)
  rw [hn]
  simp only [Option.bind_some]
  obtain ⟨d, hd, hdl⟩ := loop_inv (step := law42_InventoryRuns_L14 (l, 0) (T, L, s, k)) (fun p => ∃ (e : Int) (q : List Shf) (x : Sta) (i : Int), p = (e, q, x, i) ∧ 0 ≤ i ∧ i ≤ 10 ∧ 0 ≤ e ∧ e ≤ 100 + 6 * (10 - i) ∧ (q.length : Int) + i ≤ 10 ∧ Vld T L x)
    (fun p => p.2.2.2.toNat) (fun d => d.length ≤ 10) (by
    rintro _ ⟨e, q, x, i, rfl, hi, hi2, he0, he1, hq, hV⟩
    unfold law42_InventoryRuns_L14
    dsimp only
    by_cases c : i > 0
    · have hsl := hV.1
      obtain ⟨w, f, t, fr, hsh⟩ := shiftlaw_ok l e L x he0 (by omega) (by omega) (by omega) (vld_sml hV)
      rw [if_pos (dpos c), hsh]
      simp only [Option.bind_some]
      rw [rapply_ok T L x w f t fr (vld_sml hV).2, ap_yes hV]
      simp only [Option.bind_some]
      by_cases cc : cd T L x w f t = 0
      · rw [if_pos cc, if_pos (by simp), if_pos (by simp only [List.length_singleton]; omega), wr_id (by omega) (by omega)]
        exact .inl ⟨_, rfl, ⟨_, _, _, _, rfl, by omega, by omega, by omega, by omega, by simp only [List.length_append, List.length_singleton]; omega, mv_vld hV fr cc⟩, by dsimp only; omega⟩
      · rw [if_neg cc, if_neg (by simpa using cc)]
        obtain ⟨v, hv, v0, v1⟩ := next_ok l (e + 5) 4 (by omega) (by omega) (by omega) (by omega)
        rw [hv]
        simp only [Option.bind_some]
        by_cases c3 : v > 0
        · rw [if_pos (dpos c3), wr_id (by omega) (by omega)]
          exact .inl ⟨_, rfl, ⟨_, _, _, _, rfl, by omega, by omega, by omega, by omega, by omega, hV⟩, by dsimp only; omega⟩
        · rw [if_neg (dneg c3), if_pos (by simp only [List.length_singleton]; omega), wr_id (by omega) (by omega)]
          exact .inl ⟨_, rfl, ⟨_, _, _, _, rfl, by omega, by omega, by omega, by omega, by simp only [List.length_append, List.length_singleton]; omega, hV⟩, by dsimp only; omega⟩
    · rw [if_neg (dneg c)]
      exact .inr ⟨_, rfl, by omega⟩) (k + 1, [], s, n) ⟨k + 1, [], s, n, rfl, n0, by omega, by omega, by omega, by simp; omega, hV⟩ (by dsimp only; omega)
  rw [hd]
  dsimp only [Option.bind_some]
  rw [run_ok T L s d (by omega) (vld_sml hV).2]
  simp only [Option.bind_some]
  have hrn : rn T L s d = (match runS T L d 0 s with | .inl (i, c) => ([], i, c) | .inr b => (b, (d.length : Int), 0)) := by unfold rn; rw [if_pos hV]; cases runS T L d 0 s <;> rfl
  obtain ⟨r, hr, hP⟩ := loop_inv (step := law42_InventoryRuns_L39 (T, L, s, k) d (rn T L s d)) (fun p => ∃ (b : Sta) (i : Nat), p = (b, (i : Int)) ∧ i ≤ d.length ∧ Vld T L b ∧ runS T L (d.drop i) i b = runS T L d 0 s) (fun p => d.length - p.2.toNat)
    (fun r => r = .inl true ∨ ∃ b, r = .inr b ∧ Vld T L b ∧ runS T L d 0 s = .inr b) (by
    rintro _ ⟨b, i, rfl, hi, hb, he⟩
    unfold law42_InventoryRuns_L39
    dsimp only
    by_cases h : i < d.length
    · rw [if_pos (dpos (by omega)), iget h]
      simp only [Option.bind_some]
      rw [apply_ok T L b _ _ _ _ (vld_sml hb).2, ap_yes hb]
      simp only [Option.bind_some]
      rw [runS_at h] at he
      by_cases c : cd T L b d[i].1 d[i].2.1 d[i].2.2.1 = 0
      · rw [if_pos c] at he ⊢
        rw [if_neg (by simp), iw1 (by omega)]
        exact .inl ⟨_, rfl, ⟨_, i + 1, rfl, by omega, mv_vld hb _ c, he⟩, by dsimp only; omega⟩
      · rw [if_neg c] at he ⊢
        rw [← he] at hrn
        dsimp only at hrn
        rw [if_pos (by simpa using c), hrn, if_pos (by simp), if_pos (by simp), if_pos (by simp), sane_ok]
        exact .inr ⟨_, rfl, .inl rfl⟩
    · obtain rfl : i = d.length := by omega
      rw [List.drop_length] at he
      rw [if_neg (dneg (by omega))]
      exact .inr ⟨_, rfl, .inr ⟨b, rfl, hb, he.symm⟩⟩) (s, 0) ⟨s, 0, rfl, Nat.zero_le _, hV, rfl⟩ (by dsimp only; omega)
  rw [hr]
  rcases hP with rfl | ⟨b, rfl, hb, he⟩
  · rfl
  · rw [he] at hrn
    dsimp only at hrn
    dsimp only [Option.bind_some]
    rw [hrn, if_pos (by simp), if_pos (by simp), lists_same b (vld_sml hb)]
    simp only [Option.bind_some]
    rw [if_pos trivial, sane_ok]; rfl
end Go.Proofs.Ytgeceohdppecgaa
