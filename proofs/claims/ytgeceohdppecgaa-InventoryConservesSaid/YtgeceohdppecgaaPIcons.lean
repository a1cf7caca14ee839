
/- Behind a shift the wagon stands where it was brought, and all others where they stood. No condition beyond those of each theorem. -/
import Derived.Test.YtgeceohdppecgaaPImade
import Derived.Test.YtgeceohdppecgaaGInventoryConserves
set_option linter.unusedVariables false
set_option linter.unusedSimpArgs false
namespace Go.Proofs.Ytgeceohdppecgaa
open Go Go.V Go.Proofs


/-- Where the wagon stands behind a shift. -/
theorem whs_mv {T : Trk} {L : List Int} {s : Sta} (h : Vld T L s) {w f t : Int} {fr : Bool} (hc : cd T L s w f t = 0) :
    whp (mv s w t fr) w = if 0 ≤ t then (t, if fr then 0 else (((s[t.toNat]?.getD []).filter (· ≠ w)).length : Int)) else (-1, -1) := by
  obtain ⟨c1, c2, c3, c4, c5, c6⟩ := cd_zero hc
  have hV := mv_vld h fr hc
  refine whs_uniq (whp_ok (vld_sml hV) w).2.2 ?_
  by_cases c : 0 ≤ t
  · have htl : t.toNat < s.length := by omega
    rw [if_pos c, List.getElem?_eq_getElem htl, Option.getD_some]
    have e : (t.toNat : Int) = t := Int.toNat_of_nonneg c
    have hrow : (mv s w t fr)[t.toNat]? = some (put w t fr t.toNat s[t.toNat]) := mv_get (List.getElem?_eq_getElem htl)
    refine .inr ⟨t.toNat, if fr then 0 else (s[t.toNat].filter (· ≠ w)).length, _, ?_, hrow, ?_, fun x hx hw => ?_⟩
    · rw [e]; cases fr <;> simp
    · unfold put
      rw [if_pos e]
      cases fr
      · refine ⟨by simp, ?_⟩
        rw [if_neg (by simp), if_neg (by simp), List.take_left]; simp
      · refine ⟨by simp, by simp⟩
    · obtain ⟨j, hj⟩ := List.getElem?_of_mem hx
      rw [List.getElem?_take] at hj
      split at hj
      · rename_i q
        obtain ⟨row, hrow, rfl⟩ := mv_row hj
        rcases put_mem.1 hw with ⟨a, _⟩ | ⟨_, a⟩
        · omega
        · exact a rfl
      · cases hj
  · rw [if_neg c]
    refine .inl ⟨rfl, fun row hr hw => ?_⟩
    obtain ⟨j, hj⟩ := List.getElem?_of_mem hr
    obtain ⟨row, hrow, rfl⟩ := mv_row hj
    rcases put_mem.1 hw with ⟨a, _⟩ | ⟨_, a⟩
    · omega
    · exact a rfl

theorem put_filt (w t : Int) (fr : Bool) (j : Nat) (row : List Int) : (put w t fr j row).filter (· ≠ w) = row.filter (· ≠ w) := by
  unfold put
  split
  · cases fr <;> simp
  · simp


/-- A loop that leaves out one wagon. -/
theorem filt_ok {step : List Int × Int → Option (Step (List Int × Int) (List Int))} (row : List Int) (w : Int) (hl : row.length < 4294967296)
    (h1 : ∀ (i : Nat) (h : i < row.length) (d : List Int), d.length ≤ i → step (d, (i : Int)) = some (.next (if row[i] ≠ w then d ++ [row[i]] else d, ((i + 1 : Nat) : Int))))
    (h2 : ∀ d, step (d, (row.length : Int)) = some (.done d)) : loop step ([], 0) = some (row.filter (· ≠ w)) := by
  obtain ⟨d, hd, rfl⟩ := loop_inv (step := step) (fun p => ∃ i : Nat, p = ((row.take i).filter (· ≠ w), (i : Int)) ∧ i ≤ row.length) (fun p => row.length - p.2.toNat) (fun d => d = row.filter (· ≠ w)) (by
    rintro _ ⟨i, rfl, hi⟩
    by_cases h : i < row.length
    · refine .inl ⟨_, h1 i h _ ?_, ⟨i + 1, ?_, by omega⟩, by dsimp only; omega⟩
      · exact Nat.le_trans (List.length_filter_le _ _) (by simp; omega)
      · rw [List.take_succ_eq_append_getElem h, List.filter_append]
        by_cases e : row[i] ≠ w
        · rw [if_pos e, List.filter_cons_of_pos (by simpa using e)]; rfl
        · rw [if_neg e, List.filter_cons_of_neg (by simpa using e)]; simp
    · obtain rfl : i = row.length := by omega
      exact .inr ⟨_, h2 _, by rw [List.take_length]⟩) ([], 0) ⟨0, by simp, Nat.zero_le _⟩ (by dsimp only; omega)
  exact hd

theorem l30_ok (s : Sta) (m : (Int × Int × Int × Bool) × Int) (j : Nat) (row : List Int) (hj : s[j]? = some row) (hl : row.length < 4294967296) :
    loop (law42_InventoryConserves_L30 s m (j : Int)) ([], 0) = some (row.filter (· ≠ m.1.1)) := by
  have hx : idx s (j : Int) = some row := by rw [idx_nat, hj]
  refine filt_ok row m.1.1 hl (fun i h d hdl => ?_) (fun d => ?_)
  · unfold law42_InventoryConserves_L30
    dsimp only
    simp only [hx, Option.bind_some, iget h]
    rw [if_pos (dpos (by omega)), iw1 (by omega)]
    by_cases e : row[i] = m.1.1
    · rw [if_neg (by simpa using e), if_neg (by simpa using e)]
    · rw [if_pos (by simpa using e), if_pos e, if_pos (by simp only [List.length_singleton]; omega)]
  · unfold law42_InventoryConserves_L30
    dsimp only
    simp only [hx, Option.bind_some]
    rw [if_neg (dneg (by omega))]
theorem l56_ok (x : Sta × Int) (m : (Int × Int × Int × Bool) × Int) (j : Nat) (row : List Int) (hj : x.1[j]? = some row) (hl : row.length < 4294967296) :
    loop (law42_InventoryConserves_L56 m x (j : Int)) ([], 0) = some (row.filter (· ≠ m.1.1)) := by
  have hx : idx x.1 (j : Int) = some row := by rw [idx_nat, hj]
  refine filt_ok row m.1.1 hl (fun i h d hdl => ?_) (fun d => ?_)
  · unfold law42_InventoryConserves_L56
    dsimp only
    simp only [hx, Option.bind_some, iget h]
    rw [if_pos (dpos (by omega)), iw1 (by omega)]
    by_cases e : row[i] = m.1.1
    · rw [if_neg (by simpa using e), if_neg (by simpa using e)]
    · rw [if_pos (by simpa using e), if_pos e, if_pos (by simp only [List.length_singleton]; omega)]
  · unfold law42_InventoryConserves_L56
    dsimp only
    simp only [hx, Option.bind_some]
    rw [if_neg (dneg (by omega))]

theorem l27_ok {T : Trk} {L : List Int} {s : Sta} (h : Vld T L s) {w f t : Int} {fr : Bool} (k : Int) (hc : cd T L s w f t = 0) :
    loop (law42_InventoryConserves_L27 s ((w, f, t, fr), k) (mv s w t fr, 0) (whp (mv s w t fr) w)) 0 = some (.inr ()) := by
  have hV := mv_vld h fr hc
  have hwh := whs_mv h (fr := fr) hc
  have hsl := (vld_sml h).1
  refine loop_count _ _ 0 s.length (Nat.zero_le _) (by omega) (fun j _ hj => ?_) ?_
  · have hrow := vld_rows h _ (List.getElem_mem hj)
    have hm : (mv s w t fr)[j]? = some (put w t fr j s[j]) := mv_get (List.getElem?_eq_getElem hj)
    have hml := (vld_rows hV _ (List.mem_of_getElem? hm)).2.2
    have hfl : (s[j].filter (· ≠ w)).length ≤ 192 := Nat.le_trans (List.length_filter_le _ _) hrow.2.2
    have hxm : idx (mv s w t fr) (j : Int) = some (put w t fr j s[j]) := by rw [idx_nat, hm]
    unfold law42_InventoryConserves_L27
    dsimp only
    rw [if_pos (dpos (by omega)), l30_ok s _ j s[j] (List.getElem?_eq_getElem hj) (by omega)]
    dsimp only [Option.bind_some]
    rw [l56_ok _ _ j _ hm (by omega)]
    dsimp only [Option.bind_some]
    rw [put_filt, ints_ok _ _ (by omega)]
    simp only [Option.bind_some, decide_true]
    rw [if_neg (by simp), hxm]
    simp only [Option.bind_some]
    rw [wr_id (by omega) (by omega), wr_id (by omega) (by omega)]
    by_cases e : (j : Int) = t
    · rw [if_pos (by simpa using e)]
      have hp : (put w t fr j s[j]).length = (s[j].filter (· ≠ w)).length + 1 := by
        unfold put
        rw [if_pos e]
        cases fr <;> simp
      rw [hp, if_neg (by simp)]
      have ht : t.toNat = j := by omega
      rw [if_pos (by omega), ht, List.getElem?_eq_getElem hj, Option.getD_some] at hwh
      rw [hwh]
      have hne : ¬ ((j : Int) != t) = true := by simpa using e
      cases fr
      · simp only [if_neg hne, Bool.not_false, if_true, Bool.false_eq_true, if_false]
        simp
      · simp only [if_neg hne, Bool.not_true, if_true, Bool.false_eq_true, if_false]
        simp
    · have hp : put w t fr j s[j] = s[j].filter (· ≠ w) := by unfold put; rw [if_neg e]
      rw [if_neg (by simpa using e), if_pos (by simpa using e), hp, if_neg (by simp)]
  · unfold law42_InventoryConserves_L27
    dsimp only
    rw [if_neg (dneg (by omega))]

theorem inventoryConserves_ok (l : List Int) : law42_InventoryConserves l = some true := by
  unfold law42_InventoryConserves
  rw [show gen_New l = some (l, 0) from rfl]
  simp only [Option.bind_some]
  obtain ⟨T, L, s, k, hm, hV, hT, hL, hk1, hk2⟩ := made_ok l 0 (by omega) (by omega)
  rw [hm]
  simp only [Option.bind_some]
  obtain ⟨d, hd, rfl⟩ := loop_inv (step := law42_InventoryConserves_L11 (l, 0) (T, L, s, k)) (fun p => ∃ (e : Int) (s : Sta) (i : Nat), p = (e, s, (i : Int)) ∧ i ≤ 12 ∧ 0 ≤ e ∧ e ≤ 30 + 5 * i ∧ Vld T L s) (fun p => 12 - p.2.2.toNat) (fun d => d = .inr ()) (by
    rintro _ ⟨e, s, i, rfl, hi, he0, he1, hV⟩
    unfold law42_InventoryConserves_L11
    dsimp only
    by_cases c : i < 12
    · have hsl := hV.1
      obtain ⟨w, f, t, fr, hsh⟩ := shiftlaw_ok l e L s he0 (by omega) (by omega) (by omega) (vld_sml hV)
      rw [if_pos (dpos (by omega)), hsh]
      simp only [Option.bind_some]
      rw [apply_ok T L s w f t fr (vld_sml hV).2, ap_yes hV]
      simp only [Option.bind_some]
      by_cases cc : cd T L s w f t = 0
      · have hV2 := mv_vld hV fr cc
        rw [if_pos cc, if_neg (by simp)]
        dsimp only
        rw [(whp_ok (vld_sml hV2) w).1]
        simp only [Option.bind_some]
        obtain ⟨b, hb, hbV⟩ := valid_ok T L (mv s w t fr) (vld_sml hV2).2
        rw [hb, hbV.2 hV2]
        simp only [Option.bind_some]
        have hto : (whp (mv s w t fr) w).1 = t := by
          obtain ⟨c1, c2, c3, c4, c5, c6⟩ := cd_zero cc
          rw [whs_mv hV cc]
          split
          · rfl
          · dsimp only; omega
        rw [if_neg (by simp), if_neg (by simp [hto]), mv_len, if_neg (by simp), l27_ok hV _ cc]
        dsimp only [Option.bind_some]
        rw [iw1 (by omega)]
        exact .inl ⟨_, rfl, ⟨_, _, i + 1, rfl, by omega, by omega, by omega, hV2⟩, by dsimp only; omega⟩
      · rw [if_neg cc, if_pos (by simpa using cc), iw1 (by omega)]
        exact .inl ⟨_, rfl, ⟨_, _, i + 1, rfl, by omega, by omega, by omega, hV⟩, by dsimp only; omega⟩
    · rw [if_neg (dneg (by omega))]
      exact .inr ⟨_, rfl, rfl⟩) (k, s, 0) ⟨k, s, 0, rfl, by omega, hk1, by omega, hV⟩ (by dsimp only; omega)
  rw [hd]
  dsimp only [Option.bind_some]
  rw [sane_ok]; rfl
end Go.Proofs.Ytgeceohdppecgaa
