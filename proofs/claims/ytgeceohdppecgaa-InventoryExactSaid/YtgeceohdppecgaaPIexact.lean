
/- All functions on the tracks give what the reference gives. No condition beyond those of each theorem. -/
import Derived.Test.YtgeceohdppecgaaPIrun
import Derived.Test.YtgeceohdppecgaaGInventoryExact
set_option linter.unusedVariables false
set_option linter.unusedSimpArgs false
namespace Go.Proofs.Ytgeceohdppecgaa
open Go Go.V Go.Proofs

def shOf (a b : Int) (x : Int) : Shf := (x, a, b, false)
theorem str1 (a b c : Int) (row : List Int) (hl : row.length < 4294967296) (hc : 0 ≤ c ∧ c ≤ row.length) :
    loop (inventory_String_L10 a b c row) ([], 0) = some ((row.drop (row.length - c.toNat)).map (shOf a b)) := by
  have e1 : IntKind.i64.wrap ((row.length : Int) - c) = ((row.length - c.toNat : Nat) : Int) := by rw [wr_id (by omega) (by omega)]; omega
  have e2 : (row.drop (row.length - c.toNat)).take (row.length - (row.length - c.toNat)) = row.drop (row.length - c.toNat) := List.take_of_length_le (by simp)
  generalize hq : row.drop (row.length - c.toNat) = q at e2 ⊢
  have hql : q.length ≤ row.length := by rw [← hq]; simp
  obtain ⟨d, hd, rfl⟩ := loop_inv (step := inventory_String_L10 a b c row) (fun p => ∃ i : Nat, p = ((q.take i).map (shOf a b), (i : Int)) ∧ i ≤ q.length) (fun p => q.length - p.2.toNat) (fun d => d = q.map (shOf a b)) (by
    rintro _ ⟨i, rfl, hi⟩
    unfold inventory_String_L10
    dsimp only
    rw [e1, Int.toNat_natCast, Int.toNat_natCast, hq, e2]
    by_cases h : i < q.length
    · rw [if_pos (dpos (by omega)), iget h]
      simp only [Option.bind_some]
      rw [if_pos (by simp only [List.length_map, List.length_take, List.length_singleton]; omega), iw1 (by omega)]
      refine .inl ⟨_, rfl, ⟨i + 1, ?_, by omega⟩, by dsimp only; omega⟩
      rw [List.take_succ_eq_append_getElem h, List.map_append]; rfl
    · obtain rfl : i = q.length := by omega
      rw [if_neg (dneg (by omega)), List.take_length]
      exact .inr ⟨_, rfl, rfl⟩) ([], 0) ⟨0, rfl, Nat.zero_le _⟩ (by dsimp only; omega)
  exact hd
theorem str2 (s : Sta) (a b c : Int) (row : List Int) (hx : idx s a = some row) (hl : row.length < 4294967296) (hc : 0 ≤ c ∧ c ≤ row.length) :
    loop (r42_String_L12 s a b) ([], IntKind.i64.wrap ((row.length : Int) - c)) = some ((row.drop (row.length - c.toNat)).map (shOf a b)) := by
  have e1 : IntKind.i64.wrap ((row.length : Int) - c) = ((row.length - c.toNat : Nat) : Int) := by rw [wr_id (by omega) (by omega)]; omega
  rw [e1]
  generalize hn : row.length - c.toNat = n
  have hnl : n ≤ row.length := by omega
  obtain ⟨d, hd, rfl⟩ := loop_inv (step := r42_String_L12 s a b) (fun p => ∃ i : Nat, p = (((row.drop n).take i).map (shOf a b), ((n + i : Nat) : Int)) ∧ n + i ≤ row.length) (fun p => row.length - p.2.toNat) (fun d => d = (row.drop n).map (shOf a b)) (by
    rintro _ ⟨i, rfl, hi⟩
    unfold r42_String_L12
    dsimp only
    rw [hx]
    simp only [Option.bind_some]
    by_cases h : n + i < row.length
    · have hi2 : i < (row.drop n).length := by rw [List.length_drop]; omega
      rw [if_pos (dpos (by omega)), iget h]
      simp only [Option.bind_some]
      rw [if_pos (by simp only [List.length_map, List.length_take, List.length_singleton, List.length_drop]; omega), iw1 (by omega)]
      refine .inl ⟨_, rfl, ⟨i + 1, ?_, by omega⟩, by dsimp only; omega⟩
      rw [List.take_succ_eq_append_getElem hi2, List.map_append, List.getElem_drop]; rfl
    · rw [if_neg (dneg (by omega)), List.take_of_length_le (by rw [List.length_drop]; omega)]
      exact .inr ⟨_, rfl, rfl⟩) ([], (n : Int)) ⟨0, rfl, by omega⟩ (by dsimp only; omega)
  exact hd
theorem string_ok (s : Sta) (h : Sml s) (a b c : Int) : ∃ p : List Shf × Int, inventory_String s a b c = some p ∧ r42_String s a b c = some p ∧ p.1.length < 4294967296 := by
  unfold inventory_String r42_String
  by_cases c1 : a < 0
  · rw [if_pos (dpos c1), if_pos (dpos c1)]; exact ⟨_, rfl, rfl, by decide⟩
  rw [if_neg (dneg c1), if_neg (dneg c1)]
  by_cases c2 : a ≥ s.length
  · rw [if_pos (dpos c2), if_pos (dpos c2)]; exact ⟨_, rfl, rfl, by decide⟩
  rw [if_neg (dneg c2), if_neg (dneg c2)]
  by_cases c3 : b < 0
  · rw [if_pos (dpos c3), if_pos (dpos c3)]; exact ⟨_, rfl, rfl, by decide⟩
  rw [if_neg (dneg c3), if_neg (dneg c3)]
  by_cases c4 : b ≥ s.length
  · rw [if_pos (dpos c4), if_pos (dpos c4)]; exact ⟨_, rfl, rfl, by decide⟩
  rw [if_neg (dneg c4), if_neg (dneg c4)]
  by_cases c5 : a = b
  · rw [if_pos (by simpa using c5), if_pos (by simpa using c5)]; exact ⟨_, rfl, rfl, by decide⟩
  rw [if_neg (by simpa using c5), if_neg (by simpa using c5)]
  have hal : a.toNat < s.length := by omega
  have hx : idx s a = some s[a.toNat] := iget' (by omega) (by omega)
  have hrl := h.2 _ (List.getElem_mem hal)
  generalize s[a.toNat] = row at hx hrl
  rw [hx]
  simp only [Option.bind_some]
  by_cases c6 : c < 0
  · rw [if_pos (dpos c6), if_pos (dpos c6)]; exact ⟨_, rfl, rfl, by decide⟩
  rw [if_neg (dneg c6), if_neg (dneg c6)]
  by_cases c7 : c > row.length
  · rw [if_pos (dpos c7), if_pos (dpos c7)]; exact ⟨_, rfl, rfl, by decide⟩
  rw [if_neg (dneg c7), if_neg (dneg c7), str1 a b c row hrl ⟨by omega, by omega⟩, str2 s a b c row hx hrl ⟨by omega, by omega⟩, wr_id (by omega) (by omega), if_pos ⟨by omega, by omega, by omega⟩]
  exact ⟨_, rfl, rfl, by dsimp only; rw [List.length_map, List.length_drop]; omega⟩

theorem shifts_same (a : List Shf) (h : a.length < 4294967296) : yardgen_SameShifts a a = some true := by
  unfold yardgen_SameShifts r45_SameShifts
  rw [if_neg (by simp)]
  have : loop (r45_SameShifts_L4 a a) ((0 : Nat) : Int) = some (.inr ()) := loop_count _ _ 0 a.length (Nat.zero_le _) (by omega) (fun x _ hx => by
    unfold r45_SameShifts_L4
    dsimp only
    rw [if_pos (dpos (by omega)), iget hx]
    simp only [Option.bind_some]
    rw [if_neg (by simp), wr_id (by omega) (by omega)]) (by
    unfold r45_SameShifts_L4
    dsimp only
    rw [if_neg (dneg (by omega))])
  rw [show ((0 : Nat) : Int) = 0 from rfl] at this
  rw [this]; rfl
theorem sml_nil : Sml [] := ⟨by decide, fun _ h => by cases h⟩
theorem ap_sml (T : Trk) (L : List Int) (s : Sta) (w f t : Int) (fr : Bool) : Sml (ap T L s w f t fr).1 := by
  by_cases h : Vld T L s
  · rw [ap_yes h]
    split
    · rename_i c; exact vld_sml (mv_vld h fr c)
    · exact sml_nil
  · rw [ap_no h]; exact sml_nil
theorem rn_sml (T : Trk) (L : List Int) (s : Sta) (l : List Shf) : Sml (rn T L s l).1 := by
  unfold rn
  split
  · rename_i h
    split
    · exact sml_nil
    · rename_i b e; exact vld_sml (runS_vld h e)
  · exact sml_nil

theorem exact_ok (T : Trk) (L : List Int) (s : Sta) (l : List Shf) (a b c : Int) (hs : Sml s) (hl : l.length < 4294967296) : law42_exact T L s l a b c = some true := by
  unfold law42_exact
  obtain ⟨p, h1, h2, hp⟩ := string_ok s hs a b c
  obtain ⟨w1, w2, _⟩ := whp_ok hs c
  rw [run_ok T L s l hl hs.2]; simp only [Option.bind_some]
  rw [rrun_ok T L s l hl hs.2]; simp only [Option.bind_some]
  rw [h1]; simp only [Option.bind_some]
  rw [h2]; simp only [Option.bind_some]
  rw [w1]; simp only [Option.bind_some]
  rw [w2]; simp only [Option.bind_some]
  obtain ⟨d, hd, rfl⟩ := loop_inv (step := law42_exact_L22 T L s l) (fun p => ∃ i : Nat, p = (i : Int) ∧ i ≤ 3) (fun p => 3 - p.toNat) (fun d => d = .inr ()) (by
    rintro _ ⟨i, rfl, hi⟩
    unfold law42_exact_L22
    dsimp only
    by_cases c1 : i < l.length
    · rw [if_pos (dpos (by omega))]
      by_cases c2 : i < 3
      · rw [if_pos (dpos (by omega)), iget c1]
        simp only [Option.bind_some]
        rw [apply_ok _ _ _ _ _ _ _ hs.2]; simp only [Option.bind_some]
        rw [rapply_ok _ _ _ _ _ _ _ hs.2]; simp only [Option.bind_some]
        rw [lists_same _ (ap_sml _ _ _ _ _ _ _)]; simp only [Option.bind_some]
        rw [if_neg (by simp), if_neg (by simp), iw1 (by omega)]
        exact .inl ⟨_, rfl, ⟨i + 1, rfl, by omega⟩, by omega⟩
      · rw [if_neg (dneg (by omega))]; exact .inr ⟨_, rfl, rfl⟩
    · rw [if_neg (dneg (by omega))]; exact .inr ⟨_, rfl, rfl⟩) 0 ⟨0, rfl, by omega⟩ (by omega)
  rw [hd]
  dsimp only [Option.bind_some]
  unfold law42_exact_J21
  obtain ⟨v, hv, hvV⟩ := valid_ok T L s hs.2
  obtain ⟨u, hu, huV⟩ := rvalid_ok T L s hs.2
  have huv : v = u := by rw [Bool.eq_iff_iff, hvV, huV]
  subst huv
  rw [hv]; simp only [Option.bind_some]
  rw [hu]; simp only [Option.bind_some]
  rw [if_pos (by simp), lists_same _ (rn_sml _ _ _ _)]; simp only [Option.bind_some]
  rw [if_pos trivial, if_pos (by simp), if_pos (by simp), shifts_same _ hp]; simp only [Option.bind_some]
  rw [if_pos trivial, if_pos (by simp), if_pos (by simp)]
  simp

theorem j46_ok (p4 : List Shf) (l : List Int) (i : Nat) (hi : i < 4) (d : List Shf) (hd : d.length ≤ 10) (e : Int) (he : 0 ≤ e ∧ e ≤ 100000) (T : Trk) (L : List Int) (s : Sta) (hs : Sml s) :
    ∃ e', law42_InventoryExact_J46 p4 (l, 0) (i : Int) d e T L s = some (.next (e', ((i + 1 : Nat) : Int))) ∧ e ≤ e' ∧ e' ≤ e + 3 := by
  have hs1 := hs.1
  unfold law42_InventoryExact_J46
  rw [wr_id (by omega) (by omega)]
  obtain ⟨a, h1, a0, a1⟩ := next_ok l e (s.length + 2) (by omega) (by omega) (by omega) (by omega)
  obtain ⟨b, h2, b0, b1⟩ := next_ok l (e + 1) (s.length + 2) (by omega) (by omega) (by omega) (by omega)
  obtain ⟨c, h3, c0, c1⟩ := next_ok l (e + 1 + 1) 6 (by omega) (by omega) (by omega) (by omega)
  dsimp only
  rw [h1]; simp only [Option.bind_some]
  rw [h2]; simp only [Option.bind_some]
  rw [h3]; simp only [Option.bind_some]
  rw [exact_ok _ _ _ _ _ _ _ hs (by omega)]; simp only [Option.bind_some]
  rw [if_neg (by simp), iw1 (by omega)]
  by_cases q : (p4.length : Int) < 100
  · rw [if_pos (dpos q), exact_ok _ _ _ _ _ _ _ hs (by omega)]; simp only [Option.bind_some]
    rw [if_neg (by simp)]
    exact ⟨_, rfl, by omega, by omega⟩
  · rw [if_neg (dneg q)]
    exact ⟨_, rfl, by omega, by omega⟩

theorem j30_ok (p4 : List Shf) (l : List Int) (i : Nat) (hi : i < 4) {T : Trk} {L : List Int} {s : Sta} (hV : Vld T L s) (hT : 1 ≤ T.length) (k : Int) (e : Int) (he : 0 ≤ e ∧ e ≤ 10000) (d : List Shf) (hd : d.length ≤ 10) :
    ∃ e', law42_InventoryExact_J30 p4 (l, 0) (i : Int) (T, L, s, k) e d = some (.next (e', ((i + 1 : Nat) : Int))) ∧ e ≤ e' ∧ e' ≤ e + 6 := by
  obtain ⟨v1, v2, v3, _⟩ := id hV
  have hs := vld_sml hV
  unfold law42_InventoryExact_J30
  by_cases c : i = 3
  · rw [if_pos (by simp [c])]
    have hsl : 0 < s.length := by omega
    have hTl : 0 < T.length := by omega
    have hx : idx s 0 = some s[0] := iget (k := 0) hsl
    have hxT : idx T 0 = some T[0] := iget (k := 0) hTl
    have hrow := (vld_rows hV _ (List.getElem_mem hsl)).2.2
    dsimp only
    obtain ⟨a, h1, _⟩ := pick_ok l e [-1, 0, (L.length : Int)] (by omega) (by omega) (by simp) (by simp)
    obtain ⟨b, h2, _⟩ := pick_ok l (e + 1) [0, 1, 400, 401] (by omega) (by omega) (by simp) (by simp)
    obtain ⟨g, h3, _⟩ := pick_ok l (e + 1 + 1) [-1, 100000, 100001, T[0].2] (by omega) (by omega) (by simp) (by simp)
    rw [hx]; simp only [Option.bind_some]
    rw [h1]; simp only [Option.bind_some]
    rw [if_pos (by simp only [List.length_singleton]; omega), h2]; simp only [Option.bind_some]
    rw [if_pos (by simp only [List.length_singleton]; omega), hxT]; simp only [Option.bind_some]
    rw [h3]; simp only [Option.bind_some]
    obtain ⟨e', he', b1, b2⟩ := j46_ok p4 l i hi d hd (e + 1 + 1 + 1) (by omega) (T.set (Int.toNat 0) (T[0].1, g)) (L ++ [b]) (s.set (Int.toNat 0) (s[0] ++ [a])) ⟨by rw [List.length_set]; exact hs.1, fun row hr => by
      rcases List.mem_or_eq_of_mem_set hr with hr | rfl
      · exact hs.2 row hr
      · simp only [List.length_append, List.length_singleton]; omega⟩
    exact ⟨e', he', by omega, by omega⟩
  · rw [if_neg (by simpa using (by omega : ¬ (i : Int) = 3))]
    obtain ⟨e', he', b1, b2⟩ := j46_ok p4 l i hi d hd e (by omega) T L s hs
    exact ⟨e', he', by omega, by omega⟩

theorem l21_ok (l : List Int) {T : Trk} {L : List Int} {s : Sta} (hV : Vld T L s) (k e n : Int) (he : 0 ≤ e ∧ e ≤ 10000) (hn : 0 ≤ n ∧ n < 5) :
    ∃ e' d, loop (law42_InventoryExact_L21 (l, 0) (T, L, s, k)) (e, [], n) = some (e', d) ∧ e ≤ e' ∧ e' ≤ e + 20 ∧ d.length ≤ 4 := by
  obtain ⟨v1, v2, v3, _⟩ := id hV
  obtain ⟨r, hr, e', d, rfl, h⟩ := loop_inv (step := law42_InventoryExact_L21 (l, 0) (T, L, s, k)) (fun p => ∃ (e' : Int) (d : List Shf) (i : Int), p = (e', d, i) ∧ 0 ≤ i ∧ (d.length : Int) + i = n ∧ e' = e + 5 * d.length) (fun p => p.2.2.toNat)
    (fun r => ∃ (e' : Int) (d : List Shf), r = (e', d) ∧ e ≤ e' ∧ e' ≤ e + 20 ∧ d.length ≤ 4) (by
    rintro _ ⟨e', d, i, rfl, hi, hd, rfl⟩
    unfold law42_InventoryExact_L21
    dsimp only
    by_cases c : i > 0
    · obtain ⟨w, f, t, fr, hsh⟩ := shiftlaw_ok l (e + 5 * d.length) L s (by omega) (by omega) v3 (by omega) (vld_sml hV)
      rw [if_pos (dpos c), hsh]
      simp only [Option.bind_some]
      rw [if_pos (by simp only [List.length_singleton]; omega), wr_id (by omega) (by omega)]
      exact .inl ⟨_, rfl, ⟨_, _, _, rfl, by omega, by simp only [List.length_append, List.length_singleton]; omega, by simp only [List.length_append, List.length_singleton]; omega⟩, by dsimp only; omega⟩
    · rw [if_neg (dneg c)]
      exact .inr ⟨_, rfl, _, _, rfl, by omega, by omega, by omega⟩) (e, [], n) ⟨e, [], n, rfl, hn.1, by simp, by simp⟩ (by dsimp only; omega)
  exact ⟨e', d, hr, h⟩

theorem inventoryExact_ok (l : List Int) (p1 : Trk) (p2 : List Int) (p3 : Sta) (p4 : List Shf) : law42_InventoryExact l p1 p2 p3 p4 = some true := by
  unfold law42_InventoryExact
  rw [show gen_New l = some (l, 0) from rfl]
  simp only [Option.bind_some]
  obtain ⟨d, hd, e, rfl, he0, he1⟩ := loop_inv (step := law42_InventoryExact_L11 p4 (l, 0)) (fun p => ∃ (e : Int) (i : Nat), p = (e, (i : Int)) ∧ i ≤ 4 ∧ 0 ≤ e ∧ e ≤ 100 * i) (fun p => 4 - p.2.toNat) (fun d => ∃ e : Int, d = .inr e ∧ 0 ≤ e ∧ e ≤ 400) (by
    rintro _ ⟨e, i, rfl, hi, he0, he1⟩
    unfold law42_InventoryExact_L11
    dsimp only
    by_cases c : i < 4
    · obtain ⟨T, L, s, k, hm, hV, hT, hL, hk1, hk2⟩ := made_ok l e he0 (by omega)
      rw [if_pos (dpos (by omega)), hm]
      simp only [Option.bind_some]
      obtain ⟨n, hn, n0, n1⟩ := next_ok l k 5 (by omega) (by omega) (by omega) (by omega)
      rw [hn]
      simp only [Option.bind_some]
      obtain ⟨e', q, hq, q1, q2, q3⟩ := l21_ok l hV k (k + 1) n (by omega) ⟨n0, n1⟩
      rw [hq]
      dsimp only [Option.bind_some]
      by_cases c2 : i = 2
      · rw [if_pos (by simp [c2])]
        obtain ⟨a, h1, _⟩ := pick_ok l e' [-1, 0, (L.length : Int)] (by omega) (by omega) (by simp) (by simp)
        obtain ⟨b, h2, _⟩ := pick_ok l (e' + 1) [-2, -1, (s.length : Int)] (by omega) (by omega) (by simp) (by simp)
        obtain ⟨g, h3, _⟩ := pick_ok l (e' + 1 + 1) [-2, -1, (s.length : Int)] (by omega) (by omega) (by simp) (by simp)
        rw [h1]; simp only [Option.bind_some]
        rw [h2]; simp only [Option.bind_some]
        rw [h3]; simp only [Option.bind_some]
        rw [if_pos (by simp only [List.length_singleton]; omega)]
        obtain ⟨e2, h4, b1, b2⟩ := j30_ok p4 l i c hV (by omega) k (e' + 1 + 1 + 1) (by omega) (q ++ [(a, b, g, false)]) (by simp only [List.length_append, List.length_singleton]; omega)
        exact .inl ⟨_, h4, ⟨_, i + 1, rfl, by omega, by omega, by omega⟩, by dsimp only; omega⟩
      · rw [if_neg (by simpa using (by omega : ¬ (i : Int) = 2))]
        obtain ⟨e2, h4, b1, b2⟩ := j30_ok p4 l i c hV (by omega) k e' (by omega) q (by omega)
        exact .inl ⟨_, h4, ⟨_, i + 1, rfl, by omega, by omega, by omega⟩, by dsimp only; omega⟩
    · rw [if_neg (dneg (by omega))]
      exact .inr ⟨_, rfl, _, rfl, he0, by omega⟩) (0, 0) ⟨0, 0, rfl, by omega, by omega, by omega⟩ (by dsimp only; omega)
  rw [hd]
  dsimp only [Option.bind_some]
  have jt : law42_InventoryExact_J88 p1 p2 p3 p4 (l, 0) e true = some true := by
    unfold law42_InventoryExact_J88
    rw [if_pos rfl, sane_ok]; rfl
  by_cases c1 : (p1.length : Int) > 40
  · rw [if_pos (dpos c1)]; exact jt
  rw [if_neg (dneg c1)]
  by_cases c2 : (p2.length : Int) > 250
  · rw [if_pos (dpos c2)]; exact jt
  rw [if_neg (dneg c2)]
  by_cases c3 : (p3.length : Int) > 40
  · rw [if_pos (dpos c3)]; exact jt
  rw [if_neg (dneg c3)]
  by_cases c4 : (p4.length : Int) > 100
  · rw [dpos c4]; exact jt
  have e4 : decide ((p4.length : Int) > 100) = false := decide_eq_false c4
  rw [e4]
  unfold law42_InventoryExact_J88
  rw [if_neg (by simp)]
  obtain ⟨r, hr, hP⟩ := loop_inv (step := law42_InventoryExact_L92 p3) (fun p => ∃ i : Nat, p = (i : Int) ∧ i ≤ p3.length ∧ ∀ row ∈ p3.take i, row.length ≤ 300) (fun p => p3.length - p.toNat)
    (fun r => r = .inl true ∨ (r = .inr () ∧ ∀ row ∈ p3, row.length ≤ 300)) (by
    rintro _ ⟨i, rfl, hi, hR⟩
    unfold law42_InventoryExact_L92
    dsimp only
    by_cases h : i < p3.length
    · rw [if_pos (dpos (by omega)), iget h]
      simp only [Option.bind_some]
      by_cases c : (p3[i].length : Int) > 300
      · rw [if_pos (dpos c), sane_ok]
        exact .inr ⟨_, rfl, .inl rfl⟩
      · rw [if_neg (dneg c), iw1 (by omega)]
        refine .inl ⟨_, rfl, ⟨i + 1, rfl, by omega, ?_⟩, by omega⟩
        rw [List.take_succ_eq_append_getElem h]
        intro row hr
        rcases List.mem_append.1 hr with hr | hr
        · exact hR row hr
        · rw [List.mem_singleton.1 hr]; omega
    · obtain rfl : i = p3.length := by omega
      rw [List.take_length] at hR
      rw [if_neg (dneg (by omega))]
      exact .inr ⟨_, rfl, .inr ⟨rfl, hR⟩⟩) 0 ⟨0, rfl, Nat.zero_le _, fun row hr => by simp at hr⟩ (by omega)
  rw [hr]
  rcases hP with rfl | ⟨rfl, hR⟩
  · rfl
  · dsimp only [Option.bind_some]
    obtain ⟨a, h1, a0, a1⟩ := next_ok l e 5 (by omega) (by omega) (by omega) (by omega)
    obtain ⟨b, h2, b0, b1⟩ := next_ok l (e + 1) 5 (by omega) (by omega) (by omega) (by omega)
    obtain ⟨c, h3, c0, c1⟩ := next_ok l (e + 1 + 1) 6 (by omega) (by omega) (by omega) (by omega)
    rw [h1]; simp only [Option.bind_some]
    rw [h2]; simp only [Option.bind_some]
    rw [h3]; simp only [Option.bind_some]
    rw [exact_ok _ _ _ _ _ _ _ ⟨by omega, fun row hr => by have := hR row hr; omega⟩ (by omega)]; simp only [Option.bind_some]
    rw [if_pos trivial, sane_ok]; rfl
end Go.Proofs.Ytgeceohdppecgaa
