
/- What a shift does to a valid state, and that Apply does the same as the reference. Conditions: those of each theorem. -/
import Derived.Test.YtgeceohdppecgaaPIshift
set_option linter.unusedVariables false
set_option linter.unusedSimpArgs false
namespace Go.Proofs.Ytgeceohdppecgaa
open Go Go.V Go.Proofs

theorem sm_filt {L : List Int} (h : Ln L) (w : Int) : ∀ {r : List Int}, Rg L.length r → sm L (r.filter (· ≠ w)) ≤ sm L r
  | [], _ => by simp
  | x :: r, hr => by
    have ih := sm_filt h w (r := r) fun y hy => hr y (List.mem_cons_of_mem _ hy)
    have b := vw_bd h (hr x List.mem_cons_self)
    by_cases e : x = w
    · rw [List.filter_cons_of_neg (by simp [e]), sm_cons]; omega
    · rw [List.filter_cons_of_pos (by simp [e]), sm_cons, sm_cons]; omega
theorem sm_take {L row : List Int} {w : Int} {i : Nat} (hn : row.Nodup) (h : row[i]? = some w) : sm L row = vw L w.toNat + sm L (row.filter (· ≠ w)) := by
  rw [← filt_at hn h]
  obtain ⟨hi, e⟩ := List.getElem?_eq_some_iff.1 h
  have hs : row = row.take i ++ w :: row.drop (i + 1) := by rw [← e, ← List.drop_eq_getElem_cons hi, List.take_append_drop]
  conv => lhs; rw [hs]
  rw [sm_app, sm_cons, sm_app]; omega
theorem sm_put (L row : List Int) (w : Int) (front : Bool) : sm L (if front then w :: row else row ++ [w]) = vw L w.toNat + sm L row := by
  cases front
  · rw [if_neg (by simp), sm_app, sm_cons, sm_nil]; omega
  · rw [if_pos rfl, sm_cons]

theorem cd_zero {T : Trk} {L : List Int} {s : Sta} {w f t : Int} (h : cd T L s w f t = 0) : (0 ≤ w ∧ w < L.length) ∧ (-1 ≤ f ∧ f < s.length) ∧ (-1 ≤ t ∧ t < s.length) ∧ (whp s w).1 = f ∧ ¬ (f = -1 ∧ t = -1) ∧
    (0 ≤ t → t ≠ f → sm L (s[t.toNat]?.getD []) + vw L w.toNat ≤ (T[t.toNat]?.getD ([], 0)).2) := by
  unfold cd at h
  split at h
  · cases h
  split at h
  · cases h
  split at h
  · cases h
  refine ⟨by omega, by omega, by omega, ?_, by omega, by omega⟩
  rename_i _ q _
  by_cases e : (whp s w).1 = f
  · exact e
  · exact absurd (.inl e) q


/-- Is the wagon on a track, it stands there. -/
theorem whs_at {s : Sta} {w : Int} {p : Int × Int} (h : WhS s w p) {j : Nat} {row : List Int} (hj : s[j]? = some row) (hp : p.1 = (j : Int)) : ∃ i : Nat, row[i]? = some w := by
  rcases h with ⟨rfl, _⟩ | ⟨t, i, row', rfl, h1, h2, _⟩
  · simp only at hp; omega
  · simp only at hp
    obtain rfl : t = j := by omega
    rw [hj] at h1; cases h1
    exact ⟨i, h2.1⟩
theorem whs_off {T : Trk} {L : List Int} {s : Sta} (hV : Vld T L s) {w : Int} {p : Int × Int} (h : WhS s w p) {j : Nat} {row : List Int} (hj : s[j]? = some row) (hp : p.1 ≠ (j : Int)) : w ∉ row := by
  rcases h with ⟨rfl, h⟩ | ⟨t, i, row', rfl, h1, h2, _⟩
  · exact h row (List.mem_of_getElem? hj)
  · intro hx
    have := vld_one hV h1 hj (List.mem_of_getElem? h2.1) hx
    simp only at hp; omega

theorem put_mem {w to : Int} {front : Bool} {j : Nat} {row : List Int} {x : Int} : x ∈ put w to front j row ↔ ((j : Int) = to ∧ x = w) ∨ (x ∈ row ∧ x ≠ w) := by
  unfold put
  by_cases c : (j : Int) = to
  · rw [if_pos c]
    cases front <;> simp [c]
    · constructor
      · rintro (h | h)
        · exact .inr h
        · exact .inl h
      · rintro (h | h)
        · exact .inr h
        · exact .inl h
  · rw [if_neg c]; simp [c]
theorem put_nodup {w to : Int} {front : Bool} {j : Nat} {row : List Int} (h : row.Nodup) : (put w to front j row).Nodup := by
  have hf : (row.filter (· ≠ w)).Nodup := h.filter _
  have hw : w ∉ row.filter (· ≠ w) := by simp
  unfold put
  by_cases c : (j : Int) = to
  · rw [if_pos c]
    cases front
    · rw [if_neg (by simp)]
      exact List.nodup_append.2 ⟨hf, by simp, fun x hx y hy e => hw (by rw [List.mem_singleton.1 hy] at e; exact e ▸ hx)⟩
    · rw [if_pos rfl]; exact List.nodup_cons.2 ⟨hw, hf⟩
  · rw [if_neg c]; exact hf
theorem mv_row {s : Sta} {w to : Int} {front : Bool} {j : Nat} {r : List Int} (h : (mv s w to front)[j]? = some r) : ∃ row, s[j]? = some row ∧ r = put w to front j row := by
  have hR : (mv s w to front)[j]? = (s[j]?).map (put w to front j) := by simp [mv, List.getElem?_mapIdx]
  rw [hR] at h
  cases hj : s[j]? with
  | none => rw [hj] at h; cases h
  | some row => rw [hj] at h; cases h; exact ⟨row, rfl, rfl⟩

theorem mv_sum {T : Trk} {L : List Int} {s : Sta} (h : Vld T L s) {w t : Int} (front : Bool) {j : Nat} {row : List Int} (hj : s[j]? = some row) (ht : t = (j : Int)) (hw : 0 ≤ w ∧ w < L.length) {p : Int × Int} (hp : WhS s w p) :
    sm L (put w t front j row) = if p.1 = t then sm L row else sm L row + vw L w.toNat := by
  unfold put
  rw [if_pos ht.symm, sm_put]
  by_cases c : p.1 = t
  · rw [if_pos c]
    obtain ⟨i, hi⟩ := whs_at hp hj (by omega)
    exact (sm_take (vld_rows h row (List.mem_of_getElem? hj)).2.1 hi).symm
  · rw [if_neg c, filt_no (whs_off h hp hj (by omega))]; omega

theorem mv_vld {T : Trk} {L : List Int} {s : Sta} (h : Vld T L s) {w f t : Int} (front : Bool) (hc : cd T L s w f t = 0) : Vld T L (mv s w t front) := by
  obtain ⟨c1, c2, c3, c4, c5, c6⟩ := cd_zero hc
  obtain ⟨_, _, hW⟩ := whp_ok (vld_sml h) w
  obtain ⟨h1, h2, h3, h4, h5, h6, h7⟩ := id h
  refine vld_mk (by rw [mv_len]; exact h1) h2 h3 h4 (fun r hr => ?_) (fun j k r q x hj hk hx hy => ?_) (fun j r tr hj hr htr => ?_)
  · obtain ⟨j, hj⟩ := List.getElem?_of_mem hr
    obtain ⟨row, hrow, rfl⟩ := mv_row hj
    obtain ⟨a, b, _⟩ := vld_rows h row (List.mem_of_getElem? hrow)
    refine ⟨fun x hx => ?_, put_nodup b⟩
    rcases put_mem.1 hx with ⟨_, rfl⟩ | ⟨q, _⟩
    · exact c1
    · exact a x q
  · obtain ⟨row, hrow, rfl⟩ := mv_row hj
    obtain ⟨row', hrow', rfl⟩ := mv_row hk
    rcases put_mem.1 hx with ⟨e1, rfl⟩ | ⟨q1, n1⟩ <;> rcases put_mem.1 hy with ⟨e2, e3⟩ | ⟨q2, n2⟩
    · omega
    · exact absurd rfl n2
    · exact absurd e3 n1
    · exact vld_one h hrow hrow' q1 q2
  · rw [mv_len] at hj
    obtain ⟨row, hrow, rfl⟩ := mv_row hr
    obtain ⟨t1, t2, t3⟩ := h7 j row tr hj hrow htr
    refine ⟨t1, t2, ?_⟩
    by_cases e : t = (j : Int)
    · rw [mv_sum h front hrow e c1 hW]
      split
      · exact t3
      · rename_i q
        have := c6 (by omega) (fun e2 => q (by rw [c4, e2]))
        rw [e, Int.toNat_natCast, hrow, htr] at this
        simp only [Option.getD_some] at this
        exact this
    · unfold put
      rw [if_neg (by omega)]
      exact Int.le_trans (sm_filt h4 w (vld_rows h row (List.mem_of_getElem? hrow)).1) t3

theorem j19_ok {w t : Int} {fr : Bool} {s1 : Sta} (h1 : -1 ≤ t) (h2 : t < s1.length) (hr : ∀ row ∈ s1, row.length ≤ 192) :
    inventory_shift_J19 w t fr s1 = some (0, if 0 ≤ t then s1.set t.toNat (if fr then w :: (s1[t.toNat]?.getD []) else (s1[t.toNat]?.getD []) ++ [w]) else s1) := by
  unfold inventory_shift_J19
  by_cases c : 0 ≤ t
  · have hl : t.toNat < s1.length := by omega
    have hrow := hr _ (List.getElem_mem hl)
    have hi := iget' c h2
    rw [if_pos (dpos c), if_pos c]
    unfold inventory_shift_J28
    rw [List.getElem?_eq_getElem hl, Option.getD_some]
    cases fr
    · rw [if_neg (by simp), if_pos (dpos c), hi]
      simp only [Option.bind_some]
      rw [if_pos (by simp; omega)]; rfl
    · rw [if_pos rfl, hi]
      simp only [Option.bind_some]
      rw [if_pos (by omega)]; rfl
  · rw [if_neg (dneg c), if_neg c]
    unfold inventory_shift_J28
    rw [if_neg (by simp), if_neg (dneg c)]

theorem filt_row {T : Trk} {L : List Int} {s s1 : Sta} (h : Vld T L s) {w : Int} (h1 : ∀ j : Nat, s1[j]? = (s[j]?).map fun row : List Int => row.filter (· ≠ w)) : ∀ row ∈ s1, row.length ≤ 192 := by
  intro row hr
  obtain ⟨j, hj⟩ := List.getElem?_of_mem hr
  rw [h1] at hj
  cases e : s[j]? with
  | none => rw [e] at hj; cases hj
  | some q =>
    rw [e] at hj; cases hj
    have := (vld_rows h q (List.mem_of_getElem? e)).2.2
    exact Nat.le_trans (List.length_filter_le _ _) this

theorem j10_ok {T : Trk} {L : List Int} {s : Sta} (h : Vld T L s) {w t : Int} {fr : Bool} {p : Int × Int} (hp : WhS s w p) (h1 : -1 ≤ t) (h2 : t < s.length) :
    inventory_shift_J10 s w t fr p = some (0, mv s w t fr) := by
  have hc := cut_mv h hp
  unfold inventory_shift_J10
  rcases hp with ⟨rfl, hn⟩ | ⟨u, i, row, rfl, k1, k2, k3⟩
  · rw [if_neg (by simp)] at hc ⊢
    rw [j19_ok h1 h2 (filt_row h hc), set_mv (to := t) (front := fr) hc]
  · have hul := (List.getElem?_eq_some_iff.1 k1).1
    have hil := (List.getElem?_eq_some_iff.1 k2.1).1
    rw [if_pos (by simp)] at hc ⊢
    dsimp only at hc ⊢
    rw [idx_nat, k1]
    simp only [Option.bind_some, Int.toNat_natCast, k1, Option.getD_some] at hc ⊢
    have hrl := (vld_rows h row (List.mem_of_getElem? k1)).2.2
    rw [iw1 (by omega), Int.toNat_natCast, if_pos ⟨fun e => by rw [e] at hil; simp at hil, by omega, by omega, by omega⟩, j19_ok h1 (by rw [List.length_set]; exact h2) (filt_row h hc), set_mv (to := t) (front := fr) hc]

theorem shift_ok {T : Trk} {L : List Int} {s : Sta} (h : Vld T L s) (w f t : Int) (fr : Bool) :
    inventory_shift T L s w f t fr = some (cd T L s w f t, if cd T L s w f t = 0 then mv s w t fr else s) := by
  obtain ⟨hw, _, hW⟩ := whp_ok (vld_sml h) w
  obtain ⟨v1, v2, v3, v4, v5, v6, v7⟩ := id h
  unfold inventory_shift
  by_cases c : w < 0 ∨ (L.length : Int) ≤ w ∨ f < -1 ∨ (s.length : Int) ≤ f ∨ t < -1 ∨ (s.length : Int) ≤ t
  · have e : cd T L s w f t = 2 := by unfold cd; rw [if_pos c]
    rw [e, if_neg (show ¬ (2 : Int) = 0 by decide)]
    simp only [decide_eq_true_eq, ge_iff_le]
    iterate 6 (split; · rfl)
    exfalso; omega
  · rw [if_neg (dneg (by omega)), if_neg (dneg (by omega)), if_neg (dneg (by omega)), if_neg (dneg (by omega)), if_neg (dneg (by omega)), if_neg (dneg (by omega)), hw]
    simp only [Option.bind_some]
    have e1 : cd T L s w f t = if (whp s w).1 ≠ f ∨ (f = -1 ∧ t = -1) then 17 else if 0 ≤ t ∧ t ≠ f ∧ (T[t.toNat]?.getD ([], 0)).2 - sm L (s[t.toNat]?.getD []) < vw L w.toNat then 14 else 0 := by unfold cd; rw [if_neg c]
    by_cases c2 : (whp s w).1 = f
    · rw [if_neg (by simp [c2])]
      have fin : ¬ (f = -1 ∧ t = -1) → inventory_shift_J9 T L s w f t fr (whp s w) = some (cd T L s w f t, if cd T L s w f t = 0 then mv s w t fr else s) := by
        intro c3
        rw [if_neg (by rintro (q | q); exact q c2; exact c3 q)] at e1
        unfold inventory_shift_J9
        by_cases c4 : 0 ≤ t
        · rw [if_pos (dpos c4)]
          by_cases c5 : t ≠ f
          · have htl : t.toNat < s.length := by omega
            have htl' : t.toNat < T.length := by omega
            have hrow := vld_rows h _ (List.getElem_mem htl)
            have hT := v7 t.toNat s[t.toNat] T[t.toNat] htl (List.getElem?_eq_getElem htl) (List.getElem?_eq_getElem htl')
            rw [if_pos (by simpa using c5), iget' c4 (by omega), iget' c4 (by omega), vw_nn (by omega) (by omega)]
            simp only [Option.bind_some]
            rw [room_ok v4 hrow.1 (by omega) _ _ hT.1 hT.2.1]
            simp only [Option.bind_some]
            rw [List.getElem?_eq_getElem htl, List.getElem?_eq_getElem htl'] at e1
            simp only [Option.getD_some] at e1
            by_cases c6 : T[t.toNat].2 - sm L s[t.toNat] < vw L w.toNat
            · rw [if_pos ⟨c4, c5, c6⟩] at e1
              rw [if_pos (dpos c6), e1, if_neg (show ¬ (14 : Int) = 0 by decide)]
            · rw [if_neg (by omega)] at e1
              rw [if_neg (dneg c6), e1, if_pos rfl, j10_ok h hW (by omega) (by omega)]
          · rw [if_neg (by omega)] at e1
            rw [if_neg (by simpa using c5), e1, if_pos rfl, j10_ok h hW (by omega) (by omega)]
        · rw [if_neg (by omega)] at e1
          rw [if_neg (dneg c4), e1, if_pos rfl, j10_ok h hW (by omega) (by omega)]
      by_cases c3 : f = -1
      · rw [if_pos (by simpa using c3)]
        by_cases c4 : t = -1
        · rw [if_pos (.inr ⟨c3, c4⟩)] at e1
          rw [if_pos (by simpa using c4), e1, if_neg (show ¬ (17 : Int) = 0 by decide)]
        · rw [if_neg (by simpa using c4)]; exact fin (by omega)
      · rw [if_neg (by simpa using c3)]; exact fin (by omega)
    · rw [if_pos (.inl c2)] at e1
      rw [if_pos (by simpa using c2), e1, if_neg (show ¬ (17 : Int) = 0 by decide)]


/-- What Apply gives. -/
noncomputable def ap (T : Trk) (L : List Int) (s : Sta) (w f t : Int) (fr : Bool) : Sta × Int :=
  open Classical in if Vld T L s then (if cd T L s w f t = 0 then (mv s w t fr, 0) else ([], cd T L s w f t)) else ([], 1)
theorem ap_no {T : Trk} {L : List Int} {s : Sta} (h : ¬ Vld T L s) (w f t : Int) (fr : Bool) : ap T L s w f t fr = ([], 1) := if_neg h
theorem ap_yes {T : Trk} {L : List Int} {s : Sta} (h : Vld T L s) (w f t : Int) (fr : Bool) : ap T L s w f t fr = if cd T L s w f t = 0 then (mv s w t fr, 0) else ([], cd T L s w f t) := if_pos h
theorem apply_ok (T : Trk) (L : List Int) (s : Sta) (w f t : Int) (fr : Bool) (hs : ∀ row ∈ s, row.length < 4294967296) : inventory_Apply T L s w f t fr = some (ap T L s w f t fr) := by
  obtain ⟨b, hb, hV⟩ := valid_ok T L s hs
  unfold inventory_Apply
  rw [hb]
  simp only [Option.bind_some]
  cases b with
  | false => rw [if_pos (show (!false) = true from rfl), ap_no (by simpa using hV)]
  | true =>
    have h := hV.1 rfl
    rw [if_neg (by simp), copied_ok s (vld_sml h)]
    simp only [Option.bind_some]
    rw [shift_ok h, ap_yes h]
    simp only [Option.bind_some]
    by_cases c : cd T L s w f t = 0
    · rw [if_pos c, if_pos c, if_pos (mv_len _ _ _ _), if_neg (by simp [c])]
    · rw [if_neg c, if_neg c, if_pos rfl, if_pos (by simpa using c)]

theorem j16_ok {T : Trk} {L : List Int} {s s1 : Sta} (h : Vld T L s) {w t : Int} {fr : Bool} {p : Int × Int} (hp : WhS s w p) (hw : 0 ≤ w ∧ w < L.length) (h1 : -1 ≤ t) (h2 : t < s.length)
    (hc : ∀ j : Nat, s1[j]? = (s[j]?).map fun row : List Int => row.filter (· ≠ w)) :
    r42_Apply_J16 T L w t fr s1 = some (if 0 ≤ t ∧ t ≠ p.1 ∧ (T[t.toNat]?.getD ([], 0)).2 - sm L (s[t.toNat]?.getD []) < vw L w.toNat then ([], 14) else (mv s w t fr, 0)) := by
  obtain ⟨v1, v2, v3, v4, v5, v6, v7⟩ := id h
  have hm := set_mv (to := t) (front := fr) hc
  have hf := filt_row h hc
  unfold r42_Apply_J16
  by_cases c : 0 ≤ t
  · rw [if_neg (dneg (by omega))]
    rw [if_pos c] at hm
    have htl : t.toNat < s.length := by omega
    have htl' : t.toNat < T.length := by omega
    have hT := v7 t.toNat s[t.toNat] T[t.toNat] htl (List.getElem?_eq_getElem htl) (List.getElem?_eq_getElem htl')
    have hs1 : s1[t.toNat]? = some (s[t.toNat].filter (· ≠ w)) := by rw [hc, List.getElem?_eq_getElem htl]; rfl
    have hi : idx s1 t = some (s[t.toNat].filter (· ≠ w)) := by rw [idx_nn _ c, hs1]
    have hl : (s[t.toNat].filter (· ≠ w)).length ≤ 192 := hf _ (List.mem_of_getElem? hs1)
    rw [hs1, Option.getD_some] at hm
    have hput : (mv s w t fr)[t.toNat]? = some (put w t fr t.toNat s[t.toNat]) := mv_get (List.getElem?_eq_getElem htl)
    have hsum := mv_sum h fr (List.getElem?_eq_getElem htl) (show t = (t.toNat : Int) by omega) hw hp
    have hrow := vld_rows h _ (List.getElem_mem htl)
    have hrg : Rg L.length (put w t fr t.toNat s[t.toNat]) := fun x hx => by
      rcases put_mem.1 hx with ⟨_, rfl⟩ | ⟨q, _⟩
      · exact hw
      · exact hrow.1 x q
    have hpl := rg_len hrg (put_nodup hrow.2.1)
    have j33 : r42_Apply_J33 T L t (mv s w t fr) = some (if 0 ≤ t ∧ t ≠ p.1 ∧ (T[t.toNat]?.getD ([], 0)).2 - sm L (s[t.toNat]?.getD []) < vw L w.toNat then ([], 14) else (mv s w t fr, 0)) := by
      unfold r42_Apply_J33
      rw [idx_nn _ c, hput]
      simp only [Option.bind_some]
      rw [iget' c (by omega)]
      simp only [Option.bind_some]
      rw [sum_ok v4 hrg (by omega)]
      simp only [Option.bind_some]
      rw [hsum, List.getElem?_eq_getElem htl, List.getElem?_eq_getElem htl', Option.getD_some, Option.getD_some]
      by_cases q : p.1 = t
      · rw [if_pos q, if_neg (dneg (by omega)), if_neg (fun h => h.2.1 q.symm)]
      · rw [if_neg q]
        by_cases q2 : T[t.toNat].2 - sm L s[t.toNat] < vw L w.toNat
        · rw [if_pos (dpos (by omega)), if_pos ⟨c, fun e => q e.symm, q2⟩]
        · rw [if_neg (dneg (by omega)), if_neg (fun h => q2 h.2.2)]
    cases fr
    · rw [if_neg (by simp)] at hm
      rw [if_neg (by simp), hi]
      simp only [Option.bind_some]
      rw [if_pos (by simp only [List.length_singleton]; omega)]
      rw [hm]; exact j33
    · rw [if_pos rfl] at hm
      rw [if_pos rfl, hi]
      simp only [Option.bind_some]
      rw [if_pos (by simp only [List.length_singleton]; omega)]
      rw [show [w] ++ s[t.toNat].filter (· ≠ w) = w :: s[t.toNat].filter (· ≠ w) from rfl, hm]; exact j33
  · rw [if_neg c] at hm
    rw [if_pos (dpos (by omega)), if_neg (fun h => c h.1), hm]

theorem j12_ok {T : Trk} {L : List Int} {s : Sta} (h : Vld T L s) {w t : Int} {fr : Bool} {p : Int × Int} (hp : WhS s w p) (hw : 0 ≤ w ∧ w < L.length) (h1 : -1 ≤ t) (h2 : t < s.length) :
    r42_Apply_J12 T L s w t fr p = some (if 0 ≤ t ∧ t ≠ p.1 ∧ (T[t.toNat]?.getD ([], 0)).2 - sm L (s[t.toNat]?.getD []) < vw L w.toNat then ([], 14) else (mv s w t fr, 0)) := by
  have hc := cut_mv h hp
  unfold r42_Apply_J12
  rw [rcopied_ok s (vld_sml h)]
  simp only [Option.bind_some]
  rcases id hp with ⟨rfl, hn⟩ | ⟨u, i, row, rfl, k1, k2, k3⟩
  · rw [if_neg (by simp)] at hc ⊢
    exact j16_ok h hp hw h1 h2 hc
  · have hil := (List.getElem?_eq_some_iff.1 k2.1).1
    have hrl := (vld_rows h row (List.mem_of_getElem? k1)).2.2
    rw [if_pos (by simp)] at hc ⊢
    dsimp only at hc ⊢
    rw [idx_nat, k1]
    simp only [Option.bind_some, Int.toNat_natCast, k1, Option.getD_some] at hc ⊢
    have ht : (row.drop (i + 1)).take (row.length - (i + 1)) = row.drop (i + 1) := List.take_of_length_le (by simp)
    rw [iw1 (by omega), Int.toNat_natCast, if_pos ⟨by omega, by omega⟩, if_pos ⟨by omega, by omega, by omega⟩, ht, if_pos (by simp; omega)]
    exact j16_ok h hp hw h1 h2 hc

theorem rapply_ok (T : Trk) (L : List Int) (s : Sta) (w f t : Int) (fr : Bool) (hs : ∀ row ∈ s, row.length < 4294967296) : r42_Apply T L s w f t fr = some (ap T L s w f t fr) := by
  obtain ⟨b, hb, hV⟩ := rvalid_ok T L s hs
  unfold r42_Apply
  rw [hb]
  simp only [Option.bind_some]
  cases b with
  | false => rw [if_pos (show (!false) = true from rfl), ap_no (by simpa using hV)]
  | true =>
    have h := hV.1 rfl
    obtain ⟨_, hw, hW⟩ := whp_ok (vld_sml h) w
    rw [if_neg (by simp), ap_yes h]
    by_cases c : w < 0 ∨ (L.length : Int) ≤ w ∨ f < -1 ∨ (s.length : Int) ≤ f ∨ t < -1 ∨ (s.length : Int) ≤ t
    · have e : cd T L s w f t = 2 := by unfold cd; rw [if_pos c]
      rw [e, if_neg (show ¬ (2 : Int) = 0 by decide)]
      simp only [decide_eq_true_eq, ge_iff_le]
      iterate 6 (split; · rfl)
      exfalso; omega
    · rw [if_neg (dneg (by omega)), if_neg (dneg (by omega)), if_neg (dneg (by omega)), if_neg (dneg (by omega)), if_neg (dneg (by omega)), if_neg (dneg (by omega)), hw]
      simp only [Option.bind_some]
      have e1 : cd T L s w f t = if (whp s w).1 ≠ f ∨ (f = -1 ∧ t = -1) then 17 else if 0 ≤ t ∧ t ≠ f ∧ (T[t.toNat]?.getD ([], 0)).2 - sm L (s[t.toNat]?.getD []) < vw L w.toNat then 14 else 0 := by unfold cd; rw [if_neg c]
      by_cases c2 : (whp s w).1 = f
      · rw [if_neg (by simp [c2])]
        have fin : ¬ (f = -1 ∧ t = -1) → r42_Apply_J12 T L s w t fr (whp s w) = some (if cd T L s w f t = 0 then (mv s w t fr, 0) else ([], cd T L s w f t)) := by
          intro c3
          rw [if_neg (by rintro (q | q); exact q c2; exact c3 q)] at e1
          rw [j12_ok h hW (by omega) (by omega) (by omega), c2]
          by_cases q : 0 ≤ t ∧ t ≠ f ∧ (T[t.toNat]?.getD ([], 0)).2 - sm L (s[t.toNat]?.getD []) < vw L w.toNat
          · rw [if_pos q] at e1 ⊢; rw [e1, if_neg (show ¬ (14 : Int) = 0 by decide)]
          · rw [if_neg q] at e1 ⊢; rw [e1, if_pos rfl]
        by_cases c3 : f = -1
        · rw [if_pos (dpos (by omega))]
          by_cases c4 : t = -1
          · rw [if_pos (.inr ⟨c3, c4⟩)] at e1
            rw [if_pos (dpos (by omega)), e1, if_neg (show ¬ (17 : Int) = 0 by decide)]
          · rw [if_neg (dneg (by omega))]; exact fin (by omega)
        · rw [if_neg (dneg (by omega))]; exact fin (by omega)
      · rw [if_pos (.inl c2)] at e1
        rw [if_pos (by simpa using c2), e1, if_neg (show ¬ (17 : Int) = 0 by decide)]
end Go.Proofs.Ytgeceohdppecgaa
