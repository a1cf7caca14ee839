
/- Where a wagon stands, and what a shift does: the program and the reference agree on valid states. Conditions: those of each theorem. -/
import Derived.Test.YtgeceohdppecgaaPIvalid
set_option linter.unusedVariables false
set_option linter.unusedSimpArgs false
namespace Go.Proofs.Ytgeceohdppecgaa
open Go Go.V Go.Proofs


/-- A list's first place of w. -/
def At1 (row : List Int) (w : Int) (i : Nat) : Prop := row[i]? = some w ∧ w ∉ row.take i
theorem at1_uniq {row : List Int} {w : Int} {i j : Nat} (h : At1 row w i) (k : At1 row w j) : i = j := by
  rcases Nat.lt_trichotomy i j with e | e | e
  · exact absurd (List.mem_of_getElem? (show (row.take j)[i]? = some w by rw [List.getElem?_take, if_pos e]; exact h.1)) k.2
  · exact e
  · exact absurd (List.mem_of_getElem? (show (row.take i)[j]? = some w by rw [List.getElem?_take, if_pos e]; exact k.1)) h.2

/-- What Where gives. -/
def WhS (s : Sta) (w : Int) (p : Int × Int) : Prop :=
  (p = (-1, -1) ∧ ∀ row ∈ s, w ∉ row) ∨ ∃ (t i : Nat) (row : List Int), p = ((t : Int), (i : Int)) ∧ s[t]? = some row ∧ At1 row w i ∧ ∀ x ∈ s.take t, w ∉ x
theorem whs_uniq {s : Sta} {w : Int} {p q : Int × Int} (h : WhS s w p) (k : WhS s w q) : p = q := by
  rcases h with ⟨rfl, h⟩ | ⟨t, i, row, rfl, h1, h2, h3⟩ <;> rcases k with ⟨rfl, k⟩ | ⟨u, j, row', rfl, k1, k2, k3⟩
  · rfl
  · exact absurd (List.mem_of_getElem? k2.1) (h _ (List.mem_of_getElem? k1))
  · exact absurd (List.mem_of_getElem? h2.1) (k _ (List.mem_of_getElem? h1))
  · have e : t = u := by
      rcases Nat.lt_trichotomy t u with e | e | e
      · exact absurd (List.mem_of_getElem? h2.1) (k3 row (List.mem_of_getElem? (show (s.take u)[t]? = some row by rw [List.getElem?_take, if_pos e]; exact h1)))
      · exact e
      · exact absurd (List.mem_of_getElem? k2.1) (h3 row' (List.mem_of_getElem? (show (s.take t)[u]? = some row' by rw [List.getElem?_take, if_pos e]; exact k1)))
    subst e
    rw [h1] at k1; cases k1
    rw [at1_uniq h2 k2]

theorem index_ok (row : List Int) (w : Int) (hl : row.length < 4294967296) : ∃ r, slices_Index_int_int_ row w = some r ∧ ((r = -1 ∧ w ∉ row) ∨ ∃ i : Nat, r = (i : Int) ∧ At1 row w i) := by
  unfold slices_Index_int_int_
  obtain ⟨d, hd, hP⟩ := loop_inv (step := slices_Index_int_int__L2 row w) (fun p => ∃ i : Nat, p = (i : Int) ∧ i ≤ row.length ∧ w ∉ row.take i) (fun p => row.length - p.toNat)
    (fun d => (d = .inr () ∧ w ∉ row) ∨ ∃ i : Nat, d = .inl (i : Int) ∧ At1 row w i) (by
    rintro _ ⟨i, rfl, hi, hn⟩
    unfold slices_Index_int_int__L2
    dsimp only
    by_cases h : i < row.length
    · rw [if_pos (dpos (by omega)), iget h]
      simp only [Option.bind_some]
      by_cases e : w = row[i]
      · rw [if_pos (by simpa using e)]
        exact .inr ⟨_, rfl, .inr ⟨i, rfl, by rw [List.getElem?_eq_getElem h, e], hn⟩⟩
      · rw [if_neg (by simpa using e), iw1 (by omega)]
        refine .inl ⟨_, rfl, ⟨i + 1, rfl, by omega, ?_⟩, by omega⟩
        rw [List.take_succ_eq_append_getElem h]
        intro q
        rcases List.mem_append.1 q with q | q
        · exact hn q
        · exact e (List.mem_singleton.1 q)
    · obtain rfl : i = row.length := by omega
      rw [List.take_length] at hn
      exact .inr ⟨_, if_neg (dneg (by omega)), .inl ⟨rfl, hn⟩⟩) 0 ⟨0, rfl, Nat.zero_le _, by simp⟩ (by omega)
  rw [hd]
  rcases hP with ⟨rfl, h⟩ | ⟨i, rfl, h⟩
  · exact ⟨_, rfl, .inl ⟨rfl, h⟩⟩
  · exact ⟨_, rfl, .inr ⟨i, rfl, h⟩⟩

theorem rindex_ok (s : Sta) (w : Int) (t : Nat) (row : List Int) (ht : s[t]? = some row) (hl : row.length < 4294967296) :
    ∃ d, loop (r42_Where_L4 s w (t : Int)) 0 = some d ∧ ((d = .inr () ∧ w ∉ row) ∨ ∃ i : Nat, d = .inl (i : Int) ∧ At1 row w i) := by
  have hx : idx s (t : Int) = some row := by rw [idx_nat, ht]
  refine loop_inv (step := r42_Where_L4 s w (t : Int)) (fun p => ∃ i : Nat, p = (i : Int) ∧ i ≤ row.length ∧ w ∉ row.take i) (fun p => row.length - p.toNat) _ ?_ 0 ⟨0, rfl, Nat.zero_le _, by simp⟩ (by omega)
  rintro _ ⟨i, rfl, hi, hn⟩
  unfold r42_Where_L4
  dsimp only
  rw [hx]
  simp only [Option.bind_some]
  by_cases h : i < row.length
  · rw [if_pos (dpos (by omega)), iget h]
    simp only [Option.bind_some]
    by_cases e : row[i] = w
    · rw [if_pos (by simpa using e)]
      exact .inr ⟨_, rfl, .inr ⟨i, rfl, by rw [List.getElem?_eq_getElem h, e], hn⟩⟩
    · rw [if_neg (by simpa using e), iw1 (by omega)]
      refine .inl ⟨_, rfl, ⟨i + 1, rfl, by omega, ?_⟩, by omega⟩
      rw [List.take_succ_eq_append_getElem h]
      intro q
      rcases List.mem_append.1 q with q | q
      · exact hn q
      · exact e (List.mem_singleton.1 q).symm
  · obtain rfl : i = row.length := by omega
    rw [List.take_length] at hn
    exact .inr ⟨_, if_neg (dneg (by omega)), .inl ⟨rfl, hn⟩⟩

theorem where_gen {step : Int → Option (Step Int ((Int × Int) ⊕ Unit))} (s : Sta) (w : Int) (hs : s.length < 4294967296)
    (h2 : step (s.length : Int) = some (.done (.inr ())))
    (h1 : ∀ (t : Nat) (h : t < s.length), (w ∉ s[t] ∧ step (t : Int) = some (.next ((t + 1 : Nat) : Int))) ∨ ∃ i : Nat, At1 s[t] w i ∧ step (t : Int) = some (.done (.inl ((t : Int), (i : Int))))) :
    ∃ d, loop step 0 = some d ∧ ((d = .inr () ∧ ∀ row ∈ s, w ∉ row) ∨ ∃ p, d = .inl p ∧ WhS s w p) := by
  refine loop_inv (step := step) (fun p => ∃ t : Nat, p = (t : Int) ∧ t ≤ s.length ∧ ∀ x ∈ s.take t, w ∉ x) (fun p => s.length - p.toNat) _ ?_ 0 ⟨0, rfl, Nat.zero_le _, fun x hx => by simp at hx⟩ (by omega)
  rintro _ ⟨t, rfl, ht, hn⟩
  by_cases h : t < s.length
  · rcases h1 t h with ⟨a, b⟩ | ⟨i, a, b⟩
    · refine .inl ⟨_, b, ⟨t + 1, rfl, by omega, ?_⟩, by omega⟩
      rw [List.take_succ_eq_append_getElem h]
      intro x hx
      rcases List.mem_append.1 hx with hx | hx
      · exact hn x hx
      · rw [List.mem_singleton.1 hx]; exact a
    · exact .inr ⟨_, b, .inr ⟨_, rfl, .inr ⟨t, i, s[t], rfl, List.getElem?_eq_getElem h, a, hn⟩⟩⟩
  · obtain rfl : t = s.length := by omega
    rw [List.take_length] at hn
    exact .inr ⟨_, h2, .inl ⟨rfl, hn⟩⟩

def Sml (s : Sta) : Prop := s.length < 4294967296 ∧ ∀ row ∈ s, row.length < 4294967296
theorem where_ok (s : Sta) (w : Int) (h : Sml s) : ∃ p, inventory_Where s w = some p ∧ WhS s w p := by
  unfold inventory_Where
  obtain ⟨d, hd, hP⟩ := where_gen (step := inventory_Where_L2 s w) s w h.1 (by unfold inventory_Where_L2; dsimp only; rw [if_neg (dneg (by omega))]) fun t ht => by
    have hs := h.1
    unfold inventory_Where_L2
    dsimp only
    obtain ⟨r, hr, hc⟩ := index_ok s[t] w (h.2 _ (List.getElem_mem ht))
    rw [if_pos (dpos (by omega)), iget ht]
    simp only [Option.bind_some]
    rw [hr]
    simp only [Option.bind_some]
    rcases hc with ⟨rfl, hc⟩ | ⟨i, rfl, hc⟩
    · rw [if_neg (by simp), iw1 (by omega)]; exact .inl ⟨hc, rfl⟩
    · rw [if_pos (dpos (by omega))]; exact .inr ⟨i, hc, rfl⟩
  rw [hd]
  rcases hP with ⟨rfl, h⟩ | ⟨p, rfl, h⟩
  · exact ⟨_, rfl, .inl ⟨rfl, h⟩⟩
  · exact ⟨p, rfl, h⟩
theorem rwhere_ok (s : Sta) (w : Int) (h : Sml s) : ∃ p, r42_Where s w = some p ∧ WhS s w p := by
  unfold r42_Where
  obtain ⟨d, hd, hP⟩ := where_gen (step := r42_Where_L2 s w) s w h.1 (by unfold r42_Where_L2; dsimp only; rw [if_neg (dneg (by omega))]) fun t ht => by
    have hs := h.1
    unfold r42_Where_L2
    dsimp only
    obtain ⟨r, hr, hc⟩ := rindex_ok s w t s[t] (List.getElem?_eq_getElem ht) (h.2 _ (List.getElem_mem ht))
    rw [if_pos (dpos (by omega)), hr]
    rcases hc with ⟨rfl, hc⟩ | ⟨i, rfl, hc⟩
    · dsimp only [Option.bind_some]; rw [iw1 (by omega)]; exact .inl ⟨hc, rfl⟩
    · exact .inr ⟨i, hc, rfl⟩
  rw [hd]
  rcases hP with ⟨rfl, h⟩ | ⟨p, rfl, h⟩
  · exact ⟨_, rfl, .inl ⟨rfl, h⟩⟩
  · exact ⟨p, rfl, h⟩

/-- Where a wagon stands. -/
noncomputable def whp (s : Sta) (w : Int) : Int × Int := (inventory_Where s w).getD (-1, -1)
theorem whp_ok {s : Sta} (h : Sml s) (w : Int) : inventory_Where s w = some (whp s w) ∧ r42_Where s w = some (whp s w) ∧ WhS s w (whp s w) := by
  obtain ⟨p, h1, h2⟩ := where_ok s w h
  obtain ⟨q, k1, k2⟩ := rwhere_ok s w h
  have e : whp s w = p := by unfold whp; rw [h1]; rfl
  rw [e]
  refine ⟨h1, ?_, h2⟩
  rw [k1, whs_uniq k2 h2]

theorem copied_ok (s : Sta) (h : Sml s) : inventory_copied s = some s := by
  unfold inventory_copied
  obtain ⟨d, hd, rfl⟩ := loop_inv (step := inventory_copied_L2 s) (fun p => ∃ t : Nat, p = (s.take t, (t : Int)) ∧ t ≤ s.length) (fun p => s.length - p.2.toNat) (fun d => d = s) (by
    rintro _ ⟨t, rfl, ht⟩
    have hs := h.1
    unfold inventory_copied_L2
    dsimp only
    by_cases hlt : t < s.length
    · have hr := h.2 _ (List.getElem_mem hlt)
      rw [if_pos (dpos (by omega)), iget hlt]
      simp only [Option.bind_some]
      unfold slices_Clone_int_int_
      rw [if_pos (by simp; omega)]
      simp only [Option.bind_some, List.nil_append]
      rw [if_pos (by simp; omega), iw1 (by omega), ← List.take_succ_eq_append_getElem hlt]
      exact .inl ⟨_, rfl, ⟨t + 1, rfl, by omega⟩, by dsimp only; omega⟩
    · obtain rfl : t = s.length := by omega
      exact .inr ⟨_, if_neg (dneg (by omega)), by rw [List.take_length]⟩) ([], 0) ⟨0, rfl, Nat.zero_le _⟩ (by have := h.1; dsimp only; omega)
  rw [hd]; rfl
theorem rcopied_ok (s : Sta) (h : Sml s) : r42_Copy s = some s := by
  unfold r42_Copy
  obtain ⟨d, hd, rfl⟩ := loop_inv (step := r42_Copy_L2 s) (fun p => ∃ t : Nat, p = (s.take t, (t : Int)) ∧ t ≤ s.length) (fun p => s.length - p.2.toNat) (fun d => d = s) (by
    rintro _ ⟨t, rfl, ht⟩
    have hs := h.1
    unfold r42_Copy_L2
    dsimp only
    by_cases hlt : t < s.length
    · have hr := h.2 _ (List.getElem_mem hlt)
      rw [if_pos (dpos (by omega)), iget hlt]
      simp only [Option.bind_some]
      rw [if_pos (by simp; omega), if_pos (by simp; omega), iw1 (by omega), List.nil_append, ← List.take_succ_eq_append_getElem hlt]
      exact .inl ⟨_, rfl, ⟨t + 1, rfl, by omega⟩, by dsimp only; omega⟩
    · obtain rfl : t = s.length := by omega
      exact .inr ⟨_, if_neg (dneg (by omega)), by rw [List.take_length]⟩) ([], 0) ⟨0, rfl, Nat.zero_le _⟩ (by have := h.1; dsimp only; omega)
  rw [hd]; rfl

theorem vld_rows {T : Trk} {L : List Int} {s : Sta} (h : Vld T L s) : ∀ row ∈ s, Rg L.length row ∧ row.Nodup ∧ row.length ≤ 192 := by
  intro row hr
  obtain ⟨_, _, h3, _, h5, h6, _⟩ := h
  have a : Rg L.length row := fun x hx => h5 x (List.mem_flatten.2 ⟨row, hr, hx⟩)
  have b : row.Nodup := (List.pairwise_flatten.1 h6).1 row hr
  exact ⟨a, b, by have := rg_len a b; omega⟩
theorem vld_sml {T : Trk} {L : List Int} {s : Sta} (h : Vld T L s) : Sml s := ⟨by have := h.1; have := h.2.1; omega, fun row hr => by have := (vld_rows h row hr).2.2; omega⟩
theorem vld_one {T : Trk} {L : List Int} {s : Sta} (h : Vld T L s) {j k : Nat} {r q : List Int} {x : Int} (hj : s[j]? = some r) (hk : s[k]? = some q) (hx : x ∈ r) (hy : x ∈ q) : j = k := by
  have h6 := (List.pairwise_flatten.1 h.2.2.2.2.2.1).2
  obtain ⟨hj1, rfl⟩ := List.getElem?_eq_some_iff.1 hj
  obtain ⟨hk1, rfl⟩ := List.getElem?_eq_some_iff.1 hk
  rcases Nat.lt_trichotomy j k with e | e | e
  · exact absurd rfl (List.pairwise_iff_getElem.1 h6 j k hj1 hk1 e x hx x hy)
  · exact e
  · exact absurd rfl (List.pairwise_iff_getElem.1 h6 k j hk1 hj1 e x hy x hx)
theorem vld_mk {T : Trk} {L : List Int} {s : Sta} (h1 : s.length = T.length) (h2 : T.length ≤ 24) (h3 : L.length ≤ 192) (h4 : Ln L) (h5 : ∀ row ∈ s, Rg L.length row ∧ row.Nodup)
    (h6 : ∀ (j k : Nat) (r q : List Int) (x : Int), s[j]? = some r → s[k]? = some q → x ∈ r → x ∈ q → j = k) (h7 : Tr T L s s.length) : Vld T L s := by
  refine ⟨h1, h2, h3, h4, fun x hx => ?_, List.pairwise_flatten.2 ⟨fun r hr => (h5 r hr).2, List.pairwise_iff_getElem.2 fun i j hi hj hij x hx y hy e => ?_⟩, h7⟩
  · obtain ⟨r, hr, hx⟩ := List.mem_flatten.1 hx
    exact (h5 r hr).1 x hx
  · subst e
    have := h6 i j _ _ x (List.getElem?_eq_getElem hi) (List.getElem?_eq_getElem hj) hx hy
    omega


/-- The rows behind a shift that is possible. -/
def put (w to : Int) (front : Bool) (j : Nat) (row : List Int) : List Int :=
  if (j : Int) = to then (if front then w :: row.filter (· ≠ w) else row.filter (· ≠ w) ++ [w]) else row.filter (· ≠ w)
def mv (s : Sta) (w to : Int) (front : Bool) : Sta := s.mapIdx (put w to front)

/-- The error of a shift. -/
noncomputable def cd (T : Trk) (L : List Int) (s : Sta) (w f t : Int) : Int :=
  if w < 0 ∨ (L.length : Int) ≤ w ∨ f < -1 ∨ (s.length : Int) ≤ f ∨ t < -1 ∨ (s.length : Int) ≤ t then 2
  else if (whp s w).1 ≠ f ∨ (f = -1 ∧ t = -1) then 17
  else if 0 ≤ t ∧ t ≠ f ∧ (T[t.toNat]?.getD ([], 0)).2 - sm L (s[t.toNat]?.getD []) < vw L w.toNat then 14 else 0

theorem filt_no {row : List Int} {w : Int} (h : w ∉ row) : row.filter (· ≠ w) = row := List.filter_eq_self.2 fun x hx => by simp; exact fun e => h (e ▸ hx)
theorem filt_at {row : List Int} {w : Int} {i : Nat} (hn : row.Nodup) (h : row[i]? = some w) : row.take i ++ row.drop (i + 1) = row.filter (· ≠ w) := by
  obtain ⟨hi, e⟩ := List.getElem?_eq_some_iff.1 h
  have hs : row = row.take i ++ w :: row.drop (i + 1) := by rw [← e, ← List.drop_eq_getElem_cons hi, List.take_append_drop]
  rw [hs] at hn
  have h1 := List.nodup_append.1 hn
  have h2 := List.nodup_cons.1 h1.2.1
  have a : w ∉ row.take i := fun hx => h1.2.2 _ hx _ List.mem_cons_self rfl
  conv => rhs; rw [hs]
  rw [List.filter_append, List.filter_cons_of_neg (by simp), filt_no a, filt_no h2.1]

theorem mv_len (s : Sta) (w to : Int) (front : Bool) : (mv s w to front).length = s.length := by simp [mv]
theorem mv_get {s : Sta} {w to : Int} {front : Bool} {j : Nat} {row : List Int} (h : s[j]? = some row) : (mv s w to front)[j]? = some (put w to front j row) := by simp [mv, List.getElem?_mapIdx, h]

/-- The state behind a shift, as the program makes it. -/
theorem set_mv {s : Sta} {w to : Int} {front : Bool} {s1 : Sta} (h1 : ∀ j : Nat, s1[j]? = (s[j]?).map fun row : List Int => row.filter (· ≠ w)) :
    (if 0 ≤ to then s1.set to.toNat (if front then w :: (s1[to.toNat]?.getD []) else (s1[to.toNat]?.getD []) ++ [w]) else s1) = mv s w to front := by
  refine List.ext_getElem? fun j => ?_
  have hR : (mv s w to front)[j]? = (s[j]?).map (put w to front j) := by simp [mv, List.getElem?_mapIdx]
  rw [hR]
  have hlen : s1.length = s.length := by
    have a : ∀ j, j < s1.length ↔ j < s.length := fun j => by
      have := h1 j
      constructor
      · intro h; rw [List.getElem?_eq_getElem h] at this
        rcases Nat.lt_or_ge j s.length with q | q
        · exact q
        · rw [List.getElem?_eq_none q] at this; cases this
      · intro h; rw [List.getElem?_eq_getElem h] at this
        rcases Nat.lt_or_ge j s1.length with q | q
        · exact q
        · rw [List.getElem?_eq_none q] at this; cases this
    have := a s1.length; have := a s.length; omega
  by_cases c : 0 ≤ to
  · rw [if_pos c, List.getElem?_set]
    by_cases e : to.toNat = j
    · rw [if_pos e]
      by_cases hj : j < s.length
      · rw [if_pos (by omega), h1, e, List.getElem?_eq_getElem hj]
        simp only [Option.map_some, Option.getD_some]
        unfold put
        have hq : (j : Int) = to := by omega
        simp only [hq, if_true]
      · rw [if_neg (by omega), List.getElem?_eq_none (by omega)]; rfl
    · rw [if_neg e, h1]
      cases hj : s[j]? with
      | none => rfl
      | some row => simp only [Option.map_some]; unfold put; rw [if_neg (by omega)]
  · rw [if_neg c, h1]
    cases hj : s[j]? with
    | none => rfl
    | some row => simp only [Option.map_some]; unfold put; rw [if_neg (by omega)]

/-- A wagon leaves its track. -/
theorem cut_mv {T : Trk} {L : List Int} {s : Sta} (h : Vld T L s) {w : Int} {p : Int × Int} (hp : WhS s w p) :
    ∀ j : Nat, (if 0 ≤ p.1 then s.set p.1.toNat ((s[p.1.toNat]?.getD []).take p.2.toNat ++ (s[p.1.toNat]?.getD []).drop (p.2.toNat + 1)) else s)[j]? = (s[j]?).map fun row : List Int => row.filter (· ≠ w) := by
  intro j
  rcases hp with ⟨rfl, hn⟩ | ⟨t, i, row, rfl, h1, h2, h3⟩
  · rw [if_neg (by simp)]
    cases hj : s[j]? with
    | none => rfl
    | some row => simp only [Option.map_some]; rw [filt_no (hn row (List.mem_of_getElem? hj))]
  · rw [if_pos (by simp)]
    dsimp only
    rw [Int.toNat_natCast, Int.toNat_natCast, h1, Option.getD_some, filt_at (vld_rows h row (List.mem_of_getElem? h1)).2.1 h2.1, List.getElem?_set]
    have htl := (List.getElem?_eq_some_iff.1 h1).1
    by_cases e : t = j
    · subst e
      rw [if_pos rfl, if_pos htl, h1]; rfl
    · rw [if_neg e]
      cases hj : s[j]? with
      | none => rfl
      | some q =>
        simp only [Option.map_some]
        rw [filt_no fun hx => e (vld_one h h1 hj (List.mem_of_getElem? h2.1) hx)]
end Go.Proofs.Ytgeceohdppecgaa
