
/- Which wagons on tracks are valid: the program and the reference agree. Conditions: those of each theorem. -/
import Derived.Test.YtgeceohdppecgaaPvw
import Derived.Test.YtgeceohdppecgaaGinventory
import Derived.Test.YtgeceohdppecgaaGr42
set_option linter.unusedVariables false
set_option linter.unusedSimpArgs false
namespace Go.Proofs.Ytgeceohdppecgaa
open Go Go.V Go.Proofs

abbrev Trk := List (List UInt8 × Int)
abbrev Sta := List (List Int)
theorem iw1 {k : Nat} (h : k < 4611686018427387904) : IntKind.i64.wrap ((k : Int) + 1) = ((k + 1 : Nat) : Int) := by rw [wr_id (by omega) (by omega)]; omega
theorem iget {α : Type} {d : List α} {k : Nat} (h : k < d.length) : idx d (k : Int) = some d[k] := by rw [idx_nat, List.getElem?_eq_getElem h]
theorem idx_nn {α : Type} (d : List α) {x : Int} (h : 0 ≤ x) : idx d x = d[x.toNat]? := by rw [← idx_nat, Int.toNat_of_nonneg h]
theorem iget' {α : Type} {d : List α} {x : Int} (h : 0 ≤ x) (h2 : x < d.length) : idx d x = some (d[x.toNat]'(by omega)) := by rw [idx_nn _ h, List.getElem?_eq_getElem]
theorem vw_nn {d : List Int} {x : Int} (h : 0 ≤ x) (h2 : x < d.length) : idx d x = some (vw d x.toNat) := by rw [idx_nn _ h, vw_get (by omega)]


/-- The length of some wagons. -/
def sm (L row : List Int) : Int := (row.map fun x => vw L x.toNat).sum
theorem sm_nil (L : List Int) : sm L [] = 0 := rfl
theorem sm_cons (L : List Int) (x : Int) (r : List Int) : sm L (x :: r) = vw L x.toNat + sm L r := by simp [sm]
theorem sm_app (L : List Int) (r q : List Int) : sm L (r ++ q) = sm L r + sm L q := by simp [sm]

/-- Lengths that are possible. -/
def Ln (L : List Int) : Prop := ∀ n ∈ L, 1 ≤ n ∧ n ≤ 400

/-- Wagons that are known. -/
def Rg (n : Nat) (l : List Int) : Prop := ∀ x ∈ l, 0 ≤ x ∧ x < n
instance (n : Nat) (l : List Int) : Decidable (Rg n l) := by unfold Rg; infer_instance
theorem vw_bd {L : List Int} (h : Ln L) {x : Int} (hx : 0 ≤ x ∧ x < L.length) : 1 ≤ vw L x.toNat ∧ vw L x.toNat ≤ 400 := h _ (vw_mem (by omega))
theorem sm_bd {L : List Int} (h : Ln L) : ∀ {r : List Int}, Rg L.length r → 0 ≤ sm L r ∧ sm L r ≤ 400 * r.length
  | [], _ => by simp [sm]
  | x :: r, hr => by
    have := sm_bd h (r := r) fun y hy => hr y (List.mem_cons_of_mem _ hy)
    have := vw_bd h (hr x List.mem_cons_self)
    rw [sm_cons, List.length_cons]; omega
theorem len_le' {α : Type} [DecidableEq α] : ∀ (l m : List α), l.Nodup → (∀ x, x ∈ l → x ∈ m) → l.length ≤ m.length
  | [], m, _, _ => Nat.zero_le _
  | x :: l, m, hn, hs => by
    have h := List.nodup_cons.1 hn
    have hx : x ∈ m := hs x List.mem_cons_self
    have := len_le' l (m.erase x) h.2 fun y hy => by
      have hyx : y ≠ x := fun e => h.1 (e ▸ hy)
      exact (List.mem_erase_of_ne hyx).2 (hs y (List.mem_cons_of_mem _ hy))
    rw [List.length_erase_of_mem hx] at this
    have hp : 0 < m.length := List.length_pos_of_mem hx
    simp only [List.length_cons]
    omega
theorem rg_len {n : Nat} {l : List Int} (h : Rg n l) (hn : l.Nodup) : l.length ≤ n := by
  have := len_le' l ((List.range n).map fun k : Nat => (k : Int)) hn fun x hx => by
    have := h x hx
    exact List.mem_map.2 ⟨x.toNat, List.mem_range.2 (by omega), by omega⟩
  simpa using this


/-- The marks of the wagons that were seen. -/
def mk (n : Nat) (pre : List Int) : List Bool := (List.range n).map fun k : Nat => decide ((k : Int) ∈ pre)
theorem mk_get {n : Nat} {pre : List Int} {x : Int} (h : 0 ≤ x) (h2 : x < n) : idx (mk n pre) x = some (decide (x ∈ pre)) := by
  rw [idx_nn _ h]
  unfold mk
  rw [List.getElem?_map, List.getElem?_range (by omega)]
  simp [Int.toNat_of_nonneg h]
theorem mk_set {n : Nat} {pre : List Int} {x : Int} (h : 0 ≤ x) (h2 : x < n) : (mk n pre).set x.toNat true = mk n (pre ++ [x]) := by
  refine List.ext_getElem? fun k => ?_
  rw [List.getElem?_set]
  unfold mk
  by_cases hk : k < n
  · by_cases e : x.toNat = k
    · subst e
      rw [if_pos rfl, if_pos (by simpa using hk), List.getElem?_map, List.getElem?_range hk]
      simp [Int.toNat_of_nonneg h]
    · rw [if_neg e, List.getElem?_map, List.getElem?_map, List.getElem?_range hk]
      have : ¬ (k : Int) = x := by omega
      simp [this]
  · rw [if_neg (by omega), List.getElem?_eq_none (by simp; omega), List.getElem?_eq_none (by simp; omega)]
theorem mk_nil (n : Nat) : List.replicate n false = mk n [] := by
  refine List.ext_getElem? fun k => ?_
  unfold mk
  rw [List.getElem?_replicate, List.getElem?_map]
  by_cases hk : k < n
  · rw [if_pos hk, List.getElem?_range hk]; simp
  · rw [if_neg hk, List.getElem?_eq_none (by simp; omega)]; rfl


/-- The wagons of one track. -/
theorem row_ok (L row pre : List Int) (hl : row.length < 4611686018427387904) : (∃ d, loop (inventory_Valid_L19 L row) (mk L.length pre, 0) = some d ∧
    ((d = .inr (mk L.length (pre ++ row)) ∧ Rg L.length row ∧ ((pre.Nodup → (pre ++ row).Nodup))) ∨ (d = .inl () ∧ ¬ (Rg L.length row ∧ (pre ++ row).Nodup)))) := by
  refine loop_inv (step := inventory_Valid_L19 L row) (fun s => ∃ i : Nat, s = (mk L.length (pre ++ row.take i), (i : Int)) ∧ i ≤ row.length ∧ Rg L.length (row.take i) ∧ (pre.Nodup → (pre ++ row.take i).Nodup)) (fun s => row.length - s.2.toNat) _ ?_
    (mk L.length pre, 0) ⟨0, by simp, Nat.zero_le _, fun x hx => by simp at hx, fun h => by simpa using h⟩ (by dsimp only; omega)
  rintro _ ⟨i, rfl, hi, hR, hN⟩
  unfold inventory_Valid_L19
  dsimp only
  by_cases h : i < row.length
  · rw [if_pos (dpos (by omega)), iget h]
    simp only [Option.bind_some]
    have ht : row.take (i + 1) = row.take i ++ [row[i]] := List.take_succ_eq_append_getElem h
    have hm : row[i] ∈ row := List.getElem_mem h
    by_cases h0 : row[i] < 0
    · exact .inr ⟨_, if_pos (dpos h0), .inr ⟨rfl, fun q => by have := (q.1 _ hm).1; omega⟩⟩
    rw [if_neg (dneg h0)]
    by_cases h1 : row[i] ≥ L.length
    · exact .inr ⟨_, if_pos (dpos h1), .inr ⟨rfl, fun q => by have := (q.1 _ hm).2; omega⟩⟩
    rw [if_neg (dneg h1), mk_get (by omega) (by omega)]
    simp only [Option.bind_some]
    by_cases h2 : row[i] ∈ pre ++ row.take i
    · refine .inr ⟨_, if_pos (by simpa using h2), .inr ⟨rfl, fun q => ?_⟩⟩
      have q2 := q.2
      have e : pre ++ row = (pre ++ row.take i) ++ (row[i] :: row.drop (i + 1)) := by rw [List.append_assoc, ← List.drop_eq_getElem_cons h, List.take_append_drop]
      rw [e] at q2
      exact (List.nodup_append.1 q2).2.2 _ h2 _ List.mem_cons_self rfl
    · left
      rw [if_neg (by simpa using h2), iw1 (by omega), mk_set (by omega) (by omega)]
      refine ⟨_, rfl, ⟨i + 1, by rw [ht, List.append_assoc], by omega, ?_, fun hp => ?_⟩, by dsimp only; omega⟩
      · rw [ht]; intro x hx
        rcases List.mem_append.1 hx with hx | hx
        · exact hR x hx
        · rw [List.mem_singleton.1 hx]; omega
      · rw [ht, ← List.append_assoc]
        exact List.nodup_append.2 ⟨hN hp, by simp, fun x hx y hy e => h2 (by rw [List.mem_singleton.1 hy] at e; exact e ▸ hx)⟩
  · obtain rfl : i = row.length := by omega
    rw [List.take_length] at *
    exact .inr ⟨_, if_neg (dneg (by omega)), .inl ⟨rfl, hR, hN⟩⟩

theorem rrow_eq (L : List Int) (s : Sta) (t : Nat) (row : List Int) (h : s[t]? = some row) : r42_Valid_L17 L s (t : Int) = inventory_Valid_L19 L row := by
  funext p
  unfold r42_Valid_L17 inventory_Valid_L19
  have : idx s (t : Int) = some row := by rw [idx_nat, h]
  simp only [this, Option.bind_some]

theorem sum_ok {L row : List Int} (h : Ln L) (hr : Rg L.length row) (hl : row.length < 4294967296) : r42_sum L row = some (sm L row) := by
  unfold r42_sum
  obtain ⟨d, h1, rfl⟩ := loop_inv (step := r42_sum_L3 L row) (fun s => ∃ i : Nat, s = (sm L (row.take i), (i : Int)) ∧ i ≤ row.length) (fun s => row.length - s.2.toNat) (fun d => d = sm L row) (by
    rintro _ ⟨i, rfl, hi⟩
    unfold r42_sum_L3
    dsimp only
    by_cases hlt : i < row.length
    · have hx := hr _ (List.getElem_mem hlt)
      have e : row.take (i + 1) = row.take i ++ [row[i]] := List.take_succ_eq_append_getElem hlt
      have b := sm_bd h (r := row.take i) fun y hy => hr y (List.mem_of_mem_take hy)
      have b2 := vw_bd h hx
      have b3 : (row.take i).length ≤ row.length := by simp; omega
      rw [if_pos (dpos (by omega)), iget hlt]
      simp only [Option.bind_some]
      rw [vw_nn hx.1 hx.2]
      simp only [Option.bind_some]
      rw [wr_id (by omega) (by omega), iw1 (by omega)]
      exact .inl ⟨_, rfl, ⟨i + 1, by rw [e, sm_app, sm_cons, sm_nil, Int.add_zero], by omega⟩, by dsimp only; omega⟩
    · obtain rfl : i = row.length := by omega
      exact .inr ⟨_, if_neg (dneg (by omega)), by rw [List.take_length]⟩) (0, 0) ⟨0, rfl, Nat.zero_le _⟩ (by dsimp only; omega)
  rw [h1]; rfl

theorem room_ok {L row : List Int} (h : Ln L) (hr : Rg L.length row) (hl : row.length < 4294967296) (nm : List UInt8) (n : Int) (h0 : 0 ≤ n) (hn : n ≤ 100000) : inventory_room nm n L row = some (n - sm L row) := by
  unfold inventory_room
  obtain ⟨d, h1, rfl⟩ := loop_inv (step := inventory_room_L5 L row) (fun s => ∃ i : Nat, s = (n - sm L (row.take i), (i : Int)) ∧ i ≤ row.length) (fun s => row.length - s.2.toNat) (fun d => d = n - sm L row) (by
    rintro _ ⟨i, rfl, hi⟩
    unfold inventory_room_L5
    dsimp only
    by_cases hlt : i < row.length
    · have hx := hr _ (List.getElem_mem hlt)
      have e : row.take (i + 1) = row.take i ++ [row[i]] := List.take_succ_eq_append_getElem hlt
      have b := sm_bd h (r := row.take i) fun y hy => hr y (List.mem_of_mem_take hy)
      have b2 := vw_bd h hx
      have b3 : (row.take i).length ≤ row.length := by simp; omega
      rw [if_pos (dpos (by omega)), iget hlt]
      simp only [Option.bind_some]
      rw [vw_nn hx.1 hx.2]
      simp only [Option.bind_some]
      rw [wr_id (by omega) (by omega), iw1 (by omega)]
      exact .inl ⟨_, rfl, ⟨i + 1, by rw [e, sm_app, sm_cons, sm_nil]; congr 1; omega, by omega⟩, by dsimp only; omega⟩
    · obtain rfl : i = row.length := by omega
      exact .inr ⟨_, if_neg (dneg (by omega)), by rw [List.take_length]⟩) (n, 0) ⟨0, by simp [sm], Nat.zero_le _⟩ (by dsimp only; omega)
  rw [h1]; rfl


/-- The rules for the tracks from t on. -/
def Tr (T : Trk) (L : List Int) (s : Sta) (t : Nat) : Prop := ∀ k row tr, k < t → s[k]? = some row → T[k]? = some tr → 0 ≤ tr.2 ∧ tr.2 ≤ 100000 ∧ sm L row ≤ tr.2
def Vld (T : Trk) (L : List Int) (s : Sta) : Prop := s.length = T.length ∧ T.length ≤ 24 ∧ L.length ≤ 192 ∧ Ln L ∧ Rg L.length s.flatten ∧ s.flatten.Nodup ∧ Tr T L s s.length

theorem lens_ok {step : Int → Option (Step Int (Unit ⊕ Unit))} (L : List Int) (hl : L.length ≤ 192)
    (hs : ∀ i : Nat, (∀ h : i < L.length, step (i : Int) = if 1 ≤ L[i] ∧ L[i] ≤ 400 then some (.next ((i + 1 : Nat) : Int)) else some (.done (.inl ()))) ∧ (L.length ≤ i → step (i : Int) = some (.done (.inr ())))) :
    ∃ d, loop step 0 = some d ∧ ((d = .inr () ∧ Ln L) ∨ (d = .inl () ∧ ¬ Ln L)) := by
  refine loop_inv (step := step) (fun s => ∃ i : Nat, s = (i : Int) ∧ i ≤ L.length ∧ Ln (L.take i)) (fun s => L.length - s.toNat) _ ?_ 0 ⟨0, rfl, Nat.zero_le _, fun x hx => by simp at hx⟩ (by omega)
  rintro _ ⟨i, rfl, hi, hR⟩
  by_cases h : i < L.length
  · rw [(hs i).1 h]
    by_cases c : 1 ≤ L[i] ∧ L[i] ≤ 400
    · rw [if_pos c]
      refine .inl ⟨_, rfl, ⟨i + 1, rfl, by omega, ?_⟩, by omega⟩
      rw [List.take_succ_eq_append_getElem h]
      intro x hx
      rcases List.mem_append.1 hx with hx | hx
      · exact hR x hx
      · rw [List.mem_singleton.1 hx]; exact c
    · rw [if_neg c]
      exact .inr ⟨_, rfl, .inr ⟨rfl, fun q => c (q _ (List.getElem_mem h))⟩⟩
  · obtain rfl : i = L.length := by omega
    rw [(hs _).2 (Nat.le_refl _)]
    rw [List.take_length] at hR
    exact .inr ⟨_, rfl, .inl ⟨rfl, hR⟩⟩
theorem lens1 (L : List Int) (hl : L.length ≤ 192) : ∃ d, loop (inventory_Valid_L6 L) 0 = some d ∧ ((d = .inr () ∧ Ln L) ∨ (d = .inl () ∧ ¬ Ln L)) := by
  refine lens_ok L hl fun i => ⟨fun h => ?_, fun h => ?_⟩
  · unfold inventory_Valid_L6
    dsimp only
    rw [if_pos (dpos (by omega)), iget h]
    simp only [Option.bind_some, iw1 (show i < 4611686018427387904 by omega), decide_eq_true_eq]
    split
    · rw [if_neg (by omega)]
    · split
      · rw [if_neg (by omega)]
      · rw [if_pos (by omega)]
  · unfold inventory_Valid_L6
    dsimp only
    rw [if_neg (dneg (by omega))]
theorem lens2 (L : List Int) (hl : L.length ≤ 192) : ∃ d, loop (r42_Valid_L6 L) 0 = some d ∧ ((d = .inr () ∧ Ln L) ∨ (d = .inl () ∧ ¬ Ln L)) := by
  refine lens_ok L hl fun i => ⟨fun h => ?_, fun h => ?_⟩
  · unfold r42_Valid_L6
    dsimp only
    rw [if_pos (dpos (by omega)), iget h]
    simp only [Option.bind_some, iw1 (show i < 4611686018427387904 by omega), decide_eq_true_eq]
    split
    · rw [if_neg (by omega)]
    · split
      · rw [if_neg (by omega)]
      · rw [if_pos (by omega)]
  · unfold r42_Valid_L6
    dsimp only
    rw [if_neg (dneg (by omega))]


/-- The tracks, one after the other; what one step does is told. -/
theorem trks_ok {step : List Bool × Int → Option (Step (List Bool × Int) (Unit ⊕ Unit))} (T : Trk) (L : List Int) (s : Sta) (hL : Ln L) (hT : s.length = T.length) (hs : s.length ≤ 24) (hl : L.length ≤ 192) (hr : ∀ row ∈ s, row.length < 4294967296)
    (h2 : ∀ d, step (d, (s.length : Int)) = some (.done (.inr ())))
    (h1 : ∀ (t : Nat) (ht : t < s.length) (ht' : t < T.length) (d : List Bool), ∀ e, loop (inventory_Valid_L19 L s[t]) (d, 0) = some e → step (d, (t : Int)) = (match e with
      | .inl _ => some (.done (.inl ()))
      | .inr d' => if T[t].2 < 0 then some (.done (.inl ())) else if T[t].2 > 100000 then some (.done (.inl ())) else
        if Rg L.length s[t] ∧ s[t].length < 4294967296 then (if sm L s[t] > T[t].2 then some (.done (.inl ())) else some (.next (d', ((t + 1 : Nat) : Int)))) else step (d, (t : Int)))) :
    ∃ d, loop step (mk L.length [], 0) = some d ∧ ((d = .inr () ∧ Rg L.length s.flatten ∧ s.flatten.Nodup ∧ Tr T L s s.length) ∨ (d = .inl () ∧ ¬ (Rg L.length s.flatten ∧ s.flatten.Nodup ∧ Tr T L s s.length))) := by
  refine loop_inv (step := step) (fun p => ∃ t : Nat, p = (mk L.length (s.take t).flatten, (t : Int)) ∧ t ≤ s.length ∧ Rg L.length (s.take t).flatten ∧ (s.take t).flatten.Nodup ∧ Tr T L s t) (fun p => s.length - p.2.toNat) _ ?_
    (mk L.length [], 0) ⟨0, by simp, Nat.zero_le _, fun x hx => by simp at hx, by simp, fun k _ _ hk => by omega⟩ (by dsimp only; omega)
  rintro _ ⟨t, rfl, ht, hR, hN, hTr⟩
  by_cases h : t < s.length
  · have hrow := hr _ (List.getElem_mem h)
    obtain ⟨e, he, hc⟩ := row_ok L s[t] (s.take t).flatten (by omega)
    have hstep := h1 t h (by omega) _ e he
    have ef : (s.take (t + 1)).flatten = (s.take t).flatten ++ s[t] := by rw [List.take_succ_eq_append_getElem h, List.flatten_append]; simp
    have es : s.flatten = (s.take t).flatten ++ s[t] ++ (s.drop (t + 1)).flatten := by rw [← ef, ← List.flatten_append, List.take_append_drop]
    rcases hc with ⟨rfl, c1, c2⟩ | ⟨rfl, c⟩
    · dsimp only at hstep
      by_cases q0 : T[t].2 < 0
      · rw [if_pos q0] at hstep
        exact .inr ⟨_, hstep, .inr ⟨rfl, fun q => by have := (q.2.2 t s[t] (T[t]'(by omega)) h (List.getElem?_eq_getElem h) (List.getElem?_eq_getElem (by omega))).1; omega⟩⟩
      rw [if_neg q0] at hstep
      by_cases q1 : T[t].2 > 100000
      · rw [if_pos q1] at hstep
        exact .inr ⟨_, hstep, .inr ⟨rfl, fun q => by have := (q.2.2 t s[t] (T[t]'(by omega)) h (List.getElem?_eq_getElem h) (List.getElem?_eq_getElem (by omega))).2.1; omega⟩⟩
      rw [if_neg q1, if_pos ⟨c1, hrow⟩] at hstep
      by_cases q2 : sm L s[t] > T[t].2
      · rw [if_pos q2] at hstep
        exact .inr ⟨_, hstep, .inr ⟨rfl, fun q => by have := (q.2.2 t s[t] (T[t]'(by omega)) h (List.getElem?_eq_getElem h) (List.getElem?_eq_getElem (by omega))).2.2; omega⟩⟩
      rw [if_neg q2] at hstep
      refine .inl ⟨_, hstep, ⟨t + 1, by rw [ef], by omega, ?_, by rw [ef]; exact c2 hN, ?_⟩, by dsimp only; omega⟩
      · rw [ef]; intro x hx
        rcases List.mem_append.1 hx with hx | hx
        · exact hR x hx
        · exact c1 x hx
      · intro k row tr hk h3 h4
        by_cases e : k = t
        · subst e
          rw [List.getElem?_eq_getElem h] at h3
          rw [List.getElem?_eq_getElem (by omega)] at h4
          cases h3; cases h4
          omega
        · exact hTr k row tr (by omega) h3 h4
    · refine .inr ⟨_, hstep, .inr ⟨rfl, fun q => c ⟨fun x hx => q.1 x ?_, ?_⟩⟩⟩
      · rw [es]; simp [hx]
      · have := q.2.1
        rw [es] at this
        exact (List.nodup_append.1 this).1
  · obtain rfl : t = s.length := by omega
    rw [List.take_length] at *
    exact .inr ⟨_, h2 _, .inl ⟨rfl, hR, hN, hTr⟩⟩

theorem vld_of {T : Trk} {L : List Int} {s : Sta} (h1 : s.length = T.length) (h2 : T.length ≤ 24) (h3 : L.length ≤ 192) (h4 : Ln L) : (Rg L.length s.flatten ∧ s.flatten.Nodup ∧ Tr T L s s.length) ↔ Vld T L s :=
  ⟨fun ⟨a, b, c⟩ => ⟨h1, h2, h3, h4, a, b, c⟩, fun ⟨_, _, _, _, a, b, c⟩ => ⟨a, b, c⟩⟩

theorem valid_ok (T : Trk) (L : List Int) (s : Sta) (hr : ∀ row ∈ s, row.length < 4294967296) : ∃ b, inventory_Valid T L s = some b ∧ (b = true ↔ Vld T L s) := by
  unfold inventory_Valid
  by_cases c1 : s.length = T.length
  · rw [if_neg (by simp [c1])]
    by_cases c2 : s.length > 24
    · rw [if_pos (dpos (by omega))]; exact ⟨_, rfl, by simp; exact fun q => by have := q.1; have := q.2.1; omega⟩
    rw [if_neg (dneg (by omega))]
    by_cases c3 : L.length > 192
    · rw [if_pos (dpos (by omega))]; exact ⟨_, rfl, by simp; exact fun q => by have := q.2.2.1; omega⟩
    rw [if_neg (dneg (by omega))]
    obtain ⟨d, hd, h | h⟩ := lens1 L (by omega)
    all_goals rw [hd]
    all_goals obtain ⟨rfl, h4⟩ := h
    all_goals simp only [Option.bind_some]
    · rw [if_pos (by omega), Int.toNat_natCast, mk_nil]
      obtain ⟨d, hd, h | h⟩ := trks_ok (step := inventory_Valid_L12 T L s) T L s h4 c1 (by omega) (by omega) hr (fun d => by
          unfold inventory_Valid_L12; dsimp only; rw [if_neg (dneg (by omega))]) (fun t ht ht' d e he => by
          have hiw := iw1 (show t < 4611686018427387904 by omega)
          conv => lhs; unfold inventory_Valid_L12
          dsimp only
          rw [if_pos (dpos (by omega)), iget ht]
          simp only [Option.bind_some]
          rw [he]
          cases e with
          | inl u => rfl
          | inr d' =>
            dsimp only [Option.bind_some]
            rw [iget ht']
            simp only [Option.bind_some, decide_eq_true_eq]
            by_cases q0 : T[t].2 < 0
            · rw [if_pos q0, if_pos q0]
            rw [if_neg q0, if_neg q0]
            by_cases q1 : T[t].2 > 100000
            · rw [if_pos q1, if_pos q1]
            rw [if_neg q1, if_neg q1]
            by_cases q : Rg L.length s[t] ∧ s[t].length < 4294967296
            · rw [if_pos q, room_ok h4 q.1 q.2 _ _ (by omega) (by omega)]
              simp only [Option.bind_some, hiw]
              by_cases q2 : sm L s[t] > T[t].2
              · rw [if_pos q2, if_pos (by omega)]
              · rw [if_neg q2, if_neg (by omega)]
            · rw [if_neg q]
              conv => rhs; unfold inventory_Valid_L12
              dsimp only
              rw [if_pos (dpos (by omega)), iget ht]
              simp only [Option.bind_some]
              rw [he]
              dsimp only [Option.bind_some]
              rw [iget ht']
              simp only [Option.bind_some, decide_eq_true_eq]
              rw [if_neg q0, if_neg q1])
      all_goals rw [hd]
      all_goals obtain ⟨rfl, h5⟩ := h
      · exact ⟨_, rfl, by simp; exact (vld_of c1 (by omega) (by omega) h4).1 h5⟩
      · exact ⟨_, rfl, by simp; exact fun q => h5 ((vld_of c1 (by omega) (by omega) h4).2 q)⟩
    · exact ⟨_, rfl, by simp; exact fun q => h4 q.2.2.2.1⟩
  · rw [if_pos (by simpa using (by omega : ¬ (s.length : Int) = T.length))]
    exact ⟨_, rfl, by simp; exact fun q => c1 q.1⟩

theorem rvalid_ok (T : Trk) (L : List Int) (s : Sta) (hr : ∀ row ∈ s, row.length < 4294967296) : ∃ b, r42_Valid T L s = some b ∧ (b = true ↔ Vld T L s) := by
  unfold r42_Valid
  by_cases c1 : s.length = T.length
  · rw [if_neg (by simp [c1])]
    by_cases c2 : T.length > 24
    · rw [if_pos (dpos (by omega))]; exact ⟨_, rfl, by simp; exact fun q => by have := q.1; have := q.2.1; omega⟩
    rw [if_neg (dneg (by omega))]
    by_cases c3 : L.length > 192
    · rw [if_pos (dpos (by omega))]; exact ⟨_, rfl, by simp; exact fun q => by have := q.2.2.1; omega⟩
    rw [if_neg (dneg (by omega))]
    obtain ⟨d, hd, h | h⟩ := lens2 L (by omega)
    all_goals rw [hd]
    all_goals obtain ⟨rfl, h4⟩ := h
    all_goals simp only [Option.bind_some]
    · rw [if_pos (by omega), Int.toNat_natCast, mk_nil]
      obtain ⟨d, hd, h | h⟩ := trks_ok (step := r42_Valid_L14 T L s) T L s h4 c1 (by omega) (by omega) hr (fun d => by
          unfold r42_Valid_L14; dsimp only; rw [if_neg (dneg (by omega))]) (fun t ht ht' d e he => by
          have hiw := iw1 (show t < 4611686018427387904 by omega)
          have hre := rrow_eq L s t s[t] (List.getElem?_eq_getElem ht)
          conv => lhs; unfold r42_Valid_L14
          dsimp only
          rw [if_pos (dpos (by omega)), hre, he]
          cases e with
          | inl u => rfl
          | inr d' =>
            dsimp only [Option.bind_some]
            rw [iget ht', iget ht]
            simp only [Option.bind_some, decide_eq_true_eq]
            by_cases q0 : T[t].2 < 0
            · rw [if_pos q0, if_pos q0]
            rw [if_neg q0, if_neg q0]
            by_cases q1 : T[t].2 > 100000
            · rw [if_pos q1, if_pos q1]
            rw [if_neg q1, if_neg q1]
            by_cases q : Rg L.length s[t] ∧ s[t].length < 4294967296
            · rw [if_pos q, sum_ok h4 q.1 q.2]
              simp only [Option.bind_some, hiw]
            · rw [if_neg q]
              conv => rhs; unfold r42_Valid_L14
              dsimp only
              rw [if_pos (dpos (by omega)), hre, he]
              dsimp only [Option.bind_some]
              rw [iget ht', iget ht]
              simp only [Option.bind_some, decide_eq_true_eq]
              rw [if_neg q0, if_neg q1])
      all_goals rw [hd]
      all_goals obtain ⟨rfl, h5⟩ := h
      · exact ⟨_, rfl, by simp; exact (vld_of c1 (by omega) (by omega) h4).1 h5⟩
      · exact ⟨_, rfl, by simp; exact fun q => h5 ((vld_of c1 (by omega) (by omega) h4).2 q)⟩
    · exact ⟨_, rfl, by simp; exact fun q => h4 q.2.2.2.1⟩
  · rw [if_pos (by simpa using (by omega : ¬ (s.length : Int) = T.length))]
    exact ⟨_, rfl, by simp; exact fun q => c1 q.1⟩
end Go.Proofs.Ytgeceohdppecgaa
