/- Plain laws: which lists of trains are sorted. No condition beyond those of each theorem. -/
import Derived.Test.YtcignnfdpgeogaaPJgood
set_option linter.unusedVariables false
set_option linter.unusedSectionVars false
set_option linter.unusedSimpArgs false
set_option maxRecDepth 100000
namespace Go.Proofs.Ytcignnfdpgeogaa
open Go Go.V Go.Proofs

/-- The train of an item. -/
def tOf (its : List Item) (x : Nat) : Int := match its[x]? with
  | some a => a.1
  | none => 0
/-- The first m entries of a row are items of train t, in the order of their blocks. -/
def RowOK (its : List Item) (t : Int) (row : List Int) (m : Nat) : Prop :=
  (∀ i, i < m → 0 ≤ row.getD i 0 ∧ row.getD i 0 < its.length ∧ tOf its (row.getD i 0).toNat = t) ∧
  ∀ i j, i < j → j < m → bOf its (row.getD i 0).toNat ≤ bOf its (row.getD j 0).toNat
def InR (n : Nat) (l : List Int) : Prop := ∀ x ∈ l, 0 ≤ x ∧ x < n
/-- What has been seen. -/
def seenOf (n : Nat) (l : List Int) : List Bool := (List.range n).map fun (i : Nat) => decide ((i : Int) ∈ l)
theorem seenOf_len (n : Nat) (l : List Int) : (seenOf n l).length = n := by simp [seenOf]
theorem seenOf_nil (n : Nat) : List.replicate n false = seenOf n [] := by
  apply List.ext_getElem (by simp [seenOf])
  intro i h1 h2
  simp [seenOf]
theorem seenOf_get {n i : Nat} (l : List Int) (h : i < n) : (seenOf n l)[i]? = some (decide ((i : Int) ∈ l)) := by
  unfold seenOf
  rw [List.getElem?_map, List.getElem?_range h]; rfl
theorem seenOf_set {n i : Nat} (l : List Int) (h : i < n) : (seenOf n l).set i true = seenOf n (l ++ [(i : Int)]) := by
  apply List.ext_getElem? 
  intro j
  rw [List.getElem?_set, seenOf_len]
  by_cases hj : j < n
  · rw [seenOf_get _ hj, seenOf_get _ hj]
    by_cases e : i = j
    · subst e; rw [if_pos rfl, if_pos h]; simp
    · rw [if_neg e]
      have : ((j : Int) ∈ l ++ [(i : Int)]) ↔ ((j : Int) ∈ l) := by
        rw [List.mem_append, List.mem_singleton]
        constructor
        · rintro (h | h)
          · exact h
          · exact absurd h (by omega)
        · exact .inl
      simp only [this]
  · rw [List.getElem?_eq_none (by rw [seenOf_len]; omega), List.getElem?_eq_none (by rw [seenOf_len]; omega)]
    by_cases e : i = j
    · subst e; omega
    · rw [if_neg e]
theorem nodup_short {n : Nat} {l : List Int} (h : l.Nodup) (hr : InR n l) : l.length ≤ n := by
  have h2 := List.Nodup.length_le_of_subset (l₂ := (List.range n).map fun (i : Nat) => (i : Int)) h (fun x hx => by
    obtain ⟨h1, h2⟩ := hr x hx
    rw [List.mem_map]
    exact ⟨x.toNat, by rw [List.mem_range]; omega, by omega⟩)
  simpa using h2
theorem row_get {row : List Int} {k : Nat} (h : k < row.length) : row[k]? = some (row.getD k 0) := by
  rw [List.getD_eq_getElem?_getD, List.getElem?_eq_getElem h]; rfl
theorem take_snoc {row : List Int} {k : Nat} (h : k < row.length) : row.take (k + 1) = row.take k ++ [row.getD k 0] := by
  rw [List.take_add_one, row_get h]; rfl
theorem InR.take {n : Nat} {l row : List Int} {its : List Item} {t : Int} {m : Nat} (hl : InR n l) (hn : its.length = n) (hm : m ≤ row.length) (h : RowOK its t row m) : InR n (l ++ row.take m) := by
  intro x hx
  rcases List.mem_append.1 hx with hx | hx
  · exact hl x hx
  · obtain ⟨i, hi, rfl⟩ := List.getElem_of_mem hx
    have him : i < m := by rw [List.length_take] at hi; omega
    have := h.1 i him
    rw [List.getElem_take]
    rw [List.getD_eq_getElem?_getD, List.getElem?_eq_getElem (by omega)] at this
    simp only [Option.getD_some] at this
    omega
theorem RowOK.mono {its : List Item} {t : Int} {row : List Int} {m m' : Nat} (h : RowOK its t row m) (hm : m' ≤ m) : RowOK its t row m' :=
  ⟨fun i hi => h.1 i (by omega), fun i j hij hj => h.2 i j hij (by omega)⟩
/-- One more entry. -/
theorem RowOK.snoc {its : List Item} {t : Int} {row : List Int} {k : Nat} (h : RowOK its t row k)
    (h1 : 0 ≤ row.getD k 0 ∧ row.getD k 0 < its.length ∧ tOf its (row.getD k 0).toNat = t)
    (h2 : 0 < k → bOf its (row.getD (k - 1) 0).toNat ≤ bOf its (row.getD k 0).toNat) : RowOK its t row (k + 1) := by
  refine ⟨fun i hi => ?_, fun i j hij hj => ?_⟩
  · by_cases e : i = k
    · subst e; exact h1
    · exact h.1 i (by omega)
  · by_cases e : j = k
    · subst e
      have h3 := h2 (by omega)
      by_cases e2 : i = j - 1
      · subst e2; exact h3
      · have := h.2 i (j - 1) (by omega) (by omega)
        omega
    · exact h.2 i j hij (by omega)
theorem nodup_mid {A B : List Int} {x : Int} (h : (A ++ x :: B).Nodup) : x ∉ A := by
  intro hx
  rw [List.nodup_append] at h
  exact h.2.2 x hx x (List.mem_cons_self ..) rfl
theorem nodup_snoc {A : List Int} {x : Int} (h : A.Nodup) (hx : x ∉ A) : (A ++ [x]).Nodup := by
  rw [List.nodup_append]
  refine ⟨h, by simp, fun a ha b hb => ?_⟩
  rw [List.mem_singleton] at hb
  subst hb
  exact fun e => hx (e ▸ ha)
theorem split_at {row : List Int} {k : Nat} (h : k < row.length) : row = row.take k ++ row.getD k 0 :: row.drop (k + 1) := by
  conv => lhs; rw [← List.take_append_drop k row]
  rw [List.drop_eq_getElem_cons h, List.getD_eq_getElem?_getD, List.getElem?_eq_getElem h]; rfl
theorem itOf {its : List Item} {x : Int} (h0 : 0 ≤ x) (h : x < its.length) : ∃ a, its[x.toNat]? = some a ∧ idx its x = some a ∧ tOf its x.toNat = a.1 ∧ bOf its x.toNat = a.2.1 := by
  have hl : x.toNat < its.length := by omega
  refine ⟨its[x.toNat], List.getElem?_eq_getElem hl, ?_, ?_, ?_⟩
  · unfold idx; rw [if_pos h0, List.getElem?_eq_getElem hl]
  · unfold tOf; rw [List.getElem?_eq_getElem hl]
  · unfold bOf; rw [List.getElem?_eq_getElem hl]

section
variable {its : List Item} (hn : its.length ≤ 1000)
include hn

theorem jsort_row (t : Int) (row l : List Int) (hl : InR its.length l) (hd : l.Nodup) :
    ∃ d, loop (job_Sorted_L17 its t row) (seenOf its.length l, (l.length : Int), 0) = some d ∧
      ((d = .inr (seenOf its.length (l ++ row), ((l ++ row).length : Int)) ∧ RowOK its t row row.length ∧ (l ++ row).Nodup) ∨ (d = .inl () ∧ ¬ (RowOK its t row row.length ∧ (l ++ row).Nodup))) := by
  refine loop_inv (step := job_Sorted_L17 its t row) (fun s => ∃ k : Nat, s = (seenOf its.length (l ++ row.take k), (((l.length + k : Nat)) : Int), (k : Int)) ∧ k ≤ row.length ∧ RowOK its t row k ∧ (l ++ row.take k).Nodup) (fun s => 2000 - s.2.2.toNat) _ ?_ _ ⟨0, by simp, by omega, ⟨fun i h => by omega, fun i j h h' => by omega⟩, by simpa using hd⟩ (by simp)
  rintro _ ⟨k, rfl, hk, hR, hN⟩
  have hlen := nodup_short hN (hl.take rfl hk hR)
  rw [List.length_append, List.length_take, Nat.min_eq_left hk] at hlen
  unfold job_Sorted_L17
  simp only
  by_cases h : k < row.length
  · rw [if_pos (dpos (by omega)), idx_nat, row_get h]
    simp only [obind]
    rw [job_in_ok, wr_id (by omega) (by omega)]
    simp only [obind]
    have hx : row.getD k 0 = row.getD k 0 := rfl
    by_cases h1 : 0 ≤ row.getD k 0 ∧ row.getD k 0 ≤ (its.length : Int) - 1
    · obtain ⟨a, ha, hia, hta, hba⟩ := itOf (its := its) h1.1 (by omega)
      have hxl : (row.getD k 0).toNat < its.length := by omega
      have hxe : ((row.getD k 0).toNat : Int) = row.getD k 0 := by omega
      have hsn : idx (seenOf its.length (l ++ row.take k)) (row.getD k 0) = some (decide (row.getD k 0 ∈ l ++ row.take k)) := by
        rw [← hxe, idx_nat, seenOf_get _ hxl]
      rw [if_neg (by rw [dpos h1]; simp), hsn]
      simp only [obind]
      by_cases h2 : row.getD k 0 ∈ l ++ row.take k
      · rw [if_pos (dpos h2)]
        refine .inr ⟨_, rfl, .inr ⟨rfl, fun ⟨_, q⟩ => ?_⟩⟩
        rw [split_at h, ← List.append_assoc] at q
        exact nodup_mid q h2
      · rw [if_neg (dneg h2), hia]
        simp only [obind]
        by_cases h3 : a.1 = t
        · have hset : (seenOf its.length (l ++ row.take k)).set (Int.toNat (row.getD k 0)) true = seenOf its.length (l ++ row.take (k + 1)) := by
            rw [seenOf_set _ hxl, hxe, List.append_assoc, take_snoc h]
          have hnx : (0 < k → bOf its (row.getD (k - 1) 0).toNat ≤ bOf its (row.getD k 0).toNat) →
              ∃ k' : Nat, (seenOf its.length (l ++ row.take (k + 1)), IntKind.i64.wrap ((((l.length + k : Nat)) : Int) + 1), IntKind.i64.wrap ((k : Int) + 1)) = (seenOf its.length (l ++ row.take k'), (((l.length + k' : Nat)) : Int), (k' : Int)) ∧ k' ≤ row.length ∧ RowOK its t row k' ∧ (l ++ row.take k').Nodup := fun hb => by
            refine ⟨k + 1, ?_, by omega, hR.snoc ⟨h1.1, by omega, by rw [hta, h3]⟩ hb, ?_⟩
            · rw [wr_id (by omega) (by omega), wr_id (by omega) (by omega)]
              congr 1
            · rw [take_snoc h, ← List.append_assoc]
              exact nodup_snoc hN h2
          rw [if_neg (by simp [h3])]
          by_cases h4 : 0 < k
          · have hp := hR.1 (k - 1) (by omega)
            obtain ⟨b, hb1, hb2, hb3, hb4⟩ := itOf (its := its) hp.1 hp.2.1
            rw [if_pos (dpos (by omega)), wr_id (n := (k : Int) - 1) (by omega) (by omega), show (k : Int) - 1 = ((k - 1 : Nat) : Int) by omega, idx_nat, row_get (by omega)]
            simp only [obind]
            rw [hb2]
            simp only [obind]
            by_cases h5 : a.2.1 < b.2.1
            · rw [if_pos (dpos h5)]
              refine .inr ⟨_, rfl, .inr ⟨rfl, fun ⟨q, _⟩ => ?_⟩⟩
              have := q.2 (k - 1) k (by omega) h
              omega
            · rw [if_neg (dneg h5), hset]
              refine .inl ⟨_, rfl, hnx (fun _ => by omega), ?_⟩
              simp only
              rw [wr_id (n := (k : Int) + 1) (by omega) (by omega)]; omega
          · rw [if_neg (dneg (by omega)), hset]
            refine .inl ⟨_, rfl, hnx (fun _ => by omega), ?_⟩
            simp only
            rw [wr_id (n := (k : Int) + 1) (by omega) (by omega)]; omega
        · rw [if_pos (by simpa using h3)]
          refine .inr ⟨_, rfl, .inr ⟨rfl, fun ⟨q, _⟩ => ?_⟩⟩
          have := (q.1 k h).2.2
          omega
    · rw [if_pos (by rw [decide_eq_false h1]; rfl)]
      refine .inr ⟨_, rfl, .inr ⟨rfl, fun ⟨q, _⟩ => ?_⟩⟩
      have := q.1 k h
      omega
  · rw [if_neg (dneg (by omega))]
    have : k = row.length := by omega
    subst this
    rw [List.take_length] at hN ⊢
    exact .inr ⟨_, rfl, .inl ⟨by rw [List.length_append], hR, hN⟩⟩
end

/-- The first m rows are sorted, and no item is in them twice. -/
def RowsOK (its : List Item) (rows : List (List Int)) (m : Nat) : Prop :=
  (∀ (t : Nat) (row : List Int), t < m → rows[t]? = some row → RowOK its (t : Int) row row.length) ∧ ((rows.take m).flatten).Nodup
def SortedP (its : List Item) (rows : List (List Int)) : Prop := RowsOK its rows rows.length ∧ rows.flatten.length = its.length
theorem rows_take {rows : List (List Int)} {m : Nat} {row : List Int} (h : rows[m]? = some row) : (rows.take (m + 1)).flatten = (rows.take m).flatten ++ row := by
  rw [List.take_add_one, h]; simp
theorem RowsOK.inR {its : List Item} {rows : List (List Int)} {m : Nat} (hm : m ≤ rows.length) (h : RowsOK its rows m) : InR its.length (rows.take m).flatten := by
  intro x hx
  rw [List.mem_flatten] at hx
  obtain ⟨row, hr, hx⟩ := hx
  obtain ⟨t, ht, rfl⟩ := List.getElem_of_mem hr
  obtain ⟨i, hi, rfl⟩ := List.getElem_of_mem hx
  rw [List.length_take] at ht
  have := (h.1 t _ (by omega) (by rw [List.getElem_take]; exact List.getElem?_eq_getElem (by omega))).1 i hi
  rw [List.getD_eq_getElem?_getD, List.getElem?_eq_getElem hi] at this
  exact ⟨this.1, this.2.1⟩
theorem RowsOK.fails {its : List Item} {rows : List (List Int)} {m : Nat} {row : List Int} (hm : m < rows.length) (hr : rows[m]? = some row) (h : ¬ (RowOK its (m : Int) row row.length ∧ ((rows.take m).flatten ++ row).Nodup)) : ¬ RowsOK its rows rows.length := by
  intro q
  refine h ⟨q.1 m row hm hr, ?_⟩
  have q2 := q.2
  rw [← rows_take hr]
  rw [List.take_length, ← List.take_append_drop (m + 1) rows, List.flatten_append, List.nodup_append] at q2
  exact q2.1

theorem jsorted_ok {its : List Item} {wt : Int} (hg : JobGood its wt) (rows : List (List Int)) (hrl : rows.length ≤ 1000) :
    ∃ b, job_Sorted its wt rows = some (b, 0) ∧ (b = true ↔ SortedP its rows) := by
  have hl := hg.len
  unfold job_Sorted
  rw [valid_good hg]
  simp only [obind, bne_self_eq_false, Bool.false_eq_true, if_false]
  rw [if_pos (by omega), Int.toNat_natCast, seenOf_nil]
  obtain ⟨d, h1, h2⟩ := loop_inv (step := job_Sorted_L11 its rows) (fun s => ∃ m : Nat, s = (seenOf its.length ((rows.take m).flatten), (((rows.take m).flatten.length : Nat) : Int), (m : Int)) ∧ m ≤ rows.length ∧ RowsOK its rows m) (fun s => 2000 - s.2.2.toNat)
    (fun d => (d = .inr ((rows.flatten.length : Nat) : Int) ∧ RowsOK its rows rows.length) ∨ (d = .inl () ∧ ¬ RowsOK its rows rows.length)) (by
    rintro _ ⟨m, rfl, hm, hR⟩
    unfold job_Sorted_L11
    simp only
    by_cases h : m < rows.length
    · have hrow : rows[m]? = some rows[m] := List.getElem?_eq_getElem h
      generalize rows[m] = row at hrow
      rw [if_pos (dpos (by omega)), idx_nat, hrow]
      simp only [obind]
      obtain ⟨d, e1, e2⟩ := jsort_row (its := its) (by omega) (m : Int) row _ (hR.inR hm) hR.2
      rw [e1]
      rcases e2 with ⟨rfl, r1, r2⟩ | ⟨rfl, r1⟩
      · simp only [obind]
        rw [wr_id (by omega) (by omega)]
        refine .inl ⟨_, rfl, ⟨m + 1, by rw [rows_take hrow]; rfl, by omega, ⟨fun t row' ht hr => ?_, by rw [rows_take hrow]; exact r2⟩⟩, by simp only; omega⟩
        by_cases e : t = m
        · subst e
          rw [hrow] at hr
          cases hr
          exact r1
        · exact hR.1 t row' (by omega) hr
      · simp only [obind]
        exact .inr ⟨_, rfl, .inr ⟨rfl, RowsOK.fails h hrow r1⟩⟩
    · rw [if_neg (dneg (by omega))]
      have : m = rows.length := by omega
      subst this
      refine .inr ⟨_, rfl, .inl ⟨by rw [List.take_length], hR⟩⟩) (seenOf its.length [], 0, 0) ⟨0, by simp, by omega, ⟨fun t row h => by omega, by simp⟩⟩ (by simp)
  rw [h1]
  rcases h2 with ⟨rfl, r1⟩ | ⟨rfl, r1⟩
  · refine ⟨_, rfl, ?_⟩
    rw [beq_iff_eq]
    unfold SortedP
    constructor
    · intro e; exact ⟨r1, by omega⟩
    · intro e; have := e.2; omega
  · exact ⟨_, rfl, by simp, fun q => absurd q.1 r1⟩
end Go.Proofs.Ytcignnfdpgeogaa
