/- Plain law of JobSorts: lists in the order of the blocks are sorted, and an exchange of two neighbours of different blocks is not. No condition. -/
import Derived.Test.YtacimonplnlmgaaPJdeep
import Derived.Test.YtacimonplnlmgaaPJsorted
import Derived.Test.YtacimonplnlmgaaGJobSorts
set_option linter.unusedVariables false
set_option linter.unusedSectionVars false
set_option linter.unusedSimpArgs false
set_option maxRecDepth 100000
namespace Go.Proofs.Ytacimonplnlmgaa
open Go Go.V Go.Proofs

/-- The items of the blocks below b, by block. -/
def candB (its : List Item) (b : Nat) : List Nat := (List.range b).flatMap fun (b' : Nat) => (List.range its.length).filter fun (i : Nat) => bOf its i == (b' : Int)
def cand (its : List Item) (b x : Nat) : List Nat := candB its b ++ (List.range x).filter fun i => bOf its i == (b : Int)
def rowT (its : List Item) (b x : Nat) (t : Int) : List Int := castL ((cand its b x).filter fun i => tOf its i == t)
def rowsB (its : List Item) (b x : Nat) : List (List Int) := [rowT its b x 0, rowT its b x 1, rowT its b x 2]

theorem cand_next (its : List Item) (b : Nat) : cand its b its.length = cand its (b + 1) 0 := by
  unfold cand candB
  rw [List.range_succ, List.flatMap_append]
  simp
theorem rowT_skip {its : List Item} {b x : Nat} (h : bOf its x ≠ (b : Int)) (t : Int) : rowT its b (x + 1) t = rowT its b x t := by
  unfold rowT cand
  rw [List.range_succ, List.filter_append]
  have : (bOf its x == (b : Int)) = false := beq_eq_false_iff_ne.2 h
  simp [this]
theorem rowT_take {its : List Item} {b x : Nat} (h : bOf its x = (b : Int)) (t : Int) : rowT its b (x + 1) t = if tOf its x = t then rowT its b x t ++ [(x : Int)] else rowT its b x t := by
  unfold rowT cand
  rw [List.range_succ, List.filter_append (l₁ := List.range x)]
  have e : (bOf its x == (b : Int)) = true := beq_iff_eq.2 h
  have e2 : List.filter (fun i => bOf its i == (b : Int)) [x] = [x] := by simp [e]
  rw [e2, ← List.append_assoc, List.filter_append]
  by_cases ht : tOf its x = t
  · rw [if_pos ht]
    have : List.filter (fun i => tOf its i == t) [x] = [x] := by simp [ht]
    rw [this, castL_app]; rfl
  · rw [if_neg ht]
    have : List.filter (fun i => tOf its i == t) [x] = [] := by simp [ht]
    rw [this, List.append_nil]
theorem rowsB_skip {its : List Item} {b x : Nat} (h : bOf its x ≠ (b : Int)) : rowsB its b (x + 1) = rowsB its b x := by
  unfold rowsB; rw [rowT_skip h, rowT_skip h, rowT_skip h]
theorem rowsB_take {its : List Item} {b x : Nat} (h : bOf its x = (b : Int)) (q : Nat) (hq : tOf its x = (q : Int)) (hq3 : q < 3) :
    (rowsB its b x)[q]? = some (rowT its b x q) ∧ (rowsB its b x).set q (rowT its b x q ++ [(x : Int)]) = rowsB its b (x + 1) := by
  unfold rowsB
  rw [rowT_take h, rowT_take h, rowT_take h, hq]
  rcases (by omega : q = 0 ∨ q = 1 ∨ q = 2) with rfl | rfl | rfl
  · exact ⟨rfl, by simp⟩
  · exact ⟨rfl, by simp⟩
  · exact ⟨rfl, by simp⟩

/-- By block, then by place. -/
def before (its : List Item) (i j : Nat) : Prop := bOf its i < bOf its j ∨ (bOf its i = bOf its j ∧ i < j)
theorem cand_pair (its : List Item) (b : Nat) : (candB its b).Pairwise (before its) := by
  unfold candB
  rw [List.pairwise_flatMap]
  constructor
  · intro b' _
    refine List.Pairwise.imp_of_mem (R := fun a c => a < c) ?_ (List.Pairwise.filter _ List.pairwise_lt_range)
    intro a c ha hc hac
    rw [List.mem_filter, beq_iff_eq] at ha hc
    exact .inr ⟨by omega, hac⟩
  · refine List.Pairwise.imp ?_ (List.pairwise_lt_range (n := b))
    intro x y hxy a ha c hc
    rw [List.mem_filter, beq_iff_eq] at ha hc
    exact .inl (by omega)
theorem cand_mem {its : List Item} {b : Nat} {i : Nat} (hb : ∀ i, 0 ≤ bOf its i) : i ∈ candB its b ↔ i < its.length ∧ bOf its i < b := by
  unfold candB
  rw [List.mem_flatMap]
  constructor
  · rintro ⟨b', h1, h2⟩
    rw [List.mem_range] at h1
    rw [List.mem_filter, List.mem_range, beq_iff_eq] at h2
    exact ⟨h2.1, by omega⟩
  · rintro ⟨h1, h2⟩
    have := hb i
    refine ⟨(bOf its i).toNat, by rw [List.mem_range]; omega, ?_⟩
    rw [List.mem_filter, List.mem_range, beq_iff_eq]
    exact ⟨h1, by omega⟩

theorem castL_getD (l : List Nat) (i : Nat) (h : i < l.length) : (castL l).getD i 0 = (l[i] : Int) := by
  rw [List.getD_eq_getElem?_getD, castL_get, List.getElem?_eq_getElem h]; rfl
theorem row_ok {its : List Item} {t : Int} {l : List Nat} (h1 : ∀ x ∈ l, x < its.length ∧ tOf its x = t) (h2 : l.Pairwise (before its)) : RowOK its t (castL l) (castL l).length := by
  rw [castL_len]
  refine ⟨fun i hi => ?_, fun i j hij hj => ?_⟩
  · rw [castL_getD l i hi]
    have := h1 l[i] (List.getElem_mem _)
    exact ⟨by omega, by omega, by simpa using this.2⟩
  · rw [castL_getD l i (by omega), castL_getD l j hj]
    have := List.pairwise_iff_getElem.1 h2 i j (by omega) hj hij
    simp only [Int.toNat_natCast]
    rcases this with h | h <;> omega
theorem castL_mem (l : List Nat) (x : Int) : x ∈ castL l ↔ ∃ i, i ∈ l ∧ (i : Int) = x := by
  unfold castL; rw [List.mem_map]
theorem castL_nodup {its : List Item} {l : List Nat} (h : l.Pairwise (before its)) : (castL l).Nodup := by
  unfold castL
  rw [List.nodup_iff_pairwise_ne, List.pairwise_map]
  refine List.Pairwise.imp ?_ h
  intro a b hab e
  have : a = b := by omega
  subst this
  rcases hab with h | h <;> omega

theorem rowsB_flat (its : List Item) (b x : Nat) : (rowsB its b x).flatten = rowT its b x 0 ++ (rowT its b x 1 ++ rowT its b x 2) := by
  simp [rowsB]
theorem rowsB_sorted {its : List Item} (hb : ∀ i, 0 ≤ bOf its i ∧ bOf its i ≤ 31) (ht : ∀ i, i < its.length → 0 ≤ tOf its i ∧ tOf its i ≤ 2) : SortedP its (rowsB its 32 0) := by
  have hc : cand its 32 0 = candB its 32 := by simp [cand]
  have hP := cand_pair its 32
  have hmem : ∀ t x, x ∈ rowT its 32 0 t ↔ ∃ i : Nat, x = (i : Int) ∧ i < its.length ∧ tOf its i = t := by
    intro t x
    unfold rowT
    rw [hc, castL_mem]
    constructor
    · rintro ⟨i, h1, rfl⟩
      rw [List.mem_filter, cand_mem (fun i => (hb i).1), beq_iff_eq] at h1
      exact ⟨i, rfl, h1.1.1, h1.2⟩
    · rintro ⟨i, rfl, h1, h2⟩
      refine ⟨i, ?_, rfl⟩
      rw [List.mem_filter, cand_mem (fun i => (hb i).1), beq_iff_eq]
      have := hb i
      exact ⟨⟨h1, by omega⟩, h2⟩
  have hrow : ∀ t : Int, RowOK its t (rowT its 32 0 t) (rowT its 32 0 t).length := fun t => by
    refine row_ok (fun x hx => ?_) (List.Pairwise.filter _ (by rw [hc]; exact hP))
    rw [hc, List.mem_filter, cand_mem (fun i => (hb i).1), beq_iff_eq] at hx
    exact ⟨hx.1.1, hx.2⟩
  have hnd : ∀ t : Int, (rowT its 32 0 t).Nodup := fun t => castL_nodup (List.Pairwise.filter _ (by rw [hc]; exact hP))
  have hdis : ∀ t t' : Int, t ≠ t' → ∀ x ∈ rowT its 32 0 t, ∀ y ∈ rowT its 32 0 t', x ≠ y := by
    intro t t' hne x hx y hy e
    obtain ⟨i, rfl, _, h1⟩ := (hmem t x).1 hx
    obtain ⟨j, rfl, _, h2⟩ := (hmem t' y).1 hy
    have : i = j := by omega
    subst this
    omega
  have hN : (rowsB its 32 0).flatten.Nodup := by
    rw [rowsB_flat, List.nodup_append]
    refine ⟨hnd 0, ?_, fun x hx y hy => ?_⟩
    · rw [List.nodup_append]
      exact ⟨hnd 1, hnd 2, hdis 1 2 (by decide)⟩
    · rcases List.mem_append.1 hy with hy | hy
      · exact hdis 0 1 (by decide) x hx y hy
      · exact hdis 0 2 (by decide) x hx y hy
  have hR : RowsOK its (rowsB its 32 0) (rowsB its 32 0).length := by
    refine ⟨fun t row ht hr => ?_, by rw [List.take_length]; exact hN⟩
    have ht3 : t < 3 := ht
    rcases (by omega : t = 0 ∨ t = 1 ∨ t = 2) with rfl | rfl | rfl
    · cases hr; exact hrow 0
    · cases hr; exact hrow 1
    · cases hr; exact hrow 2
  refine ⟨hR, Nat.le_antisymm ?_ ?_⟩
  · have := hR.inR (Nat.le_refl _)
    rw [List.take_length] at this
    exact nodup_short hN this
  · have h2 := List.Nodup.length_le_of_subset (l₁ := (List.range its.length).map fun (i : Nat) => (i : Int)) (l₂ := (rowsB its 32 0).flatten) (by
      rw [List.nodup_iff_pairwise_ne, List.pairwise_map]
      exact List.Pairwise.imp (fun h => by omega) (List.nodup_iff_pairwise_ne.1 List.nodup_range)) (fun x hx => by
      rw [List.mem_map] at hx
      obtain ⟨i, hi, rfl⟩ := hx
      rw [List.mem_range] at hi
      have h3 := ht i hi
      rw [rowsB_flat, List.mem_append, List.mem_append, hmem, hmem, hmem]
      rcases (by omega : tOf its i = 0 ∨ tOf its i = 1 ∨ tOf its i = 2) with e | e | e
      · exact .inl ⟨i, rfl, hi, e⟩
      · exact .inr (.inl ⟨i, rfl, hi, e⟩)
      · exact .inr (.inr ⟨i, rfl, hi, e⟩))
    simpa using h2

/-! ### The exchange of two neighbours -/
def swp (row : List Int) (i : Nat) : List Int := (row.set i (row.getD (i + 1) 0)).set (i + 1) (row.getD i 0)
theorem swp_len (row : List Int) (i : Nat) : (swp row i).length = row.length := by simp [swp]
theorem swp_perm {row : List Int} {i : Nat} (h : i + 1 < row.length) : (swp row i).Perm row := by
  have e1 : row.getD i 0 = row[i] := by rw [List.getD_eq_getElem?_getD, List.getElem?_eq_getElem (by omega)]; rfl
  have e2 : row.getD (i + 1) 0 = row[i + 1] := by rw [List.getD_eq_getElem?_getD, List.getElem?_eq_getElem (by omega)]; rfl
  unfold swp
  rw [e1, e2]
  exact List.set_set_perm (by omega) h
theorem swp_get (row : List Int) (i j : Nat) (h : i + 1 < row.length) : (swp row i).getD j 0 = if j = i then row.getD (i + 1) 0 else if j = i + 1 then row.getD i 0 else row.getD j 0 := by
  unfold swp
  rw [getD_set, getD_set]
  simp only [List.length_set]
  by_cases h1 : j = i
  · subst h1
    rw [if_neg (by omega), if_pos ⟨rfl, by omega⟩, if_pos rfl]
  · rw [if_neg h1]
    by_cases h2 : j = i + 1
    · rw [if_pos ⟨h2.symm, h⟩, if_pos h2]
    · rw [if_neg (fun q => h2 q.1.symm), if_neg h2, if_neg (fun q => h1 q.1.symm)]
theorem swp_back {row : List Int} {i : Nat} (h : i + 1 < row.length) : ((swp row i).set i (row.getD i 0)).set (i + 1) (row.getD (i + 1) 0) = row := by
  apply List.ext_getElem (by simp [swp])
  intro j h1 h2
  have e : ∀ (l : List Int) (hl : j < l.length), l[j] = l.getD j 0 := fun l hl => by rw [List.getD_eq_getElem?_getD, List.getElem?_eq_getElem hl]; rfl
  rw [e _ h1, e _ h2, getD_set, getD_set, swp_get row i j h]
  simp only [List.length_set, swp_len]
  by_cases h1 : j = i
  · subst h1
    rw [if_neg (by omega), if_pos ⟨rfl, by omega⟩]
  · by_cases h2 : j = i + 1
    · rw [if_pos ⟨h2.symm, h⟩, h2]
    · rw [if_neg (fun q => h2 q.1.symm), if_neg (fun q => h1 q.1.symm), if_neg h1, if_neg h2]

theorem flat_set_perm : ∀ (rows : List (List Int)) (n : Nat) (r r' : List Int), rows[n]? = some r → r'.Perm r → (rows.set n r').flatten.Perm rows.flatten
  | [], n, r, r', h, _ => by simp at h
  | x :: rows, 0, r, r', h, hp => by
    simp only [List.getElem?_cons_zero, Option.some.injEq] at h
    subst h
    simp only [List.set_cons_zero, List.flatten_cons]
    exact hp.append_right _
  | x :: rows, n + 1, r, r', h, hp => by
    simp only [List.getElem?_cons_succ] at h
    simp only [List.set_cons_succ, List.flatten_cons]
    exact (flat_set_perm rows n r r' h hp).append_left _

theorem swp_sorted {its : List Item} {rows : List (List Int)} (hS : SortedP its rows) {n : Nat} {row : List Int} (hr : rows[n]? = some row) {i : Nat} (h : i + 1 < row.length) :
    SortedP its (rows.set n (swp row i)) ↔ bOf its (row.getD i 0).toNat = bOf its (row.getD (i + 1) 0).toNat := by
  have hnl : n < rows.length := (List.getElem?_eq_some_iff.1 hr).1
  have hrow := hS.1.1 n row hnl hr
  have hmono := hrow.2 i (i + 1) (by omega) h
  constructor
  · rintro ⟨⟨q1, _⟩, _⟩
    have q := q1 n (swp row i) (by simpa using hnl) (by rw [List.getElem?_set_self hnl])
    have := q.2 i (i + 1) (by omega) (by rw [swp_len]; exact h)
    rw [swp_get row i i h, swp_get row i (i + 1) h, if_pos rfl, if_neg (by omega), if_pos rfl] at this
    omega
  · intro e
    have hp := flat_set_perm rows n row (swp row i) hr (swp_perm h)
    have hkey : ∀ k, bOf its ((swp row i).getD k 0).toNat = bOf its (row.getD k 0).toNat := fun k => by
      rw [swp_get row i k h]
      by_cases h1 : k = i
      · subst h1; rw [if_pos rfl, e]
      · rw [if_neg h1]
        by_cases h2 : k = i + 1
        · subst h2; rw [if_pos rfl, e]
        · rw [if_neg h2]
    refine ⟨⟨fun t row' ht hr' => ?_, ?_⟩, ?_⟩
    · by_cases htn : t = n
      · subst htn
        rw [List.getElem?_set_self hnl] at hr'
        cases hr'
        rw [swp_len]
        refine ⟨fun k hk => ?_, fun k j hkj hj => ?_⟩
        · rw [swp_get row i k h]
          by_cases h1 : k = i
          · rw [if_pos h1]; exact hrow.1 (i + 1) h
          · rw [if_neg h1]
            by_cases h2 : k = i + 1
            · rw [if_pos h2]; exact hrow.1 i (by omega)
            · rw [if_neg h2]; exact hrow.1 k hk
        · rw [hkey, hkey]; exact hrow.2 k j hkj hj
      · rw [List.getElem?_set_ne (fun q => htn q.symm)] at hr'
        exact hS.1.1 t row' (by simpa using ht) hr'
    · rw [List.take_length]
      have := hS.1.2
      rw [List.take_length] at this
      exact hp.symm.nodup this
    · rw [hp.length_eq]; exact hS.2

section
variable {its : List Item} {wt k : Int} (hg : JobGood its wt)
include hg

theorem JS17_ok (b : Nat) (hb : b < 32) (ht : ∀ i, i < its.length → 0 ≤ tOf its i ∧ tOf its i ≤ 2) : loop (law11_JobSorts_L17 ((its, wt), k) (b : Int)) (rowsB its b 0, 0) = some (rowsB its (b + 1) 0) := by
  have hl := hg.len
  have e1 : rowsB its (b + 1) 0 = rowsB its b its.length := by unfold rowsB rowT; rw [cand_next]
  rw [e1]
  obtain ⟨d, h1, h2⟩ := loop_inv (step := law11_JobSorts_L17 ((its, wt), k) (b : Int)) (fun s => ∃ x : Nat, s = (rowsB its b x, (x : Int)) ∧ x ≤ its.length) (fun s => its.length - s.2.toNat)
    (fun d => d = rowsB its b its.length) (by
    rintro _ ⟨x, rfl, hx⟩
    unfold law11_JobSorts_L17
    simp only
    by_cases h : x < its.length
    · obtain ⟨a, ha, hia, hta, hba⟩ := itOf (its := its) (x := (x : Int)) (by omega) (by omega)
      simp only [Int.toNat_natCast] at ha hta hba
      rw [if_pos (dpos (by omega)), hia]
      simp only [obind]
      rw [wr_id (by omega) (by omega)]
      by_cases hab : a.2.1 = (b : Int)
      · have h3 := ht x h
        have hqe : a.1 = ((a.1.toNat : Nat) : Int) := by omega
        obtain ⟨q1, q2⟩ := rowsB_take (its := its) (b := b) (x := x) (by rw [hba, hab]) a.1.toNat (by omega) (by omega)
        have hlen : (rowT its b x ((a.1.toNat : Nat) : Int)).length ≤ 4294967295 := by
          unfold rowT
          rw [castL_len]
          refine Nat.le_trans (List.length_filter_le ..) ?_
          have hP := cand_pair its b
          have hcb : (castL (candB its b)).Nodup := castL_nodup hP
          have := nodup_short hcb (n := its.length) (fun y hy => by
            rw [castL_mem] at hy
            obtain ⟨i, hi, rfl⟩ := hy
            rw [cand_mem (fun i => (hg.b i).1)] at hi
            omega)
          rw [castL_len] at this
          unfold cand
          rw [List.length_append]
          have h4 := List.length_filter_le (fun i => bOf its i == (b : Int)) (List.range x)
          rw [List.length_range] at h4
          omega
        rw [if_pos (by rw [beq_iff_eq]; exact hab), hqe, idx_nat, q1]
        simp only [obind]
        rw [if_pos (by simp only [List.length_cons, List.length_nil]; omega)]
        simp only [Int.toNat_natCast]
        rw [q2]
        exact .inl ⟨_, rfl, ⟨x + 1, rfl, by omega⟩, by simp only; omega⟩
      · rw [if_neg (by rw [beq_iff_eq]; exact hab), ← rowsB_skip (its := its) (b := b) (x := x) (by rw [hba]; exact hab)]
        exact .inl ⟨_, rfl, ⟨x + 1, rfl, by omega⟩, by simp only; omega⟩
    · rw [if_neg (dneg (by omega))]
      have : x = its.length := by omega
      subst this
      exact .inr ⟨_, rfl, rfl⟩) (rowsB its b 0, 0) ⟨0, rfl, by omega⟩ (by simp; omega)
  rw [h1, h2]

theorem JS15_ok (ht : ∀ i, i < its.length → 0 ≤ tOf its i ∧ tOf its i ≤ 2) : loop (law11_JobSorts_L15 ((its, wt), k)) (rowsB its 0 0, 0) = some (rowsB its 32 0) := by
  obtain ⟨d, h1, h2⟩ := loop_inv (step := law11_JobSorts_L15 ((its, wt), k)) (fun s => ∃ b : Nat, s = (rowsB its b 0, (b : Int)) ∧ b ≤ 32) (fun s => 32 - s.2.toNat)
    (fun d => d = rowsB its 32 0) (by
    rintro _ ⟨b, rfl, hb⟩
    unfold law11_JobSorts_L15
    simp only
    by_cases h : b < 32
    · rw [if_pos (dpos (by omega)), JS17_ok hg b h ht]
      simp only [obind]
      rw [wr_id (by omega) (by omega)]
      exact .inl ⟨_, rfl, ⟨b + 1, rfl, by omega⟩, by simp only; omega⟩
    · rw [if_neg (dneg (by omega))]
      have : b = 32 := by omega
      subst this
      exact .inr ⟨_, rfl, rfl⟩) (rowsB its 0 0, 0) ⟨0, rfl, by omega⟩ (by simp)
  rw [h1, h2]

theorem JS39_ok {rows : List (List Int)} (hr3 : rows.length ≤ 1000) (hS : SortedP its rows) (n : Nat) (row : List Int) (hrow : rows[n]? = some row) :
    loop (law11_JobSorts_L39 ((its, wt), k) (n : Int)) (rows, 0) = some (.inr rows) := by
  have hl := hg.len
  have hnl : n < rows.length := (List.getElem?_eq_some_iff.1 hrow).1
  have hR := hS.1.1 n row hnl hrow
  have hidx : idx rows (n : Int) = some row := by rw [idx_nat, hrow]
  have hlen : row.length ≤ 96 := by
    have h1 := hS.2
    have h2 : row.length ≤ rows.flatten.length := by
      have : row ∈ rows := List.mem_of_getElem? hrow
      exact (List.sublist_flatten_of_mem this).length_le
    omega
  obtain ⟨d, h1, h2⟩ := loop_inv (step := law11_JobSorts_L39 ((its, wt), k) (n : Int)) (fun s => ∃ i : Nat, s = (rows, (i : Int)) ∧ i ≤ row.length) (fun s => row.length - s.2.toNat)
    (fun d => d = .inr rows) (by
    rintro _ ⟨i, rfl, hi⟩
    unfold law11_JobSorts_L39
    simp only
    rw [hidx]
    simp only [obind]
    rw [wr_id (n := (i : Int) + 1) (by omega) (by omega), show (i : Int) + 1 = ((i + 1 : Nat) : Int) by omega]
    by_cases h : i + 1 < row.length
    · rw [if_pos (dpos (by omega)), idx_getD (l := row) (i := i) (by omega)]
      simp only [obind]
      rw [idx_getD (l := row) h]
      simp only [obind, Int.toNat_natCast]
      rw [idx_getD (l := row.set i (row.getD (i + 1) 0)) (i := i + 1) (by simpa using h), List.set_set]
      simp only [obind]
      obtain ⟨b, hb1, hb2⟩ := jsorted_ok hg (rows.set n (swp row i)) (by simpa using hr3)
      have hb3 := swp_sorted hS hrow h
      have hsw : (row.set i (row.getD (i + 1) 0)).set (i + 1) (row.getD i 0) = swp row i := rfl
      rw [hsw, hb1]
      have hix : idx (rows.set n (swp row i)) (n : Int) = some (swp row i) := by rw [idx_nat, List.getElem?_set_self hnl]
      simp only [obind]
      rw [hix]
      simp only [obind]
      rw [idx_getD (l := swp row i) (i := i) (by rw [swp_len]; omega)]
      simp only [obind]
      rw [idx_getD (l := (swp row i).set i (row.getD i 0)) (i := i + 1) (by rw [List.length_set, swp_len]; exact h)]
      have hv1 := hR.1 i (by omega)
      have hv2 := hR.1 (i + 1) h
      obtain ⟨a, ha, hia, hta, hba⟩ := itOf hv1.1 hv1.2.1
      obtain ⟨c, hc, hic, htc, hbc⟩ := itOf hv2.1 hv2.2.1
      simp only [obind, bne_self_eq_false, Bool.false_eq_true, if_false]
      rw [hia]
      simp only [obind]
      rw [hic]
      simp only [obind]
      rw [List.set_set, List.set_set, swp_back h]
      have hself : rows.set n row = rows := by
        apply List.ext_getElem? 
        intro j
        rw [List.getElem?_set]
        by_cases e : n = j
        · subst e; rw [if_pos rfl, if_pos hnl, hrow]
        · rw [if_neg e]
      rw [hself]
      have hbe : b = (a.2.1 == c.2.1) := by
        rw [hba, hbc] at hb3
        rw [Bool.eq_iff_iff, beq_iff_eq, ← hb3, hb2]
      rw [if_neg (by rw [hbe]; simp)]
      exact .inl ⟨_, rfl, ⟨i + 1, rfl, by omega⟩, by simp only; omega⟩
    · rw [if_neg (dneg (by omega))]
      exact .inr ⟨_, rfl, rfl⟩) (rows, 0) ⟨0, rfl, by omega⟩ (by simp; omega)
  rw [h1, h2]
end

theorem jobSorts_ok (l : List Int) : law11_JobSorts l = some true := by
  unfold law11_JobSorts gen_New
  simp only [obind]
  obtain ⟨its, wt, k, h1, _, _, _, hg, hr⟩ := job_ok l 0 14 (by omega) (by omega)
  have ht : ∀ i, i < its.length → 0 ≤ tOf its i ∧ tOf its i ≤ 2 := fun i hi => by
    have h2 := hr i its[i] (List.getElem?_eq_getElem hi)
    have h3 := (hg.it i its[i] (List.getElem?_eq_getElem hi)).1
    have h4 : tOf its i = its[i].1 := by unfold tOf; rw [List.getElem?_eq_getElem hi]
    omega
  have hS := rowsB_sorted hg.b ht
  rw [h1]
  simp only [obind]
  rw [if_pos (by decide), show List.replicate (Int.toNat 3) ([] : List Int) = rowsB its 0 0 from rfl, JS15_ok hg ht]
  simp only [obind]
  obtain ⟨b, hb1, hb2⟩ := jsorted_ok hg (rowsB its 32 0) (by show 3 ≤ 1000; omega)
  rw [hb1, hb2.2 hS]
  simp only [obind, bne_self_eq_false, Bool.false_eq_true, if_false, Bool.not_true]
  have h3 : (rowsB its 32 0).length = 3 := rfl
  obtain ⟨d, g1, g2⟩ := loop_inv (step := law11_JobSorts_L37 ((its, wt), k) (rowsB its 32 0)) (fun s => ∃ n : Nat, s = (rowsB its 32 0, (n : Int)) ∧ n ≤ 3) (fun s => 3 - s.2.toNat)
    (fun d => d = .inr ()) (by
    rintro _ ⟨n, rfl, hn⟩
    unfold law11_JobSorts_L37
    simp only [h3]
    by_cases h : n < 3
    · rw [if_pos (dpos (by omega)), JS39_ok hg (by show 3 ≤ 1000; omega) hS n _ (List.getElem?_eq_getElem (by rw [h3]; exact h))]
      simp only [obind]
      rw [wr_id (by omega) (by omega)]
      exact .inl ⟨_, rfl, ⟨n + 1, rfl, by omega⟩, by simp only; omega⟩
    · rw [if_neg (dneg (by omega))]
      exact .inr ⟨_, rfl, rfl⟩) (rowsB its 32 0, 0) ⟨0, rfl, by omega⟩ (by simp)
  rw [g1, g2]
  simp only [obind]
  rw [sane11_ok]
  rfl
end Go.Proofs.Ytacimonplnlmgaa
