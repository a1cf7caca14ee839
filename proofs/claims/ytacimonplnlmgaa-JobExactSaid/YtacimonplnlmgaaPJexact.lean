/- Plain law of JobExact: all functions answer as the reference does, for made, spoiled and arbitrary jobs. The integers are of Go's int. -/
import Derived.Test.YtacimonplnlmgaaPJdeep
import Derived.Test.YtacimonplnlmgaaPJsorted
import Derived.Test.YtacimonplnlmgaaPJref
import Derived.Test.YtacimonplnlmgaaPJspoil
import Derived.Test.YtacimonplnlmgaaGJobExact
set_option linter.unusedVariables false
set_option linter.unusedSectionVars false
set_option linter.unusedSimpArgs false
set_option maxRecDepth 100000
namespace Go.Proofs.Ytacimonplnlmgaa
open Go Go.V Go.Proofs

/-! ### The relation -/
theorem rrel_same {its : List Item} {wt : Int} (hg : JobGood its wt) (x y : Int) : ∃ p, job_Relation its wt x y = some p ∧ r11_Relation its wt x y = some p := by
  have hl := hg.len
  unfold job_Relation r11_Relation
  rw [jv_same, valid_good hg]
  simp only [obind, bne_self_eq_false, Bool.false_eq_true, if_false]
  rw [job_in_ok, job_in_ok, wr_id (by omega) (by omega)]
  simp only [obind]
  by_cases h1 : x < 0
  · rw [if_pos (by simp; omega), if_pos (dpos h1)]
    exact ⟨_, rfl, rfl⟩
  by_cases h2 : x ≥ its.length
  · rw [if_pos (by simp; omega), if_neg (dneg h1), if_pos (dpos h2)]
    exact ⟨_, rfl, rfl⟩
  rw [if_neg (by simp; omega), if_neg (c := decide (x < 0) = true) (dneg h1), if_neg (c := decide (x ≥ (its.length : Int)) = true) (dneg h2)]
  by_cases h3 : y < 0
  · rw [if_pos (by simp; omega), if_pos (dpos h3)]
    exact ⟨_, rfl, rfl⟩
  by_cases h4 : y ≥ its.length
  · rw [if_pos (by simp; omega), if_neg (dneg h3), if_pos (dpos h4)]
    exact ⟨_, rfl, rfl⟩
  rw [if_neg (by simp; omega), if_neg (c := decide (y < 0) = true) (dneg h3), if_neg (c := decide (y ≥ (its.length : Int)) = true) (dneg h4)]
  obtain ⟨m, rfl⟩ : ∃ m : Nat, x = (m : Int) := ⟨x.toNat, by omega⟩
  obtain ⟨n, rfl⟩ : ∃ n : Nat, y = (n : Int) := ⟨y.toNat, by omega⟩
  rw [relation_ok its wt m n (by omega) (by omega), kind_ok its wt m n (by omega) (by omega)]
  exact ⟨_, rfl, rfl⟩

/-! ### The levels, block by block -/
/-- The items of the blocks below b, and those of block b below y, have their numbers. -/
def LvUp (its : List Item) (d : List Int) (b : Int) (y : Nat) : Prop :=
  d.length = its.length ∧ LevB its d ∧ ∀ z, z < its.length → (bOf its z < b ∨ (bOf its z = b ∧ z < y)) → d.getD z 0 = need its d z
theorem LevB.small {its : List Item} {d : List Int} (h : LevB its d) (hb : ∀ i, 0 ≤ bOf its i ∧ bOf its i ≤ 31) : Small d := fun x => by
  have := h x; have := hb x; omega
theorem need_set {its : List Item} {d : List Int} {z y : Nat} {a : Int} (h : bOf its z ≤ bOf its y) : need its (d.set y a) z = need its d z :=
  need_congr fun x hr => by
    have := (rel_blk hr).1
    rw [getD_set, if_neg (fun q => by rw [q.1] at h; omega)]

section
variable {its : List Item} {wt : Int} (hg : JobGood its wt)
include hg

theorem RL11_ok (d0 : List Int) (b : Nat) (h0 : LvUp its d0 (b : Int) 0) : ∃ d, loop (r11_Levels_L11 its wt (b : Int)) (d0, 0) = some d ∧ LvUp its d ((b : Int) + 1) 0 := by
  have hl := hg.len
  refine loop_inv (step := r11_Levels_L11 its wt (b : Int)) (fun s => ∃ (d : List Int) (y : Nat), s = (d, (y : Int)) ∧ y ≤ its.length ∧ LvUp its d (b : Int) y) (fun s => its.length - s.2.toNat) _ ?_ _ ⟨d0, 0, rfl, by omega, h0⟩ (by simp; omega)
  rintro _ ⟨d, y, rfl, hy, hd, hB, hq⟩
  unfold r11_Levels_L11
  simp only
  by_cases h : y < its.length
  · obtain ⟨a, ha⟩ : ∃ a, its[y]? = some a := ⟨_, List.getElem?_eq_getElem h⟩
    have hba : bOf its y = a.2.1 := by unfold bOf; rw [ha]
    rw [if_pos (dpos (by omega)), idx_nat, ha]
    simp only [obind]
    rw [wr_id (n := (y : Int) + 1) (by omega) (by omega)]
    by_cases hab : a.2.1 = (b : Int)
    · rw [if_pos (by rw [beq_iff_eq]; exact hab), base_ok wt (by omega) hd (hB.small hg.b) y h]
      simp only [obind]
      rw [idx_getD (by omega)]
      simp only [obind, Int.toNat_natCast]
      refine .inl ⟨_, rfl, ⟨_, y + 1, rfl, by omega, by simpa using hd, fun z => ?_, fun z hz hzz => ?_⟩, by simp only; omega⟩
      · rw [getD_set]
        split
        · rename_i e
          rw [← e.1]
          exact need_le hg.b hB y its.length
        · exact hB z
      · have hzy : bOf its z ≤ bOf its y := by omega
        rw [need_set hzy, getD_set]
        by_cases e : y = z
        · subst e; rw [if_pos ⟨rfl, by omega⟩]
        · rw [if_neg (fun q => e q.1)]
          exact hq z hz (by omega)
    · rw [if_neg (by rw [beq_iff_eq]; exact hab)]
      refine .inl ⟨_, rfl, ⟨d, y + 1, rfl, by omega, hd, hB, fun z hz hzz => hq z hz ?_⟩, by simp only; omega⟩
      rcases hzz with e | ⟨e1, e2⟩
      · exact .inl e
      · by_cases e : z = y
        · subst e; omega
        · exact .inr ⟨e1, by omega⟩
  · rw [if_neg (dneg (by omega))]
    refine .inr ⟨_, rfl, hd, hB, fun z hz hzz => hq z hz ?_⟩
    rcases hzz with e | ⟨_, e2⟩
    · omega
    · omega

theorem rlevels_ok : ∃ v, r11_Levels its wt = some (v, 0) ∧ IsLev its v ∧ LevB its v := by
  have hl := hg.len
  unfold r11_Levels
  rw [jv_same, valid_good hg]
  simp only [obind, bne_self_eq_false, Bool.false_eq_true, if_false]
  rw [if_pos (by omega)]
  obtain ⟨d, h1, h2⟩ := loop_inv (step := r11_Levels_L9 its wt) (fun s => ∃ (d : List Int) (b : Nat), s = (d, (b : Int)) ∧ b ≤ 32 ∧ LvUp its d (b : Int) 0) (fun s => 32 - s.2.toNat)
    (fun d => LvUp its d 32 0) (by
    rintro _ ⟨d, b, rfl, hb, hd⟩
    unfold r11_Levels_L9
    simp only
    by_cases h : b < 32
    · obtain ⟨d', e1, e2⟩ := RL11_ok hg d b hd
      rw [if_pos (dpos (by omega)), e1]
      simp only [obind]
      rw [wr_id (by omega) (by omega)]
      exact .inl ⟨_, rfl, ⟨d', b + 1, rfl, by omega, e2⟩, by simp only; omega⟩
    · rw [if_neg (dneg (by omega))]
      have : b = 32 := by omega
      subst this
      exact .inr ⟨_, rfl, hd⟩) ((List.replicate (Int.toNat ((its.length : Nat) : Int)) 0 : List Int), 0) ⟨_, 0, rfl, by omega, by simp, fun y => by
        have : (List.replicate (Int.toNat ((its.length : Nat) : Int)) 0 : List Int).getD y 0 = 0 := by
          rw [List.getD_eq_getElem?_getD, List.getElem?_replicate]; split <;> rfl
        rw [this]; exact ⟨Int.le_refl 0, (hg.b y).1⟩, fun z hz h => by have := hg.b z; omega⟩ (by simp)
  rw [h1]
  refine ⟨d, rfl, ⟨h2.1, fun y hy => h2.2.2 y hy (.inl ?_)⟩, h2.2.1⟩
  have := hg.b y
  omega

/-! ### The deepest chain -/
theorem down_same {v : List Int} (hv : IsLev its v) : ∀ (f y : Nat), y < its.length → down its v f y = down2 its v f y
  | 0, y, _ => rfl
  | f + 1, y, hy => by
    have e1 := hv.eq y hy
    have e2 : stp its v y = stp2 its v y := by funext x; unfold stp stp2; rw [e1]
    have e3 : nx its v y = nx2 its v y := by unfold nx nx2; rw [e2]
    unfold down down2
    rw [e1, e3]
    by_cases h : need its v y > 0
    · rw [if_pos h, if_pos h, down_same hv f _ (nx2_spec h).2.2.1]
    · rw [if_neg h, if_neg h]

theorem deepest_same : ∃ c, job_Deepest its wt = some (c, 0) ∧ r11_Deepest its wt = some (c, 0) ∧ c.length ≤ 100 := by
  have hl := hg.len
  obtain ⟨v, h1, h2, hv, hB⟩ := Levels_good hg
  obtain ⟨v', g1, gv, gB⟩ := rlevels_ok hg
  have e : v' = v := lev_unique (fun i => (hg.b i).1) gv hv
  subst e
  unfold r11_Deepest
  rw [g1]
  simp only [obind, bne_self_eq_false, Bool.false_eq_true, if_false]
  rcases Deepest_good hg hv hB h2 with ⟨h0, hD⟩ | ⟨y0, hy0, hm, hf, hD⟩
  · rcases back_ok wt (by omega) hv.len (hB.small hg.b) hg.b with ⟨_, q⟩ | ⟨y1, q1, q⟩
    · rw [q, hD]; exact ⟨_, rfl, rfl, by simp⟩
    · have := q1.1; have := hv.len; omega
  · rcases back_ok wt (by omega) hv.len (hB.small hg.b) hg.b with ⟨q, _⟩ | ⟨y1, q1, q⟩
    · have := hv.len; omega
    · have hy : y1 = y0 := q1.uniq ⟨by rw [hv.len]; exact hy0, fun y h => hm y (by rw [← hv.len]; exact h), hf⟩
      subst hy
      rw [q, hD, down_same hg hv 40 y1 hy0]
      refine ⟨_, rfl, rfl, ?_⟩
      rw [← down_same hg hv 40 y1 hy0, castL_len, List.length_reverse]
      have := (down_facts hg hv hB 40 y1 (by have := hg.b y1; omega) hy0).2.2.2.2
      omega

/-! ### What is sorted -/
theorem rsort_row (rows : List (List Int)) (t : Nat) (row l : List Int) (hrow : rows[t]? = some row) (ht : t ≤ 1000) (hl : InR its.length l) (hd : l.Nodup) :
    ∃ d, loop (r11_Sorted_L13 its rows (t : Int)) (seenOf its.length l, (l.length : Int), 0) = some d ∧
      ((d = .inr (seenOf its.length (l ++ row), ((l ++ row).length : Int)) ∧ RowOK its t row row.length ∧ (l ++ row).Nodup) ∨ (d = .inl () ∧ ¬ (RowOK its t row row.length ∧ (l ++ row).Nodup))) := by
  have hn := hg.len
  have hix : idx rows (t : Int) = some row := by rw [idx_nat, hrow]
  refine loop_inv (step := r11_Sorted_L13 its rows (t : Int)) (fun s => ∃ k : Nat, s = (seenOf its.length (l ++ row.take k), (((l.length + k : Nat)) : Int), (k : Int)) ∧ k ≤ row.length ∧ RowOK its t row k ∧ (l ++ row.take k).Nodup) (fun s => 2000 - s.2.2.toNat) _ ?_ _ ⟨0, by simp, by omega, ⟨fun i h => by omega, fun i j h h' => by omega⟩, by simpa using hd⟩ (by simp)
  rintro _ ⟨k, rfl, hk, hR, hN⟩
  have hlen := nodup_short hN (hl.take rfl hk hR)
  rw [List.length_append, List.length_take, Nat.min_eq_left hk] at hlen
  unfold r11_Sorted_L13
  simp only
  rw [hix]
  simp only [obind]
  by_cases h : k < row.length
  · rw [if_pos (dpos (by omega)), idx_nat, row_get h]
    simp only [obind, seenOf_len]
    by_cases hlo : row.getD k 0 < 0
    · rw [if_pos (dpos hlo)]
      refine .inr ⟨_, rfl, .inr ⟨rfl, fun ⟨q, _⟩ => ?_⟩⟩
      have := q.1 k h
      omega
    rw [if_neg (dneg hlo)]
    by_cases hhi : row.getD k 0 ≥ (its.length : Int)
    · rw [if_pos (dpos hhi)]
      refine .inr ⟨_, rfl, .inr ⟨rfl, fun ⟨q, _⟩ => ?_⟩⟩
      have := q.1 k h
      omega
    rw [if_neg (dneg hhi)]
    obtain ⟨a, ha, hia, hta, hba⟩ := itOf (its := its) (x := row.getD k 0) (by omega) (by omega)
    have hxl : (row.getD k 0).toNat < its.length := by omega
    have hxe : ((row.getD k 0).toNat : Int) = row.getD k 0 := by omega
    have hsn : idx (seenOf its.length (l ++ row.take k)) (row.getD k 0) = some (decide (row.getD k 0 ∈ l ++ row.take k)) := by
      rw [← hxe, idx_nat, seenOf_get _ hxl]
    rw [hsn]
    simp only [obind]
    by_cases h2 : row.getD k 0 ∈ l ++ row.take k
    · rw [if_pos (dpos h2)]
      refine .inr ⟨_, rfl, .inr ⟨rfl, fun ⟨_, q⟩ => ?_⟩⟩
      rw [split_at h, ← List.append_assoc] at q
      exact nodup_mid q h2
    · rw [if_neg (dneg h2), hia]
      simp only [obind]
      by_cases h3 : a.1 = t
      · have hset : (seenOf its.length (l ++ row.take k)).set (Int.toNat (row.getD k 0)) true = seenOf its.length (l ++ row.take (k + 1)) := by
          rw [seenOf_set _ hxl, hxe, List.append_assoc, take_snoc h]
        have hnx : (0 < k → bOf its (row.getD (k - 1) 0).toNat ≤ bOf its (row.getD k 0).toNat) →
            ∃ k' : Nat, (seenOf its.length (l ++ row.take (k + 1)), IntKind.i64.wrap ((((l.length + k : Nat)) : Int) + 1), IntKind.i64.wrap ((k : Int) + 1)) = (seenOf its.length (l ++ row.take k'), (((l.length + k' : Nat)) : Int), (k' : Int)) ∧ k' ≤ row.length ∧ RowOK its t row k' ∧ (l ++ row.take k').Nodup := fun hb => by
          refine ⟨k + 1, ?_, by omega, hR.snoc ⟨by omega, by omega, by rw [hta, h3]⟩ hb, ?_⟩
          · rw [wr_id (by omega) (by omega), wr_id (by omega) (by omega)]
            congr 1
          · rw [take_snoc h, ← List.append_assoc]
            exact nodup_snoc hN h2
        rw [if_neg (by simp [h3])]
        by_cases h4 : 0 < k
        · have hp := hR.1 (k - 1) (by omega)
          obtain ⟨b, hb1, hb2, hb3, hb4⟩ := itOf (its := its) hp.1 hp.2.1
          rw [if_pos (dpos (by omega)), wr_id (n := (k : Int) - 1) (by omega) (by omega), show (k : Int) - 1 = ((k - 1 : Nat) : Int) by omega, idx_nat, row_get (by omega)]
          simp only [obind]
          rw [hb2]
          simp only [obind]
          by_cases h5 : a.2.1 < b.2.1
          · rw [if_pos (dpos h5)]
            refine .inr ⟨_, rfl, .inr ⟨rfl, fun ⟨q, _⟩ => ?_⟩⟩
            have := q.2 (k - 1) k (by omega) h
            omega
          · rw [if_neg (dneg h5), hset]
            refine .inl ⟨_, rfl, hnx (fun _ => by omega), ?_⟩
            simp only
            rw [wr_id (n := (k : Int) + 1) (by omega) (by omega)]; omega
        · rw [if_neg (dneg (by omega)), hset]
          refine .inl ⟨_, rfl, hnx (fun _ => by omega), ?_⟩
          simp only
          rw [wr_id (n := (k : Int) + 1) (by omega) (by omega)]; omega
      · rw [if_pos (by simpa using h3)]
        refine .inr ⟨_, rfl, .inr ⟨rfl, fun ⟨q, _⟩ => ?_⟩⟩
        have := (q.1 k h).2.2
        omega
  · rw [if_neg (dneg (by omega))]
    have : k = row.length := by omega
    subst this
    rw [List.take_length] at hN ⊢
    exact .inr ⟨_, rfl, .inl ⟨by rw [List.length_append], hR, hN⟩⟩

theorem rsorted_ok (rows : List (List Int)) (hrl : rows.length ≤ 1000) :
    ∃ b, r11_Sorted its wt rows = some (b, 0) ∧ (b = true ↔ SortedP its rows) := by
  have hl := hg.len
  unfold r11_Sorted
  rw [jv_same, valid_good hg]
  simp only [obind, bne_self_eq_false, Bool.false_eq_true, if_false]
  rw [if_pos (by omega), Int.toNat_natCast, seenOf_nil]
  obtain ⟨d, h1, h2⟩ := loop_inv (step := r11_Sorted_L11 its rows) (fun s => ∃ m : Nat, s = (seenOf its.length ((rows.take m).flatten), (((rows.take m).flatten.length : Nat) : Int), (m : Int)) ∧ m ≤ rows.length ∧ RowsOK its rows m) (fun s => 2000 - s.2.2.toNat)
    (fun d => (d = .inr (seenOf its.length rows.flatten, ((rows.flatten.length : Nat) : Int)) ∧ RowsOK its rows rows.length) ∨ (d = .inl () ∧ ¬ RowsOK its rows rows.length)) (by
    rintro _ ⟨m, rfl, hm, hR⟩
    unfold r11_Sorted_L11
    simp only
    by_cases h : m < rows.length
    · have hrow : rows[m]? = some rows[m] := List.getElem?_eq_getElem h
      generalize rows[m] = row at hrow
      rw [if_pos (dpos (by omega))]
      obtain ⟨d, e1, e2⟩ := rsort_row hg rows m row _ hrow (by omega) (hR.inR hm) hR.2
      rw [e1]
      rcases e2 with ⟨rfl, r1, r2⟩ | ⟨rfl, r1⟩
      · simp only [obind]
        rw [wr_id (by omega) (by omega)]
        refine .inl ⟨_, rfl, ⟨m + 1, by rw [rows_take hrow]; rfl, by omega, ⟨fun t row' ht hr => ?_, by rw [rows_take hrow]; exact r2⟩⟩, by simp only; omega⟩
        by_cases e : t = m
        · subst e
          rw [hrow] at hr
          cases hr
          exact r1
        · exact hR.1 t row' (by omega) hr
      · simp only [obind]
        exact .inr ⟨_, rfl, .inr ⟨rfl, RowsOK.fails h hrow r1⟩⟩
    · rw [if_neg (dneg (by omega))]
      have : m = rows.length := by omega
      subst this
      refine .inr ⟨_, rfl, .inl ⟨by rw [List.take_length], hR⟩⟩) (seenOf its.length [], 0, 0) ⟨0, by simp, by omega, ⟨fun t row h => by omega, by simp⟩⟩ (by simp)
  rw [h1]
  rcases h2 with ⟨rfl, r1⟩ | ⟨rfl, r1⟩
  · refine ⟨_, rfl, ?_⟩
    rw [beq_iff_eq, seenOf_len]
    unfold SortedP
    constructor
    · intro e; exact ⟨r1, by omega⟩
    · intro e; have := e.2; omega
  · exact ⟨_, rfl, by simp, fun q => absurd q.1 r1⟩
end

/-! ### All functions -/
theorem exact11_ok (its : List Item) (wt x y : Int) (rows : List (List Int)) (hr : rows.length ≤ 1000) : law11_exact its wt x y rows = some true := by
  obtain ⟨e, h1, h2⟩ := jobvalid_spec its wt
  unfold law11_exact
  rcases h2 with ⟨rfl, hg⟩ | ⟨hne, _⟩
  · have hl := hg.len
    obtain ⟨p, a1, a2⟩ := rrel_same hg x y
    obtain ⟨v, b1, _, bv, bB⟩ := Levels_good hg
    obtain ⟨v', c1, cv, _⟩ := rlevels_ok hg
    have e : v' = v := lev_unique (fun i => (hg.b i).1) cv bv
    subst e
    obtain ⟨c, d1, d2, d3⟩ := deepest_same hg
    obtain ⟨s, s1, s2⟩ := jsorted_ok hg rows hr
    obtain ⟨s', r1, r2⟩ := rsorted_ok hg rows hr
    have es : s = s' := by rw [Bool.eq_iff_iff, s2, r2]
    subst es
    rw [a1, a2, b1, c1, jv_same, h1]
    simp only [obind, bne_self_eq_false, Bool.false_eq_true, if_false]
    rw [ints_same _ (by rw [bv.len]; omega), d1, d2, s1, r1]
    simp only [obind, bne_self_eq_false, Bool.false_eq_true, if_false, Bool.not_true]
    rw [ints_same _ (by omega)]
    simp
  · have hb : (e != 0) = true := bne_iff_ne.2 hne
    unfold job_Relation r11_Relation job_Levels r11_Levels job_Deepest r11_Deepest r11_Levels job_Sorted r11_Sorted
    rw [jv_same, h1]
    simp only [obind, hb, if_true, bne_self_eq_false, Bool.false_eq_true, if_false]
    rw [ints_same _ (by simp)]
    simp

theorem from_ok (l : List Int) (k n : Int) (hk : 0 ≤ k ∧ k ≤ 1000000000) (hn : 0 ≤ n ∧ n ≤ 1000000) : ∃ v, gen_Maker_From l k (-1) n = some (v, k + 1) := by
  obtain ⟨v, e, v0, v1⟩ := next_ok l k (n + 2) hk.1 (by omega) (by omega) (by omega)
  unfold gen_Maker_From
  have e8 : IntKind.i64.wrap ((IntKind.i64.wrap (n - (-1))) + 1) = n + 2 := by
    rw [wr_id (n := n - (-1)) (by omega) (by omega), wr_id (by omega) (by omega)]; omega
  rw [e8, e]
  exact ⟨_, rfl⟩
theorem from_len (l : List Int) (k : Int) (its : List Item) (hk : 0 ≤ k ∧ k ≤ 1000000000) (h : its.length ≤ 1000) : ∃ v, gen_Maker_From l k (-1) ((its.length : Nat) : Int) = some (v, k + 1) := from_ok l k _ hk (by omega)

/-! ### The items of each train -/
def ROK (rows : List (List Int)) (B : Nat) : Prop := rows.length = 3 ∧ ∀ r ∈ rows, r.length ≤ B
theorem ROK.mono {rows : List (List Int)} {B B' : Nat} (h : ROK rows B) (hb : B ≤ B') : ROK rows B' := ⟨h.1, fun r hr => Nat.le_trans (h.2 r hr) hb⟩
theorem ROK.set {rows : List (List Int)} {B : Nat} (h : ROK rows B) (i : Nat) {r : List Int} (hr : r.length ≤ B) : ROK (rows.set i r) B :=
  ⟨by rw [List.length_set]; exact h.1, fun r' h' => by
    rcases List.mem_or_eq_of_mem_set h' with h' | rfl
    · exact h.2 r' h'
    · exact hr⟩
theorem ROK.get {rows : List (List Int)} {B : Nat} (h : ROK rows B) {i : Int} (h0 : 0 ≤ i) (h1 : i < 3) : ∃ r, idx rows i = some r ∧ r.length ≤ B := by
  obtain ⟨r, hm, hi⟩ := idx_of rows i h0 (by rw [h.1]; omega)
  exact ⟨r, hi, h.2 r hm⟩

theorem OL11_ok (its : List Item) (hit : its.length ≤ 100) (b : Int) (B : Nat) (hB : B ≤ 100000) (rows : List (List Int)) (h : ROK rows B) : ∃ rows', loop (law11_order_L11 its b) (rows, 0) = some rows' ∧ ROK rows' (B + 100) := by
  refine loop_inv (step := law11_order_L11 its b) (fun s => ∃ (d : List (List Int)) (x : Nat), s = (d, (x : Int)) ∧ x ≤ its.length ∧ ROK d (B + x)) (fun s => its.length - s.2.toNat) _ ?_ _ ⟨rows, 0, rfl, by omega, h⟩ (by simp; omega)
  rintro _ ⟨d, x, rfl, hx, hd⟩
  have hf : law11_order_J13 its d (x : Int) false = some (.next (d, ((x + 1 : Nat) : Int))) := by
    unfold law11_order_J13
    rw [if_neg (by decide), wr_id (by omega) (by omega)]
    rfl
  unfold law11_order_L11
  simp only
  by_cases hl : x < its.length
  · obtain ⟨a, ha⟩ : ∃ a, its[x]? = some a := ⟨_, List.getElem?_eq_getElem hl⟩
    rw [if_pos (dpos (by omega)), idx_nat, ha]
    simp only [obind]
    have hskip : ∃ s', (some (.next (d, ((x + 1 : Nat) : Int))) : Option (Step ((List (List Int)) × Int) (List (List Int)))) = some (.next s') ∧ (∃ (d : List (List Int)) (x : Nat), s' = (d, (x : Int)) ∧ x ≤ its.length ∧ ROK d (B + x)) ∧ its.length - s'.2.toNat < its.length - (x : Int).toNat :=
      ⟨_, rfl, ⟨d, x + 1, rfl, by omega, hd.mono (by omega)⟩, by simp only; omega⟩
    by_cases h1 : a.2.1 = b
    · rw [if_pos (by rw [beq_iff_eq]; exact h1)]
      by_cases h2 : a.1 < 3
      · rw [if_pos (dpos h2)]
        by_cases h3 : a.1 ≥ 0
        · obtain ⟨r, hr1, hr2⟩ := hd.get (i := a.1) (by omega) h2
          rw [dpos h3]
          unfold law11_order_J13
          rw [if_pos rfl, idx_nat, ha]
          simp only [obind]
          rw [hr1]
          simp only [obind]
          rw [if_pos (by simp only [List.length_cons, List.length_nil]; omega), wr_id (by omega) (by omega)]
          exact .inl ⟨_, rfl, ⟨_, x + 1, rfl, by omega, (hd.mono (by omega)).set _ (by simp only [List.length_append, List.length_cons, List.length_nil]; omega)⟩, by simp only; omega⟩
        · rw [decide_eq_false h3, hf]
          exact .inl hskip
      · rw [if_neg (dneg h2), hf]
        exact .inl hskip
    · rw [if_neg (by rw [beq_iff_eq]; exact h1), hf]
      exact .inl hskip
  · rw [if_neg (dneg (by omega))]
    exact .inr ⟨_, rfl, hd.mono (by omega)⟩

theorem OJ32_ok (l : List Int) (its : List Item) (hit : its.length ≤ 100) (k : Int) (hk : 0 ≤ k ∧ k ≤ 100000000) (rows : List (List Int)) (B : Nat) (h : ROK rows B) :
    ∃ rows' k', law11_order_J32 l its k rows = some (rows', k') ∧ rows'.length ≤ 4 ∧ k ≤ k' ∧ k' ≤ k + 2 := by
  obtain ⟨v, e, _, _⟩ := next_ok l k 6 hk.1 (by omega) (by omega) (by omega)
  obtain ⟨v2, e2⟩ := from_len l (k + 1) its (by omega) (by omega)
  have h3 := h.1
  unfold law11_order_J32
  rw [e]
  simp only [obind]
  by_cases h0 : v = 0
  · rw [if_pos (by simp [h0]), e2]
    simp only [obind]
    rw [if_pos (by omega)]
    exact ⟨_, _, rfl, by simp only [List.length_append, List.length_cons, List.length_nil]; omega, by omega, by omega⟩
  · rw [if_neg (by simpa using h0)]
    exact ⟨_, _, rfl, by omega, by omega, by omega⟩

theorem order_ok (l : List Int) (its : List Item) (wt : Int) (hit : its.length ≤ 100) (k : Int) (hk : 0 ≤ k ∧ k ≤ 10000000) : ∃ rows k', law11_order l k its wt = some (rows, k') ∧ rows.length ≤ 4 ∧ k ≤ k' ∧ k' ≤ k + 10 := by
  obtain ⟨rows, h1, h2⟩ := loop_inv (step := law11_order_L9 its) (fun s => ∃ (d : List (List Int)) (b : Nat), s = (d, (b : Int)) ∧ b ≤ 32 ∧ ROK d (100 * b)) (fun s => 32 - s.2.toNat) (fun d => ROK d 3200) (by
    rintro _ ⟨d, b, rfl, hb, hd⟩
    unfold law11_order_L9
    simp only
    by_cases h : b < 32
    · obtain ⟨d', e1, e2⟩ := OL11_ok its hit (b : Int) (100 * b) (by omega) d hd
      rw [if_pos (dpos (by omega)), e1]
      simp only [obind]
      rw [wr_id (by omega) (by omega)]
      exact .inl ⟨_, rfl, ⟨d', b + 1, rfl, by omega, e2.mono (by omega)⟩, by simp only; omega⟩
    · rw [if_neg (dneg (by omega))]
      exact .inr ⟨_, rfl, hd.mono (by omega)⟩) ((List.replicate (Int.toNat 3) ([] : List Int)), 0) ⟨_, 0, rfl, by omega, ⟨rfl, fun r hr => by rw [List.eq_of_mem_replicate hr]; simp⟩⟩ (by simp)
  unfold law11_order
  rw [if_pos (by decide), h1]
  simp only [obind]
  obtain ⟨v, e, _, _⟩ := next_ok l k 3 hk.1 (by omega) (by omega) (by omega)
  rw [e]
  simp only [obind]
  by_cases h0 : v = 0
  · obtain ⟨t, et, t0, t1⟩ := next_ok l (k + 1) 3 (by omega) (by omega) (by omega) (by omega)
    obtain ⟨r, er, hr⟩ := h2.get t0 t1
    rw [if_pos (by simp [h0]), et]
    simp only [obind]
    rw [er]
    simp only [obind]
    by_cases hn : (r.length : Int) > 1
    · obtain ⟨i, ei, i1⟩ := next_nat l (k + 1 + 1) ((r.length : Int) - 1) (by omega) (by omega) (by omega) (by omega)
      rw [if_pos (dpos hn), wr_id (n := (r.length : Int) - 1) (by omega) (by omega), ei]
      simp only [obind]
      rw [wr_id (n := (i : Int) + 1) (by omega) (by omega), show (i : Int) + 1 = ((i + 1 : Nat) : Int) by omega, idx_getD (l := r) (i := i + 1) (by omega), idx_getD (l := r) (i := i) (by omega)]
      simp only [obind, Int.toNat_natCast]
      rw [idx_getD (l := r.set i (r.getD (i + 1) 0)) (i := i + 1) (by rw [List.length_set]; omega)]
      simp only [obind]
      obtain ⟨rows', k', g1, g2, g3, g4⟩ := OJ32_ok l its hit (k + 1 + 1 + 1) (by omega) _ 3200 ((h2.set (Int.toNat t) (r := r.set i (r.getD (i + 1) 0)) (by rw [List.length_set]; exact hr)).set (Int.toNat t) (r := (r.set i (r.getD (i + 1) 0)).set (i + 1) (r.getD i 0)) (by rw [List.length_set, List.length_set]; exact hr))
      rw [g1]
      exact ⟨_, _, rfl, g2, by omega, by omega⟩
    · rw [if_neg (dneg hn)]
      obtain ⟨rows', k', g1, g2, g3, g4⟩ := OJ32_ok l its hit (k + 1 + 1) (by omega) rows _ h2
      rw [g1]
      exact ⟨_, _, rfl, g2, by omega, by omega⟩
  · rw [if_neg (by simpa using h0)]
    obtain ⟨rows', k', g1, g2, g3, g4⟩ := OJ32_ok l its hit (k + 1) (by omega) rows _ h2
    rw [g1]
    exact ⟨_, _, rfl, g2, by omega, by omega⟩

theorem JE19_ok (l : List Int) (kk i k wt : Int) (its : List Item) (hit : its.length ≤ 100) (hk : 0 ≤ k ∧ k ≤ 1000000) (hi : 0 ≤ i ∧ i ≤ 10) :
    ∃ k', law11_JobExact_J19 (l, kk) i k its wt = some (.next (k', i + 1)) ∧ k ≤ k' ∧ k' ≤ k + 100 := by
  obtain ⟨v1, e1⟩ := from_len l k its (by omega) (by omega)
  obtain ⟨v2, e2⟩ := from_len l (k + 1) its (by omega) (by omega)
  obtain ⟨rows, k', e3, h3, h4, h5⟩ := order_ok l its wt hit (k + 1 + 1) (by omega)
  unfold law11_JobExact_J19
  simp only
  rw [e1]
  simp only [obind]
  rw [e2]
  simp only [obind]
  rw [e3]
  simp only [obind]
  rw [exact11_ok its wt v1 v2 rows (by omega)]
  simp only [obind, Bool.not_true, Bool.false_eq_true, if_false]
  rw [wr_id (by omega) (by omega)]
  exact ⟨k', rfl, by omega, by omega⟩

theorem jobExact_ok (l : List Int) (its : List Item) (wt x y : Int) (rows : List (List Int)) : law11_JobExact l its wt x y rows = some true := by
  unfold law11_JobExact gen_New
  simp only [obind]
  obtain ⟨d, h1, h2⟩ := loop_inv (step := law11_JobExact_L11 (l, 0)) (fun s => ∃ (k : Int) (i : Nat), s = (k, (i : Int)) ∧ i ≤ 4 ∧ 0 ≤ k ∧ k ≤ 10000 * i) (fun s => 4 - s.2.toNat) (fun d => d = .inr ()) (by
    rintro _ ⟨k, i, rfl, hi, hk0, hk⟩
    unfold law11_JobExact_L11
    simp only
    by_cases h : i < 4
    · obtain ⟨its, wt, k1, e1, q1, q2, q3, _⟩ := job_ok l k 12 (by omega) (by omega)
      rw [if_pos (dpos (by omega)), e1]
      simp only [obind]
      by_cases h3 : i = 3
      · obtain ⟨its', wt', k2, e2, q4, q5, q6⟩ := spoil_ok l k1 its wt (by omega) (by omega)
        rw [if_pos (by rw [beq_iff_eq]; omega), e2]
        simp only [obind]
        obtain ⟨k3, e3, q7, q8⟩ := JE19_ok l 0 (i : Int) k2 wt' its' (by omega) (by omega) (by omega)
        rw [e3]
        exact .inl ⟨_, rfl, ⟨k3, i + 1, rfl, by omega, by omega, by omega⟩, by simp only; omega⟩
      · rw [if_neg (by rw [beq_iff_eq]; omega)]
        obtain ⟨k3, e3, q7, q8⟩ := JE19_ok l 0 (i : Int) k1 wt its (by omega) (by omega) (by omega)
        rw [e3]
        exact .inl ⟨_, rfl, ⟨k3, i + 1, rfl, by omega, by omega, by omega⟩, by simp only; omega⟩
    · rw [if_neg (dneg (by omega))]
      exact .inr ⟨_, rfl, rfl⟩) (0, 0) ⟨0, 0, rfl, by omega, by omega, by omega⟩ (by simp)
  rw [h1, h2]
  simp only [obind]
  by_cases hl : (its.length : Int) > 30
  · rw [if_pos (dpos hl)]
  rw [if_neg (dneg hl)]
  by_cases hr : (rows.length : Int) > 30
  · rw [if_pos (dpos hr)]
  rw [if_neg (dneg hr), exact11_ok its wt x y rows (by omega)]
  simp only [obind]
  rw [if_pos trivial, four_IT]
  simp only [obind]
  rw [exact11_ok IT 12 x y rows (by omega)]
  simp only [obind]
  rw [if_pos trivial, sane11_ok]
  rfl
end Go.Proofs.Ytacimonplnlmgaa
