/- Plain laws: connections: who is left, what waiting costs, the best departure. No condition beyond those of each theorem. -/
import Derived.Test.YtdjadgodphfihaaPNlib
import Derived.Test.YtdjadgodphfihaaGconnection
import Derived.Test.YtdjadgodphfihaaGlaw41made
import Derived.Test.YtdjadgodphfihaaGlaw41sane
set_option linter.unusedVariables false
set_option linter.unusedSectionVars false
set_option linter.unusedSimpArgs false
set_option maxRecDepth 100000
namespace Go.Proofs.Ytdjadgodphfihaa
open Go Go.V Go.Proofs

theorem cin_ok (n lo hi : Int) : connection_in n lo hi = some (decide (lo ≤ n ∧ n ≤ hi)) := by
  unfold connection_in
  by_cases h : n ≥ lo
  · rw [if_pos (by simpa using h)]
    simp only [ge_iff_le] at h
    simp [h]
  · rw [if_neg (by simpa using h)]
    simp only [ge_iff_le] at h
    simp [h]
structure CV (P L : Int) (rd : List Int) (mi ms : Int) : Prop where
  r : ∀ x ∈ rd, 0 ≤ x ∧ x ≤ 10080
  p : 0 ≤ P ∧ P ≤ L
  l : L ≤ 10080
  n : rd.length ≤ 96
  mi : 0 ≤ mi ∧ mi ≤ 1000000
  ms : 0 ≤ ms ∧ ms ≤ 1000000

theorem CValid_ok (P L : Int) (rd : List Int) (mi ms : Int) (hl : rd.length < 4611686018427387904) : ∃ b, connection_Valid P L rd mi ms = some b ∧ (b = true ↔ CV P L rd mi ms) := by
  unfold connection_Valid
  obtain ⟨d, h1, h2⟩ := loop_inv (step := connection_Valid_L5 rd) (fun s => ∃ i : Nat, s = (i : Int) ∧ i ≤ rd.length ∧ ∀ j, j < i → 0 ≤ rd.getD j 0 ∧ rd.getD j 0 ≤ 10080) (fun s => rd.length - s.toNat)
    (fun d => (d = .inr () ∧ ∀ x ∈ rd, 0 ≤ x ∧ x ≤ 10080) ∨ (d = .inl () ∧ ¬ ∀ x ∈ rd, 0 ≤ x ∧ x ≤ 10080)) (by
    rintro _ ⟨i, rfl, hi, hj⟩
    unfold connection_Valid_L5
    simp only
    by_cases h : i < rd.length
    · have hm : rd.getD i 0 ∈ rd := by rw [List.getD_eq_getElem?_getD, List.getElem?_eq_getElem h]; exact List.getElem_mem h
      rw [if_pos (dpos (by omega)), idx_getD h]
      simp only [obind]
      rw [cin_ok]
      simp only [obind]
      rw [wr_id (by omega) (by omega)]
      by_cases hx : 0 ≤ rd.getD i 0 ∧ rd.getD i 0 ≤ 10080
      · rw [if_neg (by rw [dpos hx]; simp)]
        refine .inl ⟨_, rfl, ⟨i + 1, rfl, by omega, fun j hji => ?_⟩, by omega⟩
        by_cases e : j = i
        · subst e; exact hx
        · exact hj j (by omega)
      · rw [if_pos (by rw [decide_eq_false hx]; rfl)]
        exact .inr ⟨_, rfl, .inr ⟨rfl, fun q => hx (q _ hm)⟩⟩
    · rw [if_neg (dneg (by omega))]
      refine .inr ⟨_, rfl, .inl ⟨rfl, fun x hx => ?_⟩⟩
      obtain ⟨j, hjl, rfl⟩ := List.getElem_of_mem hx
      have := hj j (by omega)
      rw [List.getD_eq_getElem?_getD, List.getElem?_eq_getElem hjl] at this
      exact this) 0 ⟨0, rfl, by omega, fun j h => by omega⟩ (by simp; omega)
  rw [h1]
  rcases h2 with ⟨rfl, h2⟩ | ⟨rfl, h2⟩
  · simp only [obind]
    rw [cin_ok, cin_ok, cin_ok]
    simp only [obind]
    by_cases a1 : 0 ≤ P ∧ P ≤ L
    · rw [if_pos (dpos a1)]
      by_cases a2 : L ≤ 10080
      · rw [if_pos (dpos a2)]
        by_cases a3 : (rd.length : Int) ≤ 96
        · rw [if_pos (dpos a3)]
          by_cases a4 : 0 ≤ mi ∧ mi ≤ 1000000
          · rw [if_pos (dpos a4)]
            refine ⟨_, rfl, ?_⟩
            rw [decide_eq_true_eq]
            exact ⟨fun q => ⟨h2, a1, a2, by omega, a4, q⟩, fun q => q.ms⟩
          · rw [if_neg (dneg a4)]
            exact ⟨_, rfl, by simp, fun q => absurd q.mi a4⟩
        · rw [if_neg (dneg a3)]
          exact ⟨_, rfl, by simp, fun q => by have := q.n; omega⟩
      · rw [if_neg (dneg a2)]
        exact ⟨_, rfl, by simp, fun q => absurd q.l a2⟩
    · rw [if_neg (dneg a1)]
      exact ⟨_, rfl, by simp, fun q => absurd q.p a1⟩
  · exact ⟨_, rfl, by simp, fun q => absurd q.r h2⟩

/-- The wagons among the first m that are not ready at t. -/
def leftU (rd : List Int) (t : Int) (m : Nat) : List Int := ((List.range m).filter fun i => decide (rd.getD i 0 > t)).map fun (i : Nat) => (i : Int)
def leftL (rd : List Int) (t : Int) : List Int := leftU rd t rd.length
theorem leftU_succ (rd : List Int) (t : Int) (m : Nat) : leftU rd t (m + 1) = if rd.getD m 0 > t then leftU rd t m ++ [(m : Int)] else leftU rd t m := by
  unfold leftU
  rw [List.range_succ, List.filter_append, List.map_append]
  by_cases h : rd.getD m 0 > t
  · rw [if_pos h]
    have : List.filter (fun i => decide (rd.getD i 0 > t)) [m] = [m] := by simp only [List.filter, dpos h]
    rw [this]; rfl
  · rw [if_neg h]
    have : List.filter (fun i => decide (rd.getD i 0 > t)) [m] = [] := by simp only [List.filter, decide_eq_false h]
    rw [this]; simp
theorem leftU_len (rd : List Int) (t : Int) : ∀ m, (leftU rd t m).length ≤ m
  | 0 => by simp [leftU]
  | m + 1 => by
    have := leftU_len rd t m
    rw [leftU_succ]
    split
    · simp; omega
    · omega
def cost (P : Int) (rd : List Int) (mi ms : Int) (t : Int) : Int := mi * (t - P) + ms * ((leftL rd t).length : Int)

theorem mul_bd {a b A B : Int} (ha : 0 ≤ a ∧ a ≤ A) (hb : 0 ≤ b ∧ b ≤ B) : 0 ≤ a * b ∧ a * b ≤ A * B :=
  ⟨Int.mul_nonneg ha.1 hb.1, Int.mul_le_mul ha.2 hb.2 hb.1 (by omega)⟩

section
variable {P L : Int} {rd : List Int} {mi ms : Int} (hc : CV P L rd mi ms)
include hc

theorem CValid_good : connection_Valid P L rd mi ms = some true := by
  obtain ⟨b, h1, h2⟩ := CValid_ok P L rd mi ms (by have := hc.n; omega)
  rw [h1, h2.2 hc]
theorem Left_good (t : Int) (ht : P ≤ t ∧ t ≤ L) : connection_Left P L rd mi ms t = some (leftL rd t, 0) := by
  have hn := hc.n
  unfold connection_Left
  rw [CValid_good hc]
  simp only [obind, Bool.not_true, Bool.false_eq_true, if_false]
  rw [cin_ok]
  simp only [obind]
  rw [if_neg (by rw [dpos ht]; simp)]
  obtain ⟨d, h1, h2⟩ := loop_inv (step := connection_Left_L10 rd t) (fun s => ∃ i : Nat, s = (leftU rd t i, (i : Int)) ∧ i ≤ rd.length) (fun s => rd.length - s.2.toNat) (fun d => d = leftL rd t) (by
    rintro _ ⟨i, rfl, hi⟩
    unfold connection_Left_L10
    simp only
    by_cases h : i < rd.length
    · have hll := leftU_len rd t i
      rw [if_pos (dpos (by omega)), idx_getD h]
      simp only [obind]
      rw [wr_id (by omega) (by omega)]
      by_cases hx : rd.getD i 0 > t
      · rw [if_pos (dpos hx), if_pos (by simp only [List.length_cons, List.length_nil]; omega)]
        exact .inl ⟨_, rfl, ⟨i + 1, by rw [leftU_succ, if_pos hx]; rfl, by omega⟩, by simp only; omega⟩
      · rw [if_neg (dneg hx)]
        exact .inl ⟨_, rfl, ⟨i + 1, by rw [leftU_succ, if_neg hx]; rfl, by omega⟩, by simp only; omega⟩
    · rw [if_neg (dneg (by omega))]
      have : i = rd.length := by omega
      subst this
      exact .inr ⟨_, rfl, rfl⟩) (([] : List Int), 0) ⟨0, by simp [leftU], by omega⟩ (by simp; omega)
  rw [h1, h2]
  rfl
theorem cost_range (t : Int) (ht : P ≤ t ∧ t ≤ L) : 0 ≤ mi * (t - P) ∧ mi * (t - P) ≤ 1000000 * 10080 ∧ 0 ≤ ms * ((leftL rd t).length : Int) ∧ ms * ((leftL rd t).length : Int) ≤ 1000000 * 96 := by
  have h1 := mul_bd hc.mi (b := t - P) (B := 10080) (by have := hc.p; have := hc.l; omega)
  have h2 := mul_bd hc.ms (b := ((leftL rd t).length : Int)) (B := 96) (by have := leftU_len rd t rd.length; have := hc.n; unfold leftL; omega)
  exact ⟨h1.1, h1.2, h2.1, h2.2⟩
theorem Cost_good (t : Int) (ht : P ≤ t ∧ t ≤ L) : connection_Cost P L rd mi ms t = some (cost P rd mi ms t, 0) := by
  have hp := hc.p
  have hl := hc.l
  obtain ⟨b1, b2, b3, b4⟩ := cost_range hc t ht
  unfold connection_Cost cost
  rw [Left_good hc t ht]
  simp only [obind, bne_self_eq_false, Bool.false_eq_true, if_false]
  rw [wr_id (n := t - P) (by omega) (by omega), wr_id (n := mi * (t - P)) (by omega) (by omega), wr_id (n := ms * ((leftL rd t).length : Int)) (by omega) (by omega), wr_id (by omega) (by omega)]

/-- The departures that may be the best. -/
def svs (P L : Int) (rd : List Int) : List Int := Go.Lib.compact (sortI (P :: rd.filter fun x => decide (P ≤ x ∧ x ≤ L)))
omit hc in
theorem svs_asc (P L : Int) (rd : List Int) : (svs P L rd).Pairwise (· < ·) := (sorted_compact _).1
omit hc in
theorem svs_mem {P L : Int} {rd : List Int} {x : Int} : x ∈ svs P L rd ↔ x = P ∨ (x ∈ rd ∧ P ≤ x ∧ x ≤ L) := by
  unfold svs
  rw [(sorted_compact _).2, List.mem_cons, List.mem_filter, decide_eq_true_eq]
theorem svs_range {x : Int} (h : x ∈ svs P L rd) : P ≤ x ∧ x ≤ L := by
  have := hc.p
  rcases svs_mem.1 h with rfl | ⟨_, h⟩
  · omega
  · exact h
omit hc in
theorem svs_pos (P L : Int) (rd : List Int) : 0 < (svs P L rd).length := List.length_pos_of_mem (svs_mem.2 (.inl rfl))
omit hc in
theorem svs_lt {P L : Int} {rd : List Int} {i j : Nat} (hij : i < j) (hj : j < (svs P L rd).length) : (svs P L rd).getD i 0 < (svs P L rd).getD j 0 := by
  have := List.pairwise_iff_getElem.1 (svs_asc P L rd) i j (by omega) hj hij
  rw [List.getD_eq_getElem?_getD, List.getD_eq_getElem?_getD, List.getElem?_eq_getElem hj, List.getElem?_eq_getElem (by omega : i < (svs P L rd).length)]
  exact this
omit hc in
theorem svs_at {P L : Int} {rd : List Int} {i : Nat} (hi : i < (svs P L rd).length) : (svs P L rd).getD i 0 ∈ svs P L rd := by
  rw [List.getD_eq_getElem?_getD, List.getElem?_eq_getElem hi]; exact List.getElem_mem hi
theorem svs_head : (svs P L rd).getD 0 0 = P := by
  obtain ⟨j, hj, e⟩ := List.getElem_of_mem (svs_mem (P := P) (L := L) (rd := rd).2 (.inl rfl))
  have h0 := svs_range hc (svs_at (svs_pos P L rd))
  by_cases h : j = 0
  · subst h
    rw [List.getD_eq_getElem?_getD, List.getElem?_eq_getElem hj]; exact e
  · have := svs_lt (P := P) (L := L) (rd := rd) (i := 0) (j := j) (by omega) hj
    rw [List.getD_eq_getElem?_getD (i := j), List.getElem?_eq_getElem hj] at this
    simp only [Option.getD_some, e] at this
    omega
theorem svs_len : (svs P L rd).length ≤ 1000000 := by
  have h1 := svs_asc P L rd
  have h2 : (svs P L rd).Nodup := List.nodup_iff_pairwise_ne.2 (List.Pairwise.imp (fun h => by omega) h1)
  have h3 := List.Nodup.length_le_of_subset (l₂ := P :: rd) h2 (fun x hx => by
    rcases svs_mem.1 hx with rfl | ⟨h, _⟩
    · exact List.mem_cons_self
    · exact List.mem_cons_of_mem _ h)
  have := hc.n
  simp only [List.length_cons] at h3
  omega

theorem Saves_good : connection_Saves P L rd mi ms = some (svs P L rd, 0) := by
  have hn := hc.n
  unfold connection_Saves
  rw [CValid_good hc]
  simp only [obind, Bool.not_true, Bool.false_eq_true, if_false]
  obtain ⟨d, h1, h2⟩ := loop_inv (step := connection_Saves_L10 P L rd) (fun s => ∃ i : Nat, s = (P :: (rd.take i).filter (fun x => decide (P ≤ x ∧ x ≤ L)), (i : Int)) ∧ i ≤ rd.length) (fun s => rd.length - s.2.toNat) (fun d => d = P :: rd.filter fun x => decide (P ≤ x ∧ x ≤ L)) (by
    rintro _ ⟨i, rfl, hi⟩
    unfold connection_Saves_L10
    simp only
    by_cases h : i < rd.length
    · have ht : rd.take (i + 1) = rd.take i ++ [rd.getD i 0] := by
        rw [List.take_add_one, List.getElem?_eq_getElem h, List.getD_eq_getElem?_getD, List.getElem?_eq_getElem h]; rfl
      have hfl := List.length_filter_le (fun x => decide (P ≤ x ∧ x ≤ L)) (rd.take i)
      rw [List.length_take] at hfl
      rw [if_pos (dpos (by omega)), idx_getD h]
      simp only [obind]
      rw [cin_ok]
      simp only [obind]
      rw [wr_id (by omega) (by omega)]
      by_cases hx : P ≤ rd.getD i 0 ∧ rd.getD i 0 ≤ L
      · rw [if_pos (dpos hx), if_pos (by simp only [List.length_cons, List.length_nil]; omega)]
        refine .inl ⟨_, rfl, ⟨i + 1, ?_, by omega⟩, by simp only; omega⟩
        rw [ht, List.filter_append]
        have : List.filter (fun x => decide (P ≤ x ∧ x ≤ L)) [rd.getD i 0] = [rd.getD i 0] := by simp only [List.filter, dpos hx]
        rw [this]; rfl
      · rw [if_neg (dneg hx)]
        refine .inl ⟨_, rfl, ⟨i + 1, ?_, by omega⟩, by simp only; omega⟩
        rw [ht, List.filter_append]
        have : List.filter (fun x => decide (P ≤ x ∧ x ≤ L)) [rd.getD i 0] = [] := by simp only [List.filter, decide_eq_false hx]
        rw [this, List.append_nil]; rfl
    · rw [if_neg (dneg (by omega))]
      refine .inr ⟨_, rfl, ?_⟩
      rw [List.take_of_length_le (by omega)]) (([P] : List Int), 0) ⟨0, by simp, by omega⟩ (by simp; omega)
  rw [h1, h2]
  have hfl := List.length_filter_le (fun x => decide (P ≤ x ∧ x ≤ L)) rd
  simp only [obind]
  rw [if_pos ⟨by simp, by simp only [List.length_cons]; omega⟩]
  rfl

theorem Best_good : ∃ b, connection_Best P L rd mi ms = some (b, cost P rd mi ms b, 0) ∧ b ∈ svs P L rd ∧ ∀ s ∈ svs P L rd, cost P rd mi ms b ≤ cost P rd mi ms s ∧ (s < b → cost P rd mi ms b < cost P rd mi ms s) := by
  have hsl := svs_len hc
  unfold connection_Best
  rw [Saves_good hc]
  simp only [obind, bne_self_eq_false, Bool.false_eq_true, if_false]
  obtain ⟨d, h1, h2⟩ := loop_inv (step := connection_Best_L8 P L rd mi ms (svs P L rd, 0)) (fun s => ∃ (i : Nat) (t c : Int), s = (t, c, (i : Int)) ∧ i ≤ (svs P L rd).length ∧ (i = 0 ∨ ∃ j0, j0 < i ∧ t = (svs P L rd).getD j0 0 ∧ c = cost P rd mi ms t ∧ ∀ j, j < i → c ≤ cost P rd mi ms ((svs P L rd).getD j 0) ∧ (j < j0 → c < cost P rd mi ms ((svs P L rd).getD j 0)))) (fun s => (svs P L rd).length - s.2.2.toNat)
    (fun d => ∃ j0, j0 < (svs P L rd).length ∧ d = ((svs P L rd).getD j0 0, cost P rd mi ms ((svs P L rd).getD j0 0)) ∧ ∀ j, j < (svs P L rd).length → cost P rd mi ms ((svs P L rd).getD j0 0) ≤ cost P rd mi ms ((svs P L rd).getD j 0) ∧ (j < j0 → cost P rd mi ms ((svs P L rd).getD j0 0) < cost P rd mi ms ((svs P L rd).getD j 0))) (by
    rintro _ ⟨i, t, c, rfl, hi, hinv⟩
    unfold connection_Best_L8
    simp only
    by_cases h : i < (svs P L rd).length
    · rw [if_pos (dpos (by omega)), idx_getD h]
      simp only [obind]
      rw [Cost_good hc _ (svs_range hc (svs_at h))]
      simp only [obind]
      rw [wr_id (by omega) (by omega)]
      by_cases h0 : i = 0
      · subst h0
        rw [if_pos (by rfl)]
        refine .inl ⟨_, rfl, ⟨1, _, _, rfl, by omega, .inr ⟨0, by omega, rfl, rfl, fun j hj => ?_⟩⟩, by simp only; omega⟩
        have : j = 0 := by omega
        subst this
        exact ⟨Int.le_refl _, fun q => by omega⟩
      · rw [if_neg (by rw [beq_iff_eq]; omega)]
        rcases hinv with e | ⟨j0, q0, rfl, rfl, q1⟩
        · exact absurd e h0
        · by_cases hlt : cost P rd mi ms ((svs P L rd).getD i 0) < cost P rd mi ms ((svs P L rd).getD j0 0)
          · rw [if_pos (dpos hlt)]
            refine .inl ⟨_, rfl, ⟨i + 1, _, _, rfl, by omega, .inr ⟨i, by omega, rfl, rfl, fun j hj => ?_⟩⟩, by simp only; omega⟩
            by_cases e : j = i
            · subst e; exact ⟨Int.le_refl _, fun q => by omega⟩
            · have := (q1 j (by omega)).1
              exact ⟨by omega, fun _ => by omega⟩
          · rw [if_neg (dneg hlt)]
            refine .inl ⟨_, rfl, ⟨i + 1, _, _, rfl, by omega, .inr ⟨j0, by omega, rfl, rfl, fun j hj => ?_⟩⟩, by simp only; omega⟩
            by_cases e : j = i
            · subst e; exact ⟨by omega, fun q => by omega⟩
            · exact q1 j (by omega)
    · rw [if_neg (dneg (by omega))]
      have hpos := svs_pos P L rd
      rcases hinv with e | ⟨j0, q0, rfl, rfl, q1⟩
      · omega
      · exact .inr ⟨_, rfl, j0, by omega, rfl, fun j hj => q1 j (by omega)⟩) (0, 0, 0) ⟨0, 0, 0, rfl, by omega, .inl rfl⟩ (by simp; omega)
  obtain ⟨j0, hj0, rfl, h3⟩ := h2
  rw [h1]
  refine ⟨_, rfl, svs_at hj0, fun s hs => ?_⟩
  obtain ⟨j, hj, e⟩ := List.getElem_of_mem hs
  have he : (svs P L rd).getD j 0 = s := by rw [List.getD_eq_getElem?_getD, List.getElem?_eq_getElem hj]; exact e
  have := h3 j hj
  rw [he] at this
  refine ⟨this.1, fun hlt => this.2 ?_⟩
  rcases Nat.lt_or_ge j j0 with q | q
  · exact q
  · exfalso
    by_cases e2 : j = j0
    · subst e2; omega
    · have := svs_lt (P := P) (L := L) (rd := rd) (i := j0) (j := j) (by omega) hj
      omega

/-- Some departure of Saves that is no later costs no more. -/
theorem down_cost : ∀ (n : Nat) (t : Int), t = P + n → t ≤ L → ∃ s, s ∈ svs P L rd ∧ s ≤ t ∧ cost P rd mi ms s ≤ cost P rd mi ms t
  | 0, t, ht, hl => ⟨P, svs_mem.2 (.inl rfl), by omega, by rw [ht]; simp⟩
  | n + 1, t, ht, hl => by
    by_cases h : t ∈ svs P L rd
    · exact ⟨t, h, Int.le_refl _, Int.le_refl _⟩
    · have hno : ∀ x ∈ rd, x ≠ t := fun x hx e => h (svs_mem.2 (.inr ⟨by rw [← e]; exact hx, by omega, hl⟩))
      have hsame : leftL rd (t - 1) = leftL rd t := by
        unfold leftL leftU
        congr 1
        refine List.filter_congr fun i hi => ?_
        rw [List.mem_range] at hi
        have hm : rd.getD i 0 ∈ rd := by rw [List.getD_eq_getElem?_getD, List.getElem?_eq_getElem hi]; exact List.getElem_mem hi
        have := hno _ hm
        rw [decide_eq_decide]
        omega
      obtain ⟨s, h1, h2, h3⟩ := down_cost n (t - 1) (by omega) (by omega)
      refine ⟨s, h1, by omega, Int.le_trans h3 ?_⟩
      unfold cost
      rw [hsame]
      have hm := Int.mul_le_mul_of_nonneg_left (show t - 1 - P ≤ t - P by omega) hc.mi.1
      omega
end

/-- A made connection is valid. -/
theorem made_ok (l : List Int) : ∃ P L rd mi ms k, law41_made l 0 = some ((P, L, rd, mi, ms), k) ∧ CV P L rd mi ms ∧ 0 ≤ k ∧ k ≤ 1000 := by
  obtain ⟨a, e1, a0, a1⟩ := next_ok l 0 200 (by omega) (by omega) (by omega) (by omega)
  obtain ⟨b, e2, b0, b1⟩ := next_ok l (0 + 1) 60 (by omega) (by omega) (by omega) (by omega)
  obtain ⟨mi, e3, hmi⟩ := pick_ok l (0 + 1 + 1) [0, 1, 2, 7] (by omega) (by omega) (by decide) (by decide)
  obtain ⟨ms, e4, hms⟩ := pick_ok l (0 + 1 + 1 + 1) [0, 1, 10, 30, 100] (by omega) (by omega) (by decide) (by decide)
  obtain ⟨n, e5, n1⟩ := next_nat l (0 + 1 + 1 + 1 + 1) 9 (by omega) (by omega) (by omega) (by omega)
  have m1 : 0 ≤ mi ∧ mi ≤ 7 := (by decide : ∀ x ∈ [(0 : Int), 1, 2, 7], 0 ≤ x ∧ x ≤ 7) mi hmi
  have m2 : 0 ≤ ms ∧ ms ≤ 100 := (by decide : ∀ x ∈ [(0 : Int), 1, 10, 30, 100], 0 ≤ x ∧ x ≤ 100) ms hms
  unfold law41_made
  rw [e1]
  simp only [obind]
  rw [e2]
  simp only [obind]
  rw [e3]
  simp only [obind]
  rw [e4]
  simp only [obind]
  rw [e5]
  simp only [obind]
  obtain ⟨d, h1, h2⟩ := loop_inv (step := law41_made_L22 l (a, 0 + 1)) (fun s => ∃ (i : Nat) (k : Int) (rd : List Int), s = (k, rd, (i : Int)) ∧ i ≤ 9 ∧ 5 ≤ k ∧ k ≤ 20 - i ∧ rd.length + i ≤ 9 ∧ ∀ x ∈ rd, 0 ≤ x ∧ x ≤ 10080) (fun s => s.2.2.toNat) (fun d => 0 ≤ d.1 ∧ d.1 ≤ 1000 ∧ d.2.length ≤ 9 ∧ ∀ x ∈ d.2, 0 ≤ x ∧ x ≤ 10080) (by
    rintro _ ⟨i, k, rd, rfl, hi, hk0, hk, hl, hm⟩
    unfold law41_made_L22
    simp only
    by_cases h : 0 < i
    · obtain ⟨v, f1, f0, f2⟩ := next_ok l k 120 (by omega) (by omega) (by omega) (by omega)
      rw [if_pos (dpos (by omega)), f1]
      simp only [obind]
      rw [if_pos (by simp only [List.length_cons, List.length_nil]; omega), wr_id (n := a - 30) (by omega) (by omega), wr_id (n := a - 30 + v) (by omega) (by omega), wr_id (n := (i : Int) - 1) (by omega) (by omega)]
      refine .inl ⟨_, rfl, ⟨i - 1, _, _, by rw [show (i : Int) - 1 = ((i - 1 : Nat) : Int) by omega], by omega, by omega, by omega, by simp only [List.length_append, List.length_cons, List.length_nil]; omega, fun x hx => ?_⟩, by simp only; omega⟩
      rcases List.mem_append.1 hx with hx | hx
      · exact hm x hx
      · rw [List.mem_singleton] at hx
        subst hx
        split <;> omega
    · rw [if_neg (dneg (by omega))]
      exact .inr ⟨_, rfl, by simp only; omega, by simp only; omega, by simp only; omega, hm⟩) (0 + 1 + 1 + 1 + 1 + 1, ([] : List Int), (n : Int)) ⟨n, _, _, rfl, by omega, by omega, by omega, by simp; omega, fun x hx => by cases hx⟩ (by simp only; omega)
  rw [h1]
  obtain ⟨k', rd⟩ := d
  obtain ⟨g1, g2, g3, g4⟩ := h2
  simp only at g1 g2 g3 g4
  simp only [obind]
  rw [wr_id (n := a + b) (by omega) (by omega)]
  exact ⟨_, _, _, _, _, _, rfl, ⟨g4, by omega, by omega, by omega, by omega, by omega⟩, g1, g2⟩
theorem sane41_ok : law41_sane = some true := by decide +kernel
end Go.Proofs.Ytdjadgodphfihaa
