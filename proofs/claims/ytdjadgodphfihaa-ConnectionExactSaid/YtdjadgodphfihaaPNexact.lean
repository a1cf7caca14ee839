/- Plain law of ConnectionExact: all functions answer as the reference does, for made, spoiled and arbitrary connections. No condition. -/
import Derived.Test.YtdjadgodphfihaaPNconn
import Derived.Test.YtdjadgodphfihaaGr41
import Derived.Test.YtdjadgodphfihaaGlaw41exact
import Derived.Test.YtdjadgodphfihaaGConnectionExact
set_option linter.unusedVariables false
set_option linter.unusedSectionVars false
set_option linter.unusedSimpArgs false
set_option maxRecDepth 100000
namespace Go.Proofs.Ytdjadgodphfihaa
open Go Go.V Go.Proofs

theorem RValidJ_ok (rd : List Int) (b : Bool) (hl : rd.length < 4611686018427387904) : ∃ c, r41_Valid_J4 rd b = some c ∧ (c = true ↔ b = true ∧ ∀ x ∈ rd, 0 ≤ x ∧ x ≤ 10080) := by
  unfold r41_Valid_J4
  obtain ⟨d, h1, h2⟩ := loop_inv (step := r41_Valid_L5 rd) (fun s => ∃ (i : Nat) (c : Bool), s = (c, (i : Int)) ∧ i ≤ rd.length ∧ (c = true ↔ b = true ∧ ∀ j, j < i → 0 ≤ rd.getD j 0 ∧ rd.getD j 0 ≤ 10080)) (fun s => rd.length - s.2.toNat)
    (fun d => (d = true ↔ b = true ∧ ∀ x ∈ rd, 0 ≤ x ∧ x ≤ 10080)) (by
    rintro _ ⟨i, c, rfl, hi, hj⟩
    unfold r41_Valid_L5
    simp only
    by_cases h : i < rd.length
    · rw [if_pos (dpos (by omega)), wr_id (by omega) (by omega)]
      have hstep : ∀ c' : Bool, (c' = true ↔ c = true ∧ 0 ≤ rd.getD i 0 ∧ rd.getD i 0 ≤ 10080) → (∃ (i' : Nat) (c2 : Bool), ((c', (i : Int) + 1) : Bool × Int) = (c2, (i' : Int)) ∧ i' ≤ rd.length ∧ (c2 = true ↔ b = true ∧ ∀ j, j < i' → 0 ≤ rd.getD j 0 ∧ rd.getD j 0 ≤ 10080)) := by
        intro c' hc'
        refine ⟨i + 1, c', rfl, by omega, ?_⟩
        rw [hc', hj]
        constructor
        · rintro ⟨⟨q1, q2⟩, q3⟩
          refine ⟨q1, fun j hji => ?_⟩
          by_cases e : j = i
          · subst e; exact q3
          · exact q2 j (by omega)
        · rintro ⟨q1, q2⟩
          exact ⟨⟨q1, fun j hji => q2 j (by omega)⟩, q2 i (by omega)⟩
      by_cases hc : c = true
      · rw [if_pos hc, idx_getD h]
        simp only [obind]
        by_cases h0 : rd.getD i 0 ≥ 0
        · rw [if_pos (dpos h0)]
          refine .inl ⟨_, rfl, hstep _ ?_, by simp only; omega⟩
          rw [decide_eq_true_eq]
          exact ⟨fun q => ⟨hc, h0, q⟩, fun q => q.2.2⟩
        · rw [if_neg (dneg h0)]
          refine .inl ⟨_, rfl, hstep _ ?_, by simp only; omega⟩
          exact ⟨fun q => (by cases q), fun q => absurd q.2.1 h0⟩
      · rw [if_neg hc]
        refine .inl ⟨_, rfl, hstep _ ?_, by simp only; omega⟩
        exact ⟨fun q => (by cases q), fun q => absurd q.1 hc⟩
    · rw [if_neg (dneg (by omega))]
      refine .inr ⟨_, rfl, ?_⟩
      rw [hj]
      constructor
      · rintro ⟨q1, q2⟩
        refine ⟨q1, fun x hx => ?_⟩
        obtain ⟨j, hjl, rfl⟩ := List.getElem_of_mem hx
        have := q2 j (by omega)
        rw [List.getD_eq_getElem?_getD, List.getElem?_eq_getElem hjl] at this
        exact this
      · rintro ⟨q1, q2⟩
        refine ⟨q1, fun j hji => q2 _ ?_⟩
        rw [List.getD_eq_getElem?_getD, List.getElem?_eq_getElem (by omega : j < rd.length)]
        exact List.getElem_mem _) (b, 0) ⟨0, b, rfl, by omega, by simp⟩ (by simp; omega)
  rw [h1]
  exact ⟨_, rfl, h2⟩

theorem RValid_ok (P L : Int) (rd : List Int) (mi ms : Int) (hl : rd.length < 4611686018427387904) : ∃ b, r41_Valid P L rd mi ms = some b ∧ (b = true ↔ CV P L rd mi ms) := by
  unfold r41_Valid
  have hf : ¬ CV P L rd mi ms → ∃ b, r41_Valid_J4 rd false = some b ∧ (b = true ↔ CV P L rd mi ms) := by
    intro hn
    obtain ⟨c, h1, h2⟩ := RValidJ_ok rd false hl
    exact ⟨c, h1, by rw [h2]; exact ⟨fun q => (by cases q.1), fun q => absurd q hn⟩⟩
  by_cases a1 : P ≥ 0
  · rw [if_pos (dpos a1)]
    by_cases a2 : P ≤ L
    · rw [if_pos (dpos a2)]
      by_cases a3 : L ≤ 10080
      · rw [if_pos (dpos a3)]
        by_cases a4 : (rd.length : Int) ≤ 96
        · rw [if_pos (dpos a4)]
          by_cases a5 : mi ≥ 0
          · rw [if_pos (dpos a5)]
            by_cases a6 : mi ≤ 1000000
            · rw [if_pos (dpos a6)]
              by_cases a7 : ms ≥ 0
              · rw [if_pos (dpos a7)]
                obtain ⟨c, h1, h2⟩ := RValidJ_ok rd (decide (ms ≤ 1000000)) hl
                refine ⟨c, h1, ?_⟩
                rw [h2, decide_eq_true_eq]
                exact ⟨fun q => ⟨q.2, ⟨a1, a2⟩, a3, by omega, ⟨a5, a6⟩, ⟨a7, q.1⟩⟩, fun q => ⟨q.ms.2, q.r⟩⟩
              · rw [if_neg (dneg a7)]; exact hf fun q => a7 q.ms.1
            · rw [if_neg (dneg a6)]; exact hf fun q => a6 q.mi.2
          · rw [if_neg (dneg a5)]; exact hf fun q => a5 q.mi.1
        · rw [if_neg (dneg a4)]; exact hf fun q => by have := q.n; omega
      · rw [if_neg (dneg a3)]; exact hf fun q => a3 q.l
    · rw [if_neg (dneg a2)]; exact hf fun q => a2 q.p.2
  · rw [if_neg (dneg a1)]; exact hf fun q => a1 q.p.1

section
variable {P L : Int} {rd : List Int} {mi ms : Int} (hl : rd.length < 4611686018427387904)
include hl
theorem RValid_eq : r41_Valid P L rd mi ms = connection_Valid P L rd mi ms := by
  obtain ⟨b, h1, h2⟩ := RValid_ok P L rd mi ms hl
  obtain ⟨c, h3, h4⟩ := CValid_ok P L rd mi ms hl
  rw [h1, h3, Bool.eq_iff_iff.2 (h2.trans h4.symm)]
theorem RLeft_eq (t : Int) : r41_Left P L rd mi ms t = connection_Left P L rd mi ms t := by
  unfold r41_Left connection_Left r41_check
  rw [RValid_eq hl]
  obtain ⟨c, h3, h4⟩ := CValid_ok P L rd mi ms hl
  rw [h3]
  simp only [obind]
  cases c with
  | false => simp only [Bool.not_false, if_true, obind]; rfl
  | true =>
    simp only [Bool.not_true, Bool.false_eq_true, if_false]
    rw [cin_ok]
    simp only [obind]
    by_cases a1 : t < P
    · rw [if_pos (dpos a1), decide_eq_false (show ¬ (P ≤ t ∧ t ≤ L) by omega)]
      rfl
    · rw [if_neg (dneg a1)]
      by_cases a2 : t > L
      · rw [if_pos (dpos a2), decide_eq_false (show ¬ (P ≤ t ∧ t ≤ L) by omega)]
        rfl
      · rw [if_neg (dneg a2), dpos (show P ≤ t ∧ t ≤ L by omega)]
        rfl
theorem RCost_eq (t : Int) : r41_Cost P L rd mi ms t = connection_Cost P L rd mi ms t := by
  unfold r41_Cost connection_Cost
  rw [RLeft_eq hl]
end

theorem getD_mem {l : List Int} {i : Nat} (h : i < l.length) : l.getD i 0 ∈ l := by
  rw [List.getD_eq_getElem?_getD, List.getElem?_eq_getElem h]; exact List.getElem_mem h
theorem mem_getD {l : List Int} {x : Int} (h : x ∈ l) : ∃ i, i < l.length ∧ l.getD i 0 = x := by
  obtain ⟨i, hi, e⟩ := List.getElem_of_mem h
  exact ⟨i, hi, by rw [List.getD_eq_getElem?_getD, List.getElem?_eq_getElem hi]; exact e⟩
theorem asc_lt {l : List Int} (h : l.Pairwise (· < ·)) {i j : Nat} (hij : i < j) (hj : j < l.length) : l.getD i 0 < l.getD j 0 := by
  have := List.pairwise_iff_getElem.1 h i j (by omega) hj hij
  rw [List.getD_eq_getElem?_getD, List.getD_eq_getElem?_getD, List.getElem?_eq_getElem hj, List.getElem?_eq_getElem (by omega : i < l.length)]
  exact this

/-- A number put behind all that are less. -/
theorem asc_insert {d : List Int} (h : d.Pairwise (· < ·)) {k : Nat} {t : Int} (hk : 1 ≤ k ∧ k ≤ d.length) (h1 : d.getD (k - 1) 0 < t) (h2 : ∀ j, k ≤ j → j < d.length → t < d.getD j 0) :
    (d.take k ++ ([t] ++ d.drop k)).Pairwise (· < ·) ∧ ∀ x, x ∈ d.take k ++ ([t] ++ d.drop k) ↔ x ∈ d ∨ x = t := by
  have ht : ∀ a ∈ d.take k, a < t := by
    intro a ha
    obtain ⟨i, hi, e⟩ := List.getElem_of_mem ha
    rw [List.length_take] at hi
    rw [List.getElem_take] at e
    have he : d.getD i 0 = a := by rw [List.getD_eq_getElem?_getD, List.getElem?_eq_getElem (by omega : i < d.length)]; exact e
    by_cases q : i = k - 1
    · subst q; omega
    · have := asc_lt h (i := i) (j := k - 1) (by omega) (by omega)
      omega
  have hd : ∀ a ∈ d.drop k, t < a := by
    intro a ha
    obtain ⟨i, hi, e⟩ := List.getElem_of_mem ha
    rw [List.length_drop] at hi
    rw [List.getElem_drop] at e
    have := h2 (k + i) (by omega) (by omega)
    rw [List.getD_eq_getElem?_getD, List.getElem?_eq_getElem (by omega : k + i < d.length)] at this
    simp only [Option.getD_some] at this
    omega
  refine ⟨List.pairwise_append.2 ⟨h.sublist (List.take_sublist _ _), List.pairwise_append.2 ⟨by simp, h.sublist (List.drop_sublist _ _), fun a ha b hb => ?_⟩, fun a ha b hb => ?_⟩, fun x => ?_⟩
  · rw [List.mem_singleton] at ha
    subst ha
    exact hd b hb
  · rcases List.mem_append.1 hb with hb | hb
    · rw [List.mem_singleton] at hb
      subst hb
      exact ht a ha
    · have := ht a ha
      have := hd b hb
      omega
  · have he : x ∈ d ↔ x ∈ d.take k ∨ x ∈ d.drop k := by
      rw [← List.mem_append, List.take_append_drop]
    rw [he]
    simp only [List.mem_append, List.mem_singleton]
    constructor
    · rintro (q | q | q)
      · exact .inl (.inl q)
      · exact .inr q
      · exact .inl (.inr q)
    · rintro ((q | q) | q)
      · exact .inl q
      · exact .inr (.inr q)
      · exact .inr (.inl q)

section
variable {P L : Int} {rd : List Int} {mi ms : Int} (hc : CV P L rd mi ms)
include hc
theorem RSaves_good : r41_Saves P L rd mi ms = some (svs P L rd, 0) := by
  have hn := hc.n
  have hp := hc.p
  unfold r41_Saves
  rw [RValid_eq (by omega), CValid_good hc]
  simp only [obind, Bool.not_true, Bool.false_eq_true, if_false]
  obtain ⟨d, h1, h2⟩ := loop_inv (step := r41_Saves_L9 P L rd) (fun s => ∃ (i : Nat) (d : List Int), s = (d, (i : Int)) ∧ i ≤ rd.length ∧ d.length ≤ i + 1 ∧ d.Pairwise (· < ·) ∧ ∀ x, x ∈ d ↔ x = P ∨ (x ∈ rd.take i ∧ P ≤ x ∧ x ≤ L)) (fun s => rd.length - s.2.toNat)
    (fun d => d.Pairwise (· < ·) ∧ ∀ x, x ∈ d ↔ x = P ∨ (x ∈ rd ∧ P ≤ x ∧ x ≤ L)) (by
    rintro _ ⟨i, d, rfl, hi, hdl, hd, hm⟩
    unfold r41_Saves_L9
    simp only
    by_cases h : i < rd.length
    · have ht : rd.take (i + 1) = rd.take i ++ [rd.getD i 0] := by
        rw [List.take_add_one, List.getElem?_eq_getElem h, List.getD_eq_getElem?_getD, List.getElem?_eq_getElem h]; rfl
      rw [if_pos (dpos (by omega)), idx_getD h]
      simp only [obind]
      have hskip : ¬ (P ≤ rd.getD i 0 ∧ rd.getD i 0 ≤ L) → ∀ x, x ∈ d ↔ x = P ∨ (x ∈ rd.take (i + 1) ∧ P ≤ x ∧ x ≤ L) := by
        intro hx x
        rw [hm, ht, List.mem_append, List.mem_singleton]
        constructor
        · rintro (q | ⟨q1, q2⟩)
          · exact .inl q
          · exact .inr ⟨.inl q1, q2⟩
        · rintro (q | ⟨q1 | q1, q2⟩)
          · exact .inl q
          · exact .inr ⟨q1, q2⟩
          · subst q1; exact absurd q2 hx
      by_cases a1 : rd.getD i 0 < P
      · rw [if_pos (dpos a1), wr_id (by omega) (by omega)]
        exact .inl ⟨_, rfl, ⟨i + 1, d, rfl, by omega, by omega, hd, hskip (by omega)⟩, by simp only; omega⟩
      · rw [if_neg (dneg a1)]
        by_cases a2 : rd.getD i 0 > L
        · rw [if_pos (dpos a2), wr_id (by omega) (by omega)]
          exact .inl ⟨_, rfl, ⟨i + 1, d, rfl, by omega, by omega, hd, hskip (by omega)⟩, by simp only; omega⟩
        · rw [if_neg (dneg a2)]
          obtain ⟨k, g1, g2, g3, g4⟩ := loop_inv (step := r41_Saves_L15 d (rd.getD i 0)) (fun s => ∃ k : Nat, s = (k : Int) ∧ k ≤ d.length ∧ ∀ j, k ≤ j → j < d.length → rd.getD i 0 < d.getD j 0) (fun s => s.toNat)
            (fun s => ∃ k : Nat, s = (k : Int) ∧ (k ≤ d.length ∧ ∀ j, k ≤ j → j < d.length → rd.getD i 0 < d.getD j 0) ∧ 1 ≤ k ∧ d.getD (k - 1) 0 ≤ rd.getD i 0) (by
            rintro _ ⟨k, rfl, hk, hk2⟩
            unfold r41_Saves_L15
            simp only
            have hk0 : 0 < k := by
              rcases Nat.eq_zero_or_pos k with e | e
              · subst e
                obtain ⟨j, hj, e⟩ := mem_getD ((hm P).2 (.inl rfl))
                have := hk2 j (by omega) hj
                omega
              · exact e
            rw [if_pos (dpos (by omega)), wr_id (by omega) (by omega), show (k : Int) - 1 = ((k - 1 : Nat) : Int) by omega, idx_getD (by omega)]
            simp only [obind]
            by_cases hx : d.getD (k - 1) 0 > rd.getD i 0
            · rw [if_pos (dpos hx)]
              refine .inl ⟨_, rfl, ⟨k - 1, rfl, by omega, fun j hj hj2 => ?_⟩, by omega⟩
              by_cases e : j = k - 1
              · subst e; exact hx
              · exact hk2 j (by omega) hj2
            · rw [if_neg (dneg hx)]
              exact .inr ⟨_, rfl, k, rfl, ⟨hk, hk2⟩, hk0, by omega⟩) ((d.length : Int)) ⟨d.length, rfl, by omega, fun j q1 q2 => by omega⟩ (by simp; omega)
          obtain ⟨⟨g5, g6⟩, g7, g8⟩ := g4
          rw [g1, g3]
          simp only [obind]
          unfold r41_Saves_J14
          rw [wr_id (n := (g2 : Int) - 1) (by omega) (by omega), show (g2 : Int) - 1 = ((g2 - 1 : Nat) : Int) by omega, idx_getD (by omega)]
          simp only [obind]
          rw [wr_id (n := (i : Int) + 1) (by omega) (by omega)]
          by_cases he : d.getD (g2 - 1) 0 = rd.getD i 0
          · rw [if_neg (by rw [he]; simp)]
            refine .inl ⟨_, rfl, ⟨i + 1, d, rfl, by omega, by omega, hd, fun x => ?_⟩, by simp only; omega⟩
            have hin : rd.getD i 0 ∈ d := by rw [← he]; exact getD_mem (by omega)
            rw [ht, List.mem_append, List.mem_singleton]
            constructor
            · intro q
              rcases (hm x).1 q with q | ⟨q1, q2⟩
              · exact .inl q
              · exact .inr ⟨.inl q1, q2⟩
            · rintro (q | ⟨q1 | q1, q2⟩)
              · exact (hm x).2 (.inl q)
              · exact (hm x).2 (.inr ⟨q1, q2⟩)
              · rw [q1]; exact hin
          · have hdr : ((d.drop (Int.toNat (g2 : Int))).take (Int.toNat (d.length : Int) - Int.toNat (g2 : Int))) = d.drop g2 := by
              rw [List.take_of_length_le (by simp)]; simp
            rw [if_pos (by simpa using he), if_pos (by omega), if_pos (by omega), hdr, show Int.toNat (g2 : Int) = g2 from rfl]
            have hl1 : (d.drop g2).length ≤ 100 := by rw [List.length_drop]; omega
            have hl2 : (d.take g2).length ≤ 100 := by rw [List.length_take]; omega
            rw [if_pos (by simp only [List.length_cons, List.length_nil]; omega), if_pos (by simp only [List.length_append, List.length_cons, List.length_nil]; omega)]
            obtain ⟨p1, p2⟩ := asc_insert hd (k := g2) (t := rd.getD i 0) ⟨g7, g5⟩ (by omega) g6
            refine .inl ⟨_, rfl, ⟨i + 1, _, rfl, by omega, by simp only [List.length_append, List.length_cons, List.length_nil, List.length_take, List.length_drop]; omega, p1, fun x => ?_⟩, by simp only; omega⟩
            rw [p2, hm, ht, List.mem_append, List.mem_singleton]
            constructor
            · rintro ((q | ⟨q1, q2⟩) | q)
              · exact .inl q
              · exact .inr ⟨.inl q1, q2⟩
              · exact .inr ⟨.inr q, by omega⟩
            · rintro (q | ⟨q1 | q1, q2⟩)
              · exact .inl (.inl q)
              · exact .inl (.inr ⟨q1, q2⟩)
              · exact .inr q1
    · rw [if_neg (dneg (by omega))]
      refine .inr ⟨_, rfl, hd, fun x => ?_⟩
      rw [hm, List.take_of_length_le (by omega)]) (([P] : List Int), 0) ⟨0, _, rfl, by omega, by simp, by simp, fun x => by simp⟩ (by simp; omega)
  rw [h1]
  simp only [obind]
  rw [asc_unique d (svs P L rd) h2.1 (svs_asc P L rd) (fun x => by rw [h2.2, svs_mem])]

theorem RBest_good : ∃ b, r41_Best P L rd mi ms = some (b, cost P rd mi ms b, 0) ∧ b ∈ svs P L rd ∧ ∀ s ∈ svs P L rd, cost P rd mi ms b ≤ cost P rd mi ms s ∧ (s < b → cost P rd mi ms b < cost P rd mi ms s) := by
  have hsl := svs_len hc
  have hn := hc.n
  have hp := hc.p
  unfold r41_Best
  rw [RValid_eq (by omega), CValid_good hc]
  simp only [obind, Bool.not_true, Bool.false_eq_true, if_false]
  rw [RCost_eq (by omega), Cost_good hc P (by omega)]
  simp only [obind]
  rw [RSaves_good hc]
  simp only [obind]
  obtain ⟨d, h1, h2⟩ := loop_inv (step := r41_Best_L12 P L rd mi ms (svs P L rd, 0)) (fun s => ∃ (i : Nat) (t : Int), s = (t, cost P rd mi ms t, (i : Int)) ∧ i ≤ (svs P L rd).length ∧ t ∈ svs P L rd ∧ (∀ j, i ≤ j → j < (svs P L rd).length → t ≤ (svs P L rd).getD j 0) ∧ ∀ j, j < i → cost P rd mi ms t ≤ cost P rd mi ms ((svs P L rd).getD j 0) ∧ ((svs P L rd).getD j 0 < t → cost P rd mi ms t < cost P rd mi ms ((svs P L rd).getD j 0))) (fun s => (svs P L rd).length - s.2.2.toNat)
    (fun d => ∃ t, d = (t, cost P rd mi ms t) ∧ t ∈ svs P L rd ∧ ∀ j, j < (svs P L rd).length → cost P rd mi ms t ≤ cost P rd mi ms ((svs P L rd).getD j 0) ∧ ((svs P L rd).getD j 0 < t → cost P rd mi ms t < cost P rd mi ms ((svs P L rd).getD j 0))) (by
    rintro _ ⟨i, t, rfl, hi, htm, hge, hinv⟩
    unfold r41_Best_L12
    simp only
    by_cases h : i < (svs P L rd).length
    · rw [if_pos (dpos (by omega)), idx_getD h]
      simp only [obind]
      rw [RCost_eq (by omega), Cost_good hc _ (svs_range hc (svs_at h))]
      simp only [obind]
      rw [wr_id (by omega) (by omega)]
      by_cases hlt : cost P rd mi ms ((svs P L rd).getD i 0) < cost P rd mi ms t
      · rw [if_pos (dpos hlt)]
        refine .inl ⟨_, rfl, ⟨i + 1, _, rfl, by omega, svs_at h, fun j hj hj2 => Int.le_of_lt (svs_lt (by omega) hj2), fun j hj => ?_⟩, by simp only; omega⟩
        by_cases e : j = i
        · subst e; exact ⟨Int.le_refl _, fun q => by omega⟩
        · have := (hinv j (by omega)).1
          exact ⟨by omega, fun _ => by omega⟩
      · rw [if_neg (dneg hlt)]
        refine .inl ⟨_, rfl, ⟨i + 1, _, rfl, by omega, htm, fun j hj hj2 => hge j (by omega) hj2, fun j hj => ?_⟩, by simp only; omega⟩
        by_cases e : j = i
        · subst e; exact ⟨by omega, fun q => by have := hge j (by omega) h; omega⟩
        · exact hinv j (by omega)
    · rw [if_neg (dneg (by omega))]
      exact .inr ⟨_, rfl, t, rfl, htm, fun j hj => hinv j (by omega)⟩) (P, cost P rd mi ms P, 0) ⟨0, P, rfl, by omega, svs_mem.2 (.inl rfl), fun j _ hj => (svs_range hc (svs_at hj)).1, fun j hj => by omega⟩ (by simp; omega)
  obtain ⟨t, rfl, htm, h3⟩ := h2
  rw [h1]
  refine ⟨t, rfl, htm, fun s hs => ?_⟩
  obtain ⟨j, hj, rfl⟩ := mem_getD hs
  exact h3 j hj

theorem RBest_eq : r41_Best P L rd mi ms = connection_Best P L rd mi ms := by
  obtain ⟨b, h1, hb, h2⟩ := RBest_good hc
  obtain ⟨c, h3, hcm, h4⟩ := Best_good hc
  have e : b = c := by
    have q1 := h2 c hcm
    have q2 := h4 b hb
    have : ¬ b < c := fun q => by have := q2.2 q; omega
    have : ¬ c < b := fun q => by have := q1.2 q; omega
    omega
  rw [h1, h3, e]
end

theorem leftU_bd (P L : Int) (rd : List Int) (mi ms t : Int) (hl : rd.length < 4611686018427387904) : ∃ l e, connection_Left P L rd mi ms t = some (l, e) ∧ l.length < 4611686018427387904 := by
  obtain ⟨b, h1, h2⟩ := CValid_ok P L rd mi ms hl
  cases b with
  | false =>
    unfold connection_Left
    rw [h1]
    exact ⟨_, _, rfl, by simp⟩
  | true =>
    have hc := h2.1 rfl
    by_cases ht : P ≤ t ∧ t ≤ L
    · exact ⟨_, _, Left_good hc t ht, by have := leftU_len rd t rd.length; unfold leftL; omega⟩
    · unfold connection_Left
      rw [h1]
      simp only [obind, Bool.not_true, Bool.false_eq_true, if_false]
      rw [cin_ok]
      simp only [obind]
      rw [if_pos (by rw [decide_eq_false ht]; rfl)]
      exact ⟨_, _, rfl, by simp⟩

theorem exact41_ok (P L : Int) (rd : List Int) (mi ms t : Int) (hl : rd.length < 4611686018427387904) : law41_exact P L rd mi ms t = some true := by
  obtain ⟨l, e, h1, h2⟩ := leftU_bd P L rd mi ms t hl
  unfold law41_exact
  rw [RLeft_eq hl, RCost_eq hl, RValid_eq hl]
  obtain ⟨b, hv, hb⟩ := CValid_ok P L rd mi ms hl
  have hcost : ∃ c, connection_Cost P L rd mi ms t = some c := by
    unfold connection_Cost
    rw [h1]
    simp only [obind]
    split
    · exact ⟨_, rfl⟩
    · exact ⟨_, rfl⟩
  obtain ⟨c, hcost⟩ := hcost
  have hbs : ∃ x y s, connection_Best P L rd mi ms = some x ∧ r41_Best P L rd mi ms = some x ∧ connection_Saves P L rd mi ms = some (s, y) ∧ r41_Saves P L rd mi ms = some (s, y) ∧ s.length < 4611686018427387904 := by
    cases b with
    | false =>
      unfold connection_Best r41_Best connection_Saves r41_Saves
      rw [RValid_eq hl, hv]
      exact ⟨_, _, _, rfl, rfl, rfl, rfl, by simp⟩
    | true =>
      have hc := hb.1 rfl
      obtain ⟨x, hx, _⟩ := Best_good hc
      exact ⟨_, _, _, hx, by rw [RBest_eq hc]; exact hx, Saves_good hc, RSaves_good hc, by have := svs_len hc; omega⟩
  obtain ⟨x, y, s, k1, k2, k3, k4, k5⟩ := hbs
  rw [h1]
  simp only [obind]
  rw [hcost]
  simp only [obind]
  rw [k1]
  simp only [obind]
  rw [k2]
  simp only [obind]
  rw [k3]
  simp only [obind]
  rw [k4]
  simp only [obind]
  rw [hv]
  simp only [obind]
  rw [ints_same l h2, ints_same s k5]
  simp only [obind, beq_self_eq_true, if_true]

/-- A made connection is valid, from any place of the numbers on. -/
theorem made_at (l : List Int) (k0 : Int) (hk0 : 0 ≤ k0) (hk1 : k0 ≤ 1000000) : ∃ P L rd mi ms k, law41_made l k0 = some ((P, L, rd, mi, ms), k) ∧ CV P L rd mi ms ∧ k0 ≤ k ∧ k ≤ k0 + 1000 := by
  obtain ⟨a, e1, a0, a1⟩ := next_ok l k0 200 (by omega) (by omega) (by omega) (by omega)
  obtain ⟨b, e2, b0, b1⟩ := next_ok l (k0 + 1) 60 (by omega) (by omega) (by omega) (by omega)
  obtain ⟨mi, e3, hmi⟩ := pick_ok l (k0 + 1 + 1) [0, 1, 2, 7] (by omega) (by omega) (by decide) (by decide)
  obtain ⟨ms, e4, hms⟩ := pick_ok l (k0 + 1 + 1 + 1) [0, 1, 10, 30, 100] (by omega) (by omega) (by decide) (by decide)
  obtain ⟨n, e5, n1⟩ := next_nat l (k0 + 1 + 1 + 1 + 1) 9 (by omega) (by omega) (by omega) (by omega)
  have m1 : 0 ≤ mi ∧ mi ≤ 7 := (by decide : ∀ x ∈ [(0 : Int), 1, 2, 7], 0 ≤ x ∧ x ≤ 7) mi hmi
  have m2 : 0 ≤ ms ∧ ms ≤ 100 := (by decide : ∀ x ∈ [(0 : Int), 1, 10, 30, 100], 0 ≤ x ∧ x ≤ 100) ms hms
  unfold law41_made
  rw [e1]
  simp only [obind]
  rw [e2]
  simp only [obind]
  rw [e3]
  simp only [obind]
  rw [e4]
  simp only [obind]
  rw [e5]
  simp only [obind]
  obtain ⟨d, h1, h2⟩ := loop_inv (step := law41_made_L22 l (a, k0 + 1)) (fun s => ∃ (i : Nat) (k : Int) (rd : List Int), s = (k, rd, (i : Int)) ∧ i ≤ 9 ∧ k0 + 5 ≤ k ∧ k ≤ k0 + 20 - i ∧ rd.length + i ≤ 9 ∧ ∀ x ∈ rd, 0 ≤ x ∧ x ≤ 10080) (fun s => s.2.2.toNat) (fun d => k0 ≤ d.1 ∧ d.1 ≤ k0 + 1000 ∧ d.2.length ≤ 9 ∧ ∀ x ∈ d.2, 0 ≤ x ∧ x ≤ 10080) (by
    rintro _ ⟨i, k, rd, rfl, hi, hk2, hk, hl, hm⟩
    unfold law41_made_L22
    simp only
    by_cases h : 0 < i
    · obtain ⟨v, f1, f0, f2⟩ := next_ok l k 120 (by omega) (by omega) (by omega) (by omega)
      rw [if_pos (dpos (by omega)), f1]
      simp only [obind]
      rw [if_pos (by simp only [List.length_cons, List.length_nil]; omega), wr_id (n := a - 30) (by omega) (by omega), wr_id (n := a - 30 + v) (by omega) (by omega), wr_id (n := (i : Int) - 1) (by omega) (by omega)]
      refine .inl ⟨_, rfl, ⟨i - 1, _, _, by rw [show (i : Int) - 1 = ((i - 1 : Nat) : Int) by omega], by omega, by omega, by omega, by simp only [List.length_append, List.length_cons, List.length_nil]; omega, fun x hx => ?_⟩, by simp only; omega⟩
      rcases List.mem_append.1 hx with hx | hx
      · exact hm x hx
      · rw [List.mem_singleton] at hx
        subst hx
        split <;> omega
    · rw [if_neg (dneg (by omega))]
      exact .inr ⟨_, rfl, by simp only; omega, by simp only; omega, by simp only; omega, hm⟩) (k0 + 1 + 1 + 1 + 1 + 1, ([] : List Int), (n : Int)) ⟨n, _, _, rfl, by omega, by omega, by omega, by simp; omega, fun x hx => by cases hx⟩ (by simp only; omega)
  rw [h1]
  obtain ⟨k', rd⟩ := d
  obtain ⟨g1, g2, g3, g4⟩ := h2
  simp only at g1 g2 g3 g4
  simp only [obind]
  rw [wr_id (n := a + b) (by omega) (by omega)]
  exact ⟨_, _, _, _, _, _, rfl, ⟨g4, by omega, by omega, by omega, by omega, by omega⟩, g1, g2⟩

theorem connExact_ok (l : List Int) (P L : Int) (rd : List Int) (mi ms p2 : Int) : law41_ConnectionExact l P L rd mi ms p2 = some true := by
  unfold law41_ConnectionExact gen_New
  simp only [obind]
  obtain ⟨d, h1, h2⟩ := loop_inv (step := law41_ConnectionExact_L10 p2 (l, 0)) (fun s => ∃ (i : Nat) (k : Int), s = (k, (i : Int)) ∧ i ≤ 4 ∧ 0 ≤ k ∧ k ≤ 2000 * i) (fun s => 4 - s.2.toNat) (fun d => d = .inr ()) (by
    rintro _ ⟨i, k, rfl, hi, hk0, hk⟩
    unfold law41_ConnectionExact_L10
    simp only
    by_cases h : i < 4
    · rw [if_pos (dpos (by omega))]
      obtain ⟨P, L, rd, mi, ms, k', g1, hc, g2, g3⟩ := made_at l k hk0 (by omega)
      have hn := hc.n
      rw [g1]
      simp only [obind]
      have hJ : ∀ (k2 P L : Int) (rd : List Int) (mi ms : Int), 0 ≤ k2 → k2 ≤ k + 1900 → rd.length < 4611686018427387904 → ∃ s', law41_ConnectionExact_J18 p2 (l, 0) (i : Int) k2 P L rd mi ms = some (.next s') ∧ (∃ (i : Nat) (k : Int), s' = (k, (i : Int)) ∧ i ≤ 4 ∧ 0 ≤ k ∧ k ≤ 2000 * i) ∧ 4 - s'.2.toNat < 4 - ((i : Int)).toNat := by
        intro k2 P L rd mi ms q0 q1 q2
        unfold law41_ConnectionExact_J18
        obtain ⟨v, e1, _, _⟩ := next_ok l k2 70 (by omega) (by omega) (by omega) (by omega)
        rw [e1]
        simp only [obind]
        rw [exact41_ok _ _ _ _ _ _ q2]
        simp only [obind, Bool.not_true, Bool.false_eq_true, if_false]
        rw [exact41_ok _ _ _ _ _ _ q2]
        simp only [obind, Bool.not_true, Bool.false_eq_true, if_false]
        rw [wr_id (n := (i : Int) + 1) (by omega) (by omega)]
        exact ⟨_, rfl, ⟨i + 1, _, rfl, by omega, by omega, by omega⟩, by simp only; omega⟩
      by_cases h3 : ((i : Int) == 3) = true
      · rw [if_pos h3]
        obtain ⟨v1, e1, _⟩ := pick_ok l k' [P, -1, IntKind.i64.wrap (L + 1)] (by omega) (by omega) (by simp) (by simp)
        obtain ⟨v2, e2, _⟩ := pick_ok l (k' + 1) [L, 10080, 10081] (by omega) (by omega) (by simp) (by simp)
        rw [e1]
        simp only [obind]
        rw [e2]
        simp only [obind]
        unfold law41_ConnectionExact_J19
        obtain ⟨v3, e3, _⟩ := pick_ok l (k' + 1 + 1) [0, -1, 1000000, 1000001] (by omega) (by omega) (by simp) (by simp)
        obtain ⟨v4, e4, _⟩ := pick_ok l (k' + 1 + 1 + 1) [0, -1, 1000000, 1000001] (by omega) (by omega) (by simp) (by simp)
        obtain ⟨v5, e5, _⟩ := pick_ok l (k' + 1 + 1 + 1 + 1) [0, -1, 10080, 10081] (by omega) (by omega) (by simp) (by simp)
        rw [e3]
        simp only [obind]
        rw [e4]
        simp only [obind]
        rw [e5]
        simp only [obind]
        rw [if_pos (by simp only [List.length_cons, List.length_nil]; omega)]
        obtain ⟨s', f1, f2, f3⟩ := hJ _ v1 v2 (rd ++ [v5]) v3 v4 (show 0 ≤ k' + 1 + 1 + 1 + 1 + 1 by omega) (by omega) (by simp only [List.length_append, List.length_cons, List.length_nil]; omega)
        exact .inl ⟨s', f1, f2, f3⟩
      · rw [if_neg h3]
        obtain ⟨s', f1, f2, f3⟩ := hJ k' P L rd mi ms (by omega) (by omega) (by omega)
        exact .inl ⟨s', f1, f2, f3⟩
    · rw [if_neg (dneg (by omega))]
      exact .inr ⟨_, rfl, rfl⟩) (0, 0) ⟨0, 0, rfl, by omega, by omega, by omega⟩ (by simp)
  rw [h1, h2]
  simp only [obind]
  by_cases h : (rd.length : Int) > 200
  · rw [if_pos (dpos h)]
  · rw [if_neg (dneg h), exact41_ok _ _ _ _ _ _ (by omega)]
    simp only [obind, if_true]
    rw [sane41_ok]
    rfl
end Go.Proofs.Ytdjadgodphfihaa
