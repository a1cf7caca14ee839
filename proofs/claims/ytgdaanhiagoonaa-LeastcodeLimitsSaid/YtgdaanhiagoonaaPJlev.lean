/- Plain laws: the levels of items. No condition beyond those of each theorem. -/
import Derived.Test.YtgdaanhiagoonaaPJrel
set_option linter.unusedVariables false
set_option linter.unusedSimpArgs false
set_option linter.unusedSectionVars false
set_option maxRecDepth 100000
namespace Go.Proofs.Ytgdaanhiagoonaa
open Go Go.V Go.Proofs

theorem relation_ok (its : List Item) (wt : Int) (x y : Nat) (hx : x < its.length) (hy : y < its.length) : job_relation its wt (x : Int) (y : Int) = some (rel its x y) := by
  unfold job_relation rel
  rw [idx_nat, idx_nat, List.getElem?_eq_getElem hx, List.getElem?_eq_getElem hy]
  simp only [Option.bind_some]
  generalize its[x] = a
  generalize its[y] = b
  unfold job_relation_J4 job_relation_J9 relI
  by_cases h1 : a.1 = b.1
  · by_cases h2 : a.2.1 ≥ b.2.1
    · simp [h1, h2]
    · by_cases h3 : y < x
      · have h3' : (y : Int) < x := by omega
        have h2' : ¬ b.2.1 ≤ a.2.1 := by omega
        simp [h1, h2', h3]
      · have h2' : ¬ b.2.1 ≤ a.2.1 := by omega
        simp [h1, h2', h3]
  · simp [h1]

theorem byBlock_ok (its : List Item) (wt : Int) (hl : its.length ≤ 1000) (hb : ∀ i, 0 ≤ bOf its i ∧ bOf its i ≤ 31) :
    ∃ ys : List Int, job_byBlock its wt = some ys ∧ ys.Perm ((List.range its.length).map fun (x : Nat) => (x : Int)) ∧ ys.Pairwise (fun a b => bOf its a.toNat ≤ bOf its b.toNat) := by
  unfold job_byBlock
  rw [if_pos (by omega)]
  obtain ⟨d, h1, h2⟩ := loop_inv (step := job_byBlock_L7 its) (fun s => ∃ (i : Nat) (d : List Int), s = (d, (i : Int)) ∧ i ≤ its.length ∧ d.length = its.length ∧ ∀ j : Nat, j < i → d[j]? = some (j : Int)) (fun s => its.length - s.2.toNat)
    (fun d => d = (List.range its.length).map fun (x : Nat) => (x : Int)) (by
    rintro _ ⟨i, d, rfl, hi, hd, hj⟩
    unfold job_byBlock_L7
    simp only [List.length_replicate, Int.toNat_natCast]
    by_cases h : i < its.length
    · rw [if_pos (dpos (by omega)), idx_nat, List.getElem?_eq_getElem (by omega)]
      simp only [Option.bind_some]
      rw [wr_id (by omega) (by omega)]
      refine .inl ⟨_, rfl, ⟨i + 1, _, rfl, by omega, by simp [hd], fun j hji => ?_⟩, by simp only; omega⟩
      rw [List.getElem?_set]
      by_cases e : i = j
      · subst e; rw [if_pos rfl, if_pos (by omega)]
      · rw [if_neg e]; exact hj j (by omega)
    · rw [if_neg (dneg (by omega))]
      refine .inr ⟨_, rfl, ?_⟩
      have hi' : i = its.length := by omega
      subst hi'
      apply List.ext_getElem? 
      intro j
      by_cases hjl : j < its.length
      · rw [hj j hjl]; simp [hjl]
      · rw [List.getElem?_eq_none (by omega), List.getElem?_eq_none (by simp; omega)]) ((List.replicate (Int.toNat ((its.length : Nat) : Int)) 0 : List Int), 0) ⟨0, _, rfl, by omega, by simp, fun j h => by omega⟩ (by simp; omega)
  rw [h1]
  subst h2
  simp only [Option.bind_some]
  obtain ⟨ys, h3, h4, h5⟩ := sortF_spec (cmp := fun sx sy => job_byBlock_1 sx sy its wt) (xs := (List.range its.length).map fun (x : Nat) => (x : Int)) (fun a => bOf its a.toNat) (by simp; omega) (by
    intro x hx y hy
    simp only [List.mem_map, List.mem_range] at hx hy
    obtain ⟨x, hx, rfl⟩ := hx
    obtain ⟨y, hy, rfl⟩ := hy
    unfold job_byBlock_1
    have hbx := hb x
    have hby := hb y
    rw [idx_nat, idx_nat, List.getElem?_eq_getElem hx, List.getElem?_eq_getElem hy]
    simp only [Option.bind_some, Int.toNat_natCast]
    simp only [bOf, List.getElem?_eq_getElem hx, List.getElem?_eq_getElem hy] at hbx hby ⊢
    rw [wr_id (by omega) (by omega)])
  exact ⟨ys, by rw [h3]; rfl, h4, h5⟩

theorem levels_ok (its : List Item) (wt : Int) (hl : its.length ≤ 1000) (hb : ∀ i, 0 ≤ bOf its i ∧ bOf its i ≤ 31) : ∃ v, job_levels its wt = some v ∧ IsLev its v ∧ LevB its v := by
  obtain ⟨ys, e1, hp, hs⟩ := byBlock_ok its wt hl hb
  have hys : ∀ y ∈ ys, ∃ n : Nat, y = (n : Int) ∧ n < its.length := by
    intro y hy
    have := hp.mem_iff.1 hy
    simp only [List.mem_map, List.mem_range] at this
    obtain ⟨n, h1, rfl⟩ := this
    exact ⟨n, rfl, h1⟩
  have hlen : ys.length = its.length := by rw [hp.length_eq]; simp
  have hall : ∀ n, n < its.length → (n : Int) ∈ ys := fun n hn => hp.mem_iff.2 (by simp only [List.mem_map, List.mem_range]; exact ⟨n, hn, rfl⟩)
  have hnd : ys.Nodup := by
    refine hp.symm.nodup ?_
    rw [List.nodup_iff_pairwise_ne, List.pairwise_map]
    exact List.Pairwise.imp (fun h => by omega) (List.nodup_iff_pairwise_ne.1 List.nodup_range)
  unfold job_levels
  rw [if_pos (by omega), e1]
  simp only [Option.bind_some]
  obtain ⟨v, h1, h2⟩ := loop_inv (step := job_levels_L9 its wt ys) (fun s => ∃ (i : Nat) (d : List Int), s = (d, (i : Int)) ∧ i ≤ its.length ∧ d.length = its.length ∧ LevB its d ∧
      (∀ (j y : Nat), j < i → ys[j]? = some (y : Int) → d.getD y 0 = need its d y) ∧ (∀ (j y : Nat), i ≤ j → ys[j]? = some (y : Int) → d.getD y 0 = 0)) (fun s => its.length - s.2.toNat)
    (fun d => IsLev its d ∧ LevB its d) (by
    rintro _ ⟨i, d, rfl, hi, hd, hB, hdone, hzero⟩
    unfold job_levels_L9
    simp only
    by_cases h : i < its.length
    · have hyi : ys[i]? = some ys[i] := List.getElem?_eq_getElem (by omega)
      obtain ⟨y, hy, hyl⟩ := hys ys[i] (List.getElem_mem _)
      rw [hy] at hyi
      rw [if_pos (dpos (by omega)), idx_nat, hyi]
      simp only [Option.bind_some]
      have hz0 := hzero i y (Nat.le_refl _) hyi
      obtain ⟨d', g1, g2⟩ := loop_inv (step := job_levels_L13 its wt (y : Int)) (fun s => ∃ k : Nat, s = (d.set y (needU its d y k), (k : Int)) ∧ k ≤ its.length) (fun s => its.length - s.2.toNat)
        (fun d' => d' = d.set y (need its d y)) (by
        rintro _ ⟨k, rfl, hk⟩
        unfold job_levels_L13
        simp only
        by_cases hkl : k < its.length
        · rw [if_pos (dpos (by omega)), relation_ok its wt k y hkl hyl]
          simp only [Option.bind_some]
          have hnb := need_le hb hB y k
          by_cases hr : rel its k y > 0
          · have hky : k ≠ y := fun e => by subst e; have := (rel_blk hr).1; omega
            have hlen2 : (d.set y (needU its d y k)).length = its.length := by simp [hd]
            have q1 : idx (d.set y (needU its d y k)) (y : Int) = some (needU its d y k) := by
              rw [idx_getD (by omega), getD_set, if_pos ⟨rfl, by omega⟩]
            have q2 : idx (d.set y (needU its d y k)) (k : Int) = some (d.getD k 0) := by
              rw [idx_getD (by omega), getD_set, if_neg (fun h => hky h.1.symm)]
            have hdk := hB k
            have hbk := hb k
            have hrr := rel_range its k y
            rw [if_pos (dpos hr), q1, q2]
            simp only [Option.bind_some]
            rw [wr_id (n := d.getD k 0 + rel its k y) (by omega) (by omega), wr_id (n := d.getD k 0 + rel its k y - 1) (by omega) (by omega), wr_id (n := (k : Int) + 1) (by omega) (by omega), Int.toNat_natCast, List.set_set]
            refine .inl ⟨_, rfl, ⟨k + 1, ?_, by omega⟩, by simp only; omega⟩
            simp only [needU, if_pos hr]
            rfl
          · rw [if_neg (dneg hr), wr_id (by omega) (by omega)]
            refine .inl ⟨_, rfl, ⟨k + 1, ?_, by omega⟩, by simp only; omega⟩
            simp only [needU, if_neg hr]
            rfl
        · rw [if_neg (dneg (by omega))]
          have : k = its.length := by omega
          subst this
          exact .inr ⟨_, rfl, rfl⟩) (d, 0) ⟨0, by
            have : d.set y 0 = d := by
              apply List.ext_getElem? 
              intro j
              rw [List.getElem?_set]
              by_cases e : y = j
              · subst e
                rw [if_pos rfl, if_pos (by omega)]
                rw [List.getD_eq_getElem?_getD, List.getElem?_eq_getElem (by omega)] at hz0
                rw [List.getElem?_eq_getElem (by omega)]
                simp only [Option.getD_some] at hz0
                rw [hz0]
              · rw [if_neg e]
            simp only [needU, this]; rfl, by omega⟩ (by simp; omega)
      rw [g1]
      subst g2
      simp only [Option.bind_some]
      rw [wr_id (by omega) (by omega)]
      have hnl := need_le hb hB y its.length
      have hsame : ∀ z : Nat, (∀ x, rel its x z > 0 → x ≠ y) → need its (d.set y (need its d y)) z = need its d z := fun z hz => need_congr fun x hr => by
        rw [getD_set, if_neg (fun h => hz x hr h.1.symm)]
      refine .inl ⟨_, rfl, ⟨i + 1, _, rfl, by omega, by simp [hd], fun z => ?_, fun j z hj hz => ?_, fun j z hj hz => ?_⟩, by simp only; omega⟩
      · rw [getD_set]
        split
        · rename_i hh
          rw [← hh.1]
          exact hnl
        · exact hB z
      · have hkey : ∀ x, rel its x z > 0 → x ≠ y := by
          intro x hr hxy
          subst hxy
          have hlt := (rel_blk hr).1
          by_cases hji : j < i
          · have h3 := List.pairwise_iff_getElem.1 hs j i (by omega) (by omega) hji
            have e3 : ys[j]'(by omega) = (z : Int) := by rw [List.getElem?_eq_getElem (by omega)] at hz; exact Option.some.inj hz
            rw [e3, hy] at h3
            simp only [Int.toNat_natCast] at h3
            omega
          · have : j = i := by omega
            subst this
            rw [hyi] at hz
            have : x = z := by have := Option.some.inj hz; omega
            subst this
            omega
        rw [hsame z hkey]
        by_cases hji : j < i
        · have hne : y ≠ z := by
            intro e
            subst e
            have h3 := List.pairwise_iff_getElem.1 (List.nodup_iff_pairwise_ne.1 hnd) j i (by omega) (by omega) hji
            have e3 : ys[j]'(by omega) = (y : Int) := by rw [List.getElem?_eq_getElem (by omega)] at hz; exact Option.some.inj hz
            exact h3 (by rw [e3, hy])
          rw [getD_set, if_neg (fun h => hne h.1)]
          exact hdone j z hji hz
        · have : j = i := by omega
          subst this
          rw [hyi] at hz
          have : y = z := by have := Option.some.inj hz; omega
          subst this
          rw [getD_set, if_pos ⟨rfl, by omega⟩]
      · have hne : y ≠ z := by
          intro e
          subst e
          have hjl : j < ys.length := (List.getElem?_eq_some_iff.1 hz).1
          have h3 := List.pairwise_iff_getElem.1 (List.nodup_iff_pairwise_ne.1 hnd) i j (by omega) hjl (by omega)
          have e3 : ys[j] = (y : Int) := (List.getElem?_eq_some_iff.1 hz).2
          exact h3 (by rw [e3, hy])
        rw [getD_set, if_neg (fun h => hne h.1)]
        exact hzero j z (by omega) hz
    · rw [if_neg (dneg (by omega))]
      refine .inr ⟨_, rfl, ⟨hd, fun y hy => ?_⟩, hB⟩
      obtain ⟨j, hj, hjy⟩ := List.getElem_of_mem (hall y hy)
      exact hdone j y (by omega) (by rw [List.getElem?_eq_getElem hj, hjy])) ((List.replicate (Int.toNat ((its.length : Nat) : Int)) 0 : List Int), 0)
      ⟨0, _, rfl, by omega, by simp, fun y => by
        have : (List.replicate (Int.toNat ((its.length : Nat) : Int)) 0 : List Int).getD y 0 = 0 := by
          rw [List.getD_eq_getElem?_getD, List.getElem?_replicate]; split <;> rfl
        rw [this]; exact ⟨Int.le_refl 0, (hb y).1⟩, fun j y h => by omega, fun j y _ _ => by
        rw [List.getD_eq_getElem?_getD, List.getElem?_replicate]; split <;> rfl⟩ (by simp; omega)
  rw [h1]
  exact ⟨v, rfl, h2⟩
end Go.Proofs.Ytgdaanhiagoonaa
