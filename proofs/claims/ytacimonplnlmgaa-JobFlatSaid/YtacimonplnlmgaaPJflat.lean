/- Plain law of JobFlat: all levels are 0 exactly if no item comes strictly before another one. No condition. -/
import Derived.Test.YtacimonplnlmgaaPJsane
import Derived.Test.YtacimonplnlmgaaGJobFlat
set_option linter.unusedVariables false
set_option linter.unusedSectionVars false
set_option linter.unusedSimpArgs false
set_option maxRecDepth 100000
namespace Go.Proofs.Ytacimonplnlmgaa
open Go Go.V Go.Proofs

/-- Some item has a level above 0 exactly if some item comes strictly before another one. -/
theorem flat_iff {its : List Item} {wt : Int} (hg : JobGood its wt) {v : List Int} (hv : IsLev its v) (hB : LevB its v) :
    (∃ y, y < its.length ∧ v.getD y 0 ≠ 0) ↔ ∃ x y, x < its.length ∧ y < its.length ∧ rel its x y = 2 := by
  constructor
  · rintro ⟨y, hy, h⟩
    have key : ∀ n y, (bOf its y).toNat < n → y < its.length → v.getD y 0 ≠ 0 → ∃ x y, x < its.length ∧ y < its.length ∧ rel its x y = 2 := by
      intro n
      induction n with
      | zero => intro y hy; omega
      | succ n ih =>
        intro y hn hy h
        rw [hv.eq y hy] at h
        rcases needU_at its v y its.length with h0 | ⟨x, h1, h2, h3⟩
        · exact absurd h0 h
        · have hlt := (rel_blk h2).1
          by_cases hx : v.getD x 0 = 0
          · have hne : needU its v y its.length ≠ 0 := h
            rcases rel_range its x y with e | e | e
            · omega
            · rw [hx, e] at h3; omega
            · exact ⟨x, y, h1, hy, e⟩
          · have := (hg.b x).1
            exact ih x (by omega) h1 hx
    exact key _ y (Nat.lt_succ_self _) hy h
  · rintro ⟨x, y, hx, hy, h⟩
    refine ⟨y, hy, ?_⟩
    have h1 := needU_ge its v y its.length x hx (by omega)
    have h2 := (hB x).1
    have h3 : v.getD y 0 = needU its v y its.length := hv.eq y hy
    omega

section
variable {its : List Item} {wt : Int} (hg : JobGood its wt) {v : List Int} (hv : IsLev its v) (hB : LevB its v) (X : (List Item × Int) × Int) (hX : X.1.2 = wt)
include hg hv hX

/-- Some of the first m items comes strictly before y. -/
def strU (its : List Item) (y m : Nat) : Bool := (List.range m).any fun x => rel its x y == 2
/-- Some item comes strictly before one of the first n. -/
def strA (its : List Item) (n : Nat) : Bool := (List.range n).any fun y => strU its y its.length

theorem JF30_ok (y : Nat) (hy : y < its.length) (s : Bool) (e : Int) : loop (law11_JobFlat_L30 X its (v, e) (y : Int)) (s, 0) = some (s || strU its y its.length) := by
  have hl := hg.len
  obtain ⟨d, h1, h2⟩ := loop_inv (step := law11_JobFlat_L30 X its (v, e) (y : Int)) (fun st => ∃ m : Nat, st = (s || strU its y m, (m : Int)) ∧ m ≤ its.length) (fun st => its.length - st.2.toNat)
    (fun d => d = (s || strU its y its.length)) (by
    rintro _ ⟨m, rfl, hm⟩
    unfold law11_JobFlat_L30
    simp only [hv.len, hX]
    by_cases h : m < its.length
    · rw [if_pos (dpos (by omega)), Relation_good hg m y h hy]
      simp only [Option.bind_some]
      have hs : strU its y (m + 1) = (strU its y m || (rel its m y == 2)) := by
        unfold strU
        rw [List.range_succ, List.any_append]
        simp
      rw [wr_id (by omega) (by omega)]
      cases hc : (s || strU its y m) with
      | true =>
        rw [if_pos rfl]
        refine .inl ⟨_, rfl, ⟨m + 1, ?_, by omega⟩, by simp only; omega⟩
        rw [hs, ← Bool.or_assoc, hc]; rfl
      | false =>
        rw [if_neg (by decide)]
        refine .inl ⟨_, rfl, ⟨m + 1, ?_, by omega⟩, by simp only; omega⟩
        rw [hs, ← Bool.or_assoc, hc]; rfl
    · rw [if_neg (dneg (by omega))]
      have : m = its.length := by omega
      subst this
      exact .inr ⟨_, rfl, rfl⟩) (s, 0) ⟨0, by simp [strU], by omega⟩ (by simp; omega)
  rw [h1, h2]

theorem JF25_ok (e : Int) : loop (law11_JobFlat_L25 X its (v, e)) (true, false, 0) = some ((List.range its.length).all (fun y => v.getD y 0 == 0), strA its its.length) := by
  have hl := hg.len
  obtain ⟨d, h1, h2⟩ := loop_inv (step := law11_JobFlat_L25 X its (v, e)) (fun st => ∃ m : Nat, st = ((List.range m).all (fun y => v.getD y 0 == 0), strA its m, (m : Int)) ∧ m ≤ its.length) (fun st => its.length - st.2.2.toNat)
    (fun d => d = ((List.range its.length).all (fun y => v.getD y 0 == 0), strA its its.length)) (by
    rintro _ ⟨m, rfl, hm⟩
    unfold law11_JobFlat_L25 law11_JobFlat_J27
    simp only [hv.len]
    by_cases h : m < its.length
    · rw [if_pos (dpos (by omega))]
      have hs : strA its (m + 1) = (strA its m || strU its m its.length) := by
        unfold strA
        rw [List.range_succ, List.any_append]
        simp
      have ha : (List.range (m + 1)).all (fun y => v.getD y 0 == 0) = ((List.range m).all (fun y => v.getD y 0 == 0) && (v.getD m 0 == 0)) := by
        rw [List.range_succ, List.all_append]
        simp
      have hj := JF30_ok hg hv X hX m h (strA its m) e
      rw [wr_id (by omega) (by omega)]
      cases hc : (List.range m).all (fun y => v.getD y 0 == 0) with
      | true =>
        rw [if_pos rfl, idx_getD (by rw [hv.len]; exact h), hj]
        refine .inl ⟨_, rfl, ⟨m + 1, ?_, by omega⟩, by simp only; omega⟩
        rw [hs, ha, hc]; rfl
      | false =>
        rw [if_neg (by decide), hj]
        refine .inl ⟨_, rfl, ⟨m + 1, ?_, by omega⟩, by simp only; omega⟩
        rw [hs, ha, hc]; rfl
    · rw [if_neg (dneg (by omega))]
      have : m = its.length := by omega
      subst this
      exact .inr ⟨_, rfl, rfl⟩) (true, false, 0) ⟨0, rfl, by omega⟩ (by simp; omega)
  rw [h1, h2]
end

theorem JF12_ok {its : List Item} {wt : Int} (hg : JobGood its wt) (X : (List Item × Int) × Int) (hX : X.1.2 = wt) : law11_JobFlat_J12 X its = some true := by
  unfold law11_JobFlat_J12
  obtain ⟨v, h2, _, hv, hB⟩ := Levels_good hg
  rw [hX, h2]
  simp only [obind, bne_self_eq_false, Bool.false_eq_true, if_false, hv.len]
  rw [JF25_ok hg hv X hX 0]
  simp only [obind]
  have hk : ((List.range its.length).all (fun y => v.getD y 0 == 0) != strA its its.length) = true := by
    have hf := flat_iff hg hv hB
    cases ha : (List.range its.length).all (fun y => v.getD y 0 == 0) with
    | true =>
      have : strA its its.length = false := by
        cases hb : strA its its.length with
        | false => rfl
        | true =>
          simp only [strA, strU, List.any_eq_true, List.mem_range, beq_iff_eq] at hb
          obtain ⟨y, hy, x, hx, hr⟩ := hb
          obtain ⟨z, hz, hne⟩ := hf.2 ⟨x, y, hx, hy, hr⟩
          simp only [List.all_eq_true, List.mem_range, beq_iff_eq] at ha
          exact absurd (ha z hz) hne
      rw [this]; rfl
    | false =>
      have : strA its its.length = true := by
        have : ∃ y, y < its.length ∧ v.getD y 0 ≠ 0 := by
          simp only [List.all_eq_false, List.mem_range, beq_iff_eq] at ha
          exact ha
        obtain ⟨x, y, hx, hy, hr⟩ := hf.1 this
        simp only [strA, strU, List.any_eq_true, List.mem_range, beq_iff_eq]
        exact ⟨y, hy, x, hx, hr⟩
      rw [this]; rfl
  rw [if_pos hk, sane11_ok]
  rfl

/-- The blocks are changed: the job stays valid. -/
theorem JF15_ok {its : List Item} {wt : Int} (hg : JobGood its wt) (h10 : its.length ≤ 10) (X : (List Item × Int) × Int) (hX : X.1.1 = its) :
    ∃ its', loop (law11_JobFlat_L15 X) (its, 0) = some its' ∧ JobGood its' wt := by
  obtain ⟨d, h1, h2⟩ := loop_inv (step := law11_JobFlat_L15 X) (fun st => ∃ (m : Nat) (d : List Item), st = (d, (m : Int)) ∧ m ≤ its.length ∧ d.length = its.length ∧
      (∀ (i : Nat) (x : Item), d[i]? = some x → ∃ y, its[i]? = some y ∧ x.1 = y.1 ∧ (x.2.1 = y.2.1 ∨ (0 ≤ x.2.1 ∧ x.2.1 ≤ 31)) ∧ x.2.2 = y.2.2)) (fun st => its.length - st.2.toNat)
    (fun d => JobGood d wt) (by
    rintro _ ⟨m, d, rfl, hm, hd, hx⟩
    unfold law11_JobFlat_L15
    simp only [hX]
    by_cases h : m < its.length
    · rw [if_pos (dpos (by omega)), idx_nat, List.getElem?_eq_getElem (by omega)]
      simp only [Option.bind_some]
      obtain ⟨y, hy, e1, e2, e3⟩ := hx m _ (List.getElem?_eq_getElem (by omega))
      have hq : Int.tdiv (m : Int) 2 = ((m / 2 : Nat) : Int) := rfl
      rw [hq, wr_id (n := ((m / 2 : Nat) : Int)) (by omega) (by omega), wr_id (n := (m : Int) + 1) (by omega) (by omega), Int.toNat_natCast]
      refine .inl ⟨_, rfl, ⟨m + 1, _, rfl, by omega, by simp [hd], fun i x hi => ?_⟩, by simp only; omega⟩
      rw [List.getElem?_set] at hi
      by_cases e : m = i
      · subst e
        rw [if_pos rfl, if_pos (by omega)] at hi
        have hi := Option.some.inj hi
        subst hi
        exact ⟨y, hy, e1, .inr ⟨by simp only; omega, by simp only; omega⟩, by rw [← e3]⟩
      · rw [if_neg e] at hi
        exact hx i x hi
    · rw [if_neg (dneg (by omega))]
      refine .inr ⟨_, rfl, ⟨by have := hg.len; omega, hg.w, fun i x hi => ?_, fun i x x' hi hi' => ?_⟩⟩
      · obtain ⟨y, hy, e1, e2, e3⟩ := hx i x hi
        obtain ⟨q1, q2, q3, q4⟩ := hg.it i y hy
        refine ⟨by rw [e1]; exact q1, ?_, by rw [e3]; exact q3, by rw [e3]; exact q4⟩
        rcases e2 with e2 | e2
        · rw [e2]; exact q2
        · exact e2
      · obtain ⟨y, hy, _, _, e3⟩ := hx i x hi
        obtain ⟨y', hy', _, _, e3'⟩ := hx (i + 1) x' hi'
        rw [e3, e3']
        exact hg.asc i y y' hy hy') (its, 0) ⟨0, its, rfl, by omega, rfl, fun i x hi => ⟨x, hi, rfl, .inl rfl, rfl⟩⟩ (by simp; omega)
  exact ⟨d, h1, h2⟩

theorem jobFlat_ok (l : List Int) : law11_JobFlat l = some true := by
  unfold law11_JobFlat gen_New
  simp only [Option.bind_some]
  obtain ⟨its, wt, k, h1, hk0, hk, hlen, hg, _⟩ := job_ok l 0 10 (by omega) (by omega)
  rw [h1]
  simp only [obind]
  obtain ⟨u, h3, _, _⟩ := next_ok l k 2 (by omega) (by omega) (by omega) (by omega)
  rw [h3]
  simp only [obind]
  by_cases hu : u = 0
  · rw [if_pos (by simp [hu])]
    obtain ⟨its', h4, hg'⟩ := JF15_ok hg (by omega) ((its, wt), k) rfl
    rw [h4]
    simp only [obind]
    exact JF12_ok hg' ((its, wt), k) rfl
  · rw [if_neg (by simpa using hu)]
    exact JF12_ok hg ((its, wt), k) rfl
end Go.Proofs.Ytacimonplnlmgaa
