/- Plain law of JobTrains: the levels of a train do not depend on the items of other trains. No condition. -/
import Derived.Test.YtacimonplnlmgaaPJsane
import Derived.Test.YtacimonplnlmgaaGJobTrains
set_option linter.unusedVariables false
set_option linter.unusedSectionVars false
set_option linter.unusedSimpArgs false
set_option maxRecDepth 100000
namespace Go.Proofs.Ytacimonplnlmgaa
open Go Go.V Go.Proofs

theorem JobGood.mono {its : List Item} {wt : Int} (hg : JobGood its wt) : ∀ (d i : Nat) (x y : Item), its[i]? = some x → its[i + d]? = some y → x.2.2.1 ≤ y.2.2.1
  | 0, i, x, y, hx, hy => by rw [Nat.add_zero, hx] at hy; cases hy; exact Int.le_refl _
  | d + 1, i, x, y, hx, hy => by
    have hl := (List.getElem?_eq_some_iff.1 hy).1
    have hz : its[i + d]? = some its[i + d] := List.getElem?_eq_getElem (by omega)
    have h1 := hg.mono d i x _ hx hz
    have h2 := hg.asc (i + d) _ y hz hy
    omega

def trn (its : List Item) (n : Int) (i : Nat) : Bool := (its.getD i (0, 0, 0, 0)).1 == n
def pos (its : List Item) (n : Int) (m : Nat) : List Nat := (List.range m).filter (trn its n)
def fIt (its : List Item) (n : Int) (m : Nat) : List Item := (pos its n m).map fun i => its.getD i (0, 0, 0, 0)
def fLv (its : List Item) (v : List Int) (n : Int) (m : Nat) : List Int := (pos its n m).map fun i => v.getD i 0

theorem pos_succ (its : List Item) (n : Int) (m : Nat) : pos its n (m + 1) = pos its n m ++ if trn its n m = true then [m] else [] := by
  unfold pos
  rw [List.range_succ, List.filter_append]
  by_cases h : trn its n m = true <;> simp [h]
theorem pos_len (its : List Item) (n : Int) (m : Nat) : (pos its n m).length ≤ m := by
  unfold pos
  have := List.length_filter_le (trn its n) (List.range m)
  simpa using this
theorem pos_mem {its : List Item} {n : Int} {m i : Nat} : i ∈ pos its n m ↔ i < m ∧ trn its n i = true := by
  unfold pos
  rw [List.mem_filter, List.mem_range]
theorem pos_lt (its : List Item) (n : Int) (m : Nat) : (pos its n m).Pairwise (· < ·) := List.Pairwise.filter _ List.pairwise_lt_range
theorem getD_of {its : List Item} {i : Nat} {x : Item} (h : its[i]? = some x) : its.getD i (0, 0, 0, 0) = x := by rw [List.getD_eq_getElem?_getD, h]; rfl

section
variable {its : List Item} {wt : Int} (hg : JobGood its wt) {v : List Int} (hv : IsLev its v) (hB : LevB its v) (n : Int)
include hg

/-- The item at place i of a train. -/
theorem fIt_get (i : Nat) (x : Item) (h : (fIt its n its.length)[i]? = some x) : ∃ p, (pos its n its.length)[i]? = some p ∧ its[p]? = some x ∧ p < its.length ∧ x.1 = n := by
  unfold fIt at h
  rw [List.getElem?_map] at h
  cases hp : (pos its n its.length)[i]? with
  | none => rw [hp] at h; cases h
  | some p =>
    rw [hp] at h
    simp only [Option.map_some, Option.some.injEq] at h
    obtain ⟨h1, h2⟩ := pos_mem.1 (List.mem_of_getElem? hp)
    have hx : its[p]? = some its[p] := List.getElem?_eq_getElem h1
    rw [getD_of hx] at h
    unfold trn at h2
    rw [getD_of hx] at h2
    subst h
    exact ⟨p, rfl, hx, h1, by simpa using h2⟩

theorem fIt_good : JobGood (fIt its n its.length) wt := by
  refine ⟨?_, hg.w, fun i x hx => ?_, fun i x y hx hy => ?_⟩
  · have := pos_len its n its.length
    have := hg.len
    unfold fIt
    rw [List.length_map]; omega
  · obtain ⟨p, _, h, _, _⟩ := fIt_get hg n i x hx
    exact hg.it p x h
  · obtain ⟨p, hp, h, hpl, _⟩ := fIt_get hg n i x hx
    obtain ⟨q, hq, h', hql, _⟩ := fIt_get hg n (i + 1) y hy
    obtain ⟨l1, e1⟩ := List.getElem?_eq_some_iff.1 hp
    obtain ⟨l2, e2⟩ := List.getElem?_eq_some_iff.1 hq
    have := List.pairwise_iff_getElem.1 (pos_lt its n its.length) i (i + 1) l1 l2 (by omega)
    rw [e1, e2] at this
    exact hg.mono (q - p) p x y h (by rw [show p + (q - p) = q by omega]; exact h')

theorem fIt_rel (a b : Nat) {p q : Nat} (hp : (pos its n its.length)[a]? = some p) (hq : (pos its n its.length)[b]? = some q) : rel (fIt its n its.length) a b = rel its p q := by
  obtain ⟨h1, _⟩ := pos_mem.1 (List.mem_of_getElem? hp)
  obtain ⟨h2, _⟩ := pos_mem.1 (List.mem_of_getElem? hq)
  have e1 : (fIt its n its.length)[a]? = its[p]? := by
    unfold fIt
    rw [List.getElem?_map, hp, List.getElem?_eq_getElem h1]
    simp only [Option.map_some]
    rw [getD_of (List.getElem?_eq_getElem h1)]
  have e2 : (fIt its n its.length)[b]? = its[q]? := by
    unfold fIt
    rw [List.getElem?_map, hq, List.getElem?_eq_getElem h2]
    simp only [Option.map_some]
    rw [getD_of (List.getElem?_eq_getElem h2)]
  have hlt : (b < a) ↔ (q < p) := by
    obtain ⟨l1, e1⟩ := List.getElem?_eq_some_iff.1 hp
    obtain ⟨l2, e2⟩ := List.getElem?_eq_some_iff.1 hq
    constructor
    · intro h
      have := List.pairwise_iff_getElem.1 (pos_lt its n its.length) b a l2 l1 h
      rw [e1, e2] at this
      exact this
    · intro h
      rcases Nat.lt_trichotomy a b with h3 | h3 | h3
      · have := List.pairwise_iff_getElem.1 (pos_lt its n its.length) a b l1 l2 h3
        rw [e1, e2] at this
        omega
      · subst h3
        rw [hp] at hq
        have := Option.some.inj hq
        omega
      · exact h3
  unfold rel
  rw [e1, e2]
  cases its[p]? with
  | none => rfl
  | some x =>
    cases its[q]? with
    | none => rfl
    | some y =>
      simp only [relI, hlt]

include hv hB in
theorem fLv_lev : IsLev (fIt its n its.length) (fLv its v n its.length) := by
  have hfl : (fIt its n its.length).length = (pos its n its.length).length := by unfold fIt; rw [List.length_map]
  have hgd : ∀ a p, (pos its n its.length)[a]? = some p → (fLv its v n its.length).getD a 0 = v.getD p 0 := fun a p hp => by
    unfold fLv
    rw [List.getD_eq_getElem?_getD, List.getElem?_map, hp]; rfl
  refine ⟨by unfold fLv; rw [List.length_map, hfl], fun y hy => ?_⟩
  rw [hfl] at hy
  have hq : (pos its n its.length)[y]? = some (pos its n its.length)[y] := List.getElem?_eq_getElem hy
  generalize (pos its n its.length)[y] = q at hq
  obtain ⟨hql, hqt⟩ := pos_mem.1 (List.mem_of_getElem? hq)
  rw [hgd y q hq]
  have hvq : v.getD q 0 = needU its v q its.length := hv.eq q hql
  refine Int.le_antisymm ?_ ?_
  · rw [hvq]
    rcases needU_at its v q its.length with h0 | ⟨x, h1, h2, h3⟩
    · rw [h0]; exact needU_nonneg _ _ _ _
    · rcases rel_cases its x q with h4 | ⟨a, b, ha, hb, hab, _, _⟩
      · omega
      · have hxt : trn its n x = true := by
          unfold trn at hqt ⊢
          rw [getD_of hb] at hqt
          rw [getD_of ha, hab]; exact hqt
        obtain ⟨x', hx'l, hx'⟩ := List.getElem_of_mem (pos_mem.2 ⟨h1, hxt⟩ : x ∈ pos its n its.length)
        have hx'' : (pos its n its.length)[x']? = some x := by rw [List.getElem?_eq_getElem hx'l, hx']
        have := needU_ge (fIt its n its.length) (fLv its v n its.length) y (fIt its n its.length).length x' (by rw [hfl]; exact hx'l) (by rw [fIt_rel hg n x' y hx'' hq]; exact h2)
        rw [fIt_rel hg n x' y hx'' hq, hgd x' x hx''] at this
        unfold need
        omega
  · unfold need
    rcases needU_at (fIt its n its.length) (fLv its v n its.length) y (fIt its n its.length).length with h0 | ⟨x', h1, h2, h3⟩
    · rw [h0]; exact (hB q).1
    · rw [hfl] at h1
      have hx : (pos its n its.length)[x']? = some (pos its n its.length)[x'] := List.getElem?_eq_getElem h1
      generalize (pos its n its.length)[x'] = x at hx
      have hxl := (pos_mem.1 (List.mem_of_getElem? hx)).1
      rw [fIt_rel hg n x' y hx hq] at h2 h3
      rw [hgd x' x hx] at h3
      have := needU_ge its v q its.length x hxl h2
      omega
end

theorem JT22_ok {its : List Item} {wt : Int} (hg : JobGood its wt) {v : List Int} (hv : IsLev its v) (k e : Int) (n : Int) :
    loop (law11_JobTrains_L22 ((its, wt), k) (v, e) n) ([], [], 0) = some (fIt its n its.length, fLv its v n its.length) := by
  have hl := hg.len
  obtain ⟨d, h1, h2⟩ := loop_inv (step := law11_JobTrains_L22 ((its, wt), k) (v, e) n) (fun st => ∃ m : Nat, st = (fIt its n m, fLv its v n m, (m : Int)) ∧ m ≤ its.length) (fun st => its.length - st.2.2.toNat)
    (fun d => d = (fIt its n its.length, fLv its v n its.length)) (by
    rintro _ ⟨m, rfl, hm⟩
    unfold law11_JobTrains_L22
    simp only
    by_cases h : m < its.length
    · have hx : its[m]? = some its[m] := List.getElem?_eq_getElem h
      generalize its[m] = x at hx
      have hpl := pos_len its n m
      have l1 : (fIt its n m).length ≤ m := by unfold fIt; rw [List.length_map]; exact hpl
      have l2 : (fLv its v n m).length ≤ m := by unfold fLv; rw [List.length_map]; exact hpl
      rw [if_pos (dpos (by omega)), idx_nat, hx]
      simp only [Option.bind_some]
      rw [wr_id (by omega) (by omega)]
      by_cases ht : x.1 = n
      · have htt : trn its n m = true := by unfold trn; rw [getD_of hx]; simpa using ht
        rw [if_pos (by simpa using ht), if_pos (by simp only [List.length_cons, List.length_nil]; omega), idx_getD (by rw [hv.len]; exact h)]
        simp only [Option.bind_some]
        rw [if_pos (by simp only [List.length_cons, List.length_nil]; omega)]
        refine .inl ⟨_, rfl, ⟨m + 1, ?_, by omega⟩, by simp only; omega⟩
        have e1 : fIt its n (m + 1) = fIt its n m ++ [x] := by
          unfold fIt
          rw [pos_succ, if_pos htt, List.map_append, List.map_cons, List.map_nil, getD_of hx]
        have e2 : fLv its v n (m + 1) = fLv its v n m ++ [v.getD m 0] := by
          unfold fLv
          rw [pos_succ, if_pos htt, List.map_append, List.map_cons, List.map_nil]
        rw [e1, e2]
        rfl
      · have htt : ¬ trn its n m = true := by unfold trn; rw [getD_of hx]; simpa using ht
        rw [if_neg (by simpa using ht)]
        refine .inl ⟨_, rfl, ⟨m + 1, ?_, by omega⟩, by simp only; omega⟩
        have e1 : fIt its n (m + 1) = fIt its n m := by unfold fIt; rw [pos_succ, if_neg htt, List.append_nil]
        have e2 : fLv its v n (m + 1) = fLv its v n m := by unfold fLv; rw [pos_succ, if_neg htt, List.append_nil]
        rw [e1, e2]
        rfl
    · rw [if_neg (dneg (by omega))]
      have : m = its.length := by omega
      subst this
      exact .inr ⟨_, rfl, rfl⟩) ([], [], 0) ⟨0, rfl, by omega⟩ (by simp; omega)
  rw [h1, h2]

theorem jobTrains_ok (l : List Int) : law11_JobTrains l = some true := by
  unfold law11_JobTrains gen_New
  simp only [Option.bind_some]
  obtain ⟨its, wt, k, h1, _, _, _, hg, _⟩ := job_ok l 0 16 (by omega) (by omega)
  obtain ⟨v, h2, _, hv, hB⟩ := Levels_good hg
  have hl := hg.len
  rw [h1]
  simp only [obind]
  rw [h2]
  simp only [obind, bne_self_eq_false, Bool.false_eq_true, if_false, hv.len]
  have h3 := loop_count (law11_JobTrains_L16 ((its, wt), k) (v, 0)) (.inr ()) 0 3 (by omega) (by omega) (fun n _ hn => by
    unfold law11_JobTrains_L16
    simp only
    rw [if_pos (dpos (by omega)), JT22_ok hg hv k 0 n]
    simp only [obind]
    have hf := fIt_good hg (n : Int)
    obtain ⟨u, h4, _, hu, _⟩ := Levels_good hf
    have hlev := fLv_lev hg hv hB (n : Int)
    have e : u = fLv its v n its.length := lev_unique (fun i => (hf.b i).1) hu hlev
    subst e
    rw [h4]
    simp only [obind, bne_self_eq_false, Bool.false_eq_true, if_false]
    have hpl := pos_len its n its.length
    rw [ints_same _ (by unfold fLv; rw [List.length_map]; omega)]
    simp only [obind]
    rw [if_neg (by decide), wr_id (by omega) (by omega)]) (by
    unfold law11_JobTrains_L16
    simp only
    rw [if_neg (dneg (by omega))])
  rw [show ((0 : Nat) : Int) = 0 from rfl] at h3
  rw [h3]
  simp only [obind]
  rw [sane11_ok]
  rfl
end Go.Proofs.Ytacimonplnlmgaa
