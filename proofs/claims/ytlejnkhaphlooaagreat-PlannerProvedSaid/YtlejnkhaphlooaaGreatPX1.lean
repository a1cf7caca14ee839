/- Plain laws of the functions that the statement reaches, text by text. Conditions: those of each theorem. -/
import Derived.Test.YtlejnkhaphlooaaGreatPX0
import Derived.Test.YtlejnkhaphlooaaGreatGlaw17tracks
import Derived.Test.YtlejnkhaphlooaaGreatGlaw17sane
import Derived.Test.YtlejnkhaphlooaaGreatGPlannerProved
set_option linter.unusedVariables false
set_option linter.unusedSimpArgs false
set_option linter.unusedSectionVars false
set_option maxRecDepth 100000
namespace Go.Proofs.YtlejnkhaphlooaaGreat
open Go Go.V Go.Proofs
abbrev Sh := ((List Item × Int) × ((Int × List Int) × List Int) × List Int)
def sh0 : Sh := (([], 0), ((0, []), []), [])
def TrOK (tr : List Int) : Prop := tr.length ≤ 32 ∧ ∀ x ∈ tr, 1 ≤ x ∧ x ≤ 38400
def NoFit (its : List Item) (tr : List Int) (s : Sc) : Prop := ∀ S v, leastcode_Least its s.1 = some ((S, v), 0) → ∃ r, Rfs (ldOf its S v) tr r
theorem pl_step {its : List Item} (h : JobGood its 0) (hN : 12 + trains its ≤ LN) {tr : List Int} (hT : TrOK tr) (e0 : Int) {i : Nat} (hi : i < (insAll (schL its)).length) :
    ∃ w S v c, (insAll (schL its))[i] = scOf its w S v ∧ HasPlan its w S v ∧ leastcode_Least its w = some ((S, v), 0) ∧ Accepts its w S v c ∧ c.length ≤ 41 ∧ certificate_Make its w = some (((S, v), c), 0) ∧
      ((∃ l, assign_Match (ldOf its S v) tr = some (l, [], 0) ∧ Asg (ldOf its S v) tr l ∧ ∀ d, planner_Plan_L10 its tr (insAll (schL its), e0) (d, (i : Int)) = some (.done (.inl (its, w, S, v, c, l, 0)))) ∨
       (∃ q r, assign_Match (ldOf its S v) tr = some (q, r, 14) ∧ Rfs (ldOf its S v) tr r ∧ ∀ d, planner_Plan_L10 its tr (insAll (schL its), e0) (d, (i : Int)) = some (.next (if i = 0 then r else d, ((i + 1 : Nat) : Int))))) := by
  obtain ⟨w, S, v, hw, hs, hP, hl⟩ := schR_mem h (List.getElem_mem hi)
  obtain ⟨c, r, q1, q3, q4, q5, q7, q8, q9, q11⟩ := sheet_ok hP hl hN tr
  have hlen : (insAll (schL its)).length ≤ 4 := by rw [insAll_len _ _ rfl]; exact schL_len its
  have hx : idx (insAll (schL its)) (i : Int) = some (scOf its w S v) := by rw [idx_nat, List.getElem?_eq_getElem hi, hs]
  refine ⟨w, S, v, c, hs, hP, hl, q3, q4, q1, ?_⟩
  rcases q8 hT with ⟨a1, a2, a3⟩ | ⟨a1, a2, a3⟩
  · refine .inl ⟨r.1, by rw [q5, ← a1, ← a2], a3, fun d => ?_⟩
    unfold planner_Plan_L10
    dsimp only
    rw [if_pos (dpos (by omega)), hx]
    simp only [obind]
    rw [show (scOf its w S v).1 = w from rfl, q11, if_neg (by simpa using a2)]
    rfl
  · refine .inr ⟨r.1, r.2.1, by rw [q5, ← a2], a3, fun d => ?_⟩
    unfold planner_Plan_L10
    dsimp only
    rw [if_pos (dpos (by omega)), hx]
    simp only [obind]
    rw [show (scOf its w S v).1 = w from rfl, q11, if_pos (by rw [a2]; decide)]
    simp only [obind]
    rw [a2, if_neg (by decide), if_pos (by decide), lk1 (by omega)]
    by_cases c0 : i = 0
    · subst c0; rfl
    · rw [if_neg (by simpa using c0), if_neg c0]
theorem pl_end {its : List Item} (tr : List Int) (e0 : Int) (d : List Int) : planner_Plan_L10 its tr (insAll (schL its), e0) (d, ((insAll (schL its)).length : Int)) = some (.done (.inr d)) := by
  unfold planner_Plan_L10
  dsimp only
  rw [if_neg (dneg (by omega))]
inductive Planned (its : List Item) (tr : List Int) : Sh → List Int → Int → Prop
  | fits {P : List Sc} {w S : Int} {v c l : List Int} {Q : List Sc} (hL : insAll (schL its) = P ++ scOf its w S v :: Q) (hP : HasPlan its w S v) (hl : leastcode_Least its w = some ((S, v), 0)) (hA : Accepts its w S v c) (hc : c.length ≤ 41)
      (ha : Asg (ldOf its S v) tr l) (hn : ∀ s ∈ P, NoFit its tr s) : Planned its tr (((its, w), ((S, v), c), l)) [] 0
  | room {w S : Int} {v c : List Int} {Q : List Sc} {r : List Int} (hL : insAll (schL its) = scOf its w S v :: Q) (hP : HasPlan its w S v) (hl : leastcode_Least its w = some ((S, v), 0)) (hM : certificate_Make its w = some (((S, v), c), 0))
      (hr : Rfs (ldOf its S v) tr r) (hn : ∀ s ∈ insAll (schL its), NoFit its tr s) : Planned its tr sh0 r 14
theorem nofit_of {its : List Item} {tr : List Int} {w S : Int} {v : List Int} (hl : leastcode_Least its w = some ((S, v), 0)) {r : List Int} (h : Rfs (ldOf its S v) tr r) : NoFit its tr (scOf its w S v) := by
  intro S' v' e
  change leastcode_Least its w = _ at e
  rw [hl] at e
  cases e
  exact ⟨r, h⟩
theorem pl_loop {its : List Item} (h : JobGood its 0) (hN : 12 + trains its ≤ LN) {tr : List Int} (hT : TrOK tr) (hne : schL its ≠ []) (e0 : Int) :
    ∃ d, loop (planner_Plan_L10 its tr (insAll (schL its), e0)) ([], 0) = some d ∧
      ((∃ w S v c l, d = .inl (its, w, S, v, c, l, 0) ∧ Planned its tr ((its, w), ((S, v), c), l) [] 0) ∨ ∃ r, d = .inr r ∧ Planned its tr sh0 r 14) := by
  have hp : 0 < (insAll (schL its)).length := by rw [insAll_len _ _ rfl]; exact List.length_pos_iff.2 hne
  have hlen : (insAll (schL its)).length ≤ 4 := by rw [insAll_len _ _ rfl]; exact schL_len its
  refine loop_inv (step := planner_Plan_L10 its tr (insAll (schL its), e0)) (fun s => ∃ i : Nat, s.2 = (i : Int) ∧ i ≤ (insAll (schL its)).length ∧ (∀ x ∈ (insAll (schL its)).take i, NoFit its tr x) ∧
      (0 < i → ∃ w S v c Q, insAll (schL its) = scOf its w S v :: Q ∧ HasPlan its w S v ∧ leastcode_Least its w = some ((S, v), 0) ∧ certificate_Make its w = some (((S, v), c), 0) ∧ Rfs (ldOf its S v) tr s.1)) (fun s => (insAll (schL its)).length - s.2.toNat) _ ?_ ([], 0) ⟨0, rfl, by omega, fun x hx => by simp at hx, fun q => by omega⟩ (by dsimp only; omega)
  rintro ⟨d, _⟩ ⟨i, rfl, hi, hn, hf⟩
  dsimp only at hf ⊢
  by_cases c : i < (insAll (schL its)).length
  · obtain ⟨w, S, v, cc, h1, h2, h3, h4, h5, h6, ⟨l, _, hl, q⟩ | ⟨_, r, _, hr, q⟩⟩ := pl_step h hN hT e0 c
    · refine .inr ⟨_, q d, .inl ⟨w, S, v, cc, l, rfl, ?_⟩⟩
      refine .fits (P := (insAll (schL its)).take i) (Q := (insAll (schL its)).drop (i + 1)) ?_ h2 h3 h4 h5 hl hn
      rw [← h1, ← List.drop_eq_getElem_cons c, List.take_append_drop]
    · refine .inl ⟨_, q d, ⟨i + 1, rfl, c, fun x hx => ?_, fun _ => ?_⟩, by dsimp only; omega⟩
      · rw [List.take_succ_eq_append_getElem c, List.mem_append] at hx
        rcases hx with hx | hx
        · exact hn x hx
        · rw [List.mem_singleton.1 hx, h1]
          exact nofit_of h3 hr
      · dsimp only
        by_cases c0 : i = 0
        · subst c0
          rw [if_pos rfl]
          refine ⟨w, S, v, cc, (insAll (schL its)).drop 1, ?_, h2, h3, h6, hr⟩
          rw [← h1, ← List.drop_eq_getElem_cons c, List.drop_zero]
        · rw [if_neg c0]
          exact hf (by omega)
  · obtain rfl : i = (insAll (schL its)).length := by omega
    refine .inr ⟨_, pl_end tr e0 d, .inr ⟨d, rfl, ?_⟩⟩
    obtain ⟨w, S, v, cc, Q, h1, h2, h3, h4, h5⟩ := hf hp
    exact .room h1 h2 h3 h4 h5 fun x hx => hn x (by rw [List.take_of_length_le (Nat.le_refl _)]; exact hx)
theorem Plan_ok {its : List Item} (h : JobGood its 0) (hN : 12 + trains its ≤ LN) {tr : List Int} (hT : TrOK tr) :
    ∃ s r e, planner_Plan its tr = some (s, r, e) ∧ ((schL its = [] ∧ s = sh0 ∧ r = [] ∧ e = 15) ∨ (schL its ≠ [] ∧ Planned its tr s r e)) := by
  unfold planner_Plan
  rw [Schemes_ok h]
  simp only [obind]
  unfold schR
  by_cases c : schL its = []
  · rw [if_pos c]
    exact ⟨_, _, _, rfl, .inl ⟨c, rfl, rfl, rfl⟩⟩
  · rw [if_neg c, if_neg (by simp)]
    obtain ⟨d, hd, hd2⟩ := pl_loop h hN hT c 0
    rw [hd]
    simp only [obind]
    rcases hd2 with ⟨w, S, v, cc, l, rfl, q⟩ | ⟨r, rfl, q⟩
    · exact ⟨_, _, _, rfl, .inr ⟨c, q⟩⟩
    · exact ⟨_, _, _, rfl, .inr ⟨c, q⟩⟩
end Go.Proofs.YtlejnkhaphlooaaGreat
set_option linter.unusedVariables false
set_option linter.unusedSimpArgs false
set_option linter.unusedSectionVars false
set_option maxRecDepth 100000
namespace Go.Proofs.YtlejnkhaphlooaaGreat
open Go Go.V Go.Proofs
theorem from_ok (l : List Int) (k a b : Int) (hk : 0 ≤ k) (hk2 : k ≤ 100000000) (hab : a ≤ b) (ha : -1000000 ≤ a) (hb : b ≤ 1000000) : ∃ v, gen_Maker_From l k a b = some (v, k + 1) ∧ a ≤ v ∧ v ≤ b := by
  unfold gen_Maker_From
  rw [wr_id (n := b - a) (by omega) (by omega), wr_id (n := b - a + 1) (by omega) (by omega)]
  obtain ⟨v, e1, e2, e3⟩ := next_ok l k (b - a + 1) hk (by omega) (by omega) (by omega)
  rw [e1]
  simp only [obind]
  rw [wr_id (by omega) (by omega)]
  exact ⟨_, rfl, by omega, by omega⟩
theorem trains_max : ∀ (l : List Item) (m k : Nat), m ≤ k → (∀ x ∈ l, x.1.toNat + 1 ≤ k) → l.foldl (fun m x => max m (x.1.toNat + 1)) m ≤ k
  | [], m, k, hm, h => hm
  | x :: l, m, k, hm, h => by
    have h1 := h x List.mem_cons_self
    exact trains_max l (max m (x.1.toNat + 1)) k (by omega) fun y hy => h y (List.mem_cons_of_mem _ hy)
theorem trains_three {its : List Item} (h : ∀ x ∈ its, x.1 ≤ 2) : 12 + trains its ≤ LN := by
  have h1 : trains its ≤ 3 := trains_max its 0 3 (by omega) fun x hx => by have := h x hx; omega
  unfold LN; omega
theorem made_items (l : List Int) (k n : Int) (hk : 0 ≤ k ∧ k ≤ 10000000) (hn : 0 ≤ n ∧ n ≤ 90) : ∃ its k', gen_Maker_Items l k n = some (its, k') ∧ k ≤ k' ∧ k' ≤ k + 1000 ∧ (its.length : Int) ≤ n ∧ JobGood its 0 ∧ 12 + trains its ≤ LN := by
  obtain ⟨its, k1, e1, q1, q2, q3, q4⟩ := items_ok l k n hk hn
  exact ⟨its, k1, e1, q1, q2, q3, ⟨by omega, by omega, fun i x hx => (q4.it i x hx).1, q4.asc⟩, trains_three fun x hx => by
    obtain ⟨i, hi⟩ := List.getElem?_of_mem hx
    exact (q4.it i x hi).2.2⟩
theorem tracks_ok (l : List Int) (k : Int) (hk : 0 ≤ k ∧ k ≤ 10000000) : ∃ tr k', law17_tracks l k = some (tr, k') ∧ k ≤ k' ∧ k' ≤ k + 20 ∧ 1 ≤ tr.length ∧ tr.length ≤ 10 ∧ ∀ x ∈ tr, 300 ≤ x ∧ x ≤ 4000 := by
  obtain ⟨n, e1, n1, n2⟩ := from_ok l k 1 10 hk.1 (by omega) (by omega) (by omega) (by omega)
  unfold law17_tracks
  rw [e1]
  simp only [obind]
  obtain ⟨d, hd, h1, h2, h3, h4, h5⟩ := loop_inv (step := law17_tracks_L5 l) (fun s => k + 1 ≤ s.1 ∧ s.1 ≤ k + 1 + (n - s.2.2) ∧ (s.2.1.length : Int) = n - s.2.2 ∧ 0 ≤ s.2.2 ∧ s.2.2 ≤ n ∧ ∀ x ∈ s.2.1, 300 ≤ x ∧ x ≤ 4000) (fun s => s.2.2.toNat)
    (fun d => k ≤ d.1 ∧ d.1 ≤ k + 20 ∧ 1 ≤ d.2.length ∧ d.2.length ≤ 10 ∧ ∀ x ∈ d.2, 300 ≤ x ∧ x ≤ 4000) (by
    rintro ⟨e, d, i⟩ ⟨h1, h2, h3, h4, h5, h6⟩
    dsimp only at h1 h2 h3 h4 h5 h6 ⊢
    unfold law17_tracks_L5
    dsimp only
    by_cases hi : i > 0
    · left
      obtain ⟨v, v1, v2⟩ := pick_ok l e [300, 500, 900, 1500, 4000] (by omega) (by omega) (by decide) (by decide)
      have hv : 300 ≤ v ∧ v ≤ 4000 := (by decide : ∀ x ∈ [(300 : Int), 500, 900, 1500, 4000], 300 ≤ x ∧ x ≤ 4000) v v2
      rw [if_pos (dpos hi), v1]
      simp only [obind]
      rw [if_pos (by simp only [List.length_singleton]; omega), wr_id (by omega) (by omega)]
      refine ⟨_, rfl, ⟨by dsimp only; omega, by dsimp only; omega, by dsimp only; rw [List.length_append, List.length_singleton]; omega, by dsimp only; omega, by dsimp only; omega, fun x hx => ?_⟩, by dsimp only; omega⟩
      rcases List.mem_append.1 hx with hx | hx
      · exact h6 x hx
      · rw [List.mem_singleton.1 hx]; exact hv
    · right
      rw [if_neg (dneg hi)]
      exact ⟨_, rfl, by dsimp only; omega, by dsimp only; omega, by dsimp only; omega, by dsimp only; omega, h6⟩) (k + 1, [], n) ⟨by dsimp only; omega, by dsimp only; omega, by simp, by dsimp only; omega, by dsimp only; omega, fun x hx => by simp at hx⟩ (by dsimp only; omega)
  rw [hd]
  simp only [obind]
  exact ⟨_, _, rfl, h1, h2, h3, h4, h5⟩
theorem tr_ok {tr : List Int} (h1 : tr.length ≤ 32) (h2 : ∀ x ∈ tr, 300 ≤ x ∧ x ≤ 38400) : TrOK tr := ⟨h1, fun x hx => by have := h2 x hx; omega⟩
end Go.Proofs.YtlejnkhaphlooaaGreat
set_option linter.unusedVariables false
set_option linter.unusedSimpArgs false
set_option linter.unusedSectionVars false
set_option maxRecDepth 100000
namespace Go.Proofs.YtlejnkhaphlooaaGreat
open Go Go.V Go.Proofs
theorem good_of {its : List Item} {wt : Int} (h : job_Valid its wt = some 0) : JobGood its wt := by
  obtain ⟨e, h1, h2⟩ := jobvalid_spec its wt
  rw [h] at h1
  cases h1
  rcases h2 with ⟨_, h2⟩ | ⟨h2, _⟩
  · exact h2
  · exact absurd rfl h2
theorem Least_none {its : List Item} {wt : Int} (hg : JobGood its wt) (h : ∀ v, ¬ IsLst its wt v) : leastcode_Least its wt = some ((0, []), 15) := by
  obtain ⟨p, h1, h2⟩ := Least_ok hg
  rcases h2 with ⟨v, S, m, hv, _⟩ | ⟨rfl, _⟩
  · exact absurd hv (h v)
  · exact h1
theorem Least_some {its : List Item} {wt : Int} (hg : JobGood its wt) {v : List Int} {m : Nat} {S : Int} (hv : IsLst its wt v) (hm : IsMx v m) (hS : LongSpec m S) : leastcode_Least its wt = some ((S, v), 0) := by
  obtain ⟨p, h1, h2⟩ := Least_ok hg
  rcases h2 with ⟨v', S', m', hv', rfl, hm', hS'⟩ | ⟨_, hs⟩
  · have e := lst_unique (fun i => (hg.b i).1) hv hv'
    subst e
    have e := hm.uniq hm'
    subst e
    rw [h1, long_unique hS hS']
  · exact absurd hv (hs.none (fun i => (hg.b i).1) v)
theorem mx_of {v : List Int} {m : Nat} (h : ∀ x ∈ v, x ≤ (m : Int)) (h2 : m = 0 ∨ (m : Int) ∈ v) : IsMx v m := by
  refine ⟨fun y => ?_, ?_⟩
  · by_cases hy : y < v.length
    · rw [List.getD_eq_getElem?_getD, List.getElem?_eq_getElem hy]
      exact h _ (List.getElem_mem hy)
    · rw [List.getD_eq_getElem?_getD, List.getElem?_eq_none (by omega)]
      show (0 : Int) ≤ m
      omega
  · rcases h2 with h2 | h2
    · exact .inl h2
    · obtain ⟨i, hi, e⟩ := List.getElem_of_mem h2
      exact .inr ⟨i, hi, by rw [List.getD_eq_getElem?_getD, List.getElem?_eq_getElem hi]; exact e⟩
theorem schO_of {its : List Item} {w S : Int} {v : List Int} (hg : JobGood its w) (hl : leastcode_Least its w = some ((S, v), 0)) : schO its w = some (scOf its w S v) := by
  rcases sch_cases hg with ⟨S', v', hP, q0, q⟩ | ⟨_, q0, q⟩
  · rw [hl] at q0
    cases q0
    exact schO_some q
  · rw [hl] at q0
    cases q0
theorem schO_no {its : List Item} {w : Int} (hg : JobGood its w) (hl : leastcode_Least its w = some ((0, []), 15)) : schO its w = none := by
  rcases sch_cases hg with ⟨S', v', hP, q0, q⟩ | ⟨_, q0, q⟩
  · rw [hl] at q0
    cases q0
  · exact schO_none q
def T3 : List Item := [(0, 0, 0, 100), (0, 0, 0, 100), (0, 1, 0, 100)]
theorem T3_good (w : Int) (h : w = 0 ∨ w = 1 ∨ w = 2 ∨ w = 12) : JobGood T3 w := by
  rcases h with rfl | rfl | rfl | rfl <;> exact good_of (by decide +kernel)
theorem T3_least (w : Int) (h : w = 0 ∨ w = 1 ∨ w = 2 ∨ w = 12) : leastcode_Least T3 w = some ((0, [0, 0, 0]), 0) := by
  refine Least_some (T3_good w h) ⟨rfl, ?_⟩ (mx_of (m := 0) (by decide) (.inl rfl)) ⟨0, rfl, by omega, by decide, .inl rfl⟩
  rcases h with rfl | rfl | rfl | rfl <;> decide +kernel
theorem T3_sc : Prod.snd (scOf T3 0 0 [0, 0, 0]) = (0, 3, 1) := by decide +kernel
theorem T3_sc' (w : Int) : scOf T3 w 0 [0, 0, 0] = (w, 0, 3, 1) := by
  have h := T3_sc
  unfold scOf at *
  rw [← h]
theorem T3_all : schL T3 = [(0, 0, 3, 1), (1, 0, 3, 1), (2, 0, 3, 1), (12, 0, 3, 1)] := by
  have h0 := schO_of (T3_good 0 (by simp)) (T3_least 0 (by simp))
  have h1 := schO_of (T3_good 1 (by simp)) (T3_least 1 (by simp))
  have h2 := schO_of (T3_good 2 (by simp)) (T3_least 2 (by simp))
  have h3 := schO_of (T3_good 12 (by simp)) (T3_least 12 (by simp))
  rw [T3_sc'] at h0 h1 h2 h3
  unfold schL ws4
  rw [List.filterMap_cons_some h0, List.filterMap_cons_some h1, List.filterMap_cons_some h2, List.filterMap_cons_some h3, List.filterMap_nil]
theorem T3_schemes : planner_Schemes T3 = some ([(0, 0, 3, 1), (1, 0, 3, 1), (2, 0, 3, 1), (12, 0, 3, 1)], 0) := by
  rw [Schemes_ok (T3_good 0 (.inl rfl))]
  unfold schR
  rw [T3_all, if_neg (by simp)]
  exact congrArg some (congrArg (fun x => (x, (0 : Int))) (by decide +kernel))
def T4 : List Item := [(0, 1, 0, 100), (0, 3, 0, 100), (0, 0, 0, 100), (0, 2, 0, 100)]
theorem T4_good (w : Int) (h : w = 0 ∨ w = 1 ∨ w = 2 ∨ w = 12) : JobGood T4 w := by
  rcases h with rfl | rfl | rfl | rfl <;> exact good_of (by decide +kernel)
theorem T4_least (w : Int) (h : w = 1 ∨ w = 2 ∨ w = 12) : leastcode_Least T4 w = some ((2, [1, 2, 0, 1]), 0) := by
  refine Least_some (T4_good w (.inr h)) ⟨rfl, ?_⟩ (mx_of (m := 2) (by decide) (.inr (by decide))) ⟨2, rfl, by omega, by decide, .inr (by decide)⟩
  rcases h with rfl | rfl | rfl <;> decide +kernel
theorem T4_none : leastcode_Least T4 0 = some ((0, []), 15) := by
  refine Least_none (T4_good 0 (.inl rfl)) fun v hv => ?_
  have e2 : need T4 v 2 = 0 := rfl
  have h2 := hv.eq 2 (by decide)
  rw [e2, show NX 0 (rOf T4 2) 0 = (0, 0) by decide +kernel] at h2
  have h2' : v.getD 2 0 = 0 := (congrArg Prod.fst h2).symm
  have e0 : need T4 v 0 = if v.getD 2 0 + 2 - 1 > 0 then v.getD 2 0 + 2 - 1 else 0 := rfl
  rw [h2'] at e0
  have h0 := hv.eq 0 (by decide)
  rw [e0, show NX (if (0 : Int) + 2 - 1 > 0 then 0 + 2 - 1 else 0) (rOf T4 0) 0 = (0, 15) by decide +kernel] at h0
  exact absurd (show (15 : Int) = 0 from congrArg Prod.snd h0) (by decide)
theorem T4_sc : Prod.snd (scOf T4 0 2 [1, 2, 0, 1]) = (2, 7, 3) := by decide +kernel
theorem T4_sc' (w : Int) : scOf T4 w 2 [1, 2, 0, 1] = (w, 2, 7, 3) := by
  have h := T4_sc
  unfold scOf at *
  rw [← h]
theorem T4_all : schL T4 = [(1, 2, 7, 3), (2, 2, 7, 3), (12, 2, 7, 3)] := by
  have h0 := schO_no (T4_good 0 (by simp)) T4_none
  have h1 := schO_of (T4_good 1 (by simp)) (T4_least 1 (by simp))
  have h2 := schO_of (T4_good 2 (by simp)) (T4_least 2 (by simp))
  have h3 := schO_of (T4_good 12 (by simp)) (T4_least 12 (by simp))
  rw [T4_sc'] at h1 h2 h3
  unfold schL ws4
  rw [List.filterMap_cons_none h0, List.filterMap_cons_some h1, List.filterMap_cons_some h2, List.filterMap_cons_some h3, List.filterMap_nil]
theorem T4_ins : insAll (schL T4) = [(1, 2, 7, 3), (2, 2, 7, 3), (12, 2, 7, 3)] := by rw [T4_all]; decide +kernel
theorem T4_ld : ldOf T4 2 [1, 2, 0, 1] = [200, 100, 400] := by decide +kernel
theorem T4_plan {tr : List Int} (hT : TrOK tr) (hl : 3 ≤ tr.length) (hx : ∀ x ∈ tr, 500 ≤ x) : ∃ c l, planner_Plan T4 tr = some (((T4, 1), ((2, [1, 2, 0, 1]), c), l), [], 0) ∧ Accepts T4 1 2 [1, 2, 0, 1] c ∧ Asg (ldOf T4 2 [1, 2, 0, 1]) tr l := by
  have hno : ¬ NoFit T4 tr (1, 2, 7, 3) := fun h => by
    obtain ⟨r, hr⟩ := h _ _ (T4_least 1 (.inl rfl))
    refine nofew_f (fun i => i) (fun i hi h0 => ?_) (fun i j _ _ _ _ e => e) hr.few
    rw [T4_ld] at hi ⊢
    have hi3 : i < 3 := hi
    have h1 : vw tr i ∈ tr := vw_mem (by omega)
    have h2 := hx _ h1
    refine ⟨by omega, ?_⟩
    have : ∀ i, i < 3 → vw [200, 100, 400] i ≤ 500 := by decide
    have := this i hi3
    omega
  obtain ⟨s, r, e, h1, ⟨h2, _⟩ | ⟨_, h2⟩⟩ := Plan_ok (T4_good 0 (.inl rfl)) (by decide) hT
  · rw [T4_all] at h2; cases h2
  · rw [h1]
    cases h2 with
    | @fits P w S v c l Q hL hP hl hA hc ha hn =>
      rw [T4_ins] at hL
      cases P with
      | nil =>
        have hs : (1, 2, 7, 3) = scOf T4 w S v := (List.cons.inj hL).1
        have hw : (1 : Int) = w := congrArg Prod.fst hs
        subst hw
        rw [T4_least 1 (.inl rfl)] at hl
        cases hl
        exact ⟨c, l, rfl, hA, ha⟩
      | cons p P =>
        have hs : (1, 2, 7, 3) = p := (List.cons.inj hL).1
        exact absurd (hs ▸ hn p List.mem_cons_self) hno
    | room hL hP hl hM hr hn =>
      exact absurd (hn _ (by rw [T4_ins]; exact List.mem_cons_self)) hno
theorem sane17 : law17_sane = some true := by
  have h1 : law17_items [0, 0, 1] = some T3 := by decide +kernel
  have h2 : law17_items [1, 3, 0, 2] = some T4 := by decide +kernel
  have h3 : ∃ l, planner_Items ([(([([98] : List UInt8)] : List (List UInt8)))] : List (List (List UInt8))) ([(([51, 49, 56, 48, 50, 55, 55, 51, 49, 50, 51, 55] : List UInt8), 100, 2, 100, 0, 0, false, ([97] : List UInt8))] : List ((List UInt8) × Int × Int × Int × Int × Int × Bool × (List UInt8))) = some (l, 13) := ⟨[], by decide +kernel⟩
  obtain ⟨c, l, h4, _⟩ := T4_plan (tr := [500, 500, 500]) ⟨by decide, by decide⟩ (by decide) (by decide)
  obtain ⟨k, h3⟩ := h3
  unfold law17_sane
  rw [h1]
  simp only [obind]
  rw [T3_schemes]
  simp only [obind]
  rw [h2]
  simp only [obind]
  rw [h4]
  simp only [obind]
  rw [h3]
  simp only [obind]
  rw [if_pos (by decide), if_pos (by decide), show (0 : Int) = ((0 : Nat) : Int) from rfl, idx_nat]
  rfl
end Go.Proofs.YtlejnkhaphlooaaGreat
set_option linter.unusedVariables false
set_option linter.unusedSimpArgs false
set_option maxRecDepth 100000
namespace Go.Proofs.YtlejnkhaphlooaaGreat
open Go Go.V Go.Proofs
theorem items_same (a : List Item) (h : a.length < 4611686018427387904) : gen_Items a a = some true := by
  unfold gen_Items
  rw [if_neg (by simp)]
  have h1 := loop_count (gen_Items_L4 a a) (.inr ()) 0 a.length (by omega) (by omega) (fun i _ hi => by
    unfold gen_Items_L4
    dsimp only
    rw [if_pos (dpos (by omega)), idx_nat, List.getElem?_eq_getElem hi]
    simp only [obind]
    rw [if_neg (by simp), wr_id (by omega) (by omega)]) (by
    unfold gen_Items_L4
    dsimp only
    rw [if_neg (dneg (by omega))])
  rw [show ((0 : Nat) : Int) = 0 from rfl] at h1
  rw [h1]
  rfl
theorem cCheck_ok {its : List Item} {w S : Int} {v c : List Int} (hA : Accepts its w S v c) : certificate_Check its w S v c = some 0 := by
  obtain ⟨e, h1, h2, _⟩ := Check_ok0 its w S v c (by have := hA.1.job.len; omega)
  rw [h1, h2.2 hA]
theorem Check_own {its : List Item} {w S : Int} {v c l tr : List Int} (hA : Accepts its w S v c) (hT : TrOK tr) (ha : Asg (ldOf its S v) tr l) : planner_Check its w S v c l tr = some 0 := by
  have hG := hA.1
  unfold planner_Check
  rw [cCheck_ok hA]
  simp only [obind]
  rw [if_neg (by decide), show rollin_Loads its w S v = some (ldOf its S v, 0) from Loads_ok hG]
  simp only [obind]
  rw [if_neg (by decide), fits_ok ((ldOf_vd hG tr).2 hT) ha]
  rfl
end Go.Proofs.YtlejnkhaphlooaaGreat
set_option linter.unusedVariables false
set_option linter.unusedSimpArgs false
set_option maxRecDepth 100000
namespace Go.Proofs.YtlejnkhaphlooaaGreat
open Go Go.V Go.Proofs
theorem proved_ok (t : List Int) : law17_PlannerProved t = some true := by
  unfold law17_PlannerProved gen_New
  simp only [obind]
  obtain ⟨its, k1, e1, q1, q2, q3, hg, hN⟩ := made_items t 0 12 (by omega) (by omega)
  rw [e1]
  simp only [obind]
  obtain ⟨tr, k2, e2, _, _, _, t4, t5⟩ := tracks_ok t k1 (by omega)
  rw [e2]
  simp only [obind]
  have hT : TrOK tr := tr_ok (by omega) fun x hx => by have := t5 x hx; omega
  obtain ⟨s, r, e, h1, ⟨h2, rfl, rfl, rfl⟩ | ⟨hne, h2⟩⟩ := Plan_ok hg hN hT
  · rw [h1]
    simp only [obind]
    rw [if_neg (by decide), if_pos (by decide), sane17]
    rfl
  · rw [h1]
    simp only [obind]
    cases h2 with
    | @fits P w S v c l Q hL hP hl hA hc ha hn =>
      dsimp only
      rw [if_pos (by decide), if_pos (by decide), Check_own hA hT ha]
      simp only [obind]
      rw [if_pos (by decide), items_same _ (by have := hg.len; omega)]
      simp only [obind]
      rw [if_pos trivial, sane17]
      rfl
    | @room w S v c Q r hL hP hl hM hr hn =>
      obtain ⟨_, _, _, _, hG⟩ := id hP
      have hlen : (insAll (schL its)).length ≤ 4 := by rw [insAll_len _ _ rfl]; exact schL_len its
      have hpos : 0 < (insAll (schL its)).length := by rw [hL]; simp
      rw [if_neg (by decide), if_neg (by decide), Schemes_ok hg]
      unfold schR
      rw [if_neg hne]
      simp only [obind]
      rw [if_neg (by decide), if_neg (by decide), if_neg (by simp; intro q; rw [q] at hpos; simp at hpos), show (0 : Int) = ((0 : Nat) : Int) from rfl, idx_nat, hL, List.getElem?_cons_zero]
      simp only [obind]
      rw [show (scOf its w S v).1 = w from rfl, hM]
      simp only [obind]
      rw [show rollin_Loads its w S v = some (ldOf its S v, 0) from Loads_ok hG]
      simp only [obind]
      have hld := ldOf_len its S v
      have hrl : r.length < 4294967296 := by
        have h1 : r.Nodup := hr.asc.imp fun h => by omega
        have h2 : (r.map Int.toNat).Nodup := by
          refine List.pairwise_map.2 (List.Pairwise.imp_of_mem ?_ hr.asc)
          intro x y hx hy hxy e
          obtain ⟨j, rfl, _, _⟩ := hr.mem x hx
          obtain ⟨k, rfl, _, _⟩ := hr.mem y hy
          omega
        have h3 := len_le _ (List.range (ldOf its S v).length) h2 fun x hx => by
          obtain ⟨y, hy, rfl⟩ := List.mem_map.1 hx
          obtain ⟨j, rfl, h3, _⟩ := hr.mem y hy
          rw [Int.toNat_natCast]
          exact List.mem_range.2 h3
        rw [List.length_map, List.length_range] at h3
        have h4 := ((ldOf_vd hG tr).2 hT).1
        omega
      rw [if_pos (by decide), if_pos (by decide), refuses_ok ((ldOf_vd hG tr).2 hT) hr hrl]
      simp only [obind]
      rw [if_pos trivial, sane17]
      rfl
end Go.Proofs.YtlejnkhaphlooaaGreat
