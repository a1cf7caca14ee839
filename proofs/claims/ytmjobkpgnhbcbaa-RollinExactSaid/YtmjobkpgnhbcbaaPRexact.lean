/- Plain law of RollinExact: the program and the reference agree. No condition beyond the ranges of the arguments. -/
import Derived.Test.YtmjobkpgnhbcbaaPRloads
import Derived.Test.YtmjobkpgnhbcbaaGRollinExact
set_option linter.unusedVariables false
set_option linter.unusedSectionVars false
set_option maxRecDepth 100000
namespace Go.Proofs.Ytmjobkpgnhbcbaa
open Go Go.V Go.Proofs

theorem lists_ok (a : List (List Int)) (ha : a.length < 4611686018427387904) (hr : ∀ x ∈ a, x.length < 4611686018427387904) : gen_Lists a a = some true := by
  unfold gen_Lists
  rw [if_neg (by simp)]
  have := loop_count (gen_Lists_L4 a a) (.inr ()) 0 a.length (by omega) ha
    (fun x _ hx => by
      have hy : a[x]? = some a[x] := List.getElem?_eq_getElem hx
      unfold gen_Lists_L4
      simp only
      rw [if_pos (dpos (by omega)), idx_nat, hy]
      simp only [Option.bind_some]
      rw [ints_ok _ _ (hr _ (List.getElem_mem hx))]
      simp only [Option.bind_some, decide_true, Bool.not_true, Bool.false_eq_true, if_false]
      rw [wr_id (by omega) (by omega)])
    (by
      unfold gen_Lists_L4
      simp only
      rw [if_neg (dneg (by omega))])
  rw [show (0 : Int) = ((0 : Nat) : Int) from rfl, this]
  rfl

section
variable {items : List Item} {wt S : Int} {codes : List Int} (hg : Good items wt S codes)
include hg

theorem rvalid_ok : r14_Valid items wt S codes = some 0 := by
  have hl := hg.job.len
  obtain ⟨e, _, h1, h2⟩ := valid_spec items wt S codes (by rw [hg.cl]; omega) (by omega)
  rcases h2 with ⟨rfl, _⟩ | ⟨_, h⟩
  · exact h1
  · exact absurd hg h

theorem rtrains_ok : r14_trains items wt = some ((trains items : Nat) : Int) := by
  have hl := hg.job.len
  unfold r14_trains
  obtain ⟨d, h1, h2⟩ := loop_inv (step := r14_trains_L4 items) (fun s => ∃ i : Nat, i ≤ items.length ∧ s = (((trains (items.take i) : Nat) : Int), (i : Int))) (fun s => items.length - s.2.toNat) (fun d => d = ((trains items : Nat) : Int)) (by
    rintro _ ⟨i, hi, rfl⟩
    unfold r14_trains_L4
    simp only
    by_cases hil : i < items.length
    · obtain ⟨it, c, hit, hc, hgd, _⟩ := item_at hg hil
      have e : items.take (i + 1) = items.take i ++ [it] := by rw [List.take_add_one, hit]; rfl
      have q := hgd.1
      rw [if_pos (dpos (by omega)), idx_nat, hit]
      simp only [Option.bind_some]
      rw [wr_id (n := it.1 + 1) (by omega) (by omega), wr_id (n := (i : Int) + 1) (by omega) (by omega)]
      refine .inl ⟨_, rfl, ⟨i + 1, by omega, ?_⟩, by simp only; omega⟩
      rw [e, trains_app]
      congr 1
      split <;> omega
    · rw [if_neg (dneg (by omega))]
      exact .inr ⟨_, rfl, by rw [List.take_of_length_le (by omega)]⟩) (0, 0) ⟨0, by omega, by simp [trains]⟩ (by simp; omega)
  rw [h1, h2]
  rfl

/-- A round of the reference is a round of the program. -/
theorem r14_round (time : Int) (st tr : List (List Int)) (mv pu i : Int) (h : i ≤ time) :
    r14_At_L10 items wt S codes time (st, tr, mv, pu, i) = (rollin_machine_at items wt S codes st tr mv pu i).bind fun x => some (.next (x.2.2.1, x.2.2.2, x.1, x.2.1, IntKind.i64.wrap (i + 1))) := by
  have jn : ∀ (a b : List (List Int)) (c : Int), r14_At_J12 items wt S codes mv pu i a b c = (rollin_machine_at_J6 items wt S codes mv pu i a b c).bind fun x => some (.next (x.2.2.1, x.2.2.2, x.1, x.2.1, IntKind.i64.wrap (i + 1))) := by
    intro a b c
    unfold r14_At_J12 rollin_machine_at_J6
    have e : r14_At_L27 items wt S codes pu i = rollin_machine_at_L21 items wt S codes pu i := rfl
    rw [e]
    cases loop (rollin_machine_at_L21 items wt S codes pu i) (a, b, c, 0) with
    | none => rfl
    | some d =>
      obtain ⟨d1, d2, d3⟩ := d
      simp only [Option.bind_some]
      by_cases h : d3 > mv
      · rw [if_pos (dpos h), if_pos (dpos h)]; rfl
      · rw [if_neg (dneg h), if_neg (dneg h)]; rfl
  unfold r14_At_L10 rollin_machine_at
  simp only
  rw [if_pos (dpos h)]
  by_cases h0 : i > 0
  · rw [if_pos (dpos h0), if_pos (dpos h0)]
    cases idx st (IntKind.i64.wrap (i - 1)) with
    | none => rfl
    | some r =>
      simp only [Option.bind_some]
      have e : r14_At_L20 items wt S codes pu i r = rollin_machine_at_L14 items wt S codes pu i r := rfl
      rw [e]
      cases loop (rollin_machine_at_L14 items wt S codes pu i r) (st.set (Int.toNat (IntKind.i64.wrap (i - 1))) ([] : List Int), tr, mv, 0) with
      | none => rfl
      | some d =>
        obtain ⟨d1, d2, d3⟩ := d
        simp only [Option.bind_some]
        exact jn d1 d2 d3
  · rw [if_neg (dneg h0), if_neg (dneg h0)]
    exact jn st tr mv

theorem At_ok (t : Nat) (ht : t ≤ S.toNat) : r14_At items wt S codes (t : Int) = some (rows ((yard items S codes).A (t + 1)) S.toNat, rows ((yard items S codes).B (t + 1)) (trains items), (((yard items S codes).moves (t + 1) : Nat) : Int), (((yard items S codes).pushes (t + 1) : Nat) : Int)) := by
  obtain ⟨hS0, hS1⟩ := hg.st
  have hT := T_le hg
  unfold r14_At r14_At_J9
  rw [if_pos (by omega), rtrains_ok hg]
  simp only [Option.bind_some]
  rw [if_pos (by omega), Int.toNat_natCast, rows_nil ((yard items S codes).A 0) S.toNat (fun _ _ => rfl), rows_nil ((yard items S codes).B 0) (trains items) (fun _ _ => rfl)]
  obtain ⟨d, h1, h2⟩ := loop_inv (step := r14_At_L10 items wt S codes (t : Int))
    (fun s => ∃ k : Nat, k ≤ t + 1 ∧ s = (rows ((yard items S codes).A k) S.toNat, rows ((yard items S codes).B k) (trains items), (((yard items S codes).moves k : Nat) : Int), (((yard items S codes).pushes k : Nat) : Int), (k : Int)))
    (fun s => t + 1 - s.2.2.2.2.toNat) (fun d => d = (rows ((yard items S codes).A (t + 1)) S.toNat, rows ((yard items S codes).B (t + 1)) (trains items), (((yard items S codes).moves (t + 1) : Nat) : Int), (((yard items S codes).pushes (t + 1) : Nat) : Int))) (by
    rintro _ ⟨k, hk, rfl⟩
    by_cases h : k ≤ t
    · rw [r14_round hg (t : Int) _ _ _ _ (k : Int) (by omega), at_ok hg k (by omega)]
      simp only [Option.bind_some]
      refine .inl ⟨_, rfl, ⟨k + 1, by omega, ?_⟩, ?_⟩
      · rw [wr_id (by omega) (by omega)]; rfl
      · simp only
        rw [wr_id (n := (k : Int) + 1) (by omega) (by omega)]
        omega
    · unfold r14_At_L10
      simp only
      rw [if_neg (dneg (by omega))]
      exact .inr ⟨_, rfl, by rw [show k = t + 1 by omega]⟩) _ ⟨0, by omega, rfl⟩ (by simp; omega)
  have h3 : loop (r14_At_L10 items wt S codes (t : Int)) (rows ((yard items S codes).A 0) S.toNat, rows ((yard items S codes).B 0) (trains items), 0, 0, 0) = some d := h1
  rw [h3, h2]
  rfl

theorem RL19_ok (i : Nat) (hi : i < items.length) (x : Item) (hx : items[i]? = some x) (s : List Int × Int) : r14_Loads_L19 items S codes (i : Int) s = rollin_Loads_L27 S codes (i : Int) x s := by
  unfold r14_Loads_L19 rollin_Loads_L27
  rw [idx_nat (xs := items), hx]
  rfl

theorem RL14_ok : r14_Loads_L14 items S codes = rollin_Loads_L19 items S codes := by
  funext s
  obtain ⟨l, i⟩ := s
  unfold r14_Loads_L14 rollin_Loads_L19
  simp only
  by_cases h : i < (items.length : Int)
  · rw [if_pos (dpos h), if_pos (dpos h)]
    cases hx : idx items i with
    | none => rfl
    | some x =>
      obtain ⟨h0, h1, h2⟩ := idx_some hx
      have e : r14_Loads_L19 items S codes i = rollin_Loads_L27 S codes i x := by
        funext s
        have := RL19_ok hg i.toNat (by omega) x h2 s
        rwa [Int.toNat_of_nonneg h0] at this
      simp only [Option.bind_some, e]
  · rw [if_neg (dneg h), if_neg (dneg h)]

theorem rLoads_ok : r14_Loads items wt S codes = some (lst (ld (yard items S codes) (lens items) items.length) (S.toNat + trains items), 0) := by
  have h := Loads_ok hg
  unfold rollin_Loads at h
  rw [valid_ok hg] at h
  simp only [Option.bind_some, bne_self_eq_false, Bool.false_eq_true, if_false] at h
  rw [start_ok hg] at h
  simp only [Option.bind_some] at h
  rw [rows_len] at h
  unfold r14_Loads
  rw [rvalid_ok hg]
  simp only [Option.bind_some, bne_self_eq_false, Bool.false_eq_true, if_false]
  rw [rtrains_ok hg]
  simp only [Option.bind_some]
  rw [RL14_ok hg]
  exact h
end

theorem exact_ok (items : List Item) (wt S : Int) (codes : List Int) (time : Int) (hi : items.length < 1000000) (hc : codes.length < 1000000) : law14_exact items wt S codes time = some true := by
  obtain ⟨e, h1, h2, h3⟩ := valid_spec items wt S codes (by omega) (by omega)
  unfold law14_exact
  rcases h3 with ⟨rfl, hg⟩ | ⟨hne, _⟩
  · obtain ⟨hS0, hS1⟩ := hg.st
    have hl := hg.job.len
    have hT := T_le hg
    have hRun := Run_ok hg
    have hrun := run_ok hg S.toNat (Nat.le_refl _)
    have hAt := At_ok hg S.toNat (Nat.le_refl _)
    rw [Int.toNat_of_nonneg hS0] at hrun hAt
    have hrRun : r14_Run items wt S codes = some ((rows ((yard items S codes).B (S.toNat + 1)) (trains items), (((yard items S codes).moves (S.toNat + 1) : Nat) : Int)), 0) := by
      unfold r14_Run
      rw [h2]
      simp only [Option.bind_some, bne_self_eq_false, Bool.false_eq_true, if_false]
      rw [hAt]
      rfl
    have hP : rollin_Pushes items wt S codes = some ((((yard items S codes).pushes (S.toNat + 1) : Nat) : Int), 0) := by
      unfold rollin_Pushes
      rw [h1]
      simp only [Option.bind_some, bne_self_eq_false, Bool.false_eq_true, if_false]
      rw [hrun]
      rfl
    have hrP : r14_Pushes items wt S codes = some ((((yard items S codes).pushes (S.toNat + 1) : Nat) : Int), 0) := by
      unfold r14_Pushes
      rw [h2]
      simp only [Option.bind_some, bne_self_eq_false, Bool.false_eq_true, if_false]
      rw [hAt]
      rfl
    have hC : ∃ p : List (List Int) × List (List Int) × Int, rollin_Contents items wt S codes time = some p ∧ r14_Contents items wt S codes time = some p ∧ gen_Lists p.1 p.1 = some true ∧ gen_Lists p.2.1 p.2.1 = some true := by
      by_cases ht : 0 ≤ time ∧ time ≤ S
      · have e1 := Contents_ok hg time.toNat (by omega)
        rw [Int.toNat_of_nonneg ht.1] at e1
        have e2 := At_ok hg time.toNat (by omega)
        rw [Int.toNat_of_nonneg ht.1] at e2
        refine ⟨_, e1, ?_, lists_ok _ (by rw [rows_len]; omega) (fun x hx => ?_), lists_ok _ (by rw [rows_len]; omega) (fun x hx => ?_)⟩
        · unfold r14_Contents
          rw [h2]
          simp only [Option.bind_some, bne_self_eq_false, Bool.false_eq_true, if_false]
          rw [if_neg (dneg (by omega)), if_neg (dneg (by omega)), e2]
          rfl
        · obtain ⟨b, hb, rfl⟩ := List.mem_map.1 hx
          rw [castL_len]
          have h : ((yard items S codes).A (time.toNat + 1) b).length ≤ items.length := (yard items S codes).A_len (k := time.toNat + 1) (by show time.toNat + 1 ≤ S.toNat + 1; omega) b
          omega
        · obtain ⟨b, hb, rfl⟩ := List.mem_map.1 hx
          rw [castL_len]
          have h : ((yard items S codes).B (time.toNat + 1) b).length ≤ items.length := (yard items S codes).B_len (k := time.toNat + 1) (by show time.toNat + 1 ≤ S.toNat + 1; omega) b
          omega
      · refine ⟨([], [], 2), ?_, ?_, by decide +kernel, by decide +kernel⟩
        · unfold rollin_Contents
          rw [h1]
          simp only [Option.bind_some, bne_self_eq_false, Bool.false_eq_true, if_false]
          by_cases h0 : time < 0
          · rw [if_pos (dpos h0)]
          · rw [if_neg (dneg h0), if_pos (dpos (by omega))]
        · unfold r14_Contents
          rw [h2]
          simp only [Option.bind_some, bne_self_eq_false, Bool.false_eq_true, if_false]
          by_cases h0 : time < 0
          · rw [if_pos (dpos h0)]
          · rw [if_neg (dneg h0), if_pos (dpos (by omega))]
    obtain ⟨p, c1, c2, c3, c4⟩ := hC
    rw [c1]
    simp only [Option.bind_some]
    rw [c2]
    simp only [Option.bind_some]
    rw [h1]
    simp only [Option.bind_some]
    rw [h2]
    simp only [Option.bind_some, bne_self_eq_false, Bool.false_eq_true, if_false]
    rw [c3]
    simp only [Option.bind_some, Bool.not_true, Bool.false_eq_true, if_false]
    rw [c4]
    simp only [Option.bind_some, Bool.not_true, Bool.false_eq_true, if_false]
    rw [hRun]
    simp only [Option.bind_some]
    rw [hrRun]
    simp only [Option.bind_some]
    rw [Loads_ok hg]
    simp only [Option.bind_some]
    rw [rLoads_ok hg]
    simp only [Option.bind_some]
    rw [lists_ok _ (by rw [rows_len]; omega) (fun x hx => by
      obtain ⟨b, hb, rfl⟩ := List.mem_map.1 hx
      rw [castL_len]
      have h : ((yard items S codes).B (S.toNat + 1) b).length ≤ items.length := (yard items S codes).B_len (k := S.toNat + 1) (Nat.le_refl _) b
      omega)]
    simp only [Option.bind_some, Bool.not_true, Bool.false_eq_true, if_false, bne_self_eq_false]
    rw [ints_ok _ _ (by rw [lst_len]; omega)]
    simp only [Option.bind_some, decide_true, Bool.not_true, Bool.false_eq_true, if_false]
    rw [hP]
    simp only [Option.bind_some]
    rw [hrP]
    simp only [Option.bind_some, beq_self_eq_true, if_true]
  · have hb : (e != 0) = true := by simpa using hne
    have c1 : rollin_Contents items wt S codes time = some ([], [], e) := by
      unfold rollin_Contents
      rw [h1]
      simp only [Option.bind_some, hb, if_true]
    have c2 : r14_Contents items wt S codes time = some ([], [], e) := by
      unfold r14_Contents
      rw [h2]
      simp only [Option.bind_some, hb, if_true]
    have c3 : rollin_Run items wt S codes = some (([], 0), e) := by
      unfold rollin_Run
      rw [h1]
      simp only [Option.bind_some, hb, if_true]
    have c4 : r14_Run items wt S codes = some (([], 0), e) := by
      unfold r14_Run
      rw [h2]
      simp only [Option.bind_some, hb, if_true]
    have c5 : rollin_Loads items wt S codes = some ([], e) := by
      unfold rollin_Loads
      rw [h1]
      simp only [Option.bind_some, hb, if_true]
    have c6 : r14_Loads items wt S codes = some ([], e) := by
      unfold r14_Loads
      rw [h2]
      simp only [Option.bind_some, hb, if_true]
    have c7 : rollin_Pushes items wt S codes = some (0, e) := by
      unfold rollin_Pushes
      rw [h1]
      simp only [Option.bind_some, hb, if_true]
    have c8 : r14_Pushes items wt S codes = some (0, e) := by
      unfold r14_Pushes
      rw [h2]
      simp only [Option.bind_some, hb, if_true]
    have l0 : gen_Lists ([] : List (List Int)) [] = some true := by decide +kernel
    have i0 : gen_Ints ([] : List Int) [] = some true := by decide +kernel
    rw [c1]
    simp only [Option.bind_some]
    rw [c2]
    simp only [Option.bind_some]
    rw [h1]
    simp only [Option.bind_some]
    rw [h2]
    simp only [Option.bind_some, bne_self_eq_false, Bool.false_eq_true, if_false, l0, Bool.not_true]
    rw [c3]
    simp only [Option.bind_some]
    rw [c4]
    simp only [Option.bind_some]
    rw [c5]
    simp only [Option.bind_some]
    rw [c6]
    simp only [Option.bind_some, bne_self_eq_false, Bool.false_eq_true, if_false, l0, i0, Bool.not_true]
    rw [c7]
    simp only [Option.bind_some]
    rw [c8]
    simp only [Option.bind_some, beq_self_eq_true, if_true]

theorem spoil_ok (l : List Int) (k : Int) (its : List Item) (wt : Int) (hk : 0 ≤ k ∧ k ≤ 1000000000) (hl : its.length ≤ 1000) : ∃ its' wt' k', gen_Maker_SpoilJob l k its wt = some ((its', wt'), k') ∧ its'.length = its.length ∧ k ≤ k' ∧ k' ≤ k + 10 := by
  have j13 : ∀ (k1 : Int) (t : Bool), k ≤ k1 → k1 ≤ k + 2 → (t = false → 0 < its.length) → ∃ its' wt' k', gen_Maker_SpoilJob_J13 l its wt k1 t = some ((its', wt'), k') ∧ its'.length = its.length ∧ k ≤ k' ∧ k' ≤ k + 10 := by
    intro k1 t h1 h2 ht
    unfold gen_Maker_SpoilJob_J13
    cases t with
    | true =>
      obtain ⟨v, e, _⟩ := pick_ok l k1 [(-1), 13, 12, 0] (by omega) (by omega) (by decide) (by decide)
      rw [if_pos rfl, e]
      exact ⟨_, _, _, rfl, rfl, by omega, by omega⟩
    | false =>
      have hp := ht rfl
      rw [if_neg (by decide)]
      simp only [List.nil_append]
      obtain ⟨i, e1, i0, i1⟩ := next_ok l k1 its.length (by omega) (by omega) (by omega) (by omega)
      obtain ⟨x, _, ex⟩ := idx_of its i i0 i1
      obtain ⟨v, e2, v0, v1⟩ := next_ok l (k1 + 1) 4 (by omega) (by omega) (by omega) (by omega)
      obtain ⟨a, ea, _⟩ := pick_ok l (k1 + 1 + 1) [(-1), 15, 16] (by omega) (by omega) (by decide) (by decide)
      obtain ⟨b, eb, _⟩ := pick_ok l (k1 + 1 + 1) [(-1), 31, 32] (by omega) (by omega) (by decide) (by decide)
      obtain ⟨c, ec, _⟩ := pick_ok l (k1 + 1 + 1) [(-1), 0, 5, 12, 13] (by omega) (by omega) (by decide) (by decide)
      obtain ⟨d, ed, _⟩ := pick_ok l (k1 + 1 + 1) [0, 1, 400, 401] (by omega) (by omega) (by decide) (by decide)
      rw [e1]
      simp only [Option.bind_some, ex, e2]
      by_cases h0 : v = 0
      · rw [if_pos (by simp [h0]), ea]
        exact ⟨_, _, _, rfl, by simp, by omega, by omega⟩
      · rw [if_neg (by simpa using h0)]
        by_cases h1' : v = 1
        · rw [if_pos (by simp [h1']), eb]
          exact ⟨_, _, _, rfl, by simp, by omega, by omega⟩
        · rw [if_neg (by simpa using h1')]
          by_cases h2' : v = 2
          · rw [if_pos (by simp [h2']), ec]
            exact ⟨_, _, _, rfl, by simp, by omega, by omega⟩
          · rw [if_neg (by simpa using h2'), ed]
            exact ⟨_, _, _, rfl, by simp, by omega, by omega⟩
  unfold gen_Maker_SpoilJob
  rw [if_pos (by simp only [List.length_nil]; omega)]
  simp only [List.nil_append]
  by_cases h0 : its.length = 0
  · rw [if_pos (by simp [h0])]
    exact j13 k true (by omega) (by omega) (fun h => by cases h)
  · rw [if_neg (by simpa using (by omega : ¬ (its.length : Int) = 0))]
    obtain ⟨v, e, _⟩ := next_ok l k 8 hk.1 (by omega) (by omega) (by omega)
    rw [e]
    simp only [Option.bind_some]
    exact j13 (k + 1) (v == 0) (by omega) (by omega) (fun _ => by omega)

theorem from_ok (l : List Int) (k : Int) (hk : 0 ≤ k ∧ k ≤ 1000000000) : ∃ v, gen_Maker_From l k (-1) 6 = some (v, k + 1) := by
  obtain ⟨v, e, v0, v1⟩ := next_ok l k 8 hk.1 (by omega) (by omega) (by omega)
  unfold gen_Maker_From
  have e8 : IntKind.i64.wrap ((IntKind.i64.wrap (6 - (-1))) + 1) = 8 := by decide
  rw [e8, e]
  exact ⟨_, rfl⟩

theorem EJ35_ok (l : List Int) (i : Int) (cs : List Int) (S k : Int) (its : List Item) (wt : Int) (hk : 0 ≤ k ∧ k ≤ 1000000000) (hi : its.length < 1000000) (hc : cs.length < 1000000) (h : 0 ≤ i ∧ i ≤ 10) :
    law14_RollinExact_J35 (l, 0) i cs S k its wt = some (.next (k + 1, i + 1)) := by
  obtain ⟨v, e⟩ := from_ok l k hk
  unfold law14_RollinExact_J35
  rw [e]
  simp only [Option.bind_some]
  rw [exact_ok its wt S cs v hi hc]
  simp only [Option.bind_some, Bool.not_true, Bool.false_eq_true, if_false]
  rw [wr_id (by omega) (by omega)]

theorem EJ29_ok (l : List Int) (i k0 : Int) (its : List Item) (wt : Int) (cs : List Int) (k S : Int) (hk : 0 ≤ k ∧ k ≤ 100000000) (hi : its.length ≤ 1000) (hc : cs.length < 1000000) (h : 0 ≤ i ∧ i ≤ 10) :
    ∃ k', law14_RollinExact_J29 (l, 0) i ((its, wt), k0) cs k S = some (.next (k', i + 1)) ∧ k ≤ k' ∧ k' ≤ k + 20 := by
  unfold law14_RollinExact_J29
  by_cases h3 : i = 3
  · obtain ⟨its', wt', k', e, q1, q2, q3⟩ := spoil_ok l k its wt (by omega) hi
    rw [if_pos (by simp [h3]), e]
    simp only [Option.bind_some]
    exact ⟨_, EJ35_ok l i cs S k' its' wt' (by omega) (by omega) hc h, by omega, by omega⟩
  · rw [if_neg (by simpa using h3)]
    exact ⟨_, EJ35_ok l i cs S k its wt (by omega) (by omega) hc h, by omega, by omega⟩

theorem EJ27_ok (l : List Int) (i k0 k1 : Int) (its : List Item) (wt S : Int) (cs0 cs : List Int) (k : Int) (hk : 0 ≤ k ∧ k ≤ 50000000) (hi : its.length ≤ 1000) (hc : cs.length < 1000000) (h : 0 ≤ i ∧ i ≤ 10) :
    ∃ k', law14_RollinExact_J27 (l, 0) i ((its, wt), k0) ((S, cs0), k1) k cs = some (.next (k', i + 1)) ∧ k ≤ k' ∧ k' ≤ k + 30 := by
  unfold law14_RollinExact_J27
  by_cases h2 : i = 2
  · obtain ⟨v, e, _⟩ := pick_ok l k [(-1), 1, 13] (by omega) (by omega) (by decide) (by decide)
    rw [if_pos (by simp [h2]), e]
    simp only [Option.bind_some]
    obtain ⟨k', q1, q2, q3⟩ := EJ29_ok l i k0 its wt cs (k + 1) (IntKind.i64.wrap (S + v)) (by omega) hi hc h
    exact ⟨k', q1, by omega, by omega⟩
  · rw [if_neg (by simpa using h2)]
    obtain ⟨k', q1, q2, q3⟩ := EJ29_ok l i k0 its wt cs k S (by omega) hi hc h
    exact ⟨k', q1, by omega, by omega⟩

theorem EJ28_ok (l : List Int) (i k0 k1 : Int) (its : List Item) (wt S : Int) (cs : List Int) (t : Bool) (hS : 0 ≤ S) (hk : 0 ≤ k1 ∧ k1 ≤ 10000000) (hi : its.length ≤ 1000) (hc : cs.length ≤ 1000) (ht : t = true → 0 < cs.length) (h : 0 ≤ i ∧ i ≤ 10) :
    ∃ k', law14_RollinExact_J28 (l, 0) i ((its, wt), k0) ((S, cs), k1) t = some (.next (k', i + 1)) ∧ k1 ≤ k' ∧ k' ≤ k1 + 40 := by
  unfold law14_RollinExact_J28
  cases t with
  | true =>
    have hp := ht rfl
    obtain ⟨j, e1, j0, j1⟩ := next_ok l k1 cs.length (by omega) (by omega) (by omega) (by omega)
    obtain ⟨x, _, ex⟩ := idx_of cs j j0 j1
    rw [if_pos rfl, if_pos hS]
    simp only [e1, Option.bind_some]
    obtain ⟨v, e2, _⟩ := pick_ok l (k1 + 1) [(-1), 0, 1, 3, IntKind.i64.wrap (1 * 2 ^ (min (Int.toNat S) IntKind.i64.bits))] (by omega) (by omega) (by simp) (by simp)
    rw [e2]
    simp only [Option.bind_some, ex]
    obtain ⟨k', q1, q2, q3⟩ := EJ27_ok l i k0 k1 its wt S cs (cs.set (Int.toNat j) v) (k1 + 1 + 1) (by omega) hi (by rw [List.length_set]; omega) h
    exact ⟨k', q1, by omega, by omega⟩
  | false =>
    rw [if_neg (by decide)]
    obtain ⟨k', q1, q2, q3⟩ := EJ27_ok l i k0 k1 its wt S cs cs k1 (by omega) hi (by omega) h
    exact ⟨k', q1, by omega, by omega⟩

theorem RollinExact_ok (l : List Int) (items : List Item) (wt S : Int) (codes : List Int) (time : Int) : law14_RollinExact l items wt S codes time = some true := by
  unfold law14_RollinExact gen_New
  simp only [Option.bind_some]
  obtain ⟨d, h1, h2⟩ := loop_inv (step := law14_RollinExact_L13 (l, 0)) (fun s => ∃ (i : Nat) (k : Int), s = (k, (i : Int)) ∧ i ≤ 4 ∧ 0 ≤ k ∧ k ≤ 10000 * i) (fun s => 4 - s.2.toNat) (fun d => d = .inr ()) (by
    rintro _ ⟨i, k, rfl, hi, hk0, hk1⟩
    unfold law14_RollinExact_L13
    simp only
    by_cases h : i < 4
    · obtain ⟨its, wt, k1, e1, q1, q2, q3, hj, h4⟩ := job_ok l k 10 (by omega) (by omega)
      obtain ⟨S, cs, k2, e2, q4, q5, hg⟩ := plan_ok l k1 its wt (by omega) hj h4
      have hcl := hg.cl
      rw [if_pos (dpos (by omega)), e1]
      simp only [Option.bind_some]
      rw [e2]
      simp only [Option.bind_some]
      have fin : ∀ t : Bool, (t = true → 0 < cs.length) → (∃ s', law14_RollinExact_J28 (l, 0) (i : Int) ((its, wt), k1) ((S, cs), k2) t = some (.next s') ∧ (∃ (i : Nat) (k : Int), s' = (k, (i : Int)) ∧ i ≤ 4 ∧ 0 ≤ k ∧ k ≤ 10000 * i) ∧ 4 - s'.2.toNat < 4 - (i : Int).toNat) := by
        intro t ht
        obtain ⟨k', g1, g2, g3⟩ := EJ28_ok l (i : Int) k1 k2 its wt S cs t hg.st.1 (by omega) (by omega) (by omega) ht (by omega)
        exact ⟨_, g1, ⟨i + 1, k', rfl, by omega, by omega, by omega⟩, by simp only; omega⟩
      by_cases h1 : i = 1
      · rw [if_pos (by simp [h1])]
        obtain ⟨s', g1, g2, g3⟩ := fin (decide ((cs.length : Int) > 0)) (fun hd => by have := of_decide_eq_true hd; omega)
        exact .inl ⟨s', g1, g2, g3⟩
      · rw [if_neg (by simpa using (by omega : ¬ (i : Int) = 1))]
        obtain ⟨s', g1, g2, g3⟩ := fin false (fun h => by cases h)
        exact .inl ⟨s', g1, g2, g3⟩
    · rw [if_neg (dneg (by omega))]
      exact .inr ⟨_, rfl, rfl⟩) (0, 0) ⟨0, 0, rfl, by omega, by omega, by omega⟩ (by simp)
  rw [h1, h2]
  simp only [Option.bind_some]
  by_cases hi : items.length > 30
  · rw [if_pos (dpos (by omega))]
  · rw [if_neg (dneg (by omega))]
    by_cases hc : codes.length > 30
    · rw [if_pos (dpos (by omega))]
    · rw [if_neg (dneg (by omega)), exact_ok items wt S codes time (by omega) (by omega)]
      simp only [Option.bind_some, if_true]
      rw [sane14_ok]
      rfl

end Go.Proofs.Ytmjobkpgnhbcbaa
