/- Plain law of RollinTrack: who was pushed stands on exactly one track. No condition. -/
import Derived.Test.YtmjobkpgnhbcbaaPRorder
import Derived.Test.YtmjobkpgnhbcbaaGRollinTrack
set_option linter.unusedVariables false
set_option linter.unusedSectionVars false
set_option maxRecDepth 100000
namespace Go.Proofs.Ytmjobkpgnhbcbaa
open Go Go.V Go.Proofs

/-- A list of numbers, place by place. -/
def lst (f : Nat → Int) (N : Nat) : List Int := (List.range N).map f
theorem lst_len (f : Nat → Int) (N : Nat) : (lst f N).length = N := by simp [lst]
theorem lst_get (f : Nat → Int) {N p : Nat} (h : p < N) : (lst f N)[p]? = some (f p) := by simp [lst, h]
theorem lst_set (f f' : Nat → Int) {N p : Nat} (v : Int) (h : p < N) (h1 : f' p = v) (h2 : ∀ j, j ≠ p → f' j = f j) : (lst f N).set p v = lst f' N := by
  apply List.ext_getElem?
  intro i
  rw [List.getElem?_set]
  by_cases hi : p = i
  · subst hi
    rw [if_pos rfl, if_pos (by rw [lst_len]; exact h), lst_get f' h, h1]
  · rw [if_neg hi]
    by_cases him : i < N
    · rw [lst_get f him, lst_get f' him, h2 i (Ne.symm hi)]
    · rw [List.getElem?_eq_none (by rw [lst_len]; omega), List.getElem?_eq_none (by rw [lst_len]; omega)]
theorem lst_congr {f f' : Nat → Int} {N : Nat} (h : ∀ b, b < N → f b = f' b) : lst f N = lst f' N := by
  apply List.ext_getElem?
  intro i
  by_cases him : i < N
  · rw [lst_get f him, lst_get f' him, h i him]
  · rw [List.getElem?_eq_none (by rw [lst_len]; omega), List.getElem?_eq_none (by rw [lst_len]; omega)]
theorem lst_zero (N : Nat) : List.replicate N (0 : Int) = lst (fun _ => 0) N := by
  apply List.ext_getElem?
  intro i
  by_cases him : i < N
  · rw [lst_get _ him, List.getElem?_replicate, if_pos him]
  · rw [List.getElem?_eq_none (by simp; omega), List.getElem?_eq_none (by rw [lst_len]; omega)]

def seen (P : List Nat) : Nat → Int := fun x => ((P.count x : Nat) : Int)

theorem L42_ok (P row : List Nat) (n : Nat) (hr : ∀ x ∈ row, x < n) (hl : P.length + row.length ≤ 1000000) : loop (law14_RollinTrack_L42 (castL row)) (lst (seen P) n, 0) = some (.inr (lst (seen (P ++ row)) n)) := by
  obtain ⟨d, h1, h2⟩ := loop_inv (step := law14_RollinTrack_L42 (castL row)) (fun s => ∃ i : Nat, i ≤ row.length ∧ s = (lst (seen (P ++ row.take i)) n, (i : Int))) (fun s => row.length - s.2.toNat) (fun d => d = .inr (lst (seen (P ++ row)) n)) (by
    rintro _ ⟨i, hi, rfl⟩
    unfold law14_RollinTrack_L42
    simp only
    by_cases hil : i < row.length
    · have hx : row[i]? = some row[i] := List.getElem?_eq_getElem hil
      have hxn := hr row[i] (List.getElem_mem hil)
      rw [if_pos (dpos (by rw [castL_len]; omega)), idx_nat, castL_get, hx]
      simp only [Option.map_some, Option.bind_some]
      rw [if_neg (dneg (by omega)), if_neg (dneg (by rw [lst_len]; omega)), idx_nat, lst_get _ hxn]
      simp only [Option.bind_some]
      have hta : row.take (i + 1) = row.take i ++ [row[i]] := List.take_succ_eq_append_getElem hil
      have hc : (P ++ row.take i).count row[i] ≤ (P ++ row.take i).length := List.count_le_length
      have hcl : (P ++ row.take i).length ≤ 1000000 := by rw [List.length_append, List.length_take]; omega
      refine .inl ⟨_, rfl, ⟨i + 1, by omega, ?_⟩, ?_⟩
      · rw [wr_id (n := (i : Int) + 1) (by omega) (by omega), Int.toNat_natCast]
        congr 1
        refine lst_set _ _ _ hxn ?_ (fun j hj => ?_)
        · simp only [seen] at *
          rw [wr_id (by omega) (by omega), hta, ← List.append_assoc, List.count_append (l₂ := [row[i]])]
          simp
        · simp only [seen]
          rw [hta, ← List.append_assoc, List.count_append (l₂ := [row[i]]), List.count_singleton]
          simp [Ne.symm hj]
      · simp only
        rw [wr_id (n := (i : Int) + 1) (by omega) (by omega)]
        omega
    · rw [if_neg (dneg (by rw [castL_len]; omega))]
      exact .inr ⟨_, rfl, by rw [List.take_of_length_le (by omega)]⟩) _ ⟨0, by omega, by rw [List.take_zero, List.append_nil]⟩ (by simp; omega)
  exact h1.trans (by rw [h2])

theorem L36_ok (P : List Nat) (f : Nat → List Nat) (m n : Nat) (hm : m ≤ 100) (hr : ∀ b x, x ∈ f b → x < n) (hl : ∀ b, (f b).length ≤ 1000) (hP : P.length ≤ 500000) :
    loop (law14_RollinTrack_L36 (rows f m)) (lst (seen P) n, 0) = some (.inr (lst (seen (P ++ (List.range m).flatMap f)) n)) := by
  have hfl : ∀ i, ((List.range i).flatMap f).length ≤ 1000 * i := by
    intro i
    induction i with
    | zero => simp
    | succ i ih =>
      rw [List.range_succ, List.flatMap_append, List.length_append]
      have := hl i
      simp only [List.flatMap_cons, List.flatMap_nil, List.append_nil]
      omega
  obtain ⟨d, h1, h2⟩ := loop_inv (step := law14_RollinTrack_L36 (rows f m)) (fun s => ∃ i : Nat, i ≤ m ∧ s = (lst (seen (P ++ (List.range i).flatMap f)) n, (i : Int))) (fun s => m - s.2.toNat) (fun d => d = .inr (lst (seen (P ++ (List.range m).flatMap f)) n)) (by
    rintro _ ⟨i, hi, rfl⟩
    unfold law14_RollinTrack_L36
    simp only
    by_cases hil : i < m
    · rw [if_pos (dpos (by rw [rows_len]; omega)), idx_nat, rows_get f hil]
      simp only [Option.bind_some]
      rw [L42_ok _ _ n (hr i) (by have := hfl i; have := hl i; rw [List.length_append]; omega)]
      simp only [Option.bind_some]
      refine .inl ⟨_, rfl, ⟨i + 1, by omega, ?_⟩, ?_⟩
      · rw [wr_id (by omega) (by omega), List.range_succ, List.flatMap_append, List.append_assoc]
        simp
      · simp only
        rw [wr_id (n := (i : Int) + 1) (by omega) (by omega)]
        omega
    · rw [if_neg (dneg (by rw [rows_len]; omega))]
      exact .inr ⟨_, rfl, by rw [show i = m by omega]⟩) (lst (seen P) n, 0) ⟨0, by omega, by simp⟩ (by simp; omega)
  exact h1.trans (by rw [h2])

theorem flat_nodup (f : Nat → List Nat) (h1 : ∀ b, (f b).Nodup) (h2 : ∀ b b' x, x ∈ f b → x ∈ f b' → b = b') : ∀ m, ((List.range m).flatMap f).Nodup
  | 0 => by simp
  | m + 1 => by
    rw [List.range_succ, List.flatMap_append]
    simp only [List.flatMap_cons, List.flatMap_nil, List.append_nil]
    refine List.nodup_append.2 ⟨flat_nodup f h1 h2 m, h1 m, fun x hx y hy he => ?_⟩
    subst he
    obtain ⟨b, hb, hxb⟩ := List.mem_flatMap.1 hx
    have := h2 b m x hxb hy
    have := List.mem_range.1 hb
    omega

section
variable {items : List Item} {wt S : Int} {codes : List Int} (hg : Good items wt S codes)
include hg

theorem Contents_ok (t : Nat) (ht : t ≤ S.toNat) : rollin_Contents items wt S codes (t : Int) = some (rows ((yard items S codes).A (t + 1)) S.toNat, rows ((yard items S codes).B (t + 1)) (trains items), 0) := by
  obtain ⟨hS0, hS1⟩ := hg.st
  unfold rollin_Contents
  rw [valid_ok hg]
  simp only [Option.bind_some, bne_self_eq_false, Bool.false_eq_true, if_false]
  rw [if_neg (dneg (by omega)), if_neg (dneg (by omega)), run_ok hg t ht]
  rfl

theorem seen_ok (t : Nat) (ht : t ≤ S.toNat) (x : Nat) (hx : x < items.length) :
    seen ((List.range S.toNat).flatMap ((yard items S codes).A (t + 1)) ++ (List.range (trains items)).flatMap ((yard items S codes).B (t + 1))) x = if (yard items S codes).rd x ≤ t then 1 else 0 := by
  have hi := (yard items S codes).inv t ht
  have n1 := flat_nodup _ hi.an (fun b b' x h h' => by
    have a1 := ((hi.a b x).1 h).2.2
    have a2 := ((hi.a b' x).1 h').2.2
    rw [a1] at a2; cases a2; rfl) S.toNat
  have n2 := flat_nodup _ hi.bn (fun b b' x h h' => by
    have a1 := ((hi.b b x).1 h).2.2.2
    have a2 := ((hi.b b' x).1 h').2.2.2
    omega) (trains items)
  have nd := List.nodup_append.2 ⟨n1, n2, fun x hx y hy he => by
    subst he
    obtain ⟨b, hb, h1⟩ := List.mem_flatMap.1 hx
    obtain ⟨b', hb', h2⟩ := List.mem_flatMap.1 hy
    have a1 := ((hi.a b x).1 h1).2.2
    have a2 := ((hi.b b' x).1 h2).2.2.1
    rw [a1] at a2; cases a2⟩
  have hmem : x ∈ (List.range S.toNat).flatMap ((yard items S codes).A (t + 1)) ++ (List.range (trains items)).flatMap ((yard items S codes).B (t + 1)) ↔ (yard items S codes).rd x ≤ t := by
    constructor
    · intro h
      rcases List.mem_append.1 h with h | h
      · obtain ⟨b, hb, h1⟩ := List.mem_flatMap.1 h
        exact ((hi.a b x).1 h1).2.1
      · obtain ⟨b, hb, h1⟩ := List.mem_flatMap.1 h
        exact ((hi.b b x).1 h1).2.1
    · intro h
      obtain ⟨_, _, _, _, _, _, _, _, _, htr, _⟩ := item_at hg hx
      cases hn : nb ((yard items S codes).c x) S.toNat t with
      | some b => exact List.mem_append_left _ (List.mem_flatMap.2 ⟨b, List.mem_range.2 (nb_some hn).2.1, (hi.a b x).2 ⟨hx, h, hn⟩⟩)
      | none => exact List.mem_append_right _ (List.mem_flatMap.2 ⟨_, List.mem_range.2 htr, (hi.b _ x).2 ⟨hx, h, hn, rfl⟩⟩)
  simp only [seen]
  by_cases h : (yard items S codes).rd x ≤ t
  · rw [if_pos h]
    have h1 := List.nodup_iff_count.1 nd x
    have h2 := List.count_pos_iff.2 (hmem.2 h)
    omega
  · rw [if_neg h, List.count_eq_zero.2 (mt hmem.1 h)]
    rfl

theorem L18_ok (k1 k2 : Int) : loop (law14_RollinTrack_L18 ((items, wt), k1) ((S, codes), k2)) 0 = some (.inr ()) := by
  have hl := hg.job.len
  have hT := T_le hg
  obtain ⟨hS0, hS1⟩ := hg.st
  obtain ⟨d, h1, h2⟩ := loop_inv (step := law14_RollinTrack_L18 ((items, wt), k1) ((S, codes), k2)) (fun s => ∃ t : Nat, t ≤ S.toNat + 1 ∧ s = (t : Int)) (fun s => S.toNat + 1 - s.toNat) (fun d => d = .inr ()) (by
    rintro _ ⟨t, ht, rfl⟩
    unfold law14_RollinTrack_L18
    simp only
    by_cases htS : t ≤ S.toNat
    · have hi := (yard items S codes).inv t htS
      rw [if_pos (dpos (by omega)), Contents_ok hg t htS]
      simp only [Option.bind_some, bne_self_eq_false, Bool.false_eq_true, if_false]
      rw [if_neg (by rw [rows_len, Int.toNat_of_nonneg hS0]; simp), if_pos (by omega), Int.toNat_natCast, lst_zero]
      have hA : ∀ b x, x ∈ (yard items S codes).A (t + 1) b → x < items.length := fun b x h => ((hi.a b x).1 h).1
      have hB : ∀ b x, x ∈ (yard items S codes).B (t + 1) b → x < items.length := fun b x h => ((hi.b b x).1 h).1
      have lA : ∀ b, ((yard items S codes).A (t + 1) b).length ≤ 1000 := fun b => by
        have h : ((yard items S codes).A (t + 1) b).length ≤ items.length := (yard items S codes).A_len (k := t + 1) (by show t + 1 ≤ S.toNat + 1; omega) b
        omega
      have lB : ∀ b, ((yard items S codes).B (t + 1) b).length ≤ 1000 := fun b => by
        have h : ((yard items S codes).B (t + 1) b).length ≤ items.length := (yard items S codes).B_len (k := t + 1) (by show t + 1 ≤ S.toNat + 1; omega) b
        omega
      have hseen := seen_ok hg t htS
      have hAi : ∀ i, i < t → (yard items S codes).A (t + 1) i = [] := by
        intro i hit
        refine List.eq_nil_iff_forall_not_mem.2 fun x hx => ?_
        have := (nb_some ((hi.a i x).1 hx).2.2).1
        omega
      have fl : ((List.range S.toNat).flatMap ((yard items S codes).A (t + 1))).length ≤ 1000 * S.toNat := by
        generalize S.toNat = m
        induction m with
        | zero => simp
        | succ m ih =>
          rw [List.range_succ, List.flatMap_append, List.length_append]
          have := lA m
          simp only [List.flatMap_cons, List.flatMap_nil, List.append_nil]
          omega
      generalize (yard items S codes).A (t + 1) = FA at *
      generalize (yard items S codes).B (t + 1) = FB at *
      have e30 : loop (law14_RollinTrack_L30 (rows FA S.toNat, rows FB (trains items), 0)) (lst (fun _ => 0) items.length, 0) = some (.inr (lst (seen ((List.range S.toNat).flatMap FA ++ (List.range (trains items)).flatMap FB)) items.length)) := by
        have e0 : lst (fun _ => 0) items.length = lst (seen []) items.length := lst_congr (fun b _ => by simp [seen])
        have s0 : law14_RollinTrack_L30 (rows FA S.toNat, rows FB (trains items), 0) (lst (seen []) items.length, 0) = some (.next (lst (seen ((List.range S.toNat).flatMap FA)) items.length, 1)) := by
          unfold law14_RollinTrack_L30
          simp only [List.length_cons, List.length_nil]
          rw [if_pos (dpos (by omega)), show (0 : Int) = ((0 : Nat) : Int) from rfl, idx_nat]
          simp only [List.getElem?_cons_zero, Option.bind_some]
          have := L36_ok [] FA S.toNat items.length (by omega) hA lA (by simp)
          rw [show ((0 : Nat) : Int) = 0 from rfl, this]
          rfl
        have s1 : law14_RollinTrack_L30 (rows FA S.toNat, rows FB (trains items), 0) (lst (seen ((List.range S.toNat).flatMap FA)) items.length, 1) = some (.next (lst (seen ((List.range S.toNat).flatMap FA ++ (List.range (trains items)).flatMap FB)) items.length, 2)) := by
          unfold law14_RollinTrack_L30
          simp only [List.length_cons, List.length_nil]
          rw [if_pos (dpos (by omega)), show (1 : Int) = ((1 : Nat) : Int) from rfl, idx_nat]
          simp only [List.getElem?_cons_succ, List.getElem?_cons_zero, Option.bind_some]
          rw [L36_ok _ FB (trains items) items.length (by omega) hB lB (by omega)]
          rfl
        have s2 : law14_RollinTrack_L30 (rows FA S.toNat, rows FB (trains items), 0) (lst (seen ((List.range S.toNat).flatMap FA ++ (List.range (trains items)).flatMap FB)) items.length, 2) = some (.done (.inr (lst (seen ((List.range S.toNat).flatMap FA ++ (List.range (trains items)).flatMap FB)) items.length))) := by
          unfold law14_RollinTrack_L30
          simp only [List.length_cons, List.length_nil]
          rw [if_neg (dneg (by omega))]
        rw [e0]
        refine loop_of 3 (by omega) ?_
        simp only [loopN, s0, s1, s2, Option.bind_some]
      rw [e30]
      simp only [Option.bind_some]
      have e52 : loop (law14_RollinTrack_L52 ((items, wt), k1) (t : Int) (lst (seen ((List.range S.toNat).flatMap FA ++ (List.range (trains items)).flatMap FB)) items.length)) 0 = some (.inr ()) := by
        have := loop_count (law14_RollinTrack_L52 ((items, wt), k1) (t : Int) (lst (seen ((List.range S.toNat).flatMap FA ++ (List.range (trains items)).flatMap FB)) items.length)) (.inr ()) 0 items.length (by omega) (by omega)
          (fun x _ hx => by
            obtain ⟨it, c, hit, _, _, _, _, er, _, _⟩ := item_at hg hx
            unfold law14_RollinTrack_L52
            simp only
            rw [if_pos (dpos (by rw [lst_len]; omega)), idx_nat, lst_get _ hx]
            simp only [Option.bind_some]
            rw [idx_nat, hit]
            simp only [Option.bind_some]
            rw [hseen x hx, er, wr_id (by omega) (by omega)]
            by_cases hr : (yard items S codes).rd x ≤ t
            · rw [if_pos hr, if_neg (by rw [dpos (by omega : ((yard items S codes).rd x : Int) ≤ (t : Int))]; decide), if_neg (by decide)]
            · rw [if_neg hr, if_neg (by rw [decide_eq_false (by omega : ¬ ((yard items S codes).rd x : Int) ≤ (t : Int))]; decide), if_neg (by decide)])
          (by
            unfold law14_RollinTrack_L52
            simp only
            rw [if_neg (dneg (by rw [lst_len]; omega))])
        exact this
      rw [e52]
      simp only [Option.bind_some]
      have e58 : loop (law14_RollinTrack_L58 (t : Int) (rows FA S.toNat, rows FB (trains items), 0)) 0 = some (.inr ()) := by
        have := loop_count (law14_RollinTrack_L58 (t : Int) (rows FA S.toNat, rows FB (trains items), 0)) (.inr ()) 0 t (by omega) (by omega)
          (fun i _ hit => by
            unfold law14_RollinTrack_L58
            simp only
            rw [if_pos (dpos (by omega)), idx_nat, rows_get FA (by omega)]
            simp only [Option.bind_some]
            rw [hAi i hit, if_neg (by decide), wr_id (by omega) (by omega)])
          (by
            unfold law14_RollinTrack_L58
            simp only
            rw [if_neg (dneg (by omega))])
        exact this
      rw [e58]
      simp only [Option.bind_some]
      rw [wr_id (by omega) (by omega)]
      exact .inl ⟨_, rfl, ⟨t + 1, by omega, rfl⟩, by omega⟩
    · rw [if_neg (dneg (by omega))]
      exact .inr ⟨_, rfl, rfl⟩) 0 ⟨0, by omega, rfl⟩ (by simp; omega)
  rw [h1, h2]
end

theorem RollinTrack_ok (l : List Int) : law14_RollinTrack l = some true := by
  obtain ⟨its, wt, k1, e1, q1, q2, q3, hj, h4⟩ := job_ok l 0 14 (by omega) (by omega)
  obtain ⟨S, codes, k2, e2, q4, q5, hg⟩ := plan_ok l k1 its wt (by omega) hj h4
  unfold law14_RollinTrack gen_New
  simp only [Option.bind_some]
  rw [e1]
  simp only [Option.bind_some]
  rw [e2]
  simp only [Option.bind_some]
  rw [L18_ok hg]
  simp only [Option.bind_some]
  rw [sane14_ok]
  rfl

end Go.Proofs.Ytmjobkpgnhbcbaa
