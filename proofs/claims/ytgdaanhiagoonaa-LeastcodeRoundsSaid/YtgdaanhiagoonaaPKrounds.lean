/- Plain law of LeastcodeRounds: items of the last round have the code 4095 and need all steps; an item that has to come behind such an item, and is pushed ahead of it, has no code. The integers are of Go's int. -/
import Derived.Test.YtgdaanhiagoonaaPKsane
import Derived.Test.YtgdaanhiagoonaaGLeastcodeRounds
set_option linter.unusedVariables false
set_option linter.unusedSectionVars false
set_option linter.unusedSimpArgs false
set_option maxRecDepth 100000
namespace Go.Proofs.Ytgdaanhiagoonaa
open Go Go.V Go.Proofs

theorem place_ok (p n : Int) (hn : 0 < n ∧ n ≤ 1000) : ∃ q : Nat, (Int.tmod (IntKind.i64.wrap ((Int.tmod p n) + n)) n) = (q : Int) ∧ (q : Int) < n := by
  obtain ⟨h1, h2⟩ := tmod_range p n hn.1
  rw [wr_id (by omega) (by omega)]
  have h3 := Int.tmod_nonneg n (by omega : 0 ≤ Int.tmod p n + n)
  obtain ⟨_, h4⟩ := tmod_range (Int.tmod p n + n) n hn.1
  exact ⟨(Int.tmod (Int.tmod p n + n) n).toNat, by omega, by omega⟩

def rnd (n : Nat) : List Item := List.replicate n (0, 0, 12, 100)
theorem RD14_ok (p0 : Int) (q : Nat) (hq : q ≤ 5) (he : IntKind.i64.wrap (1 + (Int.tmod (IntKind.i64.wrap ((Int.tmod p0 5) + 5)) 5)) = (q : Int)) (d0 : List Item) (h0 : d0.length ≤ 10) : loop (law13_LeastcodeRounds_L14 p0) (d0, 0) = some (d0 ++ rnd q) := by
  obtain ⟨d, h1, h2⟩ := loop_inv (step := law13_LeastcodeRounds_L14 p0) (fun s => ∃ i : Nat, s = (d0 ++ rnd i, (i : Int)) ∧ i ≤ q) (fun s => q - s.2.toNat) (fun d => d = d0 ++ rnd q) (by
    rintro _ ⟨i, rfl, hi⟩
    unfold law13_LeastcodeRounds_L14
    simp only [he]
    by_cases h : i < q
    · rw [if_pos (dpos (by omega)), if_pos (by unfold rnd; simp only [List.length_append, List.length_replicate, List.length_cons, List.length_nil]; omega), wr_id (by omega) (by omega)]
      refine .inl ⟨_, rfl, ⟨i + 1, ?_, by omega⟩, by simp only; omega⟩
      unfold rnd
      rw [List.replicate_succ', List.append_assoc]
      rfl
    · rw [if_neg (dneg (by omega))]
      have : i = q := by omega
      subst this
      exact .inr ⟨_, rfl, rfl⟩) (d0, 0) ⟨0, by simp [rnd], by omega⟩ (by simp; omega)
  rw [h1, h2]

theorem rnd_least (q : Nat) (hq : 1 ≤ q ∧ q ≤ 5) : leastcode_Least (rnd q) 12 = some ((12, List.replicate q 4095), 0) := by
  have hg : JobGood (rnd q) 12 := good_of (by rcases (by omega : q = 1 ∨ q = 2 ∨ q = 3 ∨ q = 4 ∨ q = 5) with rfl | rfl | rfl | rfl | rfl <;> decide +kernel)
  refine Least_some hg ?_ (m := 4095) (mx_of (fun x hx => by rw [List.eq_of_mem_replicate hx]; decide) (.inr (by rw [List.mem_replicate]; exact ⟨by omega, rfl⟩))) ⟨12, rfl, by omega, by decide, .inr (by decide)⟩
  rcases (by omega : q = 1 ∨ q = 2 ∨ q = 3 ∨ q = 4 ∨ q = 5) with rfl | rfl | rfl | rfl | rfl <;> exact ⟨rfl, by decide +kernel⟩

theorem behind_none (q : Nat) (hq : 1 ≤ q ∧ q ≤ 5) : leastcode_Least ((0, 1, 0, 100) :: rnd q) 12 = some ((0, []), 15) := by
  have hg : JobGood ((0, 1, 0, 100) :: rnd q) 12 := good_of (by rcases (by omega : q = 1 ∨ q = 2 ∨ q = 3 ∨ q = 4 ∨ q = 5) with rfl | rfl | rfl | rfl | rfl <;> decide +kernel)
  refine Least_none hg fun v hv => ?_
  have hl : ((0, 1, 0, 100) :: rnd q : List Item).length = q + 1 := by simp [rnd]
  have g1 : ((0, 1, 0, 100) :: rnd q : List Item)[1]? = some (0, 0, 12, 100) := by
    rw [List.getElem?_cons_succ]; unfold rnd; rw [List.getElem?_replicate, if_pos (by omega)]
  have g0 : ((0, 1, 0, 100) :: rnd q : List Item)[0]? = some (0, 1, 0, 100) := rfl
  have h1 := hv.eq 1 (by omega)
  have hr1 : rOf ((0, 1, 0, 100) :: rnd q) 1 = 12 := by unfold rOf; rw [g1]
  have hr0 : rOf ((0, 1, 0, 100) :: rnd q) 0 = 0 := by unfold rOf; rw [g0]
  have hn1 := needU_nn ((0, 1, 0, 100) :: rnd q) v 1
  have hv1 : v.getD 1 0 = 4095 := by
    rcases (nx_ok hn1 (hg.r 1) hg.w).2.2 with ⟨k, e, _, h2, h3, _⟩ | ⟨e, _⟩
    · rw [e] at h1
      have e2 : (k : Int) = v.getD 1 0 := congrArg Prod.fst h1
      rw [hr1] at h3
      simp only [isN, Bool.and_eq_true, decide_eq_true_eq] at h3
      have h4 := h3.1
      have e3 : (2 : Nat) ^ (12 : Int).toNat = 4096 := by decide
      rw [e3] at h4
      omega
    · rw [e] at h1
      have := congrArg Prod.snd h1
      simp at this
  have hrel : rel ((0, 1, 0, 100) :: rnd q) 1 0 = 2 := by
    unfold rel; rw [g1, g0]; rfl
  have hge := needU_ge ((0, 1, 0, 100) :: rnd q) v 0 (((0, 1, 0, 100) :: rnd q : List Item).length) 1 (by omega) (by rw [hrel]; decide)
  rw [hrel, hv1] at hge
  have h0 := hv.eq 0 (by omega)
  have hn0 := needU_nn ((0, 1, 0, 100) :: rnd q) v 0
  rcases nx_cases hn0 (hg.r 0) hg.w with ⟨_, q1, q2⟩ | q0
  · have : need ((0, 1, 0, 100) :: rnd q) v 0 = needU ((0, 1, 0, 100) :: rnd q) v 0 (((0, 1, 0, 100) :: rnd q : List Item).length) := rfl
    omega
  · rw [q0] at h0
    have := congrArg Prod.snd h0
    simp at this

theorem rounds_ok (p0 : Int) (b : Bool) : law13_LeastcodeRounds p0 b = some true := by
  obtain ⟨q0, e0, l0⟩ := place_ok p0 5 (by omega)
  have he : IntKind.i64.wrap (1 + (Int.tmod (IntKind.i64.wrap ((Int.tmod p0 5) + 5)) 5)) = ((q0 + 1 : Nat) : Int) := by
    rw [e0, wr_id (by omega) (by omega)]; omega
  unfold law13_LeastcodeRounds
  cases b with
  | true =>
    rw [if_pos rfl, if_pos (by simp)]
    unfold law13_LeastcodeRounds_J4
    rw [RD14_ok p0 (q0 + 1) (by omega) he _ (by simp)]
    simp only [obind, List.nil_append, List.cons_append]
    rw [behind_none (q0 + 1) (by omega)]
    simp only [obind]
    rw [if_pos trivial, if_pos (by decide), sane13_ok]
    rfl
  | false =>
    rw [if_neg (by decide)]
    unfold law13_LeastcodeRounds_J4
    rw [RD14_ok p0 (q0 + 1) (by omega) he _ (by simp)]
    simp only [obind, List.nil_append]
    rw [rnd_least (q0 + 1) (by omega)]
    simp only [obind, he]
    rw [if_neg (by decide), if_neg (by decide), if_neg (by decide), if_neg (by simp)]
    have h3 := loop_count (law13_LeastcodeRounds_L30 ((12, List.replicate (q0 + 1) 4095), 0)) (.inr ()) 0 (q0 + 1) (by omega) (by omega) (fun y _ hy => by
      unfold law13_LeastcodeRounds_L30
      simp only [List.length_replicate]
      rw [if_pos (dpos (by omega)), idx_nat, List.getElem?_replicate, if_pos hy]
      simp only [obind]
      rw [if_neg (by decide), wr_id (by omega) (by omega)]) (by
      unfold law13_LeastcodeRounds_L30
      simp only [List.length_replicate]
      rw [if_neg (dneg (by omega))])
    rw [show ((0 : Nat) : Int) = 0 from rfl] at h3
    rw [h3]
    simp only [obind]
    rw [sane13_ok]
    rfl
end Go.Proofs.Ytgdaanhiagoonaa
