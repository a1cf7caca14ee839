/- Plain laws: the deepest chain. No condition beyond those of each theorem. -/
import Derived.Test.YtacimonplnlmgaaPJsane
import Derived.Test.YtacimonplnlmgaaPJnx
set_option linter.unusedVariables false
set_option linter.unusedSectionVars false
set_option linter.unusedSimpArgs false
set_option maxRecDepth 100000
namespace Go.Proofs.Ytacimonplnlmgaa
open Go Go.V Go.Proofs

def stp (its : List Item) (v : List Int) (y x : Nat) : Bool := decide (rel its x y > 0) && decide (v.getD x 0 + rel its x y - 1 = v.getD y 0)
def nx (its : List Item) (v : List Int) (y : Nat) : Nat := nxA (stp its v y) its.length 0
theorem nx_spec {its : List Item} {v : List Int} (hv : IsLev its v) {y : Nat} (hy : y < its.length) (h : v.getD y 0 > 0) :
    rel its (nx its v y) y > 0 ∧ v.getD (nx its v y) 0 + rel its (nx its v y) y - 1 = v.getD y 0 ∧ nx its v y < its.length ∧ ∀ z, z < nx its v y → stp its v y z = false := by
  have hv' : v.getD y 0 = needU its v y its.length := hv.eq y hy
  obtain ⟨q1, q2, q3, q4⟩ := nxA_spec (stp its v y) its.length 0 (by
    rcases needU_at its v y its.length with h0 | ⟨x, h1, h2, h3⟩
    · omega
    · exact ⟨x, by omega, by omega, by unfold stp; rw [dpos h2, dpos (by omega)]; rfl⟩)
  have q1' : stp its v y (nx its v y) = true := q1
  unfold stp at q1'
  rw [Bool.and_eq_true, decide_eq_true_eq, decide_eq_true_eq] at q1'
  exact ⟨q1'.1, q1'.2, by unfold nx; omega, fun z hz => q4 z (by omega) hz⟩

def down (its : List Item) (v : List Int) : Nat → Nat → List Nat
  | 0, y => [y]
  | f + 1, y => if v.getD y 0 > 0 then y :: down its v f (nx its v y) else [y]
theorem down_zero (its : List Item) (v : List Int) (y : Nat) (h : v.getD y 0 = 0) : ∀ f, down its v f y = [y]
  | 0 => rfl
  | f + 1 => by unfold down; rw [if_neg (by omega)]

section
variable {its : List Item} {wt : Int} (hg : JobGood its wt) {v : List Int} (hv : IsLev its v) (hB : LevB its v)
include hg hv hB

theorem L25_ok (y : Nat) (hy : y < its.length) (h : v.getD y 0 > 0) : loop (job_Deepest_L25 its wt v (y : Int)) (0, rel its 0 y) = some (nx its v y : Int) := by
  have hl := hg.len
  obtain ⟨s1, s2, s3, s4⟩ := nx_spec hv hy h
  obtain ⟨d, h1, h2⟩ := loop_inv (step := job_Deepest_L25 its wt v (y : Int)) (fun s => ∃ x : Nat, s = ((x : Int), rel its x y) ∧ x ≤ nx its v y) (fun s => its.length - s.1.toNat)
    (fun d => d = (nx its v y : Int)) (by
    rintro _ ⟨x, rfl, hx⟩
    have step : x ≠ nx its v y → job_Deepest_J26 its wt (y : Int) (x : Int) = some (.next (((x + 1 : Nat) : Int), rel its (x + 1) y)) := by
      intro hne
      unfold job_Deepest_J26
      rw [wr_id (by omega) (by omega), show (x : Int) + 1 = ((x + 1 : Nat) : Int) by omega, relation_ok its wt (x + 1) y (by omega) hy]
      rfl
    unfold job_Deepest_L25
    simp only
    by_cases hr : rel its x y = 0
    · rw [if_pos (by simp [hr])]
      have hne : x ≠ nx its v y := fun e => by rw [← e] at s1; omega
      rw [step hne]
      exact .inl ⟨_, rfl, ⟨x + 1, rfl, by omega⟩, by simp only; omega⟩
    · rw [if_neg (by rw [beq_iff_eq]; exact hr), idx_getD (by rw [hv.len]; omega), idx_getD (by rw [hv.len]; exact hy)]
      simp only [Option.bind_some]
      have hvx := hB x
      have hbx := hg.b x
      have hrr := rel_range its x y
      rw [wr_id (n := v.getD x 0 + rel its x y) (by omega) (by omega), wr_id (n := v.getD x 0 + rel its x y - 1) (by omega) (by omega)]
      by_cases e : v.getD x 0 + rel its x y - 1 = v.getD y 0
      · rw [if_neg (by rw [e]; simp)]
        refine .inr ⟨_, rfl, ?_⟩
        rcases Nat.lt_or_ge x (nx its v y) with hlt | hge
        · have := s4 x hlt
          unfold stp at this
          rw [dpos (by omega), dpos e] at this
          cases this
        · rw [show x = nx its v y by omega]
      · rw [if_pos (bne_iff_ne.2 e)]
        have hne : x ≠ nx its v y := fun e' => by rw [← e'] at s2; exact e s2
        rw [step hne]
        exact .inl ⟨_, rfl, ⟨x + 1, rfl, by omega⟩, by simp only; omega⟩) (0, rel its 0 y) ⟨0, rfl, by omega⟩ (by simp; omega)
  rw [h1, h2]

theorem L18_ok (y0 : Nat) (hy0 : y0 < its.length) : loop (job_Deepest_L18 its wt v) ((y0 : Int), [(y0 : Int)]) = some (castL (down its v 40 y0)) := by
  have hl := hg.len
  obtain ⟨d, h1, h2⟩ := loop_inv (step := job_Deepest_L18 its wt v) (fun s => ∃ (acc : List Nat) (y f : Nat), s = ((y : Int), castL (acc ++ [y])) ∧ y < its.length ∧ acc ++ down its v f y = down its v 40 y0 ∧ bOf its y ≤ f ∧ acc.length + f ≤ 40) (fun s => (bOf its s.1.toNat).toNat)
    (fun d => d = castL (down its v 40 y0)) (by
    rintro _ ⟨acc, y, f, rfl, hy, hd, hbf, hfl⟩
    unfold job_Deepest_L18
    simp only
    rw [idx_getD (by rw [hv.len]; exact hy)]
    simp only [Option.bind_some]
    by_cases hp : v.getD y 0 > 0
    · obtain ⟨s1, s2, s3, s4⟩ := nx_spec hv hy hp
      have hblk := (rel_blk s1).1
      have hb0 := hg.b (nx its v y)
      have hby := hg.b y
      rw [if_pos (dpos hp), show (0 : Int) = ((0 : Nat) : Int) from rfl, relation_ok its wt 0 y (by omega) hy]
      simp only [Option.bind_some]
      rw [show ((0 : Nat) : Int) = 0 from rfl, L25_ok hg hv hB y hy hp]
      simp only [Option.bind_some]
      rw [if_pos (by rw [castL_len]; simp only [List.length_append, List.length_cons, List.length_nil]; omega)]
      obtain ⟨f', rfl⟩ : ∃ f', f = f' + 1 := ⟨f - 1, by omega⟩
      refine .inl ⟨_, rfl, ⟨acc ++ [y], nx its v y, f', ?_, s3, ?_, by omega, by simp; omega⟩, by simp only [Int.toNat_natCast]; omega⟩
      · rw [castL_app (acc ++ [y])]; rfl
      · rw [← hd]
        conv => rhs; unfold down
        rw [if_pos hp, List.append_assoc]; rfl
    · have h0 : v.getD y 0 = 0 := by have := (hB y).1; omega
      rw [if_neg (dneg hp)]
      refine .inr ⟨_, rfl, ?_⟩
      rw [← hd, down_zero its v y h0]) ((y0 : Int), [(y0 : Int)]) ⟨[], y0, 40, rfl, hy0, rfl, by have := hg.b y0; omega, by simp⟩ (by have := hg.b y0; simp only [Int.toNat_natCast]; omega)
  rw [h1, h2]

theorem Deepest_good (hl : job_levels its wt = some v) : (its.length = 0 ∧ job_Deepest its wt = some ([], 0)) ∨
    ∃ y0, y0 < its.length ∧ (∀ y, y < its.length → v.getD y 0 ≤ v.getD y0 0) ∧ (∀ y, y < y0 → v.getD y 0 ≠ v.getD y0 0) ∧ job_Deepest its wt = some (castL (down its v 40 y0).reverse, 0) := by
  have hlen := hg.len
  have hvl := hv.len
  unfold job_Deepest
  rw [valid_good hg]
  simp only [obind, bne_self_eq_false, Bool.false_eq_true, if_false]
  rw [hl]
  simp only [obind]
  by_cases h0 : its.length = 0
  · rw [if_pos (by rw [hvl, h0]; rfl)]
    exact .inl ⟨h0, rfl⟩
  · rw [if_neg (by rw [beq_iff_eq]; omega)]
    obtain ⟨m, e1, q1, q2⟩ := max_ok v (by omega) (by omega)
    obtain ⟨y0, e2, q3, q4, q5⟩ := index_ok v m (by omega) q1
    rw [e1]
    simp only [obind]
    rw [e2]
    simp only [obind]
    rw [L18_ok hg hv hB y0 (by omega)]
    simp only [obind]
    rw [castL_rev]
    exact .inr ⟨y0, by omega, fun y hy => by rw [q4]; exact q2 y (by omega), fun y hy => by rw [q4]; exact q5 y hy, rfl⟩

theorem down_facts : ∀ (f y : Nat), bOf its y ≤ f → y < its.length → (∀ x ∈ down its v f y, x < its.length) ∧ (down its v f y)[0]? = some y ∧
    (∀ (i a b : Nat), (down its v f y)[i]? = some a → (down its v f y)[i + 1]? = some b → rel its b a > 0 ∧ v.getD a 0 = v.getD b 0 + rel its b a - 1) ∧
    (∀ a, (down its v f y)[(down its v f y).length - 1]? = some a → v.getD a 0 = 0) ∧ (down its v f y).length ≤ f + 1
  | 0, y, hb, hy => by
    have h0 : v.getD y 0 = 0 := by have := hB y; omega
    unfold down
    refine ⟨fun x hx => by simp only [List.mem_singleton] at hx; omega, rfl, fun i a b _ h => ?_, fun a h => ?_, by simp⟩
    · rw [List.getElem?_eq_none (by simp)] at h; cases h
    · simp at h; subst h; exact h0
  | f + 1, y, hb, hy => by
    by_cases hp : v.getD y 0 > 0
    · obtain ⟨s1, s2, s3, s4⟩ := nx_spec hv hy hp
      have hblk := (rel_blk s1).1
      obtain ⟨r1, r2, r3, r4, r5⟩ := down_facts f (nx its v y) (by omega) s3
      unfold down
      rw [if_pos hp]
      refine ⟨fun x hx => ?_, rfl, fun i a b ha hb => ?_, fun a ha => ?_, by simp only [List.length_cons]; omega⟩
      · rcases List.mem_cons.1 hx with rfl | hx
        · exact hy
        · exact r1 x hx
      · cases i with
        | zero =>
          rw [List.getElem?_cons_zero] at ha
          rw [List.getElem?_cons_succ, r2] at hb
          cases ha; cases hb
          exact ⟨s1, by omega⟩
        | succ i =>
          rw [List.getElem?_cons_succ] at ha hb
          exact r3 i a b ha hb
      · have hpos : 0 < (down its v f (nx its v y)).length := (List.getElem?_eq_some_iff.1 r2).1
        rw [List.length_cons, show (down its v f (nx its v y)).length + 1 - 1 = ((down its v f (nx its v y)).length - 1) + 1 by omega, List.getElem?_cons_succ] at ha
        exact r4 a ha
    · have h0 : v.getD y 0 = 0 := by have := hB y; omega
      rw [down_zero its v y h0]
      refine ⟨fun x hx => by simp only [List.mem_singleton] at hx; omega, rfl, fun i a b _ h => ?_, fun a h => ?_, by simp⟩
      · rw [List.getElem?_eq_none (by simp)] at h; cases h
      · simp at h; subst h; exact h0
end
end Go.Proofs.Ytacimonplnlmgaa
