
/- Plain laws: the witness and the bound of a chain. No condition beyond those of each theorem. -/
import Derived.Test.YtcignnfdpgeogaaPKleast0
import Derived.Test.YtcignnfdpgeogaaPJref0
import Derived.Test.YtcignnfdpgeogaaPJnx
set_option linter.unusedVariables false
set_option linter.unusedSectionVars false
set_option linter.unusedSimpArgs false
set_option maxRecDepth 100000
namespace Go.Proofs.Ytcignnfdpgeogaa
open Go Go.V Go.Proofs

section
variable {its : List Item} {wt : Int} (hg : JobGood its wt)
include hg

/-! ### The witness -/
theorem WL27_ok {base v : List Int} (e : Int) (hv : IsLst its wt v) (hbl : base.length = its.length) (hba : ∀ y, y < its.length → base.getD y 0 = need its v y) (y : Nat) (hy : y < its.length) (h : need its v y > 0) :
    loop (leastcode_Witness_L27 (relM its) (base, v, e) (y : Int)) 0 = some (nx2 its v y : Int) := by
  have hl := hg.len
  have hc := hv.c12 hg
  have hvl := hv.len
  obtain ⟨s1, s2, s3, s4⟩ := nx2_spec h
  obtain ⟨d, h1, h2⟩ := loop_inv (step := leastcode_Witness_L27 (relM its) (base, v, e) (y : Int)) (fun s => ∃ x : Nat, s = (x : Int) ∧ x ≤ nx2 its v y) (fun s => its.length - s.toNat)
    (fun d => d = (nx2 its v y : Int)) (by
    rintro _ ⟨x, rfl, hx⟩
    unfold leastcode_Witness_L27
    simp only
    rw [if_pos (dpos (by omega)), relM_get (by omega)]
    simp only [obind]
    rw [relRow_get hy]
    simp only [obind]
    rw [wr_id (n := (x : Int) + 1) (by omega) (by omega)]
    have hrr := rel_range its x y
    by_cases hr : rel its x y > 0
    · have hvx := hc x
      rw [if_pos (dpos hr), idx_getD (by omega)]
      simp only [obind]
      rw [idx_getD (by omega), hba y hy]
      simp only [obind]
      rw [wr_id (n := v.getD x 0 + rel its x y) (by omega) (by omega), wr_id (n := v.getD x 0 + rel its x y - 1) (by omega) (by omega)]
      by_cases e : v.getD x 0 + rel its x y - 1 = need its v y
      · rw [if_pos (by rw [e]; simp)]
        refine .inr ⟨_, rfl, ?_⟩
        rcases Nat.lt_or_ge x (nx2 its v y) with hlt | hge
        · have := s4 x hlt
          unfold stp2 at this
          rw [dpos hr, dpos e] at this
          cases this
        · rw [show x = nx2 its v y by omega]
      · rw [if_neg (by rw [beq_iff_eq]; exact e)]
        have hne : x ≠ nx2 its v y := fun e' => by rw [← e'] at s2; omega
        exact .inl ⟨_, rfl, ⟨x + 1, rfl, by omega⟩, by omega⟩
    · rw [if_neg (dneg hr)]
      have hne : x ≠ nx2 its v y := fun e => by rw [← e] at s1; omega
      exact .inl ⟨_, rfl, ⟨x + 1, rfl, by omega⟩, by omega⟩) 0 ⟨0, rfl, by omega⟩ (by simp; omega)
  rw [h1, h2]

theorem WL23_ok {base v : List Int} (e : Int) (hv : IsLst its wt v) (hbl : base.length = its.length) (hba : ∀ y, y < its.length → base.getD y 0 = need its v y) (y0 : Nat) (hy0 : y0 < its.length) :
    loop (leastcode_Witness_L23 (relM its) (base, v, e)) ((y0 : Int), [(y0 : Int)]) = some (castL (down2 its v 40 y0)) := by
  have hl := hg.len
  have hb := hg.b
  obtain ⟨d, h1, h2⟩ := loop_inv (step := leastcode_Witness_L23 (relM its) (base, v, e)) (fun s => ∃ (acc : List Nat) (y f : Nat), s = ((y : Int), castL (acc ++ [y])) ∧ y < its.length ∧ acc ++ down2 its v f y = down2 its v 40 y0 ∧ bOf its y ≤ f ∧ acc.length + f ≤ 40) (fun s => (bOf its s.1.toNat).toNat)
    (fun d => d = castL (down2 its v 40 y0)) (by
    rintro _ ⟨acc, y, f, rfl, hy, hd, hbf, hfl⟩
    unfold leastcode_Witness_L23
    simp only
    rw [idx_getD (by omega), hba y hy]
    simp only [obind]
    by_cases hp : need its v y > 0
    · obtain ⟨s1, s2, s3, s4⟩ := nx2_spec hp
      have hblk := (rel_blk s1).1
      have hb0 := hb (nx2 its v y)
      have hby := hb y
      rw [if_pos (dpos hp), WL27_ok hg e hv hbl hba y hy hp]
      simp only [obind]
      rw [if_pos (by rw [castL_len]; simp only [List.length_append, List.length_cons, List.length_nil]; omega)]
      obtain ⟨f', rfl⟩ : ∃ f', f = f' + 1 := ⟨f - 1, by omega⟩
      refine .inl ⟨_, rfl, ⟨acc ++ [y], nx2 its v y, f', ?_, s3, ?_, by omega, by simp; omega⟩, by simp only [Int.toNat_natCast]; omega⟩
      · rw [castL_app (acc ++ [y])]; rfl
      · rw [← hd]
        conv => rhs; unfold down2
        rw [if_pos hp, List.append_assoc]; rfl
    · have h0 : need its v y = 0 := by have := need_nonneg its v y; omega
      rw [if_neg (dneg hp)]
      refine .inr ⟨_, rfl, ?_⟩
      rw [← hd, down2_zero its v y h0]) ((y0 : Int), [(y0 : Int)]) ⟨[], y0, 40, rfl, hy0, rfl, by have := hb y0; omega, by simp⟩ (by have := hb y0; simp only [Int.toNat_natCast]; omega)
  rw [h1, h2]


/-- What Witness answers for a valid job. -/
def WitSpec (its : List Item) (wt : Int) (p : List Int × Int) : Prop :=
  (∃ v, IsLst its wt v ∧ p.2 = 0 ∧ ((v.length = 0 ∧ p.1 = []) ∨ ∃ y0, FstMax v y0 ∧ p.1 = castL (down2 its v 40 y0).reverse)) ∨ (p = ([], 15) ∧ Stuck its wt)

theorem Witness_ok : ∃ p, leastcode_Witness its wt = some p ∧ WitSpec its wt p := by
  have hl := hg.len
  unfold leastcode_Witness
  rw [valid_good hg]
  simp only [obind, bne_self_eq_false, Bool.false_eq_true, if_false]
  rw [relations_ok its wt (by omega)]
  simp only [obind]
  obtain ⟨⟨base, v, e⟩, h1, h2⟩ := solve_ok hg
  rw [h1]
  simp only [obind]
  rcases h2 with ⟨e0, hv, hbl, hba⟩ | ⟨e0, hS⟩
  · simp only at e0 hv hbl hba
    subst e0
    have hvl := hv.len
    simp only [bne_self_eq_false, Bool.false_eq_true, if_false]
    by_cases h0 : v.length = 0
    · rw [if_pos (by rw [h0]; rfl)]
      exact ⟨_, rfl, .inl ⟨v, hv, rfl, .inl ⟨h0, rfl⟩⟩⟩
    · rw [if_neg (by rw [beq_iff_eq]; omega)]
      obtain ⟨m, e1, q1, q2⟩ := max_ok v (by omega) (by omega)
      obtain ⟨y0, e2, q3, q4, q5⟩ := index_ok v m (by omega) q1
      rw [e1]
      simp only [obind]
      rw [e2]
      simp only [obind]
      rw [WL23_ok hg 0 hv hbl hba y0 (by omega)]
      simp only [obind]
      rw [castL_rev]
      exact ⟨_, rfl, .inl ⟨v, hv, rfl, .inr ⟨y0, ⟨q3, fun y hy => by rw [q4]; exact q2 y hy, fun y hy => by rw [q4]; exact q5 y hy⟩, rfl⟩⟩⟩
  · cases e0
    rw [if_pos (by decide)]
    exact ⟨_, rfl, .inr ⟨rfl, hS⟩⟩
end

/-! ### The bound of a chain -/

/-- Each element is an item, and each one comes before the next one. -/
def ChainOK (its : List Item) (c : List Int) (m : Nat) : Prop :=
  (∀ i, i < m → 0 ≤ c.getD i 0 ∧ c.getD i 0 < its.length) ∧ ∀ i, i + 1 < m → rel its (c.getD i 0).toNat (c.getD (i + 1) 0).toNat ≠ 0

/-- The bound behind m elements. -/
def bdr (its : List Item) (wt : Int) (c : List Int) : Nat → Int × Int
  | 0 => (0, 0)
  | m + 1 => if (bdr its wt c m).2 ≠ 0 then (0, 15) else
      NX ((bdr its wt c m).1 + (if 0 < m then rel its (c.getD (m - 1) 0).toNat (c.getD m 0).toNat - 1 else 0)) (rOf its (c.getD m 0).toNat) wt

section
variable {its : List Item} {wt : Int} (hg : JobGood its wt)
include hg

end
end Go.Proofs.Ytcignnfdpgeogaa
