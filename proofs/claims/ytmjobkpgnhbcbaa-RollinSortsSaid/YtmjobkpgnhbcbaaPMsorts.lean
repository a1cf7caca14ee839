/- Plain law of RollinSorts: a plan sorts its job exactly if its codes satisfy all relations. No condition. -/
import Derived.Test.YtmjobkpgnhbcbaaPMplan
import Derived.Test.YtmjobkpgnhbcbaaPMsorted
import Derived.Test.YtmjobkpgnhbcbaaGRollinSorts
set_option linter.unusedVariables false
set_option linter.unusedSectionVars false
set_option linter.unusedSimpArgs false
set_option maxRecDepth 100000
namespace Go.Proofs.Ytmjobkpgnhbcbaa
open Go Go.V Go.Proofs

section
variable {its : List Item} {wt k : Int} (hl : its.length ≤ 1000) {codes : List Int} (hcl : codes.length = its.length) (hc : ∀ y, 0 ≤ codes.getD y 0 ∧ codes.getD y 0 ≤ 100000)
include hl hcl hc

def RelTo (its : List Item) (codes : List Int) (x y : Nat) : Prop := rel its x y > 0 → codes.getD x 0 + rel its x y - 1 ≤ codes.getD y 0
theorem MS55_ok (x : Nat) (hx : x < its.length) (b0 : Bool) (P : Prop) (hb0 : b0 = true ↔ P) :
    ∃ b, loop (law14_RollinSorts_L55 ((its, wt), k) codes (x : Int)) (b0, 0) = some b ∧ (b = true ↔ P ∧ ∀ y, y < its.length → RelTo its codes x y) := by
  refine loop_inv (step := law14_RollinSorts_L55 ((its, wt), k) codes (x : Int)) (fun s => ∃ (b : Bool) (t : Nat), s = (b, (t : Int)) ∧ t ≤ its.length ∧ (b = true ↔ P ∧ ∀ y, y < t → RelTo its codes x y)) (fun s => its.length - s.2.toNat) _ ?_ _ ⟨b0, 0, rfl, by omega, by rw [hb0]; exact ⟨fun h => ⟨h, fun y hy => by omega⟩, fun h => h.1⟩⟩ (by simp; omega)
  rintro _ ⟨b, t, rfl, ht, hb⟩
  unfold law14_RollinSorts_L55
  simp only [hcl]
  have hext : ∀ (q : Prop), (RelTo its codes x t ↔ q) → ((P ∧ ∀ y, y < t + 1 → RelTo its codes x y) ↔ ((P ∧ ∀ y, y < t → RelTo its codes x y) ∧ q)) := by
    intro q hq
    constructor
    · rintro ⟨h1, h2⟩
      exact ⟨⟨h1, fun y hy => h2 y (by omega)⟩, hq.1 (h2 t (by omega))⟩
    · rintro ⟨⟨h1, h2⟩, h3⟩
      refine ⟨h1, fun y hy => ?_⟩
      by_cases e : y = t
      · subst e; exact hq.2 h3
      · exact h2 y (by omega)
  by_cases h : t < its.length
  · rw [if_pos (dpos (by omega)), wr_id (n := (t : Int) + 1) (by omega) (by omega)]
    cases b with
    | false =>
      rw [if_neg (by decide)]
      refine .inl ⟨_, rfl, ⟨false, t + 1, rfl, by omega, ?_⟩, by simp only; omega⟩
      rw [hext _ Iff.rfl, ← hb]
      simp
    | true =>
      have hrr := rel_range its x t
      rw [if_pos rfl, kind_ok its wt x t hx h]
      simp only [obind]
      by_cases hr : rel its x t = 0
      · rw [if_pos (by rw [hr]; rfl)]
        refine .inl ⟨_, rfl, ⟨true, t + 1, rfl, by omega, ?_⟩, by simp only; omega⟩
        rw [hext True ⟨fun _ => trivial, fun _ h => by omega⟩, ← hb]
        simp
      · have hcx := hc x
        have hsr := str_range its x t
        rw [if_neg (by rw [beq_iff_eq]; exact hr), idx_getD (by omega)]
        simp only [obind]
        rw [idx_getD (by omega), strict_ok its wt x t hx h]
        simp only [obind]
        rw [wr_id (n := codes.getD x 0 + str its x t) (by omega) (by omega), str_eq (by omega)]
        refine .inl ⟨_, rfl, ⟨_, t + 1, rfl, by omega, ?_⟩, by simp only; omega⟩
        rw [hext (codes.getD x 0 + (rel its x t - 1) ≤ codes.getD t 0) ⟨fun h => by have := h (by omega); omega, fun h _ => by omega⟩, ← hb]
        simp
  · rw [if_neg (dneg (by omega))]
    have : t = its.length := by omega
    subst this
    exact .inr ⟨_, rfl, hb⟩

theorem MS53_ok : ∃ b, loop (law14_RollinSorts_L53 ((its, wt), k) codes) (true, 0) = some b ∧ (b = true ↔ RelOK its codes) := by
  obtain ⟨b, h1, h2⟩ := loop_inv (step := law14_RollinSorts_L53 ((its, wt), k) codes) (fun s => ∃ (b : Bool) (t : Nat), s = (b, (t : Int)) ∧ t ≤ its.length ∧ (b = true ↔ ∀ x, x < t → ∀ y, y < its.length → RelTo its codes x y)) (fun s => its.length - s.2.toNat)
    (fun b => b = true ↔ ∀ x, x < its.length → ∀ y, y < its.length → RelTo its codes x y) (by
    rintro _ ⟨b, t, rfl, ht, hb⟩
    unfold law14_RollinSorts_L53
    simp only [hcl]
    by_cases h : t < its.length
    · obtain ⟨b', e1, e2⟩ := MS55_ok (wt := wt) (k := k) hl hcl hc t h b _ hb
      rw [if_pos (dpos (by omega)), e1]
      simp only [obind]
      rw [wr_id (by omega) (by omega)]
      refine .inl ⟨_, rfl, ⟨b', t + 1, rfl, by omega, ?_⟩, by simp only; omega⟩
      rw [e2]
      constructor
      · rintro ⟨g1, g2⟩ x hx
        by_cases e : x = t
        · subst e; exact g2
        · exact g1 x (by omega)
      · intro g
        exact ⟨fun x hx => g x (by omega), g t (by omega)⟩
    · rw [if_neg (dneg (by omega))]
      have : t = its.length := by omega
      subst this
      exact .inr ⟨_, rfl, hb⟩) (true, 0) ⟨true, 0, rfl, by omega, ⟨fun _ x hx => by omega, fun _ => rfl⟩⟩ (by simp; omega)
  refine ⟨b, h1, h2.trans ⟨fun h x y hr => ?_, fun h x hx y hy hr => h x y hr⟩⟩
  obtain ⟨_, hx, hy⟩ := rel_blk hr
  exact h x hx y hy hr
end

theorem MJ18_ok {its : List Item} {wt k S : Int} {codes : List Int} (hg : Good its wt S codes) : law14_RollinSorts_J18 ((its, wt), k) S codes = some true := by
  have hl := hg.job.len
  have hrl : (rows ((yard its S codes).B (S.toNat + 1)) (trains its)).length ≤ 1000 := by rw [rows_len]; have := T_le hg; omega
  obtain ⟨b, b1, b2⟩ := jsorted_ok hg.job _ hrl
  have hc : ∀ y, 0 ≤ codes.getD y 0 ∧ codes.getD y 0 ≤ 100000 := fun y => by
    by_cases hy : y < its.length
    · obtain ⟨c1, c2, _⟩ := code_at hg hy
      have hp := pow_le S.toNat (by have := hg.st; omega)
      omega
    · rw [List.getD_eq_getElem?_getD, List.getElem?_eq_none (by rw [hg.cl]; omega)]
      decide
  obtain ⟨w, w1, w2⟩ := MS53_ok (wt := wt) (k := k) (by omega : its.length ≤ 1000) hg.cl hc
  unfold law14_RollinSorts_J18
  rw [Run_ok hg]
  simp only [obind]
  rw [b1]
  simp only [obind, bne_self_eq_false, Bool.false_eq_true, if_false]
  rw [w1]
  have e : b = w := by rw [Bool.eq_iff_iff, b2, w2]; exact sorted_iff hg
  subst e
  simp only [obind, beq_self_eq_true, if_true]
  rw [sane14_ok]
  rfl

theorem set_good {its : List Item} {wt S : Int} {codes : List Int} (hg : Good its wt S codes) (i : Nat) (hi : i < its.length) (c : Int) (h0 : 0 ≤ c) (h1 : c < ((2 ^ S.toNat : Nat) : Int)) (h2 : isN (rOf its i).toNat wt.toNat c.toNat = true) : Good its wt S (codes.set i c) := by
  refine ⟨hg.job, hg.st, by rw [List.length_set]; exact hg.cl, fun j x d hx hd => ?_⟩
  rw [List.getElem?_set] at hd
  by_cases e : i = j
  · subst e
    rw [if_pos rfl, if_pos (by rw [hg.cl]; exact hi)] at hd
    cases hd
    have hr : rOf its i = x.2.2.1 := by unfold rOf; rw [hx]
    rw [hr] at h2
    exact ⟨h0, h1, h2⟩
  · rw [if_neg e] at hd
    exact hg.code j x d hx hd

theorem rollinSorts_ok (l : List Int) : law14_RollinSorts l = some true := by
  unfold law14_RollinSorts gen_New
  simp only [obind]
  obtain ⟨its, wt, k, h1, k0, k1, _, hg, h4⟩ := job_ok l 0 10 (by omega) (by omega)
  have hl := hg.len
  rw [h1]
  simp only [obind]
  obtain ⟨S, codes, k2, h2, q1, q2, hG⟩ := plan_ok l k its wt (by omega) hg (fun i x hx => (h4 i x hx).1)
  rw [h2]
  simp only [obind]
  have hplain : ∀ (x19 : (Int × List Int) × Int) (k' : Int), law14_RollinSorts_J25 (l, 0) ((its, wt), k) ((S, codes), k2) x19 k' false = some true := fun x19 k' => by
    unfold law14_RollinSorts_J25
    rw [if_neg (by decide)]
    exact MJ18_ok hG
  rcases Least_cases hg with ⟨v, T, m, hv, e1, hm, hT⟩ | ⟨e1, hs⟩
  · have hV := least_good hg hv hm hT
    have hvl := hv.len
    obtain ⟨hT0, hT1⟩ := hV.st
    have hp := pow_le T.toNat (by omega)
    rw [e1]
    simp only [obind]
    rw [if_pos (by simp)]
    obtain ⟨a, e2, _, _⟩ := next_ok l k2 2 (by omega) (by omega) (by omega) (by omega)
    rw [e2]
    simp only [obind]
    by_cases ha : a = 0
    · have hb : (((v.length : Nat) : Int) == ((its.length : Nat) : Int)) = true := by rw [hvl]; simp
      rw [if_pos (by rw [ha]; rfl), hb]
      unfold law14_RollinSorts_J25
      rw [if_pos rfl]
      simp only
      have hno : ∀ k', law14_RollinSorts_J29 (l, 0) ((its, wt), k) ((T, v), 0) k' false = some true := fun k' => by
        unfold law14_RollinSorts_J29
        rw [if_neg (by decide)]
        exact MJ18_ok hV
      by_cases hz : (v.length : Int) > 0
      · obtain ⟨a3, e3, _, _⟩ := next_ok l (k2 + 1) 2 (by omega) (by omega) (by omega) (by omega)
        rw [if_pos (dpos hz), e3]
        simp only [obind]
        cases hb3 : (a3 == 0) with
        | false => exact hno _
        | true =>
          unfold law14_RollinSorts_J29
          rw [if_pos rfl]
          simp only
          obtain ⟨i, e4, i1⟩ := next_nat l (k2 + 1 + 1) (v.length : Int) (by omega) (by omega) (by omega) (by omega)
          rw [e4]
          simp only [obind]
          rw [if_pos hT0]
          obtain ⟨it, hit⟩ : ∃ it, its[i]? = some it := ⟨_, List.getElem?_eq_getElem (by omega)⟩
          have hir : rOf its i = it.2.2.1 := by unfold rOf; rw [hit]
          rw [idx_nat, hit]
          simp only [obind]
          have hsh : IntKind.i64.wrap (1 * (2 : Int) ^ (min (Int.toNat T) IntKind.i64.bits)) = ((2 ^ T.toNat : Nat) : Int) := by
            have := one_shl T.toNat (by omega)
            rw [show ((T.toNat : Nat) : Int) = T by omega] at this
            exact this
          rw [hsh]
          obtain ⟨z, e5, z0, z1⟩ := next_ok l (k2 + 1 + 1 + 1) ((2 ^ T.toNat : Nat) : Int) (by omega) (by omega) (by omega) (by omega)
          rw [e5]
          simp only [obind]
          have hr := hg.r i
          rw [← hir, (nx_ok z0 hr hg.w).2.1]
          simp only [obind]
          rcases (nx_ok z0 hr hg.w).2.2 with ⟨c, f1, f2, f3, f4, _⟩ | ⟨f1, _⟩
          · rw [f1]
            rw [if_pos (by simp), if_pos hT0]
            by_cases hlt : (c : Int) < ((2 ^ T.toNat : Nat) : Int)
            · rw [if_pos (dpos hlt), idx_getD (by omega)]
              simp only [obind, Int.toNat_natCast]
              exact MJ18_ok (set_good hV i (by omega) (c : Int) (by omega) hlt (by rw [Int.toNat_natCast]; exact f4))
            · rw [if_neg (dneg hlt)]
              exact MJ18_ok hV
          · rw [f1, if_neg (by decide)]
            exact MJ18_ok hV
      · rw [if_neg (dneg hz)]
        exact hno _
    · rw [if_neg (by rw [beq_iff_eq]; exact ha)]
      exact hplain _ _
  · rw [e1]
    simp only [obind]
    rw [if_neg (by decide)]
    exact hplain _ _
end Go.Proofs.Ytmjobkpgnhbcbaa
