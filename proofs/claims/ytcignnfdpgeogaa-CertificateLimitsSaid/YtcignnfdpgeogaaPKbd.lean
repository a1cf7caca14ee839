
/- Plain laws: the bounds of chains and of the witness. No condition beyond those of each theorem. -/
import Derived.Test.YtcignnfdpgeogaaPKuse0
import Derived.Test.YtcignnfdpgeogaaPKleast
set_option linter.unusedVariables false
set_option linter.unusedSectionVars false
set_option linter.unusedSimpArgs false
set_option maxRecDepth 100000
namespace Go.Proofs.Ytcignnfdpgeogaa
open Go Go.V Go.Proofs

section
variable {its : List Item} {wt : Int} (hg : JobGood its wt) {v : List Int} (hv : IsLst its wt v)
include hg hv


theorem down2_facts : ∀ (f y : Nat), bOf its y ≤ f → y < its.length → (∀ x ∈ down2 its v f y, x < its.length) ∧ (down2 its v f y)[0]? = some y ∧
    (∀ (i a b : Nat), (down2 its v f y)[i]? = some a → (down2 its v f y)[i + 1]? = some b → rel its b a > 0 ∧ v.getD b 0 + rel its b a - 1 = need its v a) ∧
    (∀ a, (down2 its v f y)[(down2 its v f y).length - 1]? = some a → need its v a = 0) ∧ (down2 its v f y).length ≤ f + 1
  | 0, y, hb, hy => by
    have h0 : need its v y = 0 := by
      rcases needU_at its v y its.length with h | ⟨x, h1, h2, h3⟩
      · exact h
      · have := (rel_blk h2).1
        have := (hg.b x).1
        omega
    unfold down2
    refine ⟨fun x hx => by simp only [List.mem_singleton] at hx; omega, rfl, fun i a b _ h => ?_, fun a h => ?_, by simp⟩
    · rw [List.getElem?_eq_none (by simp)] at h; cases h
    · simp at h; subst h; exact h0
  | f + 1, y, hb, hy => by
    by_cases hp : need its v y > 0
    · obtain ⟨s1, s2, s3, s4⟩ := nx2_spec hp
      have hblk := (rel_blk s1).1
      obtain ⟨r1, r2, r3, r4, r5⟩ := down2_facts f (nx2 its v y) (by omega) s3
      unfold down2
      rw [if_pos hp]
      refine ⟨fun x hx => ?_, rfl, fun i a b ha hb => ?_, fun a ha => ?_, by simp only [List.length_cons]; omega⟩
      · rcases List.mem_cons.1 hx with rfl | hx
        · exact hy
        · exact r1 x hx
      · cases i with
        | zero =>
          rw [List.getElem?_cons_zero] at ha
          rw [List.getElem?_cons_succ, r2] at hb
          cases ha; cases hb
          exact ⟨s1, s2⟩
        | succ i =>
          rw [List.getElem?_cons_succ] at ha hb
          exact r3 i a b ha hb
      · have hpos : 0 < (down2 its v f (nx2 its v y)).length := (List.getElem?_eq_some_iff.1 r2).1
        rw [List.length_cons, show (down2 its v f (nx2 its v y)).length + 1 - 1 = ((down2 its v f (nx2 its v y)).length - 1) + 1 by omega, List.getElem?_cons_succ] at ha
        exact r4 a ha
    · have h0 : need its v y = 0 := by have := need_nonneg its v y; omega
      rw [down2_zero its v y h0]
      refine ⟨fun x hx => by simp only [List.mem_singleton] at hx; omega, rfl, fun i a b _ h => ?_, fun a h => ?_, by simp⟩
      · rw [List.getElem?_eq_none (by simp)] at h; cases h
      · simp at h; subst h; exact h0


/-- The witness is a chain, and its bound is the code of its last element. -/
theorem wit_bound (y0 : Nat) (hy0 : y0 < its.length) : ChainOK its (castL (down2 its v 40 y0).reverse) (castL (down2 its v 40 y0).reverse).length ∧ (castL (down2 its v 40 y0).reverse).length ≤ 41 ∧
    bdr its wt (castL (down2 its v 40 y0).reverse) (castL (down2 its v 40 y0).reverse).length = (v.getD y0 0, 0) := by
  obtain ⟨f1, f2, f3, f4, f5⟩ := down2_facts hg hv 40 y0 (by have := hg.b y0; omega) hy0
  generalize down2 its v 40 y0 = c at f1 f2 f3 f4 f5 ⊢
  have hc0 : 0 < c.length := (List.getElem?_eq_some_iff.1 f2).1
  have hlen : (castL c.reverse).length = c.length := by rw [castL_len, List.length_reverse]
  have hget : ∀ (i a : Nat), i < c.length → c[c.length - 1 - i]? = some a → (castL c.reverse).getD i 0 = (a : Int) := by
    intro i a hi ha
    rw [List.getD_eq_getElem?_getD, castL_get, List.getElem?_reverse hi, ha]; rfl
  have hex : ∀ i, i < c.length → ∃ a, c[c.length - 1 - i]? = some a := fun i hi => ⟨_, List.getElem?_eq_getElem (by omega)⟩
  have hstep : ∀ i a b, i + 1 < c.length → c[c.length - 1 - i]? = some a → c[c.length - 1 - (i + 1)]? = some b → rel its a b > 0 ∧ v.getD a 0 + rel its a b - 1 = need its v b := by
    intro i a b hi ha hb
    refine f3 (c.length - 1 - (i + 1)) b a hb ?_
    rw [show c.length - 1 - (i + 1) + 1 = c.length - 1 - i by omega]
    exact ha
  rw [hlen]
  have hC : ChainOK its (castL c.reverse) c.length := by
    refine ⟨fun i hi => ?_, fun i hi => ?_⟩
    · obtain ⟨a, ha⟩ := hex i hi
      have := f1 a (List.mem_of_getElem? ha)
      rw [hget i a hi ha]
      omega
    · obtain ⟨a, ha⟩ := hex i (by omega)
      obtain ⟨b, hb⟩ := hex (i + 1) hi
      rw [hget i a (by omega) ha, hget (i + 1) b hi hb]
      simp only [Int.toNat_natCast]
      have := (hstep i a b hi ha hb).1
      omega
  refine ⟨hC, f5, ?_⟩
  have key : ∀ m a, m < c.length → c[c.length - 1 - m]? = some a → bdr its wt (castL c.reverse) (m + 1) = (v.getD a 0, 0) := by
    intro m
    induction m with
    | zero =>
      intro a hm ha
      have h0 := f4 a (by simpa using ha)
      have hal := f1 a (List.mem_of_getElem? ha)
      have he := hv.eq a hal
      unfold bdr bdr
      rw [if_neg (by decide), if_neg (by decide), hget 0 a hm ha, Int.toNat_natCast, ← he, h0]
      rfl
    | succ m ih =>
      intro b hm hb
      obtain ⟨a, ha⟩ := hex m (by omega)
      have hi := ih a (by omega) ha
      obtain ⟨r1, r2⟩ := hstep m a b hm ha hb
      have hbl := f1 b (List.mem_of_getElem? hb)
      have he := hv.eq b hbl
      unfold bdr
      rw [hi, if_neg (fun q => q rfl), if_pos (by omega), show m + 1 - 1 = m by omega, hget m a (by omega) ha, hget (m + 1) b hm hb, Int.toNat_natCast, Int.toNat_natCast, ← he, ← r2]
      simp only
      congr 1
      omega
  have := key (c.length - 1) y0 (by omega) (by rw [show c.length - 1 - (c.length - 1) = 0 by omega]; exact f2)
  rw [show c.length - 1 + 1 = c.length by omega] at this
  exact this
end
end Go.Proofs.Ytcignnfdpgeogaa
