
/- Plain laws: the reference of the jobs: bases and the way back. No condition beyond those of each theorem. -/
import Derived.Test.YtcignnfdpgeogaaPJref0
import Derived.Test.YtcignnfdpgeogaaPJnx
set_option linter.unusedVariables false
set_option linter.unusedSectionVars false
set_option linter.unusedSimpArgs false
set_option maxRecDepth 100000
namespace Go.Proofs.Ytcignnfdpgeogaa
open Go Go.V Go.Proofs

theorem jv_step (items : List Item) : job_Valid_L8 items = r11_Valid_L6 items := by
  funext s
  unfold job_Valid_L8 r11_Valid_L6
  simp only [job_in_ok, Option.bind_some, rng_if, dge]
  rfl
theorem jv_same (items : List Item) (wt : Int) : r11_Valid items wt = job_Valid items wt := by
  unfold job_Valid r11_Valid
  rw [jv_step]
  simp only [job_in_ok, Option.bind_some, rng_if]
  rfl

theorem base_ok {its : List Item} {v : List Int} (wt : Int) (hl : its.length ≤ 1000) (hv : v.length = its.length) (hs : Small v) (y : Nat) (hy : y < its.length) : r11_Base its wt v (y : Int) = some (need its v y) := by
  unfold r11_Base
  obtain ⟨d, h1, h2⟩ := loop_inv (step := r11_Base_L5 its wt v (y : Int)) (fun s => ∃ m : Nat, s = (needU its v y m, (m : Int)) ∧ m ≤ its.length) (fun s => its.length - s.2.toNat)
    (fun d => d = need its v y) (by
    rintro _ ⟨m, rfl, hm⟩
    unfold r11_Base_L5
    simp only
    by_cases h : m < its.length
    · rw [if_pos (dpos (by omega)), kind_ok its wt m y h hy]
      simp only [Option.bind_some]
      by_cases hr : rel its m y > 0
      · have hvm := hs m
        have hsr := str_range its m y
        rw [if_pos (dpos hr), idx_getD (by omega), strict_ok its wt m y h hy]
        simp only [Option.bind_some]
        rw [wr_id (n := v.getD m 0 + str its m y) (by omega) (by omega), wr_id (n := (m : Int) + 1) (by omega) (by omega)]
        refine .inl ⟨_, rfl, ⟨m + 1, ?_, by omega⟩, by simp only; omega⟩
        simp only [needU, if_pos hr]
        rw [str_eq hr, show v.getD m 0 + (rel its m y - 1) = v.getD m 0 + rel its m y - 1 by omega]
        rfl
      · rw [if_neg (dneg hr), wr_id (by omega) (by omega)]
        refine .inl ⟨_, rfl, ⟨m + 1, ?_, by omega⟩, by simp only; omega⟩
        simp only [needU, if_neg hr]
        rfl
    · rw [if_neg (dneg (by omega))]
      have : m = its.length := by omega
      subst this
      exact .inr ⟨_, rfl, rfl⟩) (0, 0) ⟨0, rfl, by omega⟩ (by simp; omega)
  rw [h1, h2]
  rfl

section
variable {its : List Item} {v : List Int} (wt : Int) (hl : its.length ≤ 1000) (hv : v.length = its.length) (hs : Small v) (hb : ∀ i, 0 ≤ bOf its i ∧ bOf its i ≤ 31)
include hl hv hs hb

theorem BL20_ok (y : Nat) (hy : y < its.length) (h : need its v y > 0) : loop (r11_Back_L20 its wt v (y : Int) (need its v y)) 0 = some (nx2 its v y : Int) := by
  obtain ⟨s1, s2, s3, s4⟩ := nx2_spec h
  obtain ⟨d, h1, h2⟩ := loop_inv (step := r11_Back_L20 its wt v (y : Int) (need its v y)) (fun s => ∃ x : Nat, s = (x : Int) ∧ x ≤ nx2 its v y) (fun s => its.length - s.toNat)
    (fun d => d = (nx2 its v y : Int)) (by
    rintro _ ⟨x, rfl, hx⟩
    unfold r11_Back_L20
    simp only
    rw [kind_ok its wt x y (by omega) hy]
    simp only [obind]
    rw [wr_id (n := (x : Int) + 1) (by omega) (by omega)]
    by_cases hr : rel its x y = 0
    · rw [if_pos (by simp [hr])]
      have hne : x ≠ nx2 its v y := fun e => by rw [← e] at s1; omega
      exact .inl ⟨_, rfl, ⟨x + 1, rfl, by omega⟩, by omega⟩
    · have hrr := rel_range its x y
      have hvx := hs x
      have hsr := str_range its x y
      rw [if_neg (by rw [beq_iff_eq]; exact hr), idx_getD (by omega)]
      simp only [obind]
      rw [strict_ok its wt x y (by omega) hy]
      simp only [obind]
      rw [wr_id (n := v.getD x 0 + str its x y) (by omega) (by omega), str_eq (by omega)]
      by_cases e : v.getD x 0 + (rel its x y - 1) = need its v y
      · rw [if_neg (by rw [e]; simp)]
        refine .inr ⟨_, rfl, ?_⟩
        rcases Nat.lt_or_ge x (nx2 its v y) with hlt | hge
        · have := s4 x hlt
          unfold stp2 at this
          rw [dpos (by omega), dpos (by omega)] at this
          cases this
        · rw [show x = nx2 its v y by omega]
      · rw [if_pos (bne_iff_ne.2 e)]
        have hne : x ≠ nx2 its v y := fun e' => by rw [← e'] at s2; omega
        exact .inl ⟨_, rfl, ⟨x + 1, rfl, by omega⟩, by omega⟩) 0 ⟨0, rfl, by omega⟩ (by simp; omega)
  rw [h1, h2]

theorem BL17_ok (y0 : Nat) (hy0 : y0 < its.length) : loop (r11_Back_L17 its wt v) ((y0 : Int), [(y0 : Int)], need its v y0) = some (castL (down2 its v 40 y0).reverse) := by
  obtain ⟨d, h1, h2⟩ := loop_inv (step := r11_Back_L17 its wt v) (fun s => ∃ (acc : List Nat) (y f : Nat), s = ((y : Int), castL (acc ++ [y]).reverse, need its v y) ∧ y < its.length ∧ acc ++ down2 its v f y = down2 its v 40 y0 ∧ bOf its y ≤ f ∧ acc.length + f ≤ 40) (fun s => (bOf its s.1.toNat).toNat)
    (fun d => d = castL (down2 its v 40 y0).reverse) (by
    rintro _ ⟨acc, y, f, rfl, hy, hd, hbf, hfl⟩
    unfold r11_Back_L17
    simp only
    by_cases hp : need its v y > 0
    · obtain ⟨s1, s2, s3, s4⟩ := nx2_spec hp
      have hblk := (rel_blk s1).1
      have hb0 := hb (nx2 its v y)
      have hby := hb y
      rw [if_pos (dpos hp), BL20_ok wt hl hv hs hb y hy hp]
      simp only [obind]
      rw [if_pos (by rw [castL_len]; simp only [List.length_reverse, List.length_append, List.length_cons, List.length_nil]; omega), base_ok wt hl hv hs _ s3]
      simp only [obind]
      obtain ⟨f', rfl⟩ : ∃ f', f = f' + 1 := ⟨f - 1, by omega⟩
      refine .inl ⟨_, rfl, ⟨acc ++ [y], nx2 its v y, f', ?_, s3, ?_, by omega, by simp; omega⟩, by simp only [Int.toNat_natCast]; omega⟩
      · have e : (acc ++ [y] ++ [nx2 its v y]).reverse = nx2 its v y :: (acc ++ [y]).reverse := by simp
        rw [e]; rfl
      · rw [← hd]
        conv => rhs; unfold down2
        rw [if_pos hp, List.append_assoc]; rfl
    · have h0 : need its v y = 0 := by have := need_nonneg its v y; omega
      rw [if_neg (dneg hp)]
      refine .inr ⟨_, rfl, ?_⟩
      rw [← hd, down2_zero its v y h0]) ((y0 : Int), [(y0 : Int)], need its v y0) ⟨[], y0, 40, rfl, hy0, rfl, by have := hb y0; omega, by simp⟩ (by have := hb y0; simp only [Int.toNat_natCast]; omega)
  rw [h1, h2]

theorem BL7_ok (h0 : 0 < v.length) : ∃ y0 : Nat, loop (r11_Back_L7 v) (0, 0) = some (y0 : Int) ∧ FstMax v y0 := by
  obtain ⟨d, h1, h2⟩ := loop_inv (step := r11_Back_L7 v) (fun s => ∃ (y x : Nat), s = ((y : Int), (x : Int)) ∧ x ≤ v.length ∧ y < v.length ∧ (∀ z, z < x → v.getD z 0 ≤ v.getD y 0) ∧ ∀ z, z < y → v.getD z 0 ≠ v.getD y 0) (fun s => v.length - s.2.toNat)
    (fun d => ∃ y0 : Nat, d = (y0 : Int) ∧ FstMax v y0) (by
    rintro _ ⟨y, x, rfl, hx, hy, hm, hn⟩
    unfold r11_Back_L7
    simp only
    by_cases h : x < v.length
    · rw [if_pos (dpos (by omega)), idx_getD h, idx_getD hy]
      simp only [obind]
      rw [wr_id (by omega) (by omega)]
      by_cases hgt : v.getD x 0 > v.getD y 0
      · rw [if_pos (dpos hgt)]
        refine .inl ⟨_, rfl, ⟨x, x + 1, rfl, by omega, h, fun z hz => ?_, fun z hz => ?_⟩, by simp only; omega⟩
        · by_cases e : z = x
          · subst e; exact Int.le_refl _
          · have := hm z (by omega); omega
        · have := hm z hz; omega
      · rw [if_neg (dneg hgt)]
        refine .inl ⟨_, rfl, ⟨y, x + 1, rfl, by omega, hy, fun z hz => ?_, hn⟩, by simp only; omega⟩
        by_cases e : z = x
        · subst e; omega
        · exact hm z (by omega)
    · rw [if_neg (dneg (by omega))]
      exact .inr ⟨_, rfl, y, rfl, hy, fun z hz => hm z (by omega), hn⟩) (0, 0) ⟨0, 0, rfl, by omega, h0, fun z h => by omega, fun z h => by omega⟩ (by simp; omega)
  obtain ⟨y0, rfl, h3⟩ := h2
  exact ⟨y0, h1, h3⟩

theorem back_ok : (v.length = 0 ∧ r11_Back its wt v = some []) ∨ (∃ y0, FstMax v y0 ∧ r11_Back its wt v = some (castL (down2 its v 40 y0).reverse)) := by
  unfold r11_Back
  by_cases h0 : v.length = 0
  · rw [if_pos (by rw [h0]; rfl)]
    exact .inl ⟨h0, rfl⟩
  · rw [if_neg (by rw [beq_iff_eq]; omega)]
    obtain ⟨y0, h1, h2⟩ := BL7_ok hl hv hs hb (by omega)
    rw [h1]
    simp only [obind]
    rw [base_ok wt hl hv hs y0 (by have := h2.1; omega)]
    simp only [obind]
    rw [BL17_ok wt hl hv hs hb y0 (by have := h2.1; omega)]
    exact .inr ⟨y0, h2, rfl⟩
end
end Go.Proofs.Ytcignnfdpgeogaa
