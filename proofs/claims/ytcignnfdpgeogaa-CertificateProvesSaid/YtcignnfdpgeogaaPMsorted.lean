/- Plain laws: a plan sorts its job exactly if its codes satisfy all relations. No condition beyond those of each theorem. -/
import Derived.Test.YtcignnfdpgeogaaPMorder
import Derived.Test.YtcignnfdpgeogaaPMplan
import Derived.Test.YtcignnfdpgeogaaPJsorted
set_option linter.unusedVariables false
set_option linter.unusedSectionVars false
set_option linter.unusedSimpArgs false
set_option maxRecDepth 100000
namespace Go.Proofs.Ytcignnfdpgeogaa
open Go Go.V Go.Proofs

theorem castL_getD (l : List Nat) (i : Nat) (h : i < l.length) : (castL l).getD i 0 = (l[i] : Int) := by
  rw [List.getD_eq_getElem?_getD, castL_get, List.getElem?_eq_getElem h]; rfl
theorem castL_nd {l : List Nat} (h : l.Nodup) : (castL l).Nodup := by
  unfold castL
  rw [List.nodup_iff_pairwise_ne, List.pairwise_map]
  exact List.Pairwise.imp (fun h => by omega) (List.nodup_iff_pairwise_ne.1 h)
theorem rows_flat (f : Nat → List Nat) : ∀ m, (rows f m).flatten = castL ((List.range m).flatMap f)
  | 0 => rfl
  | m + 1 => by
    have ih := rows_flat f m
    have e : rows f (m + 1) = rows f m ++ [castL (f m)] := by unfold rows; rw [List.range_succ, List.map_append]; rfl
    rw [e, List.flatten_append, ih, List.range_succ, List.flatMap_append, castL_app]
    simp

section
variable {items : List Item} {wt S : Int} {codes : List Int} (hg : Good items wt S codes)
include hg

theorem cat_key : ∀ m, (cat (yard items S codes) (S.toNat + 1) m).Nodup ∧ ∀ x, x ∈ cat (yard items S codes) (S.toNat + 1) m ↔ x < items.length ∧ (yard items S codes).tr x < m := by
  have hi := (yard items S codes).inv S.toNat (Nat.le_refl _)
  intro m
  induction m with
  | zero => exact ⟨by simp [cat], fun x => by simp [cat]⟩
  | succ m ih =>
    obtain ⟨h1, h2⟩ := ih
    rw [cat_succ]
    refine ⟨List.nodup_append.2 ⟨h1, hi.bn m, fun x hx y hy he => ?_⟩, fun x => ?_⟩
    · subst he
      have a1 := (h2 x).1 hx
      have a2 := (final_mem hg m x (rounds_le hg)).1 hy
      omega
    · rw [List.mem_append, h2, final_mem hg m x (rounds_le hg)]
      omega

theorem code_at {x : Nat} (hx : x < items.length) : codes.getD x 0 = (((yard items S codes).c x : Nat) : Int) ∧ (yard items S codes).c x < 2 ^ S.toNat ∧ tOf items x = (((yard items S codes).tr x : Nat) : Int) ∧ (yard items S codes).tr x < trains items := by
  obtain ⟨it, c, hit, hc, hgd, ec, hcl, er, et, htr, _⟩ := item_at hg hx
  refine ⟨?_, hcl, ?_, htr⟩
  · rw [List.getD_eq_getElem?_getD, hc, ← ec]; rfl
  · unfold tOf; rw [hit]; exact et

theorem sorted_iff : SortedP items (rows ((yard items S codes).B (S.toNat + 1)) (trains items)) ↔ RelOK items codes := by
  have hsort := ((yard items S codes).sorted (rd_lt hg) (missed_mod hg) S.toNat (Nat.le_refl _)).2
  have hmem := fun t x => final_mem hg t x (rounds_le hg)
  have hYS : (yard items S codes).S = S.toNat := rfl
  have hlen : (rows ((yard items S codes).B (S.toNat + 1)) (trains items)).length = trains items := rows_len _ _
  -- two items of a row stand in the order of their codes
  have hlt : ∀ t (i j : Nat) (hi : i < ((yard items S codes).B (S.toNat + 1) t).length) (hj : j < ((yard items S codes).B (S.toNat + 1) t).length), i < j →
      ((yard items S codes).c (((yard items S codes).B (S.toNat + 1) t)[i]) < (yard items S codes).c (((yard items S codes).B (S.toNat + 1) t)[j]) ∨
        ((yard items S codes).c (((yard items S codes).B (S.toNat + 1) t)[i]) = (yard items S codes).c (((yard items S codes).B (S.toNat + 1) t)[j]) ∧ ((yard items S codes).B (S.toNat + 1) t)[i] < ((yard items S codes).B (S.toNat + 1) t)[j])) := by
    intro t i j hi hj hij
    have h := List.pairwise_iff_getElem.1 (hsort t) i j hi hj hij
    have h1 := (code_at hg ((hmem t _).1 (List.getElem_mem hi)).1).2.1
    have h2 := (code_at hg ((hmem t _).1 (List.getElem_mem hj)).1).2.1
    simp only [Yard.lt] at h
    rw [Nat.mod_eq_of_lt h1, Nat.mod_eq_of_lt h2] at h
    exact h
  constructor
  · rintro ⟨⟨hR, _⟩, _⟩ x y hr
    obtain ⟨hblk, hx, hy⟩ := rel_blk hr
    obtain ⟨cx, _, tx, htx⟩ := code_at hg hx
    obtain ⟨cy, _, ty, _⟩ := code_at hg hy
    have htr : (yard items S codes).tr x = (yard items S codes).tr y ∧ rel items x y = if y < x then 2 else 1 := by
      rcases rel_cases items x y with e | ⟨a, b, ha, hb, e1, e2, e3⟩
      · omega
      · refine ⟨?_, e3⟩
        unfold tOf at tx ty
        rw [ha] at tx
        rw [hb] at ty
        simp only at tx ty
        omega
    obtain ⟨i, hi, ei⟩ := List.getElem_of_mem ((hmem ((yard items S codes).tr x) x).2 ⟨hx, rfl⟩)
    obtain ⟨j, hj, ej⟩ := List.getElem_of_mem ((hmem ((yard items S codes).tr x) y).2 ⟨hy, htr.1.symm⟩)
    have hrow := hR ((yard items S codes).tr x) _ (by rw [hlen]; exact htx) (rows_get _ htx)
    rw [castL_len] at hrow
    have hij : i < j := by
      rcases Nat.lt_trichotomy i j with h | h | h
      · exact h
      · subst h
        rw [ei] at ej
        subst ej
        omega
      · have := hrow.2 j i h hi
        rw [castL_getD _ j hj, castL_getD _ i hi, ei, ej] at this
        simp only [Int.toNat_natCast] at this
        omega
    have := hlt _ i j hi hj hij
    rw [ei, ej] at this
    rw [cx, cy, htr.2]
    split <;> omega
  · intro hrel
    have hk := cat_key hg (trains items)
    have hfl : (rows ((yard items S codes).B (S.toNat + 1)) (trains items)).flatten = castL (cat (yard items S codes) (S.toNat + 1) (trains items)) := rows_flat _ _
    refine ⟨⟨fun t row ht hrow => ?_, ?_⟩, ?_⟩
    · rw [hlen] at ht
      rw [rows_get _ ht] at hrow
      cases hrow
      rw [castL_len]
      refine ⟨fun i hi => ?_, fun i j hij hj => ?_⟩
      · rw [castL_getD _ i hi]
        obtain ⟨h1, h2⟩ := (hmem t _).1 (List.getElem_mem hi)
        obtain ⟨_, _, h3, _⟩ := code_at hg h1
        refine ⟨by omega, by omega, ?_⟩
        rw [Int.toNat_natCast, h3, h2]
      · rw [castL_getD _ i (by omega), castL_getD _ j hj]
        simp only [Int.toNat_natCast]
        obtain ⟨h1, h2⟩ := (hmem t _).1 (List.getElem_mem (by omega : i < ((yard items S codes).B (S.toNat + 1) t).length))
        obtain ⟨g1, g2⟩ := (hmem t _).1 (List.getElem_mem hj)
        have hl := hlt t i j (by omega) hj hij
        generalize ((yard items S codes).B (S.toNat + 1) t)[i] = x at h1 h2 hl ⊢
        generalize ((yard items S codes).B (S.toNat + 1) t)[j] = y at g1 g2 hl ⊢
        obtain ⟨cx, _, tx, _⟩ := code_at hg h1
        obtain ⟨cy, _, ty, _⟩ := code_at hg g1
        rcases Int.lt_or_le (bOf items y) (bOf items x) with hb | hb
        · have hr : rel items y x = if x < y then 2 else 1 := by
            obtain ⟨a, ha⟩ : ∃ a, items[x]? = some a := ⟨_, List.getElem?_eq_getElem h1⟩
            obtain ⟨b, hb2⟩ : ∃ b, items[y]? = some b := ⟨_, List.getElem?_eq_getElem g1⟩
            unfold tOf at tx ty
            unfold bOf at hb
            rw [ha] at tx
            rw [hb2] at ty
            rw [ha, hb2] at hb
            simp only at tx ty hb
            unfold rel
            rw [ha, hb2]
            show relI b a y x = _
            unfold relI
            rw [if_neg (by
              rintro (q | q)
              · exact q (by omega)
              · omega)]
          have hpos : rel items y x > 0 := by rw [hr]; split <;> omega
          have := hrel y x hpos
          rw [hr, cx, cy] at this
          split at this <;> omega
        · exact hb
    · rw [List.take_length, hfl]
      exact castL_nd hk.1
    · rw [hfl, castL_len]
      exact cat_len hg
end
end Go.Proofs.Ytcignnfdpgeogaa
