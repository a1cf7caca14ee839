/- Plain law of LeastcodeLimits: items in the reverse order of their blocks have a plan exactly if there are codes enough of the weight. The integers are of Go's int. -/
import Derived.Test.YtgdaanhiagoonaaPKlevels0
import Derived.Test.YtgdaanhiagoonaaGLeastcodeLimits
set_option linter.unusedVariables false
set_option linter.unusedSectionVars false
set_option linter.unusedSimpArgs false
set_option maxRecDepth 100000
namespace Go.Proofs.Ytgdaanhiagoonaa
open Go Go.V Go.Proofs

theorem place_ok (p n : Int) (hn : 0 < n ∧ n ≤ 1000) : ∃ q : Nat, (Int.tmod (IntKind.i64.wrap ((Int.tmod p n) + n)) n) = (q : Int) ∧ (q : Int) < n := by
  obtain ⟨h1, h2⟩ := tmod_range p n hn.1
  rw [wr_id (by omega) (by omega)]
  have h3 := Int.tmod_nonneg n (by omega : 0 ≤ Int.tmod p n + n)
  obtain ⟨_, h4⟩ := tmod_range (Int.tmod p n + n) n hn.1
  exact ⟨(Int.tmod (Int.tmod p n + n) n).toNat, by omega, by omega⟩

def limIt (B i : Nat) : Item := (0, ((B - i : Nat) : Int), 0, 100)
def limIts (B n : Nat) : List Item := (List.range n).map (limIt B)
theorem lim_len (B n : Nat) : (limIts B n).length = n := by simp [limIts]
theorem lim_get {B n i : Nat} (h : i < n) : (limIts B n)[i]? = some (limIt B i) := by unfold limIts; rw [List.getElem?_map, List.getElem?_range h]; rfl
theorem lim_get' {B n i : Nat} {x : Item} (h : (limIts B n)[i]? = some x) : i < n ∧ x = limIt B i := by
  have hl := (List.getElem?_eq_some_iff.1 h).1
  have hl' : i < n := by simpa [limIts] using hl
  rw [lim_get hl'] at h
  exact ⟨hl', (Option.some.inj h).symm⟩
theorem lim_b {B n i : Nat} (h : i < n) : bOf (limIts B n) i = ((B - i : Nat) : Int) := by unfold bOf; rw [lim_get h]; rfl
theorem lim_r (B n y : Nat) : rOf (limIts B n) y = 0 := by
  unfold rOf
  cases h : (limIts B n)[y]? with
  | none => rfl
  | some a => obtain ⟨_, rfl⟩ := lim_get' h; rfl
theorem lim_good (B n : Nat) (wt : Int) (hw : 0 ≤ wt ∧ wt ≤ 12) (hB : B ≤ 31) (hn : n ≤ 96) : JobGood (limIts B n) wt := by
  refine ⟨by rw [lim_len]; omega, hw, fun i x hx => ?_, fun i x y hx hy => ?_⟩
  · obtain ⟨_, rfl⟩ := lim_get' hx
    exact ⟨⟨by simp only [limIt]; omega, by simp only [limIt]; omega⟩, ⟨by simp only [limIt]; omega, by simp only [limIt]; omega⟩, ⟨by simp only [limIt]; omega, by simp only [limIt]; omega⟩, by simp only [limIt]; omega⟩
  · obtain ⟨_, rfl⟩ := lim_get' hx
    obtain ⟨_, rfl⟩ := lim_get' hy
    exact Int.le_refl _
def limLv (B n : Nat) : List Int := (List.range n).map fun i => ((B - i : Nat) : Int)
theorem limLv_get {B n i : Nat} (h : i < n) : (limLv B n).getD i 0 = ((B - i : Nat) : Int) := by
  unfold limLv
  rw [List.getD_eq_getElem?_getD, List.getElem?_map, List.getElem?_range h]; rfl
theorem lim_lev (B : Nat) : IsLev (limIts B (B + 1)) (limLv B (B + 1)) := by
  refine ⟨by simp [limLv, limIts], fun y hy => ?_⟩
  rw [lim_len] at hy
  rw [limLv_get hy]
  unfold need
  rw [lim_len]
  refine Int.le_antisymm ?_ ?_
  · by_cases h0 : B - y = 0
    · rw [h0]; exact needU_nonneg _ _ _ _
    · have hx : y + 1 < B + 1 := by omega
      have hr : rel (limIts B (B + 1)) (y + 1) y = 2 := by
        unfold rel
        rw [lim_get hx, lim_get hy]
        have hne : ¬ ((limIt B (y + 1)).1 ≠ (limIt B y).1 ∨ (limIt B (y + 1)).2.1 ≥ (limIt B y).2.1) := by simp only [limIt]; omega
        show relI (limIt B (y + 1)) (limIt B y) (y + 1) y = 2
        unfold relI
        rw [if_neg hne, if_pos (by omega)]
      have := needU_ge (limIts B (B + 1)) (limLv B (B + 1)) y (B + 1) (y + 1) hx (by omega)
      rw [limLv_get hx, hr] at this
      omega
  · rcases needU_at (limIts B (B + 1)) (limLv B (B + 1)) y (B + 1) with h0 | ⟨x, h1, h2, h3⟩
    · rw [h0]; omega
    · have hb := (rel_blk h2).1
      rw [lim_b h1, lim_b hy] at hb
      rw [← h3, limLv_get h1]
      rcases rel_range (limIts B (B + 1)) x y with e | e | e <;> omega

/-- The code of weight 1 and index i has i bits. -/
theorem one_code (i : Nat) (hi : i ≤ 12) : ∃ c : Nat, c < 4096 ∧ isN 0 1 c = true ∧ cb (isN 0 1) c = i ∧ LongSpec c (i : Int) := by
  have key : ∀ c j : Nat, j ≤ 12 → c < 2 ^ j → (j = 0 ∨ c / 2 ^ (j - 1) = 1) → LongSpec c (j : Int) := fun c j h1 h2 h3 => ⟨j, rfl, h1, h2, h3⟩
  rcases (by omega : i = 0 ∨ i = 1 ∨ i = 2 ∨ i = 3 ∨ i = 4 ∨ i = 5 ∨ i = 6 ∨ i = 7 ∨ i = 8 ∨ i = 9 ∨ i = 10 ∨ i = 11 ∨ i = 12) with rfl | rfl | rfl | rfl | rfl | rfl | rfl | rfl | rfl | rfl | rfl | rfl | rfl
  · exact ⟨0, by decide, by decide +kernel, by decide +kernel, key _ _ (by omega) (by decide) (by decide)⟩
  · exact ⟨1, by decide, by decide +kernel, by decide +kernel, key _ _ (by omega) (by decide) (by decide)⟩
  · exact ⟨2, by decide, by decide +kernel, by decide +kernel, key _ _ (by omega) (by decide) (by decide)⟩
  · exact ⟨4, by decide, by decide +kernel, by decide +kernel, key _ _ (by omega) (by decide) (by decide)⟩
  · exact ⟨8, by decide, by decide +kernel, by decide +kernel, key _ _ (by omega) (by decide) (by decide)⟩
  · exact ⟨16, by decide, by decide +kernel, by decide +kernel, key _ _ (by omega) (by decide) (by decide)⟩
  · exact ⟨32, by decide, by decide +kernel, by decide +kernel, key _ _ (by omega) (by decide) (by decide)⟩
  · exact ⟨64, by decide, by decide +kernel, by decide +kernel, key _ _ (by omega) (by decide) (by decide)⟩
  · exact ⟨128, by decide, by decide +kernel, by decide +kernel, key _ _ (by omega) (by decide) (by decide)⟩
  · exact ⟨256, by decide, by decide +kernel, by decide +kernel, key _ _ (by omega) (by decide) (by decide)⟩
  · exact ⟨512, by decide, by decide +kernel, by decide +kernel, key _ _ (by omega) (by decide) (by decide)⟩
  · exact ⟨1024, by decide, by decide +kernel, by decide +kernel, key _ _ (by omega) (by decide) (by decide)⟩
  · exact ⟨2048, by decide, by decide +kernel, by decide +kernel, key _ _ (by omega) (by decide) (by decide)⟩

theorem limits13_ok (p0 p1 : Int) : law13_LeastcodeLimits p0 p1 = some true := by
  obtain ⟨B, e0, l0⟩ := place_ok p0 32 (by omega)
  obtain ⟨w, e1, l1⟩ := place_ok p1 4 (by omega)
  have hN : IntKind.i64.wrap (1 + (B : Int)) = ((B + 1 : Nat) : Int) := by rw [wr_id (by omega) (by omega)]; omega
  have hN1 : IntKind.i64.wrap (((B + 1 : Nat) : Int) - 1) = (B : Int) := by rw [wr_id (by omega) (by omega)]; omega
  have hloop : loop law13_LeastcodeLimits_L5 (([] : List Item), (B : Int)) = some (limIts B (B + 1)) := by
    obtain ⟨d, g1, g2⟩ := loop_inv (step := law13_LeastcodeLimits_L5) (fun st => ∃ m : Nat, st = (limIts B m, (B : Int) - m) ∧ m ≤ B + 1) (fun st => (st.2 + 1).toNat)
      (fun d => d = limIts B (B + 1)) (by
      rintro _ ⟨m, rfl, hm⟩
      unfold law13_LeastcodeLimits_L5
      simp only
      by_cases h : m < B + 1
      · rw [if_pos (dpos (by omega)), if_pos (by rw [lim_len]; simp only [List.length_cons, List.length_nil]; omega), wr_id (by omega) (by omega)]
        refine .inl ⟨_, rfl, ⟨m + 1, ?_, by omega⟩, by simp only; omega⟩
        unfold limIts
        rw [List.range_succ, List.map_append, show (B : Int) - (m : Int) - 1 = (B : Int) - ((m + 1 : Nat) : Int) by omega, show (B : Int) - (m : Int) = ((B - m : Nat) : Int) by omega]
        rfl
      · rw [if_neg (dneg (by omega))]
        have : m = B + 1 := by omega
        subst this
        exact .inr ⟨_, rfl, rfl⟩) (([] : List Item), (B : Int)) ⟨0, by simp [limIts], by omega⟩ (by simp only; omega)
    rw [g1, g2]
  have hg := lim_good B (B + 1) (w : Int) (by omega) (by omega) (by omega)
  have h0 := lim_r B (B + 1)
  have hlv := lim_lev B
  have hwt : (w : Int).toNat = w := by omega
  have hC := Count_ok 12 0 w (by omega) (by omega) (by omega)
  rw [show (2 : Nat) ^ 12 = 4096 from rfl, show ((12 : Nat) : Int) = 12 from rfl, show ((0 : Nat) : Int) = 0 from rfl] at hC
  have hlen := lim_len B (B + 1)
  have hT : cb (isN 0 w) 4096 ≤ 4096 := cb_le _ _
  unfold law13_LeastcodeLimits
  rw [e0, hN, hN1, hloop]
  simp only [obind, e1]
  rcases Least_cases hg with ⟨v, S, m, hv, f1, hm, hS⟩ | ⟨f1, hs⟩
  · rw [f1]
    simp only [obind]
    rw [hC]
    simp only [obind, bne_self_eq_false, Bool.false_eq_true, if_false]
    have hlt := lvl_lt hg h0 hlv hv 0 (by omega)
    rw [limLv_get (by omega), hwt] at hlt
    have hvl := hv.len
    rw [if_neg (dneg (by omega)), if_pos (by simp), if_pos (by rw [hvl, hlen]; simp), idx_getD (by omega)]
    simp only [obind]
    obtain ⟨q0, q1, q2, q3⟩ := lvl_lst hg h0 hlv hv B (by omega)
    rw [limLv_get (by omega), hwt] at q3
    rw [hwt] at q2
    have hz : v.getD B 0 = 0 := by
      have h00 : isN 0 w 0 = true := by
        rcases (by omega : w = 0 ∨ w = 1 ∨ w = 2 ∨ w = 3) with rfl | rfl | rfl | rfl <;> decide
      rcases Nat.eq_zero_or_pos (v.getD B 0).toNat with q | q
      · omega
      · have := cb_lt (isN 0 w) q h00; omega
    rw [if_pos (by rw [hz]; rfl)]
    by_cases hw1 : w = 1
    · subst hw1
      rw [if_neg (by decide), if_pos ?_, sane13_ok]
      · rfl
      · obtain ⟨c, c1, c2, c3, c4⟩ := one_code B (by
          have : cb (isN 0 1) 4096 = 13 := by
            have := cb_pow 12 0 1 (by omega)
            rw [if_pos (by omega)] at this
            exact this
          omega)
        have hmc : m = c := by
          have hall : ∀ y, y < B + 1 → v.getD y 0 ≤ (c : Int) := fun y hy => by
            obtain ⟨r0, r1, r2, r3⟩ := lvl_lst hg h0 hlv hv y (by omega)
            rw [limLv_get hy, hwt] at r3
            rcases Nat.lt_or_ge c (v.getD y 0).toNat with q | q
            · have := cb_lt (isN 0 1) q c2; omega
            · omega
          have hat : v.getD 0 0 = (c : Int) := by
            obtain ⟨r0, r1, r2, r3⟩ := lvl_lst hg h0 hlv hv 0 (by omega)
            rw [limLv_get (by omega), hwt] at r3
            rw [hwt] at r2
            rcases Nat.lt_trichotomy c (v.getD 0 0).toNat with q | q | q
            · have := cb_lt (isN 0 1) q c2; omega
            · omega
            · have := cb_lt (isN 0 1) q r2; omega
          refine hm.uniq ⟨fun y => ?_, ?_⟩
          · by_cases hy : y < B + 1
            · exact hall y hy
            · rw [List.getD_eq_getElem?_getD, List.getElem?_eq_none (by omega)]
              show (0 : Int) ≤ c
              omega
          · exact .inr ⟨0, by omega, hat⟩
        subst hmc
        rw [long_unique hS c4]
        simp
    · rw [if_pos (by simp; omega), sane13_ok]
      rfl
  · rw [f1]
    simp only [obind]
    rw [hC]
    simp only [obind, bne_self_eq_false, Bool.false_eq_true, if_false]
    have hgt : ¬ ∀ y, y < (limIts B (B + 1)).length → (limLv B (B + 1)).getD y 0 < ((cb (isN 0 (w : Int).toNat) 4096 : Nat) : Int) := fun h => lvl_free hg h0 hlv h hs
    have hT2 : cb (isN 0 w) 4096 < B + 1 := by
      rcases Nat.lt_or_ge (cb (isN 0 w) 4096) (B + 1) with q | q
      · exact q
      · refine absurd (fun y hy => ?_) hgt
        rw [hlen] at hy
        rw [limLv_get hy, hwt]
        omega
    obtain ⟨p, w1, w2⟩ := Witness_ok hg
    rcases w2 with ⟨v, hv, _⟩ | ⟨rfl, _⟩
    · exact absurd hv (hs.none (fun i => (hg.b i).1) v)
    · rw [if_pos (dpos (by omega)), w1]
      simp only [obind]
      rw [if_pos (by decide), if_pos (by decide), sane13_ok]
      rfl
end Go.Proofs.Ytgdaanhiagoonaa
