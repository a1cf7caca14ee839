/- Lists as functions, exchanges, an order of indexes by what they weigh. Conditions: those of each theorem. -/
import Derived.Test.YtdbomhhcebmkpaaPgen
import Derived.Test.YtdbomhhcebmkpaaGslassign
set_option linter.unusedVariables false
set_option linter.unusedSimpArgs false
namespace Go.Proofs.Ytdbomhhcebmkpaa
open Go Go.V Go.Proofs

def vw (d : List Int) (k : Nat) : Int := d.getD k 0
theorem vw_get {d : List Int} {k : Nat} (h : k < d.length) : d[k]? = some (vw d k) := by
  unfold vw; rw [List.getD_eq_getElem?_getD, List.getElem?_eq_getElem h]; rfl
theorem vw_idx {d : List Int} {k : Nat} (h : k < d.length) : idx d (k : Int) = some (vw d k) := by rw [idx_nat, vw_get h]
theorem vw_mem {d : List Int} {k : Nat} (h : k < d.length) : vw d k ∈ d := List.mem_of_getElem? (vw_get h)
theorem idx_ex {d : List Int} {k : Nat} (h : k < d.length) : ∃ y, idx d (k : Int) = some y := ⟨_, vw_idx h⟩

def sw (f : Nat → Int) (i j : Nat) : Nat → Int := fun k => if k = j then f i else if k = i then f j else f k
theorem vw_sw {d : List Int} {i j : Nat} (hi : i < d.length) (hj : j < d.length) : vw ((d.set i (vw d j)).set j (vw d i)) = sw (vw d) i j := by
  funext k
  unfold sw
  show ((d.set i (vw d j)).set j (vw d i)).getD k 0 = _
  rw [List.getD_eq_getElem?_getD, List.getElem?_set, List.getElem?_set]
  simp only [List.length_set]
  by_cases h1 : k = j
  · subst h1; simp [hj]
  · rw [if_neg (fun e => h1 e.symm), if_neg h1]
    by_cases h2 : k = i
    · subst h2; simp [hi]
    · rw [if_neg (fun e => h2 e.symm), if_neg h2]
      unfold vw; rw [List.getD_eq_getElem?_getD]
theorem sw_perm {d : List Int} {i j : Nat} (hi : i < d.length) (hj : j < d.length) : ((d.set i (vw d j)).set j (vw d i)).Perm d := by
  have e1 : vw d j = d[j] := by unfold vw; rw [List.getD_eq_getElem?_getD, List.getElem?_eq_getElem hj]; rfl
  have e2 : vw d i = d[i] := by unfold vw; rw [List.getD_eq_getElem?_getD, List.getElem?_eq_getElem hi]; rfl
  rw [e1, e2]
  exact List.set_set_perm hi hj

/-- d' is d with the elements from a to below b in another order. -/
structure RR (d d' : List Int) (a b : Nat) : Prop where
  len : d'.length = d.length
  perm : d'.Perm d
  out : ∀ k, k < a ∨ b ≤ k → vw d' k = vw d k
  sub : ∀ k, a ≤ k → k < b → ∃ l, a ≤ l ∧ l < b ∧ vw d' k = vw d l
theorem RR.refl (d : List Int) (a b : Nat) : RR d d a b := ⟨rfl, List.Perm.refl _, fun _ _ => rfl, fun k h1 h2 => ⟨k, h1, h2, rfl⟩⟩
theorem RR.trans {d d' d'' : List Int} {a b : Nat} (h : RR d d' a b) (k : RR d' d'' a b) : RR d d'' a b :=
  ⟨k.len.trans h.len, k.perm.trans h.perm, fun i hi => (k.out i hi).trans (h.out i hi), fun i h1 h2 => by
    obtain ⟨l, h3, h4, h5⟩ := k.sub i h1 h2
    obtain ⟨l2, h6, h7, h8⟩ := h.sub l h3 h4
    exact ⟨l2, h6, h7, h5.trans h8⟩⟩
theorem RR.wide {d d' : List Int} {a b a' b' : Nat} (h : RR d d' a b) (ha : a' ≤ a) (hb : b ≤ b') : RR d d' a' b' :=
  ⟨h.len, h.perm, fun k hk => h.out k (by omega), fun k h1 h2 => by
    by_cases hk : a ≤ k ∧ k < b
    · obtain ⟨l, h3, h4, h5⟩ := h.sub k hk.1 hk.2
      exact ⟨l, by omega, by omega, h5⟩
    · exact ⟨k, h1, h2, h.out k (by omega)⟩⟩
theorem RR.sw {d : List Int} {i j a b : Nat} (hi : i < d.length) (hj : j < d.length) (h1 : a ≤ i) (h2 : i < b) (h3 : a ≤ j) (h4 : j < b) : RR d ((d.set i (vw d j)).set j (vw d i)) a b := by
  refine ⟨by simp, sw_perm hi hj, fun k hk => ?_, fun k hk1 hk2 => ?_⟩
  · rw [vw_sw hi hj]; unfold Proofs.Ytdbomhhcebmkpaa.sw; rw [if_neg (by omega), if_neg (by omega)]
  · rw [vw_sw hi hj]; unfold Proofs.Ytdbomhhcebmkpaa.sw
    by_cases e1 : k = j
    · rw [if_pos e1]; exact ⟨i, h1, h2, rfl⟩
    · rw [if_neg e1]
      by_cases e2 : k = i
      · rw [if_pos e2]; exact ⟨j, h3, h4, rfl⟩
      · rw [if_neg e2]; exact ⟨k, hk1, hk2, rfl⟩

/-! ### The order -/
def ky (ld : List Int) (x : Int) : Int := ld.getD x.toNat 0
def ls (ld : List Int) (x y : Int) : Prop := ky ld y < ky ld x ∨ ky ld x = ky ld y ∧ x < y
theorem ls_trans {ld : List Int} {x y z : Int} (h : ls ld x y) (k : ls ld y z) : ls ld x z := by unfold ls at *; omega
theorem ls_irr {ld : List Int} {x : Int} : ¬ ls ld x x := by unfold ls; omega
theorem ls_tot {ld : List Int} {x y : Int} (h : x ≠ y) : ls ld x y ∨ ls ld y x := by unfold ls; omega
theorem ls_not {ld : List Int} {x y : Int} (h : x ≠ y) (k : ¬ ls ld x y) : ls ld y x := (ls_tot h).resolve_left k
/-- The elements are indexes of weights. -/
def Dm (ld d : List Int) : Prop := ∀ x ∈ d, 0 ≤ x ∧ x < ld.length
def Wt (ld : List Int) : Prop := ∀ x ∈ ld, 0 ≤ x ∧ x ≤ 1099511627776
theorem Dm.rr {ld d d' : List Int} {a b : Nat} (h : Dm ld d) (r : RR d d' a b) : Dm ld d' := fun x hx => h x (r.perm.mem_iff.1 hx)
theorem cmp_ok {ld : List Int} (hw : Wt ld) {x y : Int} (hx : 0 ≤ x ∧ x < ld.length) (hy : 0 ≤ y ∧ y < ld.length) (hxy : y < x) :
    ∃ c, assign_order_1 x y ld = some c ∧ (c < 0 ↔ ls ld x y) := by
  have e : ∀ z : Int, 0 ≤ z ∧ z < ld.length → idx ld z = some (ky ld z) ∧ 0 ≤ ky ld z ∧ ky ld z ≤ 1099511627776 := by
    intro z hz
    have hl : z.toNat < ld.length := by omega
    have e1 : ld[z.toNat]? = some (ky ld z) := by unfold ky; rw [List.getD_eq_getElem?_getD, List.getElem?_eq_getElem hl]; rfl
    have := hw (ky ld z) (List.mem_of_getElem? e1)
    refine ⟨?_, this.1, this.2⟩
    unfold idx; rw [if_pos hz.1]; exact e1
  obtain ⟨e1, b1, b2⟩ := e x hx
  obtain ⟨e2, b3, b4⟩ := e y hy
  unfold assign_order_1
  rw [e1, e2]
  simp only [Option.bind_some]
  refine ⟨_, rfl, ?_⟩
  rw [wr_id (by omega) (by omega)]
  unfold ls
  omega

theorem wu_id {n : Int} (h1 : 0 ≤ n) (h2 : n < 18446744073709551616) : IntKind.u64.wrap n = n := by
  unfold IntKind.wrap
  simp [IntKind.signed, IntKind.bits]
  omega
theorem half_ok {i j : Nat} (h : i + j < 17179869184) : IntKind.i64.wrap (Int.fdiv (IntKind.u64.wrap (IntKind.i64.wrap ((i : Int) + (j : Int)))) (2 ^ (min (Int.toNat (1)) IntKind.u64.bits))) = (((i + j) / 2 : Nat) : Int) := by
  have e : (2 ^ (min (Int.toNat (1)) IntKind.u64.bits) : Int) = 2 := by decide
  rw [e, wr_id (n := (i : Int) + (j : Int)) (by omega) (by omega), wu_id (n := (i : Int) + (j : Int)) (by omega) (by omega), Int.fdiv_eq_ediv_of_nonneg _ (by omega), wr_id (by omega) (by omega)]
  omega

def Srt (ld : List Int) (f : Nat → Int) (a b : Nat) : Prop := ∀ i j, a ≤ i → i < j → j < b → ls ld (f i) (f j)
/-- The elements at two places are not the same. -/
def Inj (f : Nat → Int) (a b : Nat) : Prop := ∀ i j, a ≤ i → i < j → j < b → f i ≠ f j

/-! ### Exchanges of ranges, rotation -/
def swf (f : Nat → Int) (a b n : Nat) : Nat → Int := fun k => if a ≤ k ∧ k < a + n then f (k - a + b) else if b ≤ k ∧ k < b + n then f (k - b + a) else f k
theorem swf_zero (f : Nat → Int) (a b : Nat) : swf f a b 0 = f := by funext k; unfold swf; rw [if_neg (by omega), if_neg (by omega)]
theorem swf_succ (f : Nat → Int) (a b n : Nat) (h : a + n + 1 ≤ b) : sw (swf f a b n) (a + n) (b + n) = swf f a b (n + 1) := by
  funext k
  unfold sw swf
  by_cases h1 : k = b + n
  · rw [if_pos h1, if_neg (by omega), if_neg (by omega), if_neg (by omega), if_pos (by omega)]
    congr 1; omega
  · rw [if_neg h1]
    by_cases h2 : k = a + n
    · rw [if_pos h2, if_neg (by omega), if_neg (by omega), if_pos (by omega)]
      congr 1; omega
    · rw [if_neg h2]
      by_cases h3 : a ≤ k ∧ k < a + n
      · rw [if_pos h3, if_pos (by omega)]
      · rw [if_neg h3]
        by_cases h4 : b ≤ k ∧ k < b + n
        · rw [if_pos h4, if_neg (by omega), if_pos (by omega)]
        · rw [if_neg h4, if_neg (by omega), if_neg (by omega)]
theorem swapRange_ok (ld d : List Int) (a b n : Nat) (h1 : a + n ≤ b) (h2 : b + n ≤ d.length) (hs : d.length < 4294967296) :
    ∃ d', slices_swapRangeCmpFunc_int_ d a b n ld = some d' ∧ d'.length = d.length ∧ d'.Perm d ∧ vw d' = swf (vw d) a b n := by
  unfold slices_swapRangeCmpFunc_int_
  obtain ⟨r, hr, h3, h4, h5⟩ := loop_inv (step := slices_swapRangeCmpFunc_int__L4 a b n)
    (fun s => ∃ i : Nat, s.2 = (i : Int) ∧ i ≤ n ∧ s.1.length = d.length ∧ s.1.Perm d ∧ vw s.1 = swf (vw d) a b i) (fun s => n - s.2.toNat)
    (fun r => r.length = d.length ∧ r.Perm d ∧ vw r = swf (vw d) a b n) (by
      rintro ⟨x, _⟩ ⟨i, rfl, hi, hl, hp, hv⟩
      dsimp only at hl hp hv ⊢
      unfold slices_swapRangeCmpFunc_int__L4
      by_cases hin : i < n
      · left
        dsimp only
        rw [if_pos (dpos (by omega))]
        have e1 : IntKind.i64.wrap ((b : Int) + (i : Int)) = ((b + i : Nat) : Int) := by rw [wr_id (by omega) (by omega)]; omega
        have e2 : IntKind.i64.wrap ((a : Int) + (i : Int)) = ((a + i : Nat) : Int) := by rw [wr_id (by omega) (by omega)]; omega
        have e3 : IntKind.i64.wrap ((i : Int) + 1) = ((i + 1 : Nat) : Int) := by rw [wr_id (by omega) (by omega)]; omega
        rw [e1, e2, e3, vw_idx (by omega : b + i < x.length), vw_idx (by omega : a + i < x.length)]
        simp only [Option.bind_some, Int.toNat_natCast]
        obtain ⟨y, hy⟩ := idx_ex (d := x.set (a + i) (vw x (b + i))) (k := b + i) (by rw [List.length_set]; omega)
        rw [hy]
        simp only [Option.bind_some]
        refine ⟨_, rfl, ⟨i + 1, rfl, by omega, by simp [hl], (sw_perm (by omega) (by omega)).trans hp, ?_⟩, by dsimp only; omega⟩
        dsimp only
        rw [vw_sw (by omega) (by omega), hv]
        exact swf_succ _ _ _ _ (by omega)
      · right
        dsimp only
        rw [if_neg (dneg (by omega))]
        obtain rfl : i = n := by omega
        exact ⟨_, rfl, hl, hp, hv⟩) (d, 0) ⟨0, rfl, by omega, rfl, List.Perm.refl _, (swf_zero _ _ _).symm⟩ (by dsimp only; omega)
  rw [hr]
  exact ⟨r, rfl, h3, h4, h5⟩

def rtf (f : Nat → Int) (a m b : Nat) : Nat → Int := fun k => if a ≤ k ∧ k < a + (b - m) then f (k + (m - a)) else if a + (b - m) ≤ k ∧ k < b then f (k - (b - m)) else f k
theorem rtf_l (f : Nat → Int) (m i j : Nat) (hi : i ≤ m) (hj : 0 < j) (hij : j < i) : rtf (swf f (m - i) m j) (m - (i - j)) m (m + j) = rtf f (m - i) m (m + j) := by
  funext k
  unfold rtf swf
  repeat' split
  all_goals first | (exfalso; omega) | (congr 1 <;> omega)
theorem rtf_r (f : Nat → Int) (m i j : Nat) (hi : i ≤ m) (h0 : 0 < i) (hij : i < j) : rtf (swf f (m - i) (m + j - i) i) (m - i) m (m + (j - i)) = rtf f (m - i) m (m + j) := by
  funext k
  unfold rtf swf
  repeat' split
  all_goals first | (exfalso; omega) | (congr 1 <;> omega)
theorem rtf_e (f : Nat → Int) (m i : Nat) (hi : i ≤ m) : swf f (m - i) m i = rtf f (m - i) m (m + i) := by
  funext k
  unfold rtf swf
  repeat' split
  all_goals first | (exfalso; omega) | (congr 1 <;> omega)

theorem rotate_ok (ld d : List Int) (a m b : Nat) (h1 : a < m) (h2 : m < b) (h3 : b ≤ d.length) (hs : d.length < 4294967296) :
    ∃ d', slices_rotateCmpFunc_int_ d a m b ld = some d' ∧ d'.length = d.length ∧ d'.Perm d ∧ vw d' = rtf (vw d) a m b := by
  unfold slices_rotateCmpFunc_int_
  have e1 : IntKind.i64.wrap ((m : Int) - (a : Int)) = ((m - a : Nat) : Int) := by rw [wr_id (by omega) (by omega)]; omega
  have e2 : IntKind.i64.wrap ((b : Int) - (m : Int)) = ((b - m : Nat) : Int) := by rw [wr_id (by omega) (by omega)]; omega
  rw [e1, e2]
  obtain ⟨r, hr, i, h4, h5, h6, h7, h8, h9⟩ := loop_inv (step := slices_rotateCmpFunc_int__L5 m ld)
    (fun s => ∃ i j : Nat, s.2.1 = (i : Int) ∧ s.2.2 = (j : Int) ∧ 0 < i ∧ 0 < j ∧ i ≤ m - a ∧ j ≤ b - m ∧ s.1.length = d.length ∧ s.1.Perm d ∧ rtf (vw s.1) (m - i) m (m + j) = rtf (vw d) a m b) (fun s => s.2.1.toNat + s.2.2.toNat)
    (fun r => ∃ i : Nat, r.2 = (i : Int) ∧ 0 < i ∧ i ≤ m - a ∧ i ≤ b - m ∧ r.1.length = d.length ∧ r.1.Perm d ∧ rtf (vw r.1) (m - i) m (m + i) = rtf (vw d) a m b) (by
      rintro ⟨x, _, _⟩ ⟨i, j, rfl, rfl, hi, hj, him, hjm, hl, hp, hv⟩
      dsimp only at hl hp hv ⊢
      unfold slices_rotateCmpFunc_int__L5
      dsimp only
      by_cases hij : i = j
      · right
        rw [if_neg (by subst hij; simp)]
        subst hij
        exact ⟨_, rfl, i, rfl, hi, him, hjm, hl, hp, hv⟩
      · left
        have hne : ((i : Int) != (j : Int)) = true := by simp; omega
        rw [if_pos hne]
        have e3 : IntKind.i64.wrap ((m : Int) - (i : Int)) = ((m - i : Nat) : Int) := by rw [wr_id (by omega) (by omega)]; omega
        rcases Nat.lt_or_ge j i with hlt | hge
        · rw [if_pos (dpos (by omega)), e3]
          obtain ⟨x', hx, hxl, hxp, hxv⟩ := swapRange_ok ld x (m - i) m j (by omega) (by omega) (by omega)
          rw [hx]
          simp only [Option.bind_some]
          rw [if_pos hxl]
          refine ⟨_, rfl, ⟨i - j, j, ?_, rfl, by omega, hj, by omega, hjm, hxl.trans hl, hxp.trans hp, ?_⟩, ?_⟩
          · dsimp only; rw [wr_id (by omega) (by omega)]; omega
          · dsimp only; rw [hxv, rtf_l _ _ _ _ (by omega) hj hlt]; exact hv
          · dsimp only; rw [wr_id (by omega) (by omega)]; omega
        · rw [if_neg (dneg (by omega)), e3]
          have e4 : IntKind.i64.wrap (IntKind.i64.wrap ((m : Int) + (j : Int)) - (i : Int)) = ((m + j - i : Nat) : Int) := by rw [wr_id (n := (m : Int) + (j : Int)) (by omega) (by omega), wr_id (by omega) (by omega)]; omega
          rw [e4]
          obtain ⟨x', hx, hxl, hxp, hxv⟩ := swapRange_ok ld x (m - i) (m + j - i) i (by omega) (by omega) (by omega)
          rw [hx]
          simp only [Option.bind_some]
          rw [if_pos hxl]
          refine ⟨_, rfl, ⟨i, j - i, rfl, ?_, hi, by omega, him, by omega, hxl.trans hl, hxp.trans hp, ?_⟩, ?_⟩
          · dsimp only; rw [wr_id (by omega) (by omega)]; omega
          · dsimp only; rw [hxv, rtf_r _ _ _ _ (by omega) hi (by omega)]; exact hv
          · dsimp only; rw [wr_id (by omega) (by omega)]; omega)
    (d, ((m - a : Nat) : Int), ((b - m : Nat) : Int)) ⟨m - a, b - m, rfl, rfl, by omega, by omega, by omega, by omega, rfl, List.Perm.refl _, by dsimp only; rw [show m - (m - a) = a by omega, show m + (b - m) = b by omega]⟩ (by dsimp only; omega)
  obtain ⟨x, y⟩ := r
  dsimp only at h4 h8 h9 ⊢
  rw [hr]
  subst h4
  have e5 : IntKind.i64.wrap ((m : Int) - (i : Int)) = ((m - i : Nat) : Int) := by rw [wr_id (by omega) (by omega)]; omega
  simp only [Option.bind_some]
  rw [e5]
  obtain ⟨hl, hp⟩ := h9
  have h8' : x.length = d.length := h8
  obtain ⟨x', hx, hxl, hxp, hxv⟩ := swapRange_ok ld x (m - i) m i (by omega) (by omega) (by omega)
  rw [hx]
  simp only [Option.bind_some]
  rw [if_pos hxl]
  exact ⟨_, rfl, hxl.trans h8', hxp.trans hl, by rw [hxv, rtf_e _ _ _ (by omega)]; exact hp⟩
end Go.Proofs.Ytdbomhhcebmkpaa
