/- The stable sort of indexes by what they weigh: insertion, merging. Conditions: those of each theorem. -/
import Derived.Test.YtdbomhhcebmkpaaPAsort0
set_option linter.unusedVariables false
set_option linter.unusedSimpArgs false
namespace Go.Proofs.Ytdbomhhcebmkpaa
open Go Go.V Go.Proofs

theorem dm_vw {ld d : List Int} (h : Dm ld d) {k : Nat} (hk : k < d.length) : 0 ≤ vw d k ∧ vw d k < ld.length := h _ (vw_mem hk)
theorem wk1 {k : Nat} (h : k < 4294967296) : IntKind.i64.wrap ((k : Int) + 1) = ((k + 1 : Nat) : Int) := by rw [wr_id (by omega) (by omega)]; omega
theorem wkm1 {k : Nat} (h0 : 0 < k) (h : k < 4294967296) : IntKind.i64.wrap ((k : Int) - 1) = ((k - 1 : Nat) : Int) := by rw [wr_id (by omega) (by omega)]; omega

theorem insInner_ok {ld : List Int} (hw : Wt ld) (d1 : List Int) (a i : Nat) (hi : i < d1.length) (ha : a ≤ i) (hs : d1.length < 4294967296) (hD : Dm ld d1) (hS : Srt ld (vw d1) a i) (hx : ∀ p, a ≤ p → p < i → vw d1 p < vw d1 i) :
    ∃ d', loop (slices_insertionSortCmpFunc_int__L6 a ld) (d1, (i : Int)) = some d' ∧ RR d1 d' a (i + 1) ∧ Srt ld (vw d') a (i + 1) := by
  refine loop_inv (step := slices_insertionSortCmpFunc_int__L6 a ld)
    (fun s => ∃ j : Nat, s.2 = (j : Int) ∧ a ≤ j ∧ j ≤ i ∧ RR d1 s.1 a (i + 1) ∧ (∀ p q, a ≤ p → p < q → q ≤ i → p ≠ j → q ≠ j → ls ld (vw s.1 p) (vw s.1 q)) ∧ (∀ q, j < q → q ≤ i → ls ld (vw s.1 j) (vw s.1 q)) ∧ (∀ p, a ≤ p → p ≤ i → p ≠ j → vw s.1 p < vw s.1 j))
    (fun s => s.2.toNat) (fun d' => RR d1 d' a (i + 1) ∧ Srt ld (vw d') a (i + 1)) ?_ (d1, (i : Int)) ?_ (by dsimp only; omega)
  · rintro ⟨d, _⟩ ⟨j, rfl, haj, hji, hR, h1, h2, h3⟩
    dsimp only at hR h1 h2 h3 ⊢
    have hl := hR.len
    unfold slices_insertionSortCmpFunc_int__L6
    dsimp only
    by_cases hja : a < j
    · rw [if_pos (dpos (by omega)), wkm1 (by omega) (by omega), vw_idx (by omega : j < d.length), vw_idx (by omega : j - 1 < d.length)]
      simp only [Option.bind_some]
      obtain ⟨c, hc, hcl⟩ := cmp_ok hw (dm_vw (hD.rr hR) (by omega : j < d.length)) (dm_vw (hD.rr hR) (by omega : j - 1 < d.length)) (h3 (j - 1) (by omega) (by omega) (by omega))
      rw [hc]
      simp only [Option.bind_some]
      by_cases hc0 : c < 0
      · left
        have hlt := hcl.1 hc0
        rw [if_pos (dpos hc0)]
        obtain ⟨y, hy⟩ := idx_ex (d := d.set j (vw d (j - 1))) (k := j - 1) (by rw [List.length_set]; omega)
        simp only [Int.toNat_natCast]
        rw [hy]
        simp only [Option.bind_some]
        have hv := vw_sw (d := d) (i := j) (j := j - 1) (by omega) (by omega)
        refine ⟨_, rfl, ⟨j - 1, rfl, by omega, by omega, hR.trans (RR.sw (by omega) (by omega) (by omega) (by omega) (by omega) (by omega)), ?_, ?_, ?_⟩, by dsimp only; omega⟩
        · intro p q hp hpq hq hpj hqj
          dsimp only
          rw [hv]
          unfold sw
          rw [if_neg hpj, if_neg hqj]
          by_cases e1 : p = j
          · rw [if_pos e1, if_neg (by omega)]
            exact h1 (j - 1) q (by omega) (by omega) hq (by omega) (by omega)
          · rw [if_neg e1]
            by_cases e2 : q = j
            · rw [if_pos e2]; exact h1 p (j - 1) hp (by omega) (by omega) e1 (by omega)
            · rw [if_neg e2]; exact h1 p q hp hpq hq e1 e2
        · intro q hq1 hq2
          dsimp only
          rw [hv]
          unfold sw
          rw [if_pos rfl, if_neg (by omega)]
          by_cases e2 : q = j
          · rw [if_pos e2]; exact hlt
          · rw [if_neg e2]; exact h2 q (by omega) hq2
        · intro p hp1 hp2 hp3
          dsimp only
          rw [hv]
          unfold sw
          rw [if_pos rfl, if_neg hp3]
          by_cases e2 : p = j
          · rw [if_pos e2]; exact h3 (j - 1) (by omega) (by omega) (by omega)
          · rw [if_neg e2]; exact h3 p hp1 hp2 e2
      · right
        rw [if_neg (dneg hc0)]
        refine ⟨_, rfl, hR, fun p q hp hpq hq => ?_⟩
        have hge : ls ld (vw d (j - 1)) (vw d j) := ls_not (by have := h3 (j - 1) (by omega) (by omega) (by omega); omega) (fun h => hc0 (hcl.2 h))
        by_cases e1 : p = j
        · subst e1; exact h2 q hpq (by omega)
        · by_cases e2 : q = j
          · subst e2
            by_cases e3 : p = q - 1
            · subst e3; exact hge
            · exact ls_trans (h1 p (q - 1) hp (by omega) (by omega) e1 (by omega)) hge
          · exact h1 p q hp hpq (by omega) e1 e2
    · right
      rw [if_neg (dneg (by omega))]
      obtain rfl : j = a := by omega
      refine ⟨_, rfl, hR, fun p q hp hpq hq => ?_⟩
      by_cases e1 : p = j
      · subst e1; exact h2 q hpq (by omega)
      · exact h1 p q hp hpq (by omega) e1 (by omega)
  · exact ⟨i, rfl, ha, Nat.le_refl _, RR.refl _ _ _, fun p q hp hpq hq _ h => hS p q hp hpq (by omega), fun q h1 h2 => by omega, fun p h1 h2 h3 => hx p h1 (by omega)⟩

theorem insertion_ok {ld : List Int} (hw : Wt ld) (d : List Int) (a b : Nat) (hab : a ≤ b) (hb : b ≤ d.length) (hs : d.length < 4294967296) (hD : Dm ld d) (hA : ∀ p q, a ≤ p → p < q → q < b → vw d p < vw d q) :
    ∃ d', slices_insertionSortCmpFunc_int_ d a b ld = some d' ∧ RR d d' a b ∧ Srt ld (vw d') a b := by
  unfold slices_insertionSortCmpFunc_int_
  rw [wk1 (by omega)]
  obtain ⟨r, hr, h1, h2⟩ := loop_inv (step := slices_insertionSortCmpFunc_int__L4 a b ld)
    (fun s => ∃ i : Nat, s.2 = (i : Int) ∧ a + 1 ≤ i ∧ (i ≤ b ∨ i = a + 1) ∧ RR d s.1 a (min i b) ∧ Srt ld (vw s.1) a (min i b)) (fun s => b + 1 - s.2.toNat) (fun r => RR d r a b ∧ Srt ld (vw r) a b) (by
      rintro ⟨x, _⟩ ⟨i, rfl, hai, hib, hR, hS⟩
      dsimp only at hR hS ⊢
      unfold slices_insertionSortCmpFunc_int__L4
      dsimp only
      by_cases hlt : i < b
      · left
        rw [if_pos (dpos (by omega))]
        rw [Nat.min_eq_left (by omega)] at hR hS
        have hl := hR.len
        obtain ⟨d', h3, h4, h5⟩ := insInner_ok hw x a i (by omega) (by omega) (by omega) (hD.rr hR) hS (fun p hp1 hp2 => by
          rw [hR.out i (by omega)]
          obtain ⟨l, h6, h7, h8⟩ := hR.sub p hp1 hp2
          rw [h8]
          exact hA l i h6 h7 hlt)
        rw [h3]
        simp only [Option.bind_some]
        rw [wk1 (by omega)]
        refine ⟨_, rfl, ⟨i + 1, rfl, by omega, Or.inl (by omega), ?_, ?_⟩, by dsimp only; omega⟩
        · rw [Nat.min_eq_left (by omega)]; exact (hR.wide (Nat.le_refl _) (by omega)).trans h4
        · rw [Nat.min_eq_left (by omega)]; exact h5
      · right
        rw [if_neg (dneg (by omega))]
        rw [Nat.min_eq_right (by omega)] at hR hS
        exact ⟨_, rfl, hR, hS⟩) (d, ((a + 1 : Nat) : Int)) ⟨a + 1, rfl, Nat.le_refl _, Or.inr rfl, RR.refl _ _ _, fun p q h1 h2 h3 => by omega⟩ (by dsimp only; omega)
  rw [hr]
  exact ⟨r, rfl, h1, h2⟩

/-! ### Merging -/
/-- What is asked of a merge. -/
structure MG (ld d : List Int) (a m b : Nat) : Prop where
  am : a < m
  mb : m < b
  bl : b ≤ d.length
  sz : d.length < 4294967296
  dm : Dm ld d
  s1 : Srt ld (vw d) a m
  s2 : Srt ld (vw d) m b
  cr : ∀ p q, a ≤ p → p < m → m ≤ q → q < b → vw d p < vw d q
def MGok (ld d : List Int) (a b : Nat) (r : Option (List Int)) : Prop := ∃ d', r = some d' ∧ RR d d' a b ∧ Srt ld (vw d') a b

/-- The left part is one element. -/
theorem merge_left {ld : List Int} (hw : Wt ld) {d : List Int} {a b : Nat} (h : MG ld d a (a + 1) b) :
    MGok ld d a b ((loop (slices_symMergeCmpFunc_int__L6 d a ld) (((a + 1 : Nat) : Int), (b : Int))).bind fun i => (loop (slices_symMergeCmpFunc_int__L17 i) (d, (a : Int))).bind fun x => some x) := by
  obtain ⟨_, hmb, hbl, hsz, hD, hs1, hs2, hcr⟩ := h
  obtain ⟨_, hi, i, rfl, hia, hib, hi1, hi2⟩ := loop_inv (step := slices_symMergeCmpFunc_int__L6 d a ld)
    (fun s => ∃ i j : Nat, s = ((i : Int), (j : Int)) ∧ a + 1 ≤ i ∧ i ≤ j ∧ j ≤ b ∧ (∀ q, a + 1 ≤ q → q < i → ls ld (vw d q) (vw d a)) ∧ (∀ q, j ≤ q → q < b → ¬ ls ld (vw d q) (vw d a))) (fun s => s.2.toNat - s.1.toNat)
    (fun r => ∃ i : Nat, r = (i : Int) ∧ a + 1 ≤ i ∧ i ≤ b ∧ (∀ q, a + 1 ≤ q → q < i → ls ld (vw d q) (vw d a)) ∧ (∀ q, i ≤ q → q < b → ¬ ls ld (vw d q) (vw d a))) (by
      rintro _ ⟨i, j, rfl, h1, h2, h3, h4, h5⟩
      unfold slices_symMergeCmpFunc_int__L6
      dsimp only
      by_cases hij : i < j
      · left
        rw [if_pos (dpos (by omega)), half_ok (by omega)]
        obtain ⟨k, hk⟩ : ∃ k, k = (i + j) / 2 := ⟨_, rfl⟩
        rw [← hk]
        rw [vw_idx (by omega : k < d.length), vw_idx (by omega : a < d.length)]
        simp only [Option.bind_some]
        obtain ⟨c, hc, hcl⟩ := cmp_ok hw (dm_vw hD (by omega : k < d.length)) (dm_vw hD (by omega : a < d.length)) (hcr a k (by omega) (by omega) (by omega) (by omega))
        rw [hc]
        simp only [Option.bind_some]
        by_cases hc0 : c < 0
        · rw [if_pos (dpos hc0), wk1 (by omega)]
          refine ⟨_, rfl, ⟨k + 1, j, rfl, by omega, by omega, h3, fun q h6 h7 => ?_, h5⟩, by dsimp only; omega⟩
          by_cases e : q = k
          · subst e; exact hcl.1 hc0
          · exact ls_trans (hs2 q k h6 (by omega) (by omega)) (hcl.1 hc0)
        · rw [if_neg (dneg hc0)]
          refine ⟨_, rfl, ⟨i, k, rfl, h1, by omega, by omega, h4, fun q h6 h7 hq => ?_⟩, by dsimp only; omega⟩
          by_cases e : q = k
          · subst e; exact hc0 (hcl.2 hq)
          · exact hc0 (hcl.2 (ls_trans (hs2 k q (by omega) (by omega) h7) hq))
      · right
        rw [if_neg (dneg (by omega))]
        obtain rfl : i = j := by omega
        exact ⟨_, rfl, i, rfl, h1, h3, h4, h5⟩) (((a + 1 : Nat) : Int), (b : Int)) ⟨a + 1, b, rfl, Nat.le_refl _, by omega, Nat.le_refl _, fun q h1 h2 => by omega, fun q h1 h2 => by omega⟩ (by dsimp only; omega)
  rw [hi]
  simp only [Option.bind_some]
  have hgt : ∀ q, i ≤ q → q < b → ls ld (vw d a) (vw d q) := fun q h1 h2 => ls_not (by have := hcr a q (by omega) (by omega) (by omega) h2; omega) (hi2 q h1 h2)
  obtain ⟨r, hr, h1, h2⟩ := loop_inv (step := slices_symMergeCmpFunc_int__L17 i)
    (fun s => ∃ k : Nat, s.2 = (k : Int) ∧ a ≤ k ∧ k ≤ i - 1 ∧ RR d s.1 a b ∧ vw s.1 k = vw d a ∧ (∀ p q, a ≤ p → p < q → q < b → p ≠ k → q ≠ k → ls ld (vw s.1 p) (vw s.1 q)) ∧ (∀ p, a ≤ p → p < i → p ≠ k → ls ld (vw s.1 p) (vw d a)) ∧ (∀ q, i ≤ q → q < b → ls ld (vw d a) (vw s.1 q))) (fun s => i - s.2.toNat)
    (fun r => RR d r a b ∧ Srt ld (vw r) a b) (by
      rintro ⟨x, _⟩ ⟨k, rfl, h1, h2, hR, h3, h4, h5, h6⟩
      dsimp only at hR h3 h4 h5 h6 ⊢
      have hl := hR.len
      unfold slices_symMergeCmpFunc_int__L17
      dsimp only
      rw [wkm1 (by omega) (by omega)]
      by_cases hk : k < i - 1
      · left
        rw [if_pos (dpos (by omega)), wk1 (by omega), vw_idx (by omega : k + 1 < x.length), vw_idx (by omega : k < x.length)]
        simp only [Option.bind_some, Int.toNat_natCast]
        obtain ⟨y, hy⟩ := idx_ex (d := x.set k (vw x (k + 1))) (k := k + 1) (by rw [List.length_set]; omega)
        rw [hy]
        simp only [Option.bind_some]
        have hv := vw_sw (d := x) (i := k) (j := k + 1) (by omega) (by omega)
        refine ⟨_, rfl, ⟨k + 1, rfl, by omega, by omega, hR.trans (RR.sw (by omega) (by omega) (by omega) (by omega) (by omega) (by omega)), ?_, ?_, ?_, ?_⟩, by dsimp only; omega⟩
        · dsimp only; rw [hv]; unfold sw; rw [if_pos rfl]; exact h3
        · intro p q hp hpq hq hpk hqk
          dsimp only
          rw [hv]
          unfold sw
          rw [if_neg hpk, if_neg hqk]
          by_cases e1 : p = k
          · rw [if_pos e1, if_neg (by omega)]
            exact h4 (k + 1) q (by omega) (by omega) hq (by omega) (by omega)
          · rw [if_neg e1]
            by_cases e2 : q = k
            · rw [if_pos e2]; exact h4 p (k + 1) hp (by omega) (by omega) e1 (by omega)
            · rw [if_neg e2]; exact h4 p q hp hpq hq e1 e2
        · intro p hp hpi hpk
          dsimp only
          rw [hv]
          unfold sw
          rw [if_neg hpk]
          by_cases e1 : p = k
          · rw [if_pos e1]; exact h5 (k + 1) (by omega) (by omega) (by omega)
          · rw [if_neg e1]; exact h5 p hp hpi e1
        · intro q hq1 hq2
          dsimp only
          rw [hv]
          unfold sw
          rw [if_neg (by omega), if_neg (by omega)]
          exact h6 q hq1 hq2
      · right
        rw [if_neg (dneg (by omega))]
        refine ⟨_, rfl, hR, fun p q hp hpq hq => ?_⟩
        have hki : k = i - 1 := by omega
        by_cases e1 : p = k
        · rw [e1, h3]; exact h6 q (by omega) hq
        · by_cases e2 : q = k
          · rw [e2, h3]; exact h5 p hp (by omega) e1
          · exact h4 p q hp hpq hq e1 e2) (d, (a : Int)) ⟨a, rfl, Nat.le_refl _, by omega, RR.refl _ _ _, rfl, fun p q h1 h2 h3 h4 h5 => hs2 p q (by omega) h2 h3, fun p h1 h2 h3 => hi1 p (by omega) h2, hgt⟩ (by dsimp only; omega)
  rw [hr]
  exact ⟨r, rfl, h1, h2⟩

/-- The right part is one element. -/
theorem merge_right {ld : List Int} (hw : Wt ld) {d : List Int} {a m : Nat} (h : MG ld d a m (m + 1)) :
    MGok ld d a (m + 1) ((loop (slices_symMergeCmpFunc_int__L37 d m ld) ((a : Int), (m : Int))).bind fun i => (loop (slices_symMergeCmpFunc_int__L48 i) (d, (m : Int))).bind fun x => some x) := by
  obtain ⟨ham, _, hbl, hsz, hD, hs1, hs2, hcr⟩ := h
  obtain ⟨_, hi, i, rfl, hia, hib, hi1, hi2⟩ := loop_inv (step := slices_symMergeCmpFunc_int__L37 d m ld)
    (fun s => ∃ i j : Nat, s = ((i : Int), (j : Int)) ∧ a ≤ i ∧ i ≤ j ∧ j ≤ m ∧ (∀ q, a ≤ q → q < i → ¬ ls ld (vw d m) (vw d q)) ∧ (∀ q, j ≤ q → q < m → ls ld (vw d m) (vw d q))) (fun s => s.2.toNat - s.1.toNat)
    (fun r => ∃ i : Nat, r = (i : Int) ∧ a ≤ i ∧ i ≤ m ∧ (∀ q, a ≤ q → q < i → ¬ ls ld (vw d m) (vw d q)) ∧ (∀ q, i ≤ q → q < m → ls ld (vw d m) (vw d q))) (by
      rintro _ ⟨i, j, rfl, h1, h2, h3, h4, h5⟩
      unfold slices_symMergeCmpFunc_int__L37
      dsimp only
      by_cases hij : i < j
      · left
        rw [if_pos (dpos (by omega)), half_ok (by omega)]
        obtain ⟨k, hk⟩ : ∃ k, k = (i + j) / 2 := ⟨_, rfl⟩
        rw [← hk]
        rw [vw_idx (by omega : k < d.length), vw_idx (by omega : m < d.length)]
        simp only [Option.bind_some]
        obtain ⟨c, hc, hcl⟩ := cmp_ok hw (dm_vw hD (by omega : m < d.length)) (dm_vw hD (by omega : k < d.length)) (hcr k m (by omega) (by omega) (by omega) (by omega))
        rw [hc]
        simp only [Option.bind_some]
        by_cases hc0 : c < 0
        · rw [if_neg (by rw [dpos hc0]; simp)]
          refine ⟨_, rfl, ⟨i, k, rfl, h1, by omega, by omega, h4, fun q h6 h7 => ?_⟩, by dsimp only; omega⟩
          by_cases e : q = k
          · subst e; exact hcl.1 hc0
          · exact ls_trans (hcl.1 hc0) (hs1 k q (by omega) (by omega) h7)
        · rw [if_pos (by simpa using hc0), wk1 (by omega)]
          refine ⟨_, rfl, ⟨k + 1, j, rfl, by omega, by omega, h3, fun q h6 h7 hq => ?_, h5⟩, by dsimp only; omega⟩
          by_cases e : q = k
          · subst e; exact hc0 (hcl.2 hq)
          · exact hc0 (hcl.2 (ls_trans hq (hs1 q k h6 (by omega) (by omega))))
      · right
        rw [if_neg (dneg (by omega))]
        obtain rfl : i = j := by omega
        exact ⟨_, rfl, i, rfl, h1, h3, h4, h5⟩) ((a : Int), (m : Int)) ⟨a, m, rfl, Nat.le_refl _, by omega, Nat.le_refl _, fun q h1 h2 => by omega, fun q h1 h2 => by omega⟩ (by dsimp only; omega)
  rw [hi]
  simp only [Option.bind_some]
  have hgt : ∀ q, a ≤ q → q < i → ls ld (vw d q) (vw d m) := fun q h1 h2 => ls_not (by have := hcr q m h1 (by omega) (by omega) (by omega); omega) (hi1 q h1 h2)
  obtain ⟨r, hr, h1, h2⟩ := loop_inv (step := slices_symMergeCmpFunc_int__L48 i)
    (fun s => ∃ k : Nat, s.2 = (k : Int) ∧ i ≤ k ∧ k ≤ m ∧ RR d s.1 a (m + 1) ∧ vw s.1 k = vw d m ∧ (∀ p q, a ≤ p → p < q → q < m + 1 → p ≠ k → q ≠ k → ls ld (vw s.1 p) (vw s.1 q)) ∧ (∀ q, i ≤ q → q < m + 1 → q ≠ k → ls ld (vw d m) (vw s.1 q)) ∧ (∀ p, a ≤ p → p < i → ls ld (vw s.1 p) (vw d m))) (fun s => s.2.toNat)
    (fun r => RR d r a (m + 1) ∧ Srt ld (vw r) a (m + 1)) (by
      rintro ⟨x, _⟩ ⟨k, rfl, h1, h2, hR, h3, h4, h5, h6⟩
      dsimp only at hR h3 h4 h5 h6 ⊢
      have hl := hR.len
      unfold slices_symMergeCmpFunc_int__L48
      dsimp only
      by_cases hk : i < k
      · left
        rw [if_pos (dpos (by omega)), wkm1 (by omega) (by omega), vw_idx (by omega : k - 1 < x.length), vw_idx (by omega : k < x.length)]
        simp only [Option.bind_some, Int.toNat_natCast]
        obtain ⟨y, hy⟩ := idx_ex (d := x.set k (vw x (k - 1))) (k := k - 1) (by rw [List.length_set]; omega)
        rw [hy]
        simp only [Option.bind_some]
        have hv := vw_sw (d := x) (i := k) (j := k - 1) (by omega) (by omega)
        refine ⟨_, rfl, ⟨k - 1, rfl, by omega, by omega, hR.trans (RR.sw (by omega) (by omega) (by omega) (by omega) (by omega) (by omega)), ?_, ?_, ?_, ?_⟩, by dsimp only; omega⟩
        · dsimp only; rw [hv]; unfold sw; rw [if_pos rfl]; exact h3
        · intro p q hp hpq hq hpk hqk
          dsimp only
          rw [hv]
          unfold sw
          rw [if_neg hpk, if_neg hqk]
          by_cases e1 : p = k
          · rw [if_pos e1, if_neg (by omega)]
            exact h4 (k - 1) q (by omega) (by omega) hq (by omega) (by omega)
          · rw [if_neg e1]
            by_cases e2 : q = k
            · rw [if_pos e2]; exact h4 p (k - 1) hp (by omega) (by omega) e1 (by omega)
            · rw [if_neg e2]; exact h4 p q hp hpq hq e1 e2
        · intro q hq1 hq2 hqk
          dsimp only
          rw [hv]
          unfold sw
          rw [if_neg hqk]
          by_cases e1 : q = k
          · rw [if_pos e1]; exact h5 (k - 1) (by omega) (by omega) (by omega)
          · rw [if_neg e1]; exact h5 q hq1 hq2 e1
        · intro p hp hpi
          dsimp only
          rw [hv]
          unfold sw
          rw [if_neg (by omega), if_neg (by omega)]
          exact h6 p hp hpi
      · right
        rw [if_neg (dneg (by omega))]
        refine ⟨_, rfl, hR, fun p q hp hpq hq => ?_⟩
        have hki : k = i := by omega
        by_cases e1 : p = k
        · rw [e1, h3]; exact h5 q (by omega) hq (by omega)
        · by_cases e2 : q = k
          · rw [e2, h3]; exact h6 p hp (by omega)
          · exact h4 p q hp hpq hq e1 e2) (d, (m : Int)) ⟨m, rfl, hib, Nat.le_refl _, RR.refl _ _ _, rfl, fun p q h1 h2 h3 h4 h5 => hs1 p q h1 h2 (by omega), fun q h1 h2 h3 => hi2 q h1 (by omega), hgt⟩ (by dsimp only; omega)
  rw [hr]
  exact ⟨r, rfl, h1, h2⟩
end Go.Proofs.Ytdbomhhcebmkpaa
