/- Plain laws: the least codes satisfy all relations, and are at most any numbers that have room. No condition beyond those of each theorem. -/
import Derived.Test.YtcignnfdpgeogaaPKleast0
set_option linter.unusedVariables false
set_option linter.unusedSectionVars false
set_option linter.unusedSimpArgs false
set_option maxRecDepth 100000
namespace Go.Proofs.Ytcignnfdpgeogaa
open Go Go.V Go.Proofs

theorem nx_le {a b r w w' : Int} (ha : 0 ≤ a) (hab : a ≤ b) (hr : 0 ≤ r ∧ r ≤ 12) (hw : 0 ≤ w ∧ w ≤ w' ∧ w' ≤ 12) (h : (NX b r w).2 = 0) : (NX a r w').2 = 0 ∧ (NX a r w').1 ≤ (NX b r w).1 := by
  rcases (nx_ok (n := b) (by omega) hr (w := w) (by omega)).2.2 with ⟨k, e, h1, h2, h3, h4⟩ | ⟨e, _⟩
  · have hk : isN r.toNat w'.toNat k = true := by
      simp only [isN, Bool.and_eq_true, decide_eq_true_eq] at h3 ⊢
      exact ⟨h3.1, by omega⟩
    rcases (nx_ok (n := a) ha hr (w := w') (by omega)).2.2 with ⟨l, g, g1, g2, g3, g4⟩ | ⟨g, g1⟩
    · rw [e, g]
      refine ⟨rfl, ?_⟩
      simp only
      rcases Nat.lt_or_ge k l with q | q
      · have := g4 k (by omega) q
        rw [hk] at this; cases this
      · omega
    · have := g1 k (by omega) h2
      rw [hk] at this; cases this
  · rw [e] at h
    simp at h
theorem nx_ge {n r w : Int} (hn : 0 ≤ n) (hr : 0 ≤ r ∧ r ≤ 12) (hw : 0 ≤ w ∧ w ≤ 12) (h : (NX n r w).2 = 0) : n ≤ (NX n r w).1 ∧ (NX n r w).1 ≤ 4095 := by
  rcases nx_cases hn hr hw with ⟨_, h1, h2⟩ | e
  · exact ⟨h1, h2⟩
  · rw [e] at h; simp at h

theorem need_mono {its : List Item} {d u : List Int} {y : Nat} (h : ∀ x, rel its x y > 0 → d.getD x 0 ≤ u.getD x 0) : need its d y ≤ need its u y := by
  rcases needU_at its d y its.length with h0 | ⟨x, h1, h2, h3⟩
  · unfold need; rw [h0]; exact needU_nonneg its u y _
  · have := needU_ge its u y its.length x h1 h2
    have := h x h2
    unfold need
    omega
theorem lst_ge {its : List Item} {wt : Int} (hg : JobGood its wt) {v : List Int} (hv : IsLst its wt v) {y : Nat} (hy : y < its.length) : need its v y ≤ v.getD y 0 := by
  have e := hv.eq y hy
  have := (nx_ge (needU_nn its v y) (hg.r y) hg.w (by rw [e])).1
  rw [e] at this
  exact this
theorem lst_rel {its : List Item} {wt : Int} (hg : JobGood its wt) {v : List Int} (hv : IsLst its wt v) {x y : Nat} (hr : rel its x y > 0) : v.getD x 0 + rel its x y - 1 ≤ v.getD y 0 := by
  obtain ⟨_, hx, hy⟩ := rel_blk hr
  have h1 := needU_ge its v y its.length x hx hr
  have h2 := lst_ge hg hv hy
  unfold need at h2
  omega

/-- Numbers that have room for what the items before each item ask of it. -/
def Upper (its : List Item) (wt : Int) (u : List Int) : Prop := ∀ y, y < its.length → (NX (need its u y) (rOf its y) wt).2 = 0 ∧ (NX (need its u y) (rOf its y) wt).1 ≤ u.getD y 0
theorem upper_on {its : List Item} {wt : Int} (hg : JobGood its wt) {u d : List Int} (hu : Upper its wt u) (S : Nat → Prop) (hS : ∀ y, S y → y < its.length) (hdown : ∀ x y, S y → rel its x y > 0 → S x)
    (hd : ∀ y, S y → NX (need its d y) (rOf its y) wt = (d.getD y 0, 0)) : ∀ y, S y → d.getD y 0 ≤ u.getD y 0 := by
  have key : ∀ n y, (bOf its y).toNat < n → S y → d.getD y 0 ≤ u.getD y 0 := by
    intro n
    induction n with
    | zero => intro y hy; omega
    | succ n ih =>
      intro y hy hs
      have hm : need its d y ≤ need its u y := need_mono fun x hr => by
        have h1 := (rel_blk hr).1
        have := (hg.b x).1
        exact ih x (by omega) (hdown x y hs hr)
      have e := hd y hs
      obtain ⟨q1, q2⟩ := hu y (hS y hs)
      have hw := hg.w
      have := nx_le (needU_nn its d y) hm (hg.r y) ⟨hw.1, Int.le_refl _, hw.2⟩ q1
      rw [e] at this
      have h3 := this.2
      simp only at h3
      omega
  exact fun y hs => key _ y (Nat.lt_succ_self _) hs
theorem upper_le {its : List Item} {wt : Int} (hg : JobGood its wt) {u v : List Int} (hu : Upper its wt u) (hv : IsLst its wt v) (y : Nat) (hy : y < its.length) : v.getD y 0 ≤ u.getD y 0 :=
  upper_on hg hu (fun y => y < its.length) (fun y h => h) (fun x y _ hr => (rel_blk hr).2.1) hv.eq y hy
theorem upper_free {its : List Item} {wt : Int} (hg : JobGood its wt) {u : List Int} (hu : Upper its wt u) : ¬ Stuck its wt := by
  rintro ⟨d, S, y, h1, h2, h3, h4, h5, h6⟩
  have hm : need its d y ≤ need its u y := need_mono fun x hr => upper_on hg hu S h1 h2 h3 x (h5 x hr)
  have hw := hg.w
  have := nx_le (needU_nn its d y) hm (hg.r y) ⟨hw.1, Int.le_refl _, hw.2⟩ (hu y h4).1
  rw [h6] at this
  simp at this

/-! ### Least answers -/
theorem Least_cases {its : List Item} {wt : Int} (hg : JobGood its wt) : (∃ v S m, IsLst its wt v ∧ leastcode_Least its wt = some ((S, v), 0) ∧ IsMx v m ∧ LongSpec m S) ∨ (leastcode_Least its wt = some ((0, []), 15) ∧ Stuck its wt) := by
  obtain ⟨p, h1, h2⟩ := Least_ok hg
  rcases h2 with ⟨v, S, m, hv, rfl, hm, hS⟩ | ⟨rfl, hs⟩
  · exact .inl ⟨v, S, m, hv, h1, hm, hS⟩
  · exact .inr ⟨h1, hs⟩
end Go.Proofs.Ytcignnfdpgeogaa
