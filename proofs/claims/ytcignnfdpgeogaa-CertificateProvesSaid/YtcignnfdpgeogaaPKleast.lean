/- Plain laws: the witness and the bound of a chain. No condition beyond those of each theorem. -/
import Derived.Test.YtcignnfdpgeogaaPKleast0
import Derived.Test.YtcignnfdpgeogaaPJref0
import Derived.Test.YtcignnfdpgeogaaPJnx
set_option linter.unusedVariables false
set_option linter.unusedSectionVars false
set_option linter.unusedSimpArgs false
set_option maxRecDepth 100000
namespace Go.Proofs.Ytcignnfdpgeogaa
open Go Go.V Go.Proofs

section
variable {its : List Item} {wt : Int} (hg : JobGood its wt)
include hg

/-! ### The witness -/
theorem WL27_ok {base v : List Int} (e : Int) (hv : IsLst its wt v) (hbl : base.length = its.length) (hba : ∀ y, y < its.length → base.getD y 0 = need its v y) (y : Nat) (hy : y < its.length) (h : need its v y > 0) :
    loop (leastcode_Witness_L27 (relM its) (base, v, e) (y : Int)) 0 = some (nx2 its v y : Int) := by
  have hl := hg.len
  have hc := hv.c12 hg
  have hvl := hv.len
  obtain ⟨s1, s2, s3, s4⟩ := nx2_spec h
  obtain ⟨d, h1, h2⟩ := loop_inv (step := leastcode_Witness_L27 (relM its) (base, v, e) (y : Int)) (fun s => ∃ x : Nat, s = (x : Int) ∧ x ≤ nx2 its v y) (fun s => its.length - s.toNat)
    (fun d => d = (nx2 its v y : Int)) (by
    rintro _ ⟨x, rfl, hx⟩
    unfold leastcode_Witness_L27
    simp only
    rw [if_pos (dpos (by omega)), relM_get (by omega)]
    simp only [obind]
    rw [relRow_get hy]
    simp only [obind]
    rw [wr_id (n := (x : Int) + 1) (by omega) (by omega)]
    have hrr := rel_range its x y
    by_cases hr : rel its x y > 0
    · have hvx := hc x
      rw [if_pos (dpos hr), idx_getD (by omega)]
      simp only [obind]
      rw [idx_getD (by omega), hba y hy]
      simp only [obind]
      rw [wr_id (n := v.getD x 0 + rel its x y) (by omega) (by omega), wr_id (n := v.getD x 0 + rel its x y - 1) (by omega) (by omega)]
      by_cases e : v.getD x 0 + rel its x y - 1 = need its v y
      · rw [if_pos (by rw [e]; simp)]
        refine .inr ⟨_, rfl, ?_⟩
        rcases Nat.lt_or_ge x (nx2 its v y) with hlt | hge
        · have := s4 x hlt
          unfold stp2 at this
          rw [dpos hr, dpos e] at this
          cases this
        · rw [show x = nx2 its v y by omega]
      · rw [if_neg (by rw [beq_iff_eq]; exact e)]
        have hne : x ≠ nx2 its v y := fun e' => by rw [← e'] at s2; omega
        exact .inl ⟨_, rfl, ⟨x + 1, rfl, by omega⟩, by omega⟩
    · rw [if_neg (dneg hr)]
      have hne : x ≠ nx2 its v y := fun e => by rw [← e] at s1; omega
      exact .inl ⟨_, rfl, ⟨x + 1, rfl, by omega⟩, by omega⟩) 0 ⟨0, rfl, by omega⟩ (by simp; omega)
  rw [h1, h2]

theorem WL23_ok {base v : List Int} (e : Int) (hv : IsLst its wt v) (hbl : base.length = its.length) (hba : ∀ y, y < its.length → base.getD y 0 = need its v y) (y0 : Nat) (hy0 : y0 < its.length) :
    loop (leastcode_Witness_L23 (relM its) (base, v, e)) ((y0 : Int), [(y0 : Int)]) = some (castL (down2 its v 40 y0)) := by
  have hl := hg.len
  have hb := hg.b
  obtain ⟨d, h1, h2⟩ := loop_inv (step := leastcode_Witness_L23 (relM its) (base, v, e)) (fun s => ∃ (acc : List Nat) (y f : Nat), s = ((y : Int), castL (acc ++ [y])) ∧ y < its.length ∧ acc ++ down2 its v f y = down2 its v 40 y0 ∧ bOf its y ≤ f ∧ acc.length + f ≤ 40) (fun s => (bOf its s.1.toNat).toNat)
    (fun d => d = castL (down2 its v 40 y0)) (by
    rintro _ ⟨acc, y, f, rfl, hy, hd, hbf, hfl⟩
    unfold leastcode_Witness_L23
    simp only
    rw [idx_getD (by omega), hba y hy]
    simp only [obind]
    by_cases hp : need its v y > 0
    · obtain ⟨s1, s2, s3, s4⟩ := nx2_spec hp
      have hblk := (rel_blk s1).1
      have hb0 := hb (nx2 its v y)
      have hby := hb y
      rw [if_pos (dpos hp), WL27_ok hg e hv hbl hba y hy hp]
      simp only [obind]
      rw [if_pos (by rw [castL_len]; simp only [List.length_append, List.length_cons, List.length_nil]; omega)]
      obtain ⟨f', rfl⟩ : ∃ f', f = f' + 1 := ⟨f - 1, by omega⟩
      refine .inl ⟨_, rfl, ⟨acc ++ [y], nx2 its v y, f', ?_, s3, ?_, by omega, by simp; omega⟩, by simp only [Int.toNat_natCast]; omega⟩
      · rw [castL_app (acc ++ [y])]; rfl
      · rw [← hd]
        conv => rhs; unfold down2
        rw [if_pos hp, List.append_assoc]; rfl
    · have h0 : need its v y = 0 := by have := need_nonneg its v y; omega
      rw [if_neg (dneg hp)]
      refine .inr ⟨_, rfl, ?_⟩
      rw [← hd, down2_zero its v y h0]) ((y0 : Int), [(y0 : Int)]) ⟨[], y0, 40, rfl, hy0, rfl, by have := hb y0; omega, by simp⟩ (by have := hb y0; simp only [Int.toNat_natCast]; omega)
  rw [h1, h2]

/-- What Witness answers for a valid job. -/
def WitSpec (its : List Item) (wt : Int) (p : List Int × Int) : Prop :=
  (∃ v, IsLst its wt v ∧ p.2 = 0 ∧ ((v.length = 0 ∧ p.1 = []) ∨ ∃ y0, FstMax v y0 ∧ p.1 = castL (down2 its v 40 y0).reverse)) ∨ (p = ([], 15) ∧ Stuck its wt)

theorem Witness_ok : ∃ p, leastcode_Witness its wt = some p ∧ WitSpec its wt p := by
  have hl := hg.len
  unfold leastcode_Witness
  rw [valid_good hg]
  simp only [obind, bne_self_eq_false, Bool.false_eq_true, if_false]
  rw [relations_ok its wt (by omega)]
  simp only [obind]
  obtain ⟨⟨base, v, e⟩, h1, h2⟩ := solve_ok hg
  rw [h1]
  simp only [obind]
  rcases h2 with ⟨e0, hv, hbl, hba⟩ | ⟨e0, hS⟩
  · simp only at e0 hv hbl hba
    subst e0
    have hvl := hv.len
    simp only [bne_self_eq_false, Bool.false_eq_true, if_false]
    by_cases h0 : v.length = 0
    · rw [if_pos (by rw [h0]; rfl)]
      exact ⟨_, rfl, .inl ⟨v, hv, rfl, .inl ⟨h0, rfl⟩⟩⟩
    · rw [if_neg (by rw [beq_iff_eq]; omega)]
      obtain ⟨m, e1, q1, q2⟩ := max_ok v (by omega) (by omega)
      obtain ⟨y0, e2, q3, q4, q5⟩ := index_ok v m (by omega) q1
      rw [e1]
      simp only [obind]
      rw [e2]
      simp only [obind]
      rw [WL23_ok hg 0 hv hbl hba y0 (by omega)]
      simp only [obind]
      rw [castL_rev]
      exact ⟨_, rfl, .inl ⟨v, hv, rfl, .inr ⟨y0, ⟨q3, fun y hy => by rw [q4]; exact q2 y hy, fun y hy => by rw [q4]; exact q5 y hy⟩, rfl⟩⟩⟩
  · cases e0
    rw [if_pos (by decide)]
    exact ⟨_, rfl, .inr ⟨rfl, hS⟩⟩
end

/-! ### The bound of a chain -/
/-- Each element is an item, and each one comes before the next one. -/
def ChainOK (its : List Item) (c : List Int) (m : Nat) : Prop :=
  (∀ i, i < m → 0 ≤ c.getD i 0 ∧ c.getD i 0 < its.length) ∧ ∀ i, i + 1 < m → rel its (c.getD i 0).toNat (c.getD (i + 1) 0).toNat ≠ 0
/-- The bound behind m elements. -/
def bdr (its : List Item) (wt : Int) (c : List Int) : Nat → Int × Int
  | 0 => (0, 0)
  | m + 1 => if (bdr its wt c m).2 ≠ 0 then (0, 15) else
      NX ((bdr its wt c m).1 + (if 0 < m then rel its (c.getD (m - 1) 0).toNat (c.getD m 0).toNat - 1 else 0)) (rOf its (c.getD m 0).toNat) wt
theorem ChainOK.rel_pos {its : List Item} {c : List Int} {m : Nat} (h : ChainOK its c m) {i : Nat} (hi : i + 1 < m) : rel its (c.getD i 0).toNat (c.getD (i + 1) 0).toNat > 0 := by
  have := h.2 i hi
  rcases rel_range its (c.getD i 0).toNat (c.getD (i + 1) 0).toNat with e | e | e <;> omega
/-- A chain is short: its blocks ascend. -/
theorem chain_short {its : List Item} (hb : ∀ i, 0 ≤ bOf its i ∧ bOf its i ≤ 31) {c : List Int} {m : Nat} (h : ChainOK its c m) : m ≤ 32 := by
  have key : ∀ i, i < m → (i : Int) ≤ bOf its (c.getD i 0).toNat := by
    intro i
    induction i with
    | zero => intro _; have := hb (c.getD 0 0).toNat; omega
    | succ i ih =>
      intro hi
      have := ih (by omega)
      have hr := h.rel_pos (i := i) hi
      have := (rel_blk hr).1
      omega
  rcases Nat.lt_or_ge 32 m with h' | h'
  · have := key 32 h'
    have := hb (c.getD 32 0).toNat
    omega
  · exact h'
theorem bdr_range {its : List Item} {wt : Int} (hg : JobGood its wt) {c : List Int} {n : Nat} (h : ChainOK its c n) : ∀ m, m ≤ n → ((bdr its wt c m).2 = 0 ∧ 0 ≤ (bdr its wt c m).1 ∧ (bdr its wt c m).1 ≤ 4095) ∨ bdr its wt c m = (0, 15)
  | 0, _ => .inl ⟨rfl, Int.le_refl 0, by show (0 : Int) ≤ 4095; omega⟩
  | m + 1, hm => by
    have ih := bdr_range hg h m (by omega)
    unfold bdr
    rcases ih with ⟨h0, h1, h2⟩ | h0
    · rw [if_neg (by simp [h0])]
      have hs : 0 ≤ (if 0 < m then rel its (c.getD (m - 1) 0).toNat (c.getD m 0).toNat - 1 else 0) := by
        split
        · have := h.rel_pos (i := m - 1) (by omega)
          rw [show m - 1 + 1 = m by omega] at this
          omega
        · omega
      rcases nx_cases (n := (bdr its wt c m).1 + (if 0 < m then rel its (c.getD (m - 1) 0).toNat (c.getD m 0).toNat - 1 else 0)) (by omega) (hg.r (c.getD m 0).toNat) hg.w with ⟨q0, q1, q2⟩ | q0
      · exact .inl ⟨q0, by omega, q2⟩
      · exact .inr q0
    · rw [if_pos (by rw [h0]; decide)]
      exact .inr rfl

theorem bd_get {c : List Int} {i : Nat} (h : i < c.length) : idx c (i : Int) = some (c.getD i 0) := idx_getD h

section
variable {its : List Item} {wt : Int} (hg : JobGood its wt)
include hg

theorem Bound_okU (c : List Int) :
    (ChainOK its c c.length ∧ leastcode_Bound its wt c = some (bdr its wt c c.length)) ∨ (¬ ChainOK its c c.length ∧ leastcode_Bound its wt c = some (0, 1)) := by
  have hl := hg.len
  unfold leastcode_Bound
  rw [valid_good hg]
  simp only [obind, bne_self_eq_false, Bool.false_eq_true, if_false]
  rw [relations_ok its wt (by omega)]
  simp only [obind]
  obtain ⟨d, h1, h2⟩ := loop_inv (step := leastcode_Bound_L12 its c (relM its)) (fun s => ∃ i : Nat, s = (i : Int) ∧ i ≤ c.length ∧ ChainOK its c i) (fun s => 100 - s.toNat)
    (fun d => (d = .inr () ∧ ChainOK its c c.length) ∨ (d = .inl () ∧ ¬ ChainOK its c c.length)) (by
    rintro _ ⟨i, rfl, hi, hC⟩
    have hi33 := chain_short hg.b hC
    unfold leastcode_Bound_L12
    simp only
    by_cases h : i < c.length
    · rw [if_pos (dpos (by omega)), bd_get h]
      simp only [obind]
      by_cases h3 : c.getD i 0 < 0
      · rw [if_pos (dpos h3)]
        exact .inr ⟨_, rfl, .inr ⟨rfl, fun q => by have := q.1 i h; omega⟩⟩
      rw [if_neg (dneg h3)]
      by_cases h4 : c.getD i 0 ≥ its.length
      · rw [if_pos (dpos h4)]
        exact .inr ⟨_, rfl, .inr ⟨rfl, fun q => by have := q.1 i h; omega⟩⟩
      rw [if_neg (dneg h4), wr_id (n := (i : Int) + 1) (by omega) (by omega)]
      have hnext : (0 < i → rel its (c.getD (i - 1) 0).toNat (c.getD i 0).toNat ≠ 0) → ∃ k : Nat, (i : Int) + 1 = (k : Int) ∧ k ≤ c.length ∧ ChainOK its c k := fun hr => by
        refine ⟨i + 1, rfl, by omega, fun j hj => ?_, fun j hj => ?_⟩
        · by_cases e : j = i
          · subst e; omega
          · exact hC.1 j (by omega)
        · by_cases e : j + 1 = i
          · have := hr (by omega)
            rw [show i - 1 = j by omega, ← e] at this
            exact this
          · exact hC.2 j (by omega)
      by_cases h5 : 0 < i
      · obtain ⟨p0, p1⟩ := hC.1 (i - 1) (by omega)
        rw [if_pos (dpos (by omega)), wr_id (n := (i : Int) - 1) (by omega) (by omega), show (i : Int) - 1 = ((i - 1 : Nat) : Int) by omega, bd_get (by omega)]
        simp only [obind]
        rw [show c.getD (i - 1) 0 = (((c.getD (i - 1) 0).toNat : Nat) : Int) by omega, relM_get (by omega)]
        simp only [obind]
        rw [show c.getD i 0 = (((c.getD i 0).toNat : Nat) : Int) by omega, relRow_get (by omega)]
        simp only [obind, Int.toNat_natCast]
        by_cases h6 : rel its (c.getD (i - 1) 0).toNat (c.getD i 0).toNat = 0
        · rw [if_pos (by rw [h6]; rfl)]
          refine .inr ⟨_, rfl, .inr ⟨rfl, fun q => q.2 (i - 1) (by omega) ?_⟩⟩
          rw [show i - 1 + 1 = i by omega]; exact h6
        · rw [if_neg (by rw [beq_iff_eq]; exact h6)]
          exact .inl ⟨_, rfl, hnext (fun _ => h6), by omega⟩
      · rw [if_neg (dneg (by omega))]
        exact .inl ⟨_, rfl, hnext (fun q => absurd q h5), by omega⟩
    · rw [if_neg (dneg (by omega))]
      have : i = c.length := by omega
      subst this
      exact .inr ⟨_, rfl, .inl ⟨rfl, hC⟩⟩) 0 ⟨0, rfl, by omega, ⟨fun i h => by omega, fun i h => by omega⟩⟩ (by simp)
  rw [h1]
  rcases h2 with ⟨rfl, hC⟩ | ⟨rfl, hC⟩
  · have hcl := chain_short hg.b hC
    refine .inl ⟨hC, ?_⟩
    simp only [obind]
    obtain ⟨d, g1, g2⟩ := loop_inv (step := leastcode_Bound_L24 its wt c (relM its)) (fun s => ∃ i : Nat, s = ((bdr its wt c i).1, (i : Int)) ∧ i ≤ c.length ∧ (bdr its wt c i).2 = 0) (fun s => c.length - s.2.toNat)
      (fun d => (d = .inr (bdr its wt c c.length).1 ∧ (bdr its wt c c.length).2 = 0) ∨ (d = .inl 15 ∧ bdr its wt c c.length = (0, 15))) (by
      rintro _ ⟨i, rfl, hi, h0⟩
      unfold leastcode_Bound_L24
      simp only
      by_cases h : i < c.length
      · rw [if_pos (dpos (by omega)), bd_get h]
        simp only [obind]
        obtain ⟨p0, p1⟩ := hC.1 i h
        have hbr := bdr_range hg hC i (by omega)
        have hb0 : 0 ≤ (bdr its wt c i).1 ∧ (bdr its wt c i).1 ≤ 4095 := by
          rcases hbr with ⟨_, q1, q2⟩ | q
          · exact ⟨q1, q2⟩
          · rw [q] at h0; exact absurd h0 (by decide)
        have hstep : ∀ n : Int, n = (bdr its wt c i).1 + (if 0 < i then rel its (c.getD (i - 1) 0).toNat (c.getD i 0).toNat - 1 else 0) → 0 ≤ n →
            ((∃ s', leastcode_Bound_J28 its wt (i : Int) (c.getD i 0) n = some (.next s') ∧ (∃ k : Nat, s' = ((bdr its wt c k).1, (k : Int)) ∧ k ≤ c.length ∧ (bdr its wt c k).2 = 0) ∧ c.length - s'.2.toNat < c.length - ((i : Int)).toNat) ∨
             (∃ d, leastcode_Bound_J28 its wt (i : Int) (c.getD i 0) n = some (.done d) ∧ ((d = .inr (bdr its wt c c.length).1 ∧ (bdr its wt c c.length).2 = 0) ∨ (d = .inl 15 ∧ bdr its wt c c.length = (0, 15))))) := by
          intro n hn hn0
          have hb1 : bdr its wt c (i + 1) = NX n (rOf its (c.getD i 0).toNat) wt := by
            rw [hn]
            conv => lhs; unfold bdr
            rw [if_neg (by simp [h0])]
          obtain ⟨a, ha⟩ : ∃ a, its[(c.getD i 0).toNat]? = some a := ⟨_, List.getElem?_eq_getElem (by omega)⟩
          have har : rOf its (c.getD i 0).toNat = a.2.2.1 := by unfold rOf; rw [ha]
          have hix : idx its (c.getD i 0) = some a := by rw [show c.getD i 0 = (((c.getD i 0).toNat : Nat) : Int) by omega, idx_nat]; simpa using ha
          have hr := hg.r (c.getD i 0).toNat
          unfold leastcode_Bound_J28
          rw [hix]
          simp only [obind]
          rw [← har, (nx_ok hn0 hr hg.w).1]
          simp only [obind]
          rw [wr_id (n := (i : Int) + 1) (by omega) (by omega)]
          rcases nx_cases hn0 hr hg.w with ⟨q0, q1, q2⟩ | q0
          · rw [if_neg (by rw [q0]; decide)]
            refine .inl ⟨_, rfl, ⟨i + 1, by rw [hb1]; rfl, by omega, by rw [hb1]; exact q0⟩, by simp only; omega⟩
          · rw [if_pos (by rw [q0]; rfl), q0]
            refine .inr ⟨_, rfl, .inr ⟨rfl, ?_⟩⟩
            rw [q0] at hb1
            have hst : ∀ k, bdr its wt c (i + 1 + k) = (0, 15) := by
              intro k
              induction k with
              | zero => exact hb1
              | succ k ih =>
                show bdr its wt c ((i + 1 + k) + 1) = (0, 15)
                unfold bdr
                rw [ih]
                rfl
            have := hst (c.length - (i + 1))
            rw [show i + 1 + (c.length - (i + 1)) = c.length by omega] at this
            exact this
        by_cases h5 : 0 < i
        · obtain ⟨p2, p3⟩ := hC.1 (i - 1) (by omega)
          have hrp := hC.rel_pos (i := i - 1) (by omega)
          have hrr := rel_range its (c.getD (i - 1) 0).toNat (c.getD i 0).toNat
          rw [show i - 1 + 1 = i by omega] at hrp
          rw [if_pos (dpos (by omega)), wr_id (n := (i : Int) - 1) (by omega) (by omega), show (i : Int) - 1 = ((i - 1 : Nat) : Int) by omega, bd_get (by omega)]
          simp only [obind]
          have hM : idx (relM its) (c.getD (i - 1) 0) = some (relRow its (c.getD (i - 1) 0).toNat) := by
            conv => lhs; rw [show c.getD (i - 1) 0 = (((c.getD (i - 1) 0).toNat : Nat) : Int) by omega]
            exact relM_get (by omega)
          have hR : idx (relRow its (c.getD (i - 1) 0).toNat) (c.getD i 0) = some (rel its (c.getD (i - 1) 0).toNat (c.getD i 0).toNat) := by
            conv => lhs; rw [show c.getD i 0 = (((c.getD i 0).toNat : Nat) : Int) by omega]
            exact relRow_get (by omega)
          rw [hM]
          simp only [obind]
          rw [hR]
          simp only [obind]
          rw [wr_id (n := rel its (c.getD (i - 1) 0).toNat (c.getD i 0).toNat - 1) (by omega) (by omega), wr_id (n := (bdr its wt c i).1 + (rel its (c.getD (i - 1) 0).toNat (c.getD i 0).toNat - 1)) (by omega) (by omega)]
          exact hstep _ (by rw [if_pos h5]) (by omega)
        · rw [if_neg (dneg (by omega))]
          exact hstep _ (by rw [if_neg h5]; omega) (by omega)
      · rw [if_neg (dneg (by omega))]
        have : i = c.length := by omega
        subst this
        exact .inr ⟨_, rfl, .inl ⟨rfl, h0⟩⟩) (0, 0) ⟨0, rfl, by omega, rfl⟩ (by simp; omega)
    rw [g1]
    rcases g2 with ⟨rfl, q⟩ | ⟨rfl, q⟩
    · simp only [obind]
      congr 1
      exact Prod.ext rfl q.symm
    · simp only [obind]
      rw [q]
  · exact .inr ⟨hC, rfl⟩
theorem Bound_ok (c : List Int) (hcl : c.length ≤ 1000) :
    (ChainOK its c c.length ∧ leastcode_Bound its wt c = some (bdr its wt c c.length)) ∨ (¬ ChainOK its c c.length ∧ leastcode_Bound its wt c = some (0, 1)) := Bound_okU hg c
end
end Go.Proofs.Ytcignnfdpgeogaa
