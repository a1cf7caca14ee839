/- The stable sort of up to 39 indexes by what they weigh. Conditions: those of each theorem. -/
import Derived.Test.YtdbomhhcebmkpaaPAsort1
set_option linter.unusedVariables false
set_option linter.unusedSimpArgs false
namespace Go.Proofs.Ytdbomhhcebmkpaa
open Go Go.V Go.Proofs

abbrev RFt := (List Int) → Int → Int → Int → (List Int) → Option (List Int)
/-- RF merges what is shorter than n. -/
def RFok (ld : List Int) (RF : RFt) (n : Nat) : Prop := ∀ d a m b, MG ld d a m b → b - a < n → MGok ld d a b (RF d a m b ld)

theorem srt_rr {ld d d' : List Int} {a b x y : Nat} (h : RR d d' a b) (hS : Srt ld (vw d) x y) (hxy : y ≤ a ∨ b ≤ x) : Srt ld (vw d') x y := fun i j h1 h2 h3 => by
  rw [h.out i (by omega), h.out j (by omega)]; exact hS i j h1 h2 h3

theorem j87_ok {ld d : List Int} {RF : RFt} {a m b st mid en : Nat} (ham : a ≤ m) (hmb : m ≤ b) (hb : b ≤ d.length) (hsz : d.length < 4294967296) (hmid : mid = (a + b) / 2) (hen : en + st = mid + m) (hRF : RFok ld RF (b - a)) (hab : a < mid)
    (hme : mid ≤ en) (heb : en ≤ b) (hD : Dm ld d) (h1 : Srt ld (vw d) a mid) (h3 : Srt ld (vw d) mid en) (h4 : Srt ld (vw d) en b) (hc : ∀ p q, mid ≤ p → p < en → en ≤ q → q < b → vw d p < vw d q) (hlr : ∀ p q, a ≤ p → p < mid → mid ≤ q → q < b → ls ld (vw d p) (vw d q)) :
    MGok ld d a b (slices_symMergeCmpFunc_int__J83 a m b ld RF st d) := by
  unfold slices_symMergeCmpFunc_int__J83
  rw [half_ok (by omega), ← hmid]
  have he : IntKind.i64.wrap (IntKind.i64.wrap (((mid : Nat) : Int) + (m : Int)) - (st : Int)) = (en : Int) := by rw [wr_id (n := (mid : Int) + (m : Int)) (by omega) (by omega), wr_id (by omega) (by omega)]; omega
  rw [he]
  have fin : ∀ d' : List Int, RR d d' mid b → Srt ld (vw d') mid b → RR d d' a b ∧ Srt ld (vw d') a b := fun d' hR hS =>
    ⟨hR.wide (by omega) (Nat.le_refl _), fun p q hp hpq hq => by
      by_cases e1 : q < mid
      · rw [hR.out p (by omega), hR.out q (by omega)]; exact h1 p q hp hpq e1
      · by_cases e2 : mid ≤ p
        · exact hS p q e2 hpq hq
        · rw [hR.out p (by omega)]
          obtain ⟨l, h5, h6, h7⟩ := hR.sub q (by omega) hq
          rw [h7]; exact hlr p l hp (by omega) h5 h6⟩
  by_cases e : mid < en ∧ en < b
  · rw [if_pos (dpos (by omega))]
    unfold slices_symMergeCmpFunc_int__J87
    rw [dpos (by omega), if_pos rfl, half_ok (by omega), ← hmid, he]
    obtain ⟨d', h5, h6, h7⟩ := hRF d mid en b ⟨e.1, e.2, hb, hsz, hD, h3, h4, hc⟩ (by omega)
    rw [h5]
    simp only [Option.bind_some]
    rw [if_pos h6.len]
    obtain ⟨h8, h9⟩ := fin d' h6 h7
    exact ⟨d', rfl, h8, h9⟩
  · have hres : slices_symMergeCmpFunc_int__J87 a m b ld RF st d false = some d := by unfold slices_symMergeCmpFunc_int__J87; rw [if_neg (by simp)]
    have hS : Srt ld (vw d) mid b := by
      by_cases e1 : en = mid
      · rw [e1] at h4; exact h4
      · have e2 : en = b := by omega
        rw [e2] at h3; exact h3
    obtain ⟨h8, h9⟩ := fin d (RR.refl _ _ _) hS
    by_cases e1 : mid < en
    · rw [if_pos (dpos (by omega)), show (decide ((en : Int) < (b : Int))) = false from decide_eq_false (by omega), hres]
      exact ⟨d, rfl, h8, h9⟩
    · rw [if_neg (dneg (by omega)), hres]
      exact ⟨d, rfl, h8, h9⟩

theorem j79_ok {ld d : List Int} {RF : RFt} {a m b st mid en : Nat} (ham : a ≤ m) (hmb : m ≤ b) (hb : b ≤ d.length) (hsz : d.length < 4294967296) (hmid : mid = (a + b) / 2) (hen : en + st = mid + m) (hRF : RFok ld RF (b - a)) (hab : a < mid) (has : a ≤ st) (hsm : st ≤ mid)
    (hme : mid ≤ en) (heb : en ≤ b) (hD : Dm ld d) (h1 : Srt ld (vw d) a st) (h2 : Srt ld (vw d) st mid) (h3 : Srt ld (vw d) mid en) (h4 : Srt ld (vw d) en b) (hc1 : ∀ p q, a ≤ p → p < st → st ≤ q → q < mid → vw d p < vw d q) (hc2 : ∀ p q, mid ≤ p → p < en → en ≤ q → q < b → vw d p < vw d q)
    (hlr : ∀ p q, a ≤ p → p < mid → mid ≤ q → q < b → ls ld (vw d p) (vw d q)) :
    MGok ld d a b (slices_symMergeCmpFunc_int__J79 a m b ld RF st d) := by
  unfold slices_symMergeCmpFunc_int__J79
  rw [half_ok (by omega), ← hmid]
  by_cases e : a < st ∧ st < mid
  · rw [if_pos (dpos (by omega))]
    unfold slices_symMergeCmpFunc_int__J84
    rw [dpos (by omega), if_pos rfl, half_ok (by omega), ← hmid]
    obtain ⟨d', h5, h6, h7⟩ := hRF d a st mid ⟨e.1, e.2, by omega, hsz, hD, h1, h2, hc1⟩ (by omega)
    rw [h5]
    simp only [Option.bind_some]
    rw [if_pos h6.len]
    obtain ⟨d'', h8, h9, h10⟩ := j87_ok (st := st) ham hmb (by rw [h6.len]; exact hb) (by rw [h6.len]; exact hsz) hmid hen hRF hab hme heb (hD.rr h6) h7 (srt_rr h6 h3 (Or.inr (Nat.le_refl _))) (srt_rr h6 h4 (Or.inr hme))
      (fun p q k1 k2 k3 k4 => by rw [h6.out p (by omega), h6.out q (by omega)]; exact hc2 p q k1 k2 k3 k4)
      (fun p q k1 k2 k3 k4 => by
        obtain ⟨l, k5, k6, k7⟩ := h6.sub p k1 k2
        rw [k7, h6.out q (by omega)]; exact hlr l q k5 k6 k3 k4)
    exact ⟨d'', h8, (h6.wide (Nat.le_refl _) (by omega)).trans h9, h10⟩
  · have hres : slices_symMergeCmpFunc_int__J84 a m b ld RF st d false = slices_symMergeCmpFunc_int__J83 a m b ld RF st d := by unfold slices_symMergeCmpFunc_int__J84; rw [if_neg (by simp)]
    have hS : Srt ld (vw d) a mid := by
      by_cases e1 : st = a
      · rw [e1] at h2; exact h2
      · have e2 : st = mid := by omega
        rw [e2] at h1; exact h1
    have key := j87_ok (st := st) ham hmb hb hsz hmid hen hRF hab hme heb hD hS h3 h4 hc2 hlr
    by_cases e1 : a < st
    · rw [if_pos (dpos (by omega)), show (decide ((st : Int) < (mid : Int))) = false from decide_eq_false (by omega), hres]
      exact key
    · rw [if_neg (dneg (by omega)), hres]
      exact key

/-- Both parts have two elements or more. -/
theorem merge_both {ld : List Int} (hw : Wt ld) {d : List Int} {RF : RFt} {a m b s0 r0 : Nat} (h : MG ld d a m b) (hRF : RFok ld RF (b - a)) (h2a : a + 2 ≤ m) (h2b : m + 2 ≤ b)
    (hs : ((a + b) / 2 < m ∧ s0 + b = (a + b) / 2 + m ∧ r0 = (a + b) / 2) ∨ (m ≤ (a + b) / 2 ∧ s0 = a ∧ r0 = m)) :
    MGok ld d a b (slices_symMergeCmpFunc_int__J66 d a m b ld RF s0 r0) := by
  obtain ⟨ham, hmb, hbl, hsz, hD, hs1, hs2, hcr⟩ := h
  obtain ⟨mid, hmid⟩ : ∃ k, k = (a + b) / 2 := ⟨_, rfl⟩
  rw [← hmid] at hs
  unfold slices_symMergeCmpFunc_int__J66
  obtain ⟨_, hi, st, rfl, q1, q2, q3, q4⟩ := loop_inv (step := slices_symMergeCmpFunc_int__L68 d a m b ld)
    (fun s => ∃ i j : Nat, s = ((i : Int), (j : Int)) ∧ s0 ≤ i ∧ i ≤ j ∧ j ≤ r0 ∧ (∀ c, s0 ≤ c → c < i → ls ld (vw d c) (vw d (mid + m - 1 - c))) ∧ (∀ c, j ≤ c → c < r0 → ls ld (vw d (mid + m - 1 - c)) (vw d c))) (fun s => s.2.toNat - s.1.toNat)
    (fun r => ∃ i : Nat, r = (i : Int) ∧ s0 ≤ i ∧ i ≤ r0 ∧ (∀ c, s0 ≤ c → c < i → ls ld (vw d c) (vw d (mid + m - 1 - c))) ∧ (∀ c, i ≤ c → c < r0 → ls ld (vw d (mid + m - 1 - c)) (vw d c))) (by
      rintro _ ⟨i, j, rfl, h1, h2, h3, h4, h5⟩
      unfold slices_symMergeCmpFunc_int__L68
      dsimp only
      by_cases hij : i < j
      · left
        rw [if_pos (dpos (by omega)), half_ok (i := a) (j := b) (by omega), half_ok (by omega), ← hmid]
        obtain ⟨k, hk⟩ : ∃ k, k = (i + j) / 2 := ⟨_, rfl⟩
        rw [← hk]
        have e1 : IntKind.i64.wrap (IntKind.i64.wrap (IntKind.i64.wrap ((mid : Int) + (m : Int)) - 1) - (k : Int)) = ((mid + m - 1 - k : Nat) : Int) := by
          rw [wr_id (n := (mid : Int) + (m : Int)) (by omega) (by omega), wr_id (n := (mid : Int) + (m : Int) - 1) (by omega) (by omega), wr_id (by omega) (by omega)]; omega
        rw [e1, vw_idx (by omega : mid + m - 1 - k < d.length), vw_idx (by omega : k < d.length)]
        simp only [Option.bind_some]
        have hx := hcr k (mid + m - 1 - k) (by omega) (by omega) (by omega) (by omega)
        obtain ⟨c, hc, hcl⟩ := cmp_ok hw (dm_vw hD (by omega : mid + m - 1 - k < d.length)) (dm_vw hD (by omega : k < d.length)) hx
        rw [hc]
        simp only [Option.bind_some]
        by_cases hc0 : c < 0
        · rw [if_neg (by rw [dpos hc0]; simp)]
          refine ⟨_, rfl, ⟨i, k, rfl, h1, by omega, by omega, h4, fun q h6 h7 => ?_⟩, by dsimp only; omega⟩
          by_cases e : q = k
          · subst e; exact hcl.1 hc0
          · refine ls_trans (ls_trans (hs2 (mid + m - 1 - q) (mid + m - 1 - k) (by omega) (by omega) (by omega)) (hcl.1 hc0)) (hs1 k q (by omega) (by omega) (by omega))
        · rw [if_pos (by simpa using hc0), wk1 (by omega)]
          have hlt : ls ld (vw d k) (vw d (mid + m - 1 - k)) := ls_not (by omega) (fun h => hc0 (hcl.2 h))
          refine ⟨_, rfl, ⟨k + 1, j, rfl, by omega, by omega, h3, fun q h6 h7 => ?_, h5⟩, by dsimp only; omega⟩
          by_cases e : q = k
          · subst e; exact hlt
          · exact ls_trans (ls_trans (hs1 q k (by omega) (by omega) (by omega)) hlt) (hs2 _ _ (by omega) (by omega) (by omega))
      · right
        rw [if_neg (dneg (by omega))]
        obtain rfl : i = j := by omega
        exact ⟨_, rfl, i, rfl, h1, h3, h4, h5⟩) ((s0 : Int), (r0 : Int)) ⟨s0, r0, rfl, Nat.le_refl _, by omega, Nat.le_refl _, fun q h1 h2 => by omega, fun q h1 h2 => by omega⟩ (by dsimp only; omega)
  rw [hi]
  simp only [Option.bind_some]
  obtain ⟨en, hen⟩ : ∃ en, en + st = mid + m := ⟨mid + m - st, by omega⟩
  have he : IntKind.i64.wrap (IntKind.i64.wrap (((mid : Nat) : Int) + (m : Int)) - (st : Int)) = (en : Int) := by rw [wr_id (n := (mid : Int) + (m : Int)) (by omega) (by omega), wr_id (by omega) (by omega)]; omega
  rw [half_ok (i := a) (j := b) (by omega), ← hmid, he]
  -- every element of the first half is before every one of the second
  have c1 : ∀ p q, a ≤ p → p < st → en ≤ q → q < b → ls ld (vw d p) (vw d q) := fun p q k1 k2 k3 k4 => by
    have k5 : s0 ≤ st - 1 := by omega
    have k6 := q3 (st - 1) k5 (by omega)
    rw [show mid + m - 1 - (st - 1) = en by omega] at k6
    have k7 : ls ld (vw d p) (vw d en) := by
      by_cases e : p = st - 1
      · rw [e]; exact k6
      · exact ls_trans (hs1 p (st - 1) k1 (by omega) (by omega)) k6
    by_cases e : q = en
    · rw [e]; exact k7
    · exact ls_trans k7 (hs2 en q (by omega) (by omega) k4)
  have c2 : ∀ q p, m ≤ q → q < en → st ≤ p → p < m → ls ld (vw d q) (vw d p) := fun q p k1 k2 k3 k4 => by
    have k5 : st < r0 := by omega
    have k6 := q4 st (Nat.le_refl _) k5
    rw [show mid + m - 1 - st = en - 1 by omega] at k6
    have k7 : ls ld (vw d q) (vw d st) := by
      by_cases e : q = en - 1
      · rw [e]; exact k6
      · exact ls_trans (hs2 q (en - 1) k1 (by omega) (by omega)) k6
    by_cases e : p = st
    · rw [e]; exact k7
    · exact ls_trans k7 (hs1 st p (by omega) (by omega) k4)
  -- behind the rotation
  have key : ∀ d' : List Int, d'.length = d.length → d'.Perm d → vw d' = rtf (vw d) st m en → MGok ld d a b (slices_symMergeCmpFunc_int__J79 a m b ld RF st d') := by
    intro d' hl hp hv
    have va : ∀ k, k < st → vw d' k = vw d k := fun k hk => by rw [hv]; unfold rtf; rw [if_neg (by omega), if_neg (by omega)]
    have vb : ∀ k, st ≤ k → k < mid → vw d' k = vw d (k + (m - st)) := fun k hk hk2 => by rw [hv]; unfold rtf; rw [if_pos (by omega)]
    have vc : ∀ k, mid ≤ k → k < en → vw d' k = vw d (k - (en - m)) := fun k hk hk2 => by
      rw [hv]; unfold rtf
      rw [if_neg (by omega), if_pos (by omega)]
    have vd : ∀ k, en ≤ k → mid ≤ k → vw d' k = vw d k := fun k hk hk2 => by rw [hv]; unfold rtf; rw [if_neg (by omega), if_neg (by omega)]
    have hR : RR d d' a b := ⟨hl, hp, fun k hk => hk.elim (fun h => va k (by omega)) (fun h => vd k (by omega) (by omega)), fun k k1 k2 => by
      by_cases e1 : k < st
      · exact ⟨k, k1, k2, va k e1⟩
      · by_cases e2 : k < mid
        · exact ⟨_, by omega, by omega, vb k (by omega) e2⟩
        · by_cases e3 : k < en
          · exact ⟨_, by omega, by omega, vc k (by omega) e3⟩
          · exact ⟨k, k1, k2, vd k (by omega) (by omega)⟩⟩
    obtain ⟨d'', k1, k2, k3⟩ := j79_ok (d := d') (RF := RF) (st := st) (en := en) (Nat.le_of_lt ham) (Nat.le_of_lt hmb) (by omega) (by omega) hmid hen hRF (by omega) (by omega) (by omega) (by omega) (by omega) (hD.rr hR)
      (fun p q k1 k2 k3 => by rw [va p (by omega), va q k3]; exact hs1 p q k1 k2 (by omega))
      (fun p q k1 k2 k3 => by rw [vb p k1 (by omega), vb q (by omega) k3]; exact hs2 _ _ (by omega) (by omega) (by omega))
      (fun p q k1 k2 k3 => by rw [vc p k1 (by omega), vc q (by omega) k3]; exact hs1 _ _ (by omega) (by omega) (by omega))
      (fun p q k1 k2 k3 => by rw [vd p k1 (by omega), vd q (by omega) (by omega)]; exact hs2 p q (by omega) k2 k3)
      (fun p q k1 k2 k3 k4 => by rw [va p k2, vb q k3 k4]; exact hcr p _ k1 (by omega) (by omega) (by omega))
      (fun p q k1 k2 k3 k4 => by rw [vc p k1 k2, vd q k3 (by omega)]; exact hcr _ q (by omega) (by omega) (by omega) k4)
      (fun p q k1 k2 k3 k4 => by
        by_cases e1 : p < st
        · rw [va p e1]
          by_cases e2 : q < en
          · rw [vc q k3 e2]; exact hs1 _ _ k1 (by omega) (by omega)
          · rw [vd q (by omega) k3]; exact c1 p q k1 e1 (by omega) k4
        · rw [vb p (by omega) k2]
          by_cases e2 : q < en
          · rw [vc q k3 e2]; exact c2 _ _ (by omega) (by omega) (by omega) (by omega)
          · rw [vd q (by omega) k3]; exact hs2 _ _ (by omega) (by omega) k4)
    exact ⟨d'', k1, hR.trans k2, k3⟩
  have keyF : ¬ (st < m ∧ m < en) → MGok ld d a b (slices_symMergeCmpFunc_int__J80 d a m b ld RF st false) := fun hn => by
    unfold slices_symMergeCmpFunc_int__J80
    rw [if_neg (by simp)]
    refine key d rfl (List.Perm.refl _) ?_
    funext k
    unfold rtf
    repeat' split
    all_goals first | rfl | (congr 1 <;> omega) | (exfalso; omega)
  by_cases e1 : st < m
  · rw [if_pos (dpos (by omega))]
    by_cases e2 : m < en
    · rw [show (decide ((m : Int) < (en : Int))) = true from decide_eq_true (by omega)]
      unfold slices_symMergeCmpFunc_int__J80
      rw [if_pos rfl, half_ok (i := a) (j := b) (by omega), ← hmid, he]
      obtain ⟨d', k1, k2, k3, k4⟩ := rotate_ok ld d st m en e1 e2 (by omega) hsz
      rw [k1]
      simp only [Option.bind_some]
      rw [if_pos k2]
      exact key d' k2 k3 k4
    · rw [show (decide ((m : Int) < (en : Int))) = false from decide_eq_false (by omega)]
      exact keyF (fun h => e2 h.2)
  · rw [if_neg (dneg (by omega))]
    exact keyF (fun h => e1 h.1)

theorem sym_ok {ld : List Int} (hw : Wt ld) : ∀ n, RFok ld (slices_symMergeCmpFunc_int__n n) n
  | 0 => fun d a m b h hn => absurd hn (Nat.not_lt_zero _)
  | n + 1 => fun d a m b h hn => by
    have ih := sym_ok hw n
    have ⟨ham, hmb, hbl, hsz, _, _, _, _⟩ := h
    show MGok ld d a b (slices_symMergeCmpFunc_int__b (slices_symMergeCmpFunc_int__n n) d a m b ld)
    unfold slices_symMergeCmpFunc_int__b
    have w1 : IntKind.i64.wrap ((m : Int) - (a : Int)) = (m : Int) - (a : Int) := wr_id (by omega) (by omega)
    have w2 : IntKind.i64.wrap ((b : Int) - (m : Int)) = (b : Int) - (m : Int) := wr_id (by omega) (by omega)
    rw [w1, w2]
    by_cases e1 : m = a + 1
    · rw [if_pos (by simp; omega)]
      subst e1
      exact merge_left hw h
    · rw [if_neg (by simp; omega)]
      by_cases e2 : b = m + 1
      · rw [if_pos (by simp; omega)]
        subst e2
        exact merge_right hw h
      · rw [if_neg (by simp; omega), half_ok (by omega)]
        have hRF : RFok ld (slices_symMergeCmpFunc_int__n n) (b - a) := fun d' a' m' b' h' hn' => ih d' a' m' b' h' (by omega)
        by_cases e3 : (a + b) / 2 < m
        · rw [if_pos (dpos (by omega))]
          have w3 : IntKind.i64.wrap (IntKind.i64.wrap ((((a + b) / 2 : Nat) : Int) + (m : Int)) - (b : Int)) = (((a + b) / 2 + m - b : Nat) : Int) := by rw [wr_id (n := (((a + b) / 2 : Nat) : Int) + (m : Int)) (by omega) (by omega), wr_id (by omega) (by omega)]; omega
          rw [w3]
          exact merge_both hw h hRF (by omega) (by omega) (Or.inl ⟨e3, by omega, rfl⟩)
        · rw [if_neg (dneg (by omega))]
          exact merge_both hw h hRF (by omega) (by omega) (Or.inr ⟨by omega, rfl, rfl⟩)

/-- A list of up to 39 ascending indexes is sorted by the weights, the greatest first, and by the indexes. -/
theorem stable_ok {ld d : List Int} (hw : Wt ld) (hD : Dm ld d) (hA : ∀ p q, p < q → q < d.length → vw d p < vw d q) (hn : d.length < 40) :
    ∃ d', slices_SortStableFunc_int_int_ d ld = some d' ∧ d'.Perm d ∧ Srt ld (vw d') 0 d.length := by
  have main : ∃ d', slices_stableCmpFunc_int_ d (d.length : Int) ld = some d' ∧ d'.length = d.length ∧ d'.Perm d ∧ Srt ld (vw d') 0 d.length := by
    unfold slices_stableCmpFunc_int_
    have c20 : ∀ x : Nat, IntKind.i64.wrap ((20 : Int) + 20) = 40 := fun _ => by decide
    have c40 : IntKind.i64.wrap (2 * (20 : Int)) = 40 := by decide
    have ce : IntKind.i64.wrap ((20 : Int) * 2) = 40 := by decide
    have cz : IntKind.i64.wrap ((0 : Int) + 20) = 20 := by decide
    by_cases hb : 20 ≤ d.length
    · obtain ⟨d1, k1, k2, k3⟩ := insertion_ok hw d 0 20 (by omega) hb (by omega) hD (fun p q h1 h2 h3 => hA p q h2 (by omega))
      have s1 : slices_stableCmpFunc_int__L5 d.length ld (d, 0, 20) = some (.next (d1, 20, 40)) := by
        unfold slices_stableCmpFunc_int__L5
        dsimp only
        rw [if_pos (dpos (by omega))]
        have k1' : slices_insertionSortCmpFunc_int_ d 0 20 ld = some d1 := k1
        rw [k1']
        simp only [Option.bind_some]
        rw [if_pos k2.len, c20 0]
      have s2 : slices_stableCmpFunc_int__L5 d.length ld (d1, 20, 40) = some (.done (d1, 20)) := by
        unfold slices_stableCmpFunc_int__L5
        dsimp only
        rw [if_neg (dneg (by omega))]
      have s3 : loop (slices_stableCmpFunc_int__L5 d.length ld) (d, 0, 20) = some (d1, 20) := by
        exact loop_of 2 (by decide) (by simp only [loopN, s1, s2, Option.bind_some])
      rw [s3]
      simp only [Option.bind_some]
      obtain ⟨d2, k4, k5, k6⟩ := insertion_ok hw d1 20 d.length hb (by rw [k2.len]; exact Nat.le_refl _) (by rw [k2.len]; omega) (hD.rr k2) (fun p q h1 h2 h3 => by rw [k2.out p (by omega), k2.out q (by omega)]; exact hA p q h2 h3)
      have k4' : slices_insertionSortCmpFunc_int_ d1 20 d.length ld = some d2 := k4
      rw [k4']
      simp only [Option.bind_some]
      rw [if_pos k5.len]
      have hl2 : d2.length = d.length := k5.len.trans k2.len
      have h20 : Srt ld (vw d2) 0 20 := srt_rr k5 k3 (Or.inl (Nat.le_refl _))
      by_cases hb2 : 20 < d.length
      · obtain ⟨d3, k7, k8, k9⟩ := sym_ok hw 100 d2 0 20 d.length ⟨by omega, hb2, by omega, by omega, (hD.rr k2).rr k5, h20, k6, fun p q h1 h2 h3 h4 => by
          rw [k5.out p (by omega)]
          obtain ⟨l, q1, q2, q3⟩ := k2.sub p h1 h2
          obtain ⟨l2, q4, q5, q6⟩ := k5.sub q h3 h4
          rw [q3, q6, k2.out l2 (by omega)]
          exact hA l l2 (by omega) (by omega)⟩ (by omega)
        have k7' : slices_symMergeCmpFunc_int_ d2 0 20 d.length ld = some d3 := k7
        have t1 : slices_stableCmpFunc_int__L14 d.length ld 20 (d2, 0, 40) = some (.done (d2, 0)) := by
          unfold slices_stableCmpFunc_int__L14
          dsimp only
          rw [if_neg (dneg (by omega))]
        have t2 : loop (slices_stableCmpFunc_int__L14 d.length ld 20) (d2, 0, 40) = some (d2, 0) := by
          exact loop_of 1 (by decide) (by simp only [loopN, t1, Option.bind_some])
        have t3 : slices_stableCmpFunc_int__L11 d.length ld (d2, 20) = some (.next (d3, 40)) := by
          unfold slices_stableCmpFunc_int__L11
          dsimp only
          rw [if_pos (dpos (by omega)), c40, t2]
          simp only [Option.bind_some]
          rw [cz, if_pos (dpos (by omega)), k7']
          simp only [Option.bind_some]
          rw [if_pos k8.len, ce]
        have t4 : slices_stableCmpFunc_int__L11 d.length ld (d3, 40) = some (.done d3) := by
          unfold slices_stableCmpFunc_int__L11
          dsimp only
          rw [if_neg (dneg (by omega))]
        have t5 : loop (slices_stableCmpFunc_int__L11 d.length ld) (d2, 20) = some d3 := by
          exact loop_of 2 (by decide) (by simp only [loopN, t3, t4, Option.bind_some])
        rw [t5]
        exact ⟨d3, rfl, k8.len.trans hl2, k8.perm.trans (k5.perm.trans k2.perm), k9⟩
      · have t4 : slices_stableCmpFunc_int__L11 d.length ld (d2, 20) = some (.done d2) := by
          unfold slices_stableCmpFunc_int__L11
          dsimp only
          rw [if_neg (dneg (by omega))]
        have t5 : loop (slices_stableCmpFunc_int__L11 d.length ld) (d2, 20) = some d2 := by
          exact loop_of 1 (by decide) (by simp only [loopN, t4, Option.bind_some])
        rw [t5]
        have : d.length = 20 := by omega
        rw [this]
        exact ⟨d2, rfl, by omega, k5.perm.trans k2.perm, h20⟩
    · have s2 : slices_stableCmpFunc_int__L5 d.length ld (d, 0, 20) = some (.done (d, 0)) := by
        unfold slices_stableCmpFunc_int__L5
        dsimp only
        rw [if_neg (dneg (by omega))]
      have s3 : loop (slices_stableCmpFunc_int__L5 d.length ld) (d, 0, 20) = some (d, 0) := by
        exact loop_of 1 (by decide) (by simp only [loopN, s2, Option.bind_some])
      rw [s3]
      simp only [Option.bind_some]
      obtain ⟨d2, k4, k5, k6⟩ := insertion_ok hw d 0 d.length (by omega) (Nat.le_refl _) (by omega) hD (fun p q h1 h2 h3 => hA p q h2 h3)
      have k4' : slices_insertionSortCmpFunc_int_ d 0 d.length ld = some d2 := k4
      rw [k4']
      simp only [Option.bind_some]
      rw [if_pos k5.len]
      have t4 : slices_stableCmpFunc_int__L11 d.length ld (d2, 20) = some (.done d2) := by
        unfold slices_stableCmpFunc_int__L11
        dsimp only
        rw [if_neg (dneg (by omega))]
      have t5 : loop (slices_stableCmpFunc_int__L11 d.length ld) (d2, 20) = some d2 := by
        exact loop_of 1 (by decide) (by simp only [loopN, t4, Option.bind_some])
      rw [t5]
      exact ⟨d2, rfl, k5.len, k5.perm, k6⟩
  obtain ⟨d', k1, k2, k3, k4⟩ := main
  unfold slices_SortStableFunc_int_int_
  rw [k1]
  simp only [Option.bind_some]
  rw [if_pos k2]
  exact ⟨d', rfl, k3, k4⟩
end Go.Proofs.Ytdbomhhcebmkpaa
