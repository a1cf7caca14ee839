/- Assignments and refusals: what is returned fits or refuses, and never both are possible. Conditions: those of each theorem. -/
import Derived.Test.YtdbomhhcebmkpaaPAmatch2
import Derived.Test.YtdbomhhcebmkpaaGlaw16refused
set_option linter.unusedVariables false
set_option linter.unusedSimpArgs false
namespace Go.Proofs.Ytdbomhhcebmkpaa
open Go Go.V Go.Proofs

theorem len_le {α : Type} [DecidableEq α] : ∀ (l m : List α), l.Nodup → (∀ x, x ∈ l → x ∈ m) → l.length ≤ m.length
  | [], m, _, _ => Nat.zero_le _
  | x :: l, m, hn, hs => by
    have h := List.nodup_cons.1 hn
    have hx : x ∈ m := hs x List.mem_cons_self
    have := len_le l (m.erase x) h.2 fun y hy => by
      have hyx : y ≠ x := fun e => h.1 (e ▸ hy)
      exact (List.mem_erase_of_ne hyx).2 (hs y (List.mem_cons_of_mem _ hy))
    rw [List.length_erase_of_mem hx] at this
    have hp : 0 < m.length := List.length_pos_of_mem hx
    simp only [List.length_cons]
    omega

/-- The places below k at which at least n stands. -/
def tl (b : List Int) (n : Int) (k : Nat) : List Nat := (List.range k).filter fun t => decide (n ≤ vw b t)
theorem tl_mem {b : List Int} {n : Int} {k t : Nat} : t ∈ tl b n k ↔ t < k ∧ n ≤ vw b t := by unfold tl; simp
theorem tl_nodup (b : List Int) (n : Int) (k : Nat) : (tl b n k).Nodup := List.nodup_range.filter _
theorem tl_succ (b : List Int) (n : Int) (k : Nat) : (tl b n (k + 1)).length = (tl b n k).length + if n ≤ vw b k then 1 else 0 := by
  unfold tl
  rw [List.range_succ, List.filter_append, List.length_append]
  by_cases h : n ≤ vw b k <;> simp [h]
theorem tl_len (b : List Int) (n : Int) (k : Nat) : (tl b n k).length ≤ k := by
  induction k with
  | zero => simp [tl]
  | succ k ih => rw [tl_succ]; split <;> omega

/-- A loop that counts. -/
theorem count_ok (b : List Int) (n : Int) (hb : b.length < 4294967296) : loop (law16_refused_L13 b n) (0, 0) = some ((tl b n b.length).length : Int) := by
  obtain ⟨r, h1, rfl⟩ := loop_inv (step := law16_refused_L13 b n) (fun s => ∃ t : Nat, s = (((tl b n t).length : Int), (t : Int)) ∧ t ≤ b.length) (fun s => b.length - s.2.toNat) (fun r => r = ((tl b n b.length).length : Int)) (by
    rintro _ ⟨t, rfl, ht⟩
    unfold law16_refused_L13
    dsimp only
    by_cases hlt : t < b.length
    · left
      rw [if_pos (dpos (by omega)), vw_idx hlt]
      simp only [Option.bind_some]
      have hl := tl_len b n t
      rw [wk1 (by omega), wk1 (by omega)]
      refine ⟨(((tl b n (t + 1)).length : Int), ((t + 1 : Nat) : Int)), ?_, ⟨t + 1, rfl, by omega⟩, by dsimp only; omega⟩
      rw [tl_succ]
      by_cases e : vw b t ≥ n
      · rw [if_pos (dpos e), if_pos e]
      · rw [if_neg (dneg e), if_neg e]; rfl
    · right
      rw [if_neg (dneg (by omega))]
      obtain rfl : t = b.length := by omega
      exact ⟨_, rfl, rfl⟩) (0, 0) ⟨0, by simp [tl], by omega⟩ (by dsimp only; omega)
  exact h1

/-- Some number of loads has too few tracks. -/
def Few (a b : List Int) : Prop := ∃ k, k < a.length ∧ 0 < vw a k ∧ (tl b (vw a k) b.length).length < (tl a (vw a k) a.length).length
theorem refused_ok (a b : List Int) (ha : a.length < 4294967296) (hb : b.length < 4294967296) : (law16_refused a b = some true ∧ Few a b) ∨ (law16_refused a b = some false ∧ ¬ Few a b) := by
  unfold law16_refused
  obtain ⟨d, h1, h2⟩ := loop_inv (step := law16_refused_L3 a b) (fun s => ∃ t : Nat, s = (t : Int) ∧ t ≤ a.length ∧ ∀ k, k < t → 0 < vw a k → ¬ (tl b (vw a k) b.length).length < (tl a (vw a k) a.length).length) (fun s => a.length - s.toNat)
    (fun d => (d = .inl () ∧ Few a b) ∨ (d = .inr () ∧ ¬ Few a b)) (by
      rintro _ ⟨t, rfl, ht, hk⟩
      unfold law16_refused_L3
      dsimp only
      by_cases hlt : t < a.length
      · rw [if_pos (dpos (by omega)), vw_idx hlt]
        simp only [Option.bind_some]
        have e1 : loop (law16_refused_L8 a (vw a t)) (0, 0) = some ((tl a (vw a t) a.length).length : Int) := count_ok a (vw a t) ha
        rw [e1, count_ok b (vw a t) hb]
        simp only [Option.bind_some]
        rw [wk1 (by omega)]
        by_cases h0 : vw a t > 0
        · rw [if_pos (dpos h0)]
          by_cases h3 : (tl b (vw a t) b.length).length < (tl a (vw a t) a.length).length
          · rw [if_pos (dpos (by omega))]
            exact Or.inr ⟨_, rfl, Or.inl ⟨rfl, t, hlt, h0, h3⟩⟩
          · rw [if_neg (dneg (by omega))]
            refine Or.inl ⟨_, rfl, ⟨t + 1, rfl, by omega, fun k hk2 hk0 => ?_⟩, by omega⟩
            by_cases e : k = t
            · subst e; exact h3
            · exact hk k (by omega) hk0
        · rw [if_neg (dneg h0)]
          refine Or.inl ⟨_, rfl, ⟨t + 1, rfl, by omega, fun k hk2 hk0 => ?_⟩, by omega⟩
          have : k ≠ t := fun e => by subst e; exact h0 hk0
          exact hk k (by omega) hk0
      · rw [if_neg (dneg (by omega))]
        refine Or.inr ⟨_, rfl, Or.inr ⟨rfl, ?_⟩⟩
        rintro ⟨k, h3, h4, h5⟩
        exact hk k (by omega) h4 h5) 0 ⟨0, rfl, by omega, fun k h => by omega⟩ (by omega)
  rw [h1]
  rcases h2 with ⟨rfl, h2⟩ | ⟨rfl, h2⟩
  · exact Or.inl ⟨rfl, h2⟩
  · exact Or.inr ⟨rfl, h2⟩

/-- l is an assignment. -/
structure Asg (a b l : List Int) : Prop where
  ll : l.length = a.length
  z : ∀ i, i < a.length → vw a i = 0 → vw l i = -1
  at_ : ∀ i, i < a.length → vw a i ≠ 0 → ∃ t : Nat, t < b.length ∧ vw l i = t ∧ vw a i ≤ vw b t
  inj : ∀ i j, i < a.length → j < a.length → vw a i ≠ 0 → vw a j ≠ 0 → vw l i = vw l j → i = j
/-- Tracks for all loads leave no number of loads without tracks. -/
theorem nofew_f {a b : List Int} (f : Nat → Nat) (hat : ∀ i, i < a.length → vw a i ≠ 0 → f i < b.length ∧ vw a i ≤ vw b (f i)) (hinj : ∀ i j, i < a.length → j < a.length → vw a i ≠ 0 → vw a j ≠ 0 → f i = f j → i = j) : ¬ Few a b := by
  rintro ⟨k, hk, h0, hlt⟩
  have hin : ∀ i, i ∈ tl a (vw a k) a.length → i < a.length ∧ vw a i ≠ 0 := fun i hi => by
    have := tl_mem.1 hi
    exact ⟨this.1, by omega⟩
  have h1 : ((tl a (vw a k) a.length).map f).Nodup := by
    refine List.pairwise_map.2 (List.Pairwise.imp_of_mem ?_ (tl_nodup a (vw a k) a.length))
    intro i j hi hj hne e
    exact hne (hinj i j (hin i hi).1 (hin j hj).1 (hin i hi).2 (hin j hj).2 e)
  have h2 := len_le _ (tl b (vw a k) b.length) h1 fun x hx => by
    obtain ⟨i, hi, rfl⟩ := List.mem_map.1 hx
    obtain ⟨ht, e2⟩ := hat i (hin i hi).1 (hin i hi).2
    have := tl_mem.1 hi
    exact tl_mem.2 ⟨ht, by omega⟩
  rw [List.length_map] at h2
  omega
theorem Asg.nofew {a b l : List Int} (h : Asg a b l) : ¬ Few a b :=
  nofew_f (fun i => (vw l i).toNat) (fun i hi h0 => by
    obtain ⟨t, ht, e1, e2⟩ := h.at_ i hi h0
    rw [e1, Int.toNat_natCast]; exact ⟨ht, e2⟩) fun i j hi hj h1 h2 e => by
    obtain ⟨t, _, e1, _⟩ := h.at_ i hi h1
    obtain ⟨u, _, e2, _⟩ := h.at_ j hj h2
    exact h.inj i j hi hj h1 h2 (by omega)

/-- r is a refusal, as the greedy assignment gives it. -/
structure Rfs (a b r : List Int) : Prop where
  asc : r.Pairwise (· < ·)
  mem : ∀ x ∈ r, ∃ i : Nat, x = i ∧ i < a.length ∧ 0 < vw a i
  least : ∃ i : Nat, (i : Int) ∈ r ∧ (∀ j : Nat, (j : Int) ∈ r → vw a i ≤ vw a j) ∧ (tl b (vw a i) b.length).length < r.length
theorem Rfs.few {a b r : List Int} (h : Rfs a b r) : Few a b := by
  obtain ⟨i, hi, hle, hlt⟩ := h.least
  obtain ⟨i', e, h1, h2⟩ := h.mem _ hi
  obtain rfl : i = i' := by omega
  refine ⟨i, h1, h2, Nat.lt_of_lt_of_le hlt ?_⟩
  have hnd : (r.map Int.toNat).Nodup := by
    refine List.pairwise_map.2 (List.Pairwise.imp_of_mem ?_ h.asc)
    intro x y hx hy hxy e
    obtain ⟨j, rfl, _, _⟩ := h.mem x hx
    obtain ⟨k, rfl, _, _⟩ := h.mem y hy
    omega
  have := len_le _ (tl a (vw a i) a.length) hnd fun x hx => by
    obtain ⟨y, hy, rfl⟩ := List.mem_map.1 hx
    obtain ⟨j, rfl, h3, h4⟩ := h.mem y hy
    rw [Int.toNat_natCast]
    exact tl_mem.2 ⟨h3, hle j hy⟩
  rwa [List.length_map] at this

theorem asd_nil (a b : List Int) : Asd a b [] (neg1 a.length) (nofree b.length) :=
  ⟨by simp [neg1], by simp [nofree], fun i h => (by cases h), fun x h => (by cases h), fun k hk _ => by
    rw [vw_elem (by simp [neg1]; omega)]; simp [neg1], fun t ht h => by
    have : bw (nofree b.length) t = false := by
      unfold bw nofree
      rw [List.getD_eq_getElem?_getD, List.getElem?_eq_getElem (by simp; omega)]
      simp
    rw [this] at h
    exact Bool.noConfusion h, fun i j h => (by cases h)⟩
/-- The greedy assignment is an assignment, or gives a refusal. -/
theorem greedy {a b o : List Int} (hV : Vd a b) (hO : Ord a o) : (∃ l, gr a b o (neg1 a.length) (nofree b.length) = .inr l ∧ Asg a b l) ∨ ∃ p, gr a b o (neg1 a.length) (nofree b.length) = .inl p ∧ Rfs a b (sortI p) := by
  have hx : ∀ x ∈ o, ∃ i : Nat, x = i ∧ i < a.length ∧ 0 < vw a i := fun x hx => by
    obtain ⟨i, h1, h2, h3⟩ := (hO.mem x).1 hx
    exact ⟨i, h2, h1, h3⟩
  have h := gr_ok (b := b) o [] _ _ (asd_nil a b) hx hO.nodup (fun x _ h => by cases h)
  generalize gr a b o (neg1 a.length) (nofree b.length) = g at h
  cases g with
  | inr l =>
    left
    obtain ⟨tk, hA⟩ := h
    rw [List.nil_append] at hA
    have hpos : ∀ i, i < a.length → vw a i ≠ 0 → (i : Int) ∈ o := fun i hi h0 => (hO.mem _).2 ⟨i, hi, rfl, by have := hV.2.2.1 _ (vw_mem hi); omega⟩
    refine ⟨l, rfl, hA.ll, fun i hi h0 => hA.no i hi fun hm => ?_, fun i hi h0 => ?_, fun i j hi hj h1 h2 e => hA.inj i j (hpos i hi h1) (hpos j hj h2) e⟩
    · obtain ⟨j, _, e, h2⟩ := (hO.mem _).1 hm
      obtain rfl : i = j := by omega
      omega
    · obtain ⟨_, _, t, h3, h4, _, h5⟩ := hA.at_ i (hpos i hi h0)
      exact ⟨t, h3, h4, h5⟩
  | inl p =>
    right
    obtain ⟨q, r, i, l, tk, rfl, rfl, hA, hfree⟩ := h
    rw [List.nil_append] at hA
    refine ⟨_, rfl, ?_⟩
    have hnd := hO.nodup
    have hq : (q ++ [(i : Int)]).Nodup := by
      refine hnd.sublist ?_
      exact List.Sublist.append_left (by simp) q
    have hper := sortI_perm (q ++ [(i : Int)])
    obtain ⟨i', e, hi, h0⟩ := hx (i : Int) (by simp)
    obtain rfl : i = i' := by omega
    refine ⟨sortI_strict hq, fun x hx' => hx x ?_, i, hper.mem_iff.2 (by simp), fun j hj => ?_, ?_⟩
    · have := hper.mem_iff.1 hx'
      simp only [List.mem_append, List.mem_singleton] at this
      rcases this with h | h
      · simp [h]
      · simp [h]
    · have := hper.mem_iff.1 hj
      simp only [List.mem_append, List.mem_singleton] at this
      rcases this with h | h
      · obtain ⟨k, hk, e2⟩ := vw_of_mem h
        have hs := hO.srt k q.length (Nat.zero_le _) hk (by simp)
        have e3 : vw (q ++ (i : Int) :: r) k = j := by
          rw [vw_elem (by simp; omega), List.getElem_append_left hk, ← vw_elem hk]; exact e2
        have e4 : vw (q ++ (i : Int) :: r) q.length = i := by
          rw [vw_elem (by simp)]; simp
        rw [e3, e4] at hs
        have key : ∀ i : Nat, ky a (i : Int) = vw a i := fun i => by unfold ky vw; rw [Int.toNat_natCast]
        unfold ls at hs
        rw [key, key] at hs
        omega
      · obtain rfl : j = i := by omega
        exact Int.le_refl _
    · rw [hper.length_eq, List.length_append, List.length_singleton]
      have := len_le (tl b (vw a i) b.length) (q.map fun x => (vw l x.toNat).toNat) (tl_nodup _ _ _) fun t ht => by
        obtain ⟨h1, h2⟩ := tl_mem.1 ht
        cases hb : bw tk t with
        | false => have := hfree t h1 hb; omega
        | true =>
          obtain ⟨j, h3, h4⟩ := hA.tk t h1 hb
          exact List.mem_map.2 ⟨(j : Int), h3, by rw [Int.toNat_natCast, h4, Int.toNat_natCast]⟩
      rw [List.length_map] at this
      omega

/-- The assignment or the refusal. -/
theorem match_two {a b : List Int} (hV : Vd a b) : (∃ l, assign_Match a b = some (l, [], 0) ∧ Asg a b l) ∨ ∃ r, assign_Match a b = some ([], r, 14) ∧ Rfs a b r := by
  obtain ⟨o, _, hO, _, h1⟩ := match_ok hV
  rcases greedy hV hO with ⟨l, h2, h3⟩ | ⟨p, h2, h3⟩
  · exact Or.inl ⟨l, by rw [h1, h2]; rfl, h3⟩
  · exact Or.inr ⟨_, by rw [h1, h2]; rfl, h3⟩

/-! ### Fits and Refuses -/
theorem fits_eq (a b l : List Int) : r16_Fits a b l = assign_Fits a b l := by
  have e : r16_Fits_L9 a b l = assign_Fits_L9 a b l := by
    funext ⟨tk, t⟩
    unfold r16_Fits_L9 assign_Fits_L9
    dsimp only
    cases idx l t with
    | none => cases idx a t with
      | none => rfl
      | some y => simp
    | some x => cases idx a t with
      | none => rfl
      | some y =>
        simp only [Option.bind_some]
  unfold r16_Fits assign_Fits
  rw [valid_eq, e]
  rfl
theorem refuses_eq (a b r : List Int) : r16_Refuses a b r = assign_Refuses a b r := by
  unfold r16_Refuses assign_Refuses
  rw [valid_eq]
  rfl
/-- Fits answers, whatever the lists are. -/
theorem fits_total (a b l : List Int) : ∃ v, assign_Fits a b l = some v := by
  obtain ⟨c, hc, hc0⟩ := check_ok a b
  unfold assign_Fits
  rw [hc]
  simp only [Option.bind_some]
  by_cases e : c = 0
  · subst e
    obtain ⟨ha, hb, hv, hw⟩ := hc0.1 rfl
    rw [if_neg (by decide)]
    by_cases hl : l.length = a.length
    · rw [if_neg (by simp [hl]), if_pos (by omega)]
      obtain ⟨d, h1, _⟩ := loop_inv (step := assign_Fits_L9 a b l) (fun s => ∃ t : Nat, s.2 = (t : Int) ∧ t ≤ l.length ∧ s.1.length = b.length) (fun s => l.length - s.2.toNat) (fun _ => True) (by
        rintro ⟨tk, _⟩ ⟨t, rfl, ht, htl⟩
        dsimp only at htl ⊢
        unfold assign_Fits_L9
        dsimp only
        by_cases hlt : t < l.length
        · rw [if_pos (dpos (by omega)), vw_idx hlt, vw_idx (by omega : t < a.length)]
          simp only [Option.bind_some]
          rw [wk1 (by omega)]
          by_cases e1 : vw a t = 0
          · rw [if_pos (by simp [e1])]
            by_cases e2 : vw l t = -1
            · rw [if_neg (by simp [e2])]
              exact Or.inl ⟨_, rfl, ⟨t + 1, rfl, by omega, htl⟩, by dsimp only; omega⟩
            · rw [if_pos (by simp [e2])]
              exact Or.inr ⟨_, rfl, trivial⟩
          · rw [if_neg (by simp [e1])]
            by_cases e2 : vw l t < 0
            · rw [if_pos (dpos e2)]; exact Or.inr ⟨_, rfl, trivial⟩
            · rw [if_neg (dneg e2)]
              by_cases e3 : vw l t ≥ b.length
              · rw [if_pos (dpos e3)]; exact Or.inr ⟨_, rfl, trivial⟩
              · rw [if_neg (dneg e3)]
                obtain ⟨u, hu⟩ : ∃ u : Nat, vw l t = u := ⟨(vw l t).toNat, by omega⟩
                rw [hu, bw_idx (by omega : u < tk.length), vw_idx (by omega : u < b.length)]
                simp only [Option.bind_some]
                cases bw tk u with
                | true => exact Or.inr ⟨_, rfl, trivial⟩
                | false =>
                  by_cases e4 : vw b u < vw a t
                  · refine Or.inr ⟨.inl (), ?_, trivial⟩
                    rw [if_neg (by simp), if_pos (dpos e4)]
                  · refine Or.inl ⟨(tk.set u true, ((t + 1 : Nat) : Int)), ?_, ⟨t + 1, rfl, by omega, by simp [htl]⟩, by dsimp only; omega⟩
                    rw [if_neg (by simp), if_neg (dneg e4)]
                    rfl
        · rw [if_neg (dneg (by omega))]
          exact Or.inr ⟨_, rfl, trivial⟩) (List.replicate (Int.toNat ((b).length : Int)) false, 0) ⟨0, rfl, by omega, by simp⟩ (by dsimp only; omega)
      rw [h1]
      cases d with
      | inl _ => exact ⟨_, rfl⟩
      | inr _ => exact ⟨_, rfl⟩
    · rw [if_pos (by simp; omega)]; exact ⟨_, rfl⟩
  · rw [if_pos (by simpa using e)]; exact ⟨_, rfl⟩
/-- An assignment fits. -/
theorem fits_ok {a b l : List Int} (hV : Vd a b) (hA : Asg a b l) : assign_Fits a b l = some true := by
  obtain ⟨c, hc, hc0⟩ := check_ok a b
  obtain rfl := hc0.2 hV
  obtain ⟨ha, hb, hv, hw⟩ := hV
  unfold assign_Fits
  rw [hc]
  simp only [Option.bind_some]
  have hl := hA.ll
  rw [if_neg (by decide), if_neg (by simp [hl]), if_pos (by omega)]
  obtain ⟨d, h1, rfl⟩ := loop_inv (step := assign_Fits_L9 a b l) (fun s => ∃ t : Nat, s.2 = (t : Int) ∧ t ≤ l.length ∧ s.1.length = b.length ∧ ∀ u, u < b.length → bw s.1 u = true → ∃ j, j < t ∧ vw a j ≠ 0 ∧ vw l j = u) (fun s => l.length - s.2.toNat) (fun d => d = .inr ()) (by
    rintro ⟨tk, _⟩ ⟨t, rfl, ht, htl, htk⟩
    dsimp only at htl htk ⊢
    unfold assign_Fits_L9
    dsimp only
    by_cases hlt : t < l.length
    · rw [if_pos (dpos (by omega)), vw_idx hlt, vw_idx (by omega : t < a.length)]
      simp only [Option.bind_some]
      rw [wk1 (by omega)]
      left
      by_cases e1 : vw a t = 0
      · rw [if_pos (by simp [e1]), if_neg (by simp [hA.z t (by omega) e1])]
        refine ⟨_, rfl, ⟨t + 1, rfl, by omega, htl, fun u hu htu => ?_⟩, by dsimp only; omega⟩
        obtain ⟨j, h2, h3, h4⟩ := htk u hu htu
        exact ⟨j, by omega, h3, h4⟩
      · obtain ⟨u, h2, h3, h4⟩ := hA.at_ t (by omega) e1
        rw [if_neg (by simp [e1]), h3, if_neg (dneg (by omega)), if_neg (dneg (by omega)), bw_idx (by omega : u < tk.length), vw_idx h2]
        simp only [Option.bind_some]
        have hf : bw tk u = false := by
          cases hb2 : bw tk u with
          | false => rfl
          | true =>
            obtain ⟨j, h5, h6, h7⟩ := htk u h2 hb2
            have := hA.inj j t (by omega) (by omega) h6 e1 (by omega)
            omega
        rw [hf, if_neg (by simp), if_neg (dneg (by omega))]
        refine ⟨_, rfl, ⟨t + 1, rfl, by omega, by simp [htl], fun v hv htv => ?_⟩, by dsimp only; omega⟩
        dsimp only at htv
        rw [Int.toNat_natCast, bw_set (by omega)] at htv
        by_cases ev : v = u
        · subst ev; exact ⟨t, by omega, e1, h3⟩
        · rw [if_neg ev] at htv
          obtain ⟨j, h5, h6, h7⟩ := htk v hv htv
          exact ⟨j, by omega, h6, h7⟩
    · rw [if_neg (dneg (by omega))]
      exact Or.inr ⟨_, rfl, rfl⟩) (List.replicate (Int.toNat ((b).length : Int)) false, 0) ⟨0, rfl, by omega, by simp, fun u hu h => by
        exfalso
        have : bw (List.replicate (Int.toNat ((b).length : Int)) false) u = false := by
          unfold bw
          rw [List.getD_eq_getElem?_getD, List.getElem?_eq_getElem (by simp; omega)]
          simp
        dsimp only at h
        rw [this] at h; cases h⟩ (by dsimp only; omega)
  rw [h1]
  rfl
theorem wk_len (b : List Int) (n : Int) (hb : b.length < 4294967296) : loop (assign_Refuses_L20 b n) (0, 0) = some ((tl b n b.length).length : Int) := count_ok b n hb
/-- Refuses answers, whatever the lists are. -/
theorem refuses_total (a b r : List Int) : ∃ v, assign_Refuses a b r = some v := by
  obtain ⟨c, hc, hc0⟩ := check_ok a b
  unfold assign_Refuses
  rw [hc]
  simp only [Option.bind_some]
  by_cases e : c = 0
  · subst e
    obtain ⟨ha, hb, hv, hw⟩ := hc0.1 rfl
    rw [if_neg (by decide)]
    by_cases hl : r.length = 0
    · rw [if_pos (by simp [hl])]; exact ⟨_, rfl⟩
    · rw [if_neg (by simp; intro h; exact hl (by rw [h]; rfl))]
      obtain ⟨d, h1, _⟩ := loop_inv (step := assign_Refuses_L8 a r) (fun s => ∃ t : Nat, s.2 = (t : Int) ∧ t ≤ r.length ∧ (t = 0 ∨ ((t : Int) ≤ vw r (t - 1) + 1 ∧ vw r (t - 1) < a.length))) (fun s => 40 - s.2.toNat) (fun _ => True) (by
        rintro ⟨ls, _⟩ ⟨t, rfl, ht, htt⟩
        have ht33 : t ≤ 33 := by omega
        unfold assign_Refuses_L8
        dsimp only
        by_cases hlt : t < r.length
        · rw [if_pos (dpos (by omega)), vw_idx hlt]
          simp only [Option.bind_some]
          by_cases e2 : vw r t < 0
          · rw [if_pos (dpos e2)]; exact Or.inr ⟨_, rfl, trivial⟩
          · rw [if_neg (dneg e2)]
            by_cases e3 : vw r t ≥ a.length
            · rw [if_pos (dpos e3)]; exact Or.inr ⟨_, rfl, trivial⟩
            · rw [if_neg (dneg e3)]
              obtain ⟨u, hu⟩ : ∃ u : Nat, vw r t = u := ⟨(vw r t).toNat, by omega⟩
              rw [hu, vw_idx (by omega : u < a.length)]
              simp only [Option.bind_some]
              by_cases e4 : vw a u = 0
              · rw [if_pos (by simp [e4])]; exact Or.inr ⟨_, rfl, trivial⟩
              · rw [if_neg (by simp [e4])]
                have hJ : assign_Refuses_J12 a ls t u = some (.next (if vw a u < ls then vw a u else ls, ((t + 1 : Nat) : Int))) := by
                  unfold assign_Refuses_J12
                  rw [vw_idx (by omega : u < a.length), wk1 (by omega)]; rfl
                rw [hJ]
                by_cases e5 : t = 0
                · subst e5
                  rw [if_neg (dneg (by omega))]
                  exact Or.inl ⟨_, rfl, ⟨1, rfl, by omega, Or.inr ⟨by rw [hu]; omega, by rw [hu]; omega⟩⟩, by dsimp only; omega⟩
                · rw [if_pos (dpos (by omega)), wkm1 (by omega) (by omega), vw_idx (by omega : t - 1 < r.length)]
                  simp only [Option.bind_some]
                  by_cases e6 : (u : Int) ≤ vw r (t - 1)
                  · rw [if_pos (dpos e6)]; exact Or.inr ⟨_, rfl, trivial⟩
                  · rw [if_neg (dneg e6)]
                    exact Or.inl ⟨_, rfl, ⟨t + 1, rfl, by omega, Or.inr ⟨by rw [Nat.add_sub_cancel, hu]; omega, by rw [Nat.add_sub_cancel, hu]; omega⟩⟩, by dsimp only; omega⟩
        · rw [if_neg (dneg (by omega))]
          exact Or.inr ⟨_, rfl, trivial⟩) (38400, 0) ⟨0, rfl, by omega, Or.inl rfl⟩ (by dsimp only; omega)
      rw [h1]
      cases d with
      | inl _ => exact ⟨_, rfl⟩
      | inr n => simp only [Option.bind_some]; rw [wk_len b n (by omega)]; exact ⟨_, rfl⟩
  · rw [if_pos (by simpa using e)]; exact ⟨_, rfl⟩
/-- A refusal refuses. -/
theorem refuses_ok {a b r : List Int} (hV : Vd a b) (hR : Rfs a b r) (hrl : r.length < 4294967296) : assign_Refuses a b r = some true := by
  obtain ⟨c, hc, hc0⟩ := check_ok a b
  obtain rfl := hc0.2 hV
  obtain ⟨ha, hb, hv, hw⟩ := hV
  obtain ⟨i, hi, hle, hlt⟩ := hR.least
  unfold assign_Refuses
  rw [hc]
  simp only [Option.bind_some]
  rw [if_neg (by decide), if_neg (by simp; intro h; rw [h] at hi; cases hi)]
  obtain ⟨i', e, hi1, hi2⟩ := hR.mem _ hi
  obtain rfl : i = i' := by omega
  obtain ⟨d, h1, rfl⟩ := loop_inv (step := assign_Refuses_L8 a r) (fun s => ∃ t : Nat, s.2 = (t : Int) ∧ t ≤ r.length ∧ vw a i ≤ s.1 ∧ ∀ k, k < t → s.1 ≤ vw a (vw r k).toNat) (fun s => r.length - s.2.toNat) (fun d => d = .inr (vw a i)) (by
    rintro ⟨ls, _⟩ ⟨t, rfl, ht, hge, hk⟩
    dsimp only at hge hk ⊢
    unfold assign_Refuses_L8
    dsimp only
    by_cases hlt : t < r.length
    · obtain ⟨u, hu, hu1, hu2⟩ := hR.mem _ (vw_mem hlt)
      have hui := hle u (hu ▸ vw_mem hlt)
      rw [if_pos (dpos (by omega)), vw_idx hlt]
      simp only [Option.bind_some]
      rw [hu, if_neg (dneg (by omega)), if_neg (dneg (by omega)), vw_idx hu1]
      simp only [Option.bind_some]
      rw [if_neg (by simp; omega)]
      have hJ : assign_Refuses_J12 a ls t u = some (.next (if vw a u < ls then vw a u else ls, ((t + 1 : Nat) : Int))) := by
        unfold assign_Refuses_J12
        rw [vw_idx hu1, wk1 (by omega)]; rfl
      rw [hJ]
      left
      have hk' : ∀ k, k < t + 1 → (if vw a u < ls then vw a u else ls) ≤ vw a (vw r k).toNat := fun k hk2 => by
        by_cases e : k = t
        · subst e; rw [hu, Int.toNat_natCast]; split <;> omega
        · have := hk k (by omega); split <;> omega
      have hge' : vw a i ≤ (if vw a u < ls then vw a u else ls) := by split <;> omega
      by_cases e5 : t = 0
      · subst e5
        rw [if_neg (dneg (by omega))]
        exact ⟨_, rfl, ⟨1, rfl, by omega, hge', hk'⟩, by dsimp only; omega⟩
      · rw [if_pos (dpos (by omega)), wkm1 (by omega) (by omega), vw_idx (by omega : t - 1 < r.length)]
        simp only [Option.bind_some]
        have := vw_pw hR.asc (t - 1) t (by omega) hlt
        rw [if_neg (dneg (by omega))]
        exact ⟨_, rfl, ⟨t + 1, rfl, by omega, hge', hk'⟩, by dsimp only; omega⟩
    · rw [if_neg (dneg (by omega))]
      refine Or.inr ⟨_, rfl, ?_⟩
      obtain ⟨q, hq, hqi⟩ := vw_of_mem hi
      have := hk q (by omega)
      rw [hqi, Int.toNat_natCast] at this
      rw [show ls = vw a i by omega]) (38400, 0) ⟨0, rfl, by omega, by dsimp only; have := hv _ (vw_mem hi1); omega, fun k h => by omega⟩ (by dsimp only; omega)
  rw [h1]
  simp only [Option.bind_some]
  rw [wk_len b _ (by omega)]
  simp only [Option.bind_some]
  rw [decide_eq_true (by omega)]
end Go.Proofs.Ytdbomhhcebmkpaa
