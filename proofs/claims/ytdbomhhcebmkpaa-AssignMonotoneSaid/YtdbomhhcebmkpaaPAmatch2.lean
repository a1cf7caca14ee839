/- The package's assignment and the reference's are the greedy one. Conditions: those of each theorem. -/
import Derived.Test.YtdbomhhcebmkpaaPAmatch
set_option linter.unusedVariables false
set_option linter.unusedSimpArgs false
namespace Go.Proofs.Ytdbomhhcebmkpaa
open Go Go.V Go.Proofs

theorem vw_ext {l k : List Int} (h : l.length = k.length) (e : ∀ i, i < l.length → vw l i = vw k i) : l = k := by
  refine List.ext_getElem h fun i h1 h2 => ?_
  have := e i h1
  rw [vw_elem h1, vw_elem h2] at this
  exact this
theorem loopN_dec {S D : Type} {step : S → Option (Step S D)} (I : Nat → S → Prop) (P : D → Prop)
    (h : ∀ n s, I n s → (∃ s' m, step s = some (.next s') ∧ m < n ∧ I m s') ∨ ∃ d, step s = some (.done d) ∧ P d) :
    ∀ (k n : Nat) (s : S), I n s → n < k → ∃ d, loopN step k s = some d ∧ P d
  | 0, n, s, _, hn => absurd hn (Nat.not_lt_zero _)
  | k + 1, n, s, hi, hn => by
    rcases h n s hi with ⟨s', m, h1, h2, h3⟩ | ⟨d, h1, h2⟩
    · obtain ⟨d, h4, h5⟩ := loopN_dec I P h k m s' h3 (by omega)
      exact ⟨d, by simp only [loopN, h1, Option.bind_some, h4], h5⟩
    · exact ⟨d, by simp only [loopN, h1, Option.bind_some], h2⟩
theorem loop_dec {S D : Type} {step : S → Option (Step S D)} (I : Nat → S → Prop) (P : D → Prop)
    (h : ∀ n s, I n s → (∃ s' m, step s = some (.next s') ∧ m < n ∧ I m s') ∨ ∃ d, step s = some (.done d) ∧ P d)
    (n : Nat) (s : S) (hi : I n s) (hn : n < 4611686018427387904) : ∃ d, loop step s = some d ∧ P d := loopN_dec I P h _ n s hi hn

theorem strict_ext : ∀ (l k : List Int), l.Pairwise (· < ·) → k.Pairwise (· < ·) → (∀ x, x ∈ l ↔ x ∈ k) → l = k
  | [], [], _, _, _ => rfl
  | [], y :: k, _, _, h => absurd ((h y).2 List.mem_cons_self) (by simp)
  | x :: l, [], _, _, h => absurd ((h x).1 List.mem_cons_self) (by simp)
  | x :: l, y :: k, hl, hk, h => by
    have a1 := List.pairwise_cons.1 hl
    have a2 := List.pairwise_cons.1 hk
    have e : x = y := by
      rcases List.mem_cons.1 ((h x).1 List.mem_cons_self) with e | e
      · exact e
      · rcases List.mem_cons.1 ((h y).2 List.mem_cons_self) with e2 | e2
        · exact e2.symm
        · have := a2.1 x e; have := a1.1 y e2; omega
    subst e
    rw [strict_ext l k a1.2 a2.2 fun z => ?_]
    constructor
    · intro hz
      rcases List.mem_cons.1 ((h z).1 (List.mem_cons_of_mem _ hz)) with e | e
      · have := a1.1 z hz; omega
      · exact e
    · intro hz
      rcases List.mem_cons.1 ((h z).2 (List.mem_cons_of_mem _ hz)) with e | e
      · have := a2.1 z hz; omega
      · exact e
theorem strict_of {l : List Int} (h : l.Pairwise (· ≤ ·)) (hn : l.Nodup) : l.Pairwise (· < ·) :=
  List.Pairwise.imp₂ (fun a b h1 h2 => by omega) h hn
theorem sortI_strict {p : List Int} (h : p.Nodup) : (sortI p).Pairwise (· < ·) := strict_of (sortI_sorted p) ((sortI_perm p).nodup_iff.2 h)

theorem Ord.nodup {a o : List Int} (h : Ord a o) : o.Nodup := by
  refine List.pairwise_iff_getElem.2 fun i j h1 h2 hij e => ?_
  have := h.srt i j (Nat.zero_le _) hij h2
  rw [vw_elem h1, vw_elem h2, e] at this
  exact ls_irr this

def neg1 (n : Nat) : List Int := List.replicate n (-1)
theorem fill_ok (a : List Int) (hl : a.length ≤ 32) : loop (assign_Match_L9 a) ((List.replicate (Int.toNat ((a).length : Int)) 0 : List Int), 0) = some (neg1 a.length) := by
  obtain ⟨d, h1, rfl⟩ := loop_inv (step := assign_Match_L9 a) (fun s => ∃ i : Nat, s.2 = (i : Int) ∧ i ≤ a.length ∧ s.1.length = a.length ∧ ∀ k, k < i → vw s.1 k = -1) (fun s => a.length - s.2.toNat) (fun d => d = neg1 a.length) (by
    rintro ⟨d, _⟩ ⟨i, rfl, hi, hdl, hk⟩
    dsimp only at hdl hk ⊢
    unfold assign_Match_L9
    dsimp only
    by_cases hlt : i < a.length
    · left
      rw [if_pos (dpos (by simp; omega)), vw_idx (by omega : i < d.length)]
      simp only [Option.bind_some, Int.toNat_natCast]
      rw [wk1 (by omega)]
      refine ⟨_, rfl, ⟨i + 1, rfl, by omega, by simp [hdl], fun k hk2 => ?_⟩, by dsimp only; omega⟩
      dsimp only
      rw [vw_set (by omega)]
      split
      · rfl
      · exact hk k (by omega)
    · right
      rw [if_neg (dneg (by simp; omega))]
      refine ⟨_, rfl, vw_ext (by simp [neg1, hdl]) fun k hk2 => ?_⟩
      rw [hk k (by omega), vw_elem (by simp [neg1]; omega)]
      simp [neg1]) (List.replicate (Int.toNat ((a).length : Int)) 0, 0) ⟨0, rfl, by omega, by simp, fun k hk => by omega⟩ (by dsimp only; omega)
  exact h1
theorem fill_eq (a : List Int) (hl : a.length ≤ 32) : loop r16_Match_L9 ((List.replicate (Int.toNat ((a).length : Int)) 0 : List Int), 0) = some (neg1 a.length) := by
  obtain ⟨d, h1, rfl⟩ := loop_inv (step := r16_Match_L9) (fun s => ∃ i : Nat, s.2 = (i : Int) ∧ i ≤ a.length ∧ s.1.length = a.length ∧ ∀ k, k < i → vw s.1 k = -1) (fun s => a.length - s.2.toNat) (fun d => d = neg1 a.length) (by
    rintro ⟨d, _⟩ ⟨i, rfl, hi, hdl, hk⟩
    dsimp only at hdl hk ⊢
    unfold r16_Match_L9
    dsimp only
    by_cases hlt : i < a.length
    · left
      rw [if_pos (dpos (by omega)), vw_idx (by omega : i < d.length)]
      simp only [Option.bind_some, Int.toNat_natCast]
      rw [wk1 (by omega)]
      refine ⟨_, rfl, ⟨i + 1, rfl, by omega, by simp [hdl], fun k hk2 => ?_⟩, by dsimp only; omega⟩
      dsimp only
      rw [vw_set (by omega)]
      split
      · rfl
      · exact hk k (by omega)
    · right
      rw [if_neg (dneg (by omega))]
      refine ⟨_, rfl, vw_ext (by simp [neg1, hdl]) fun k hk2 => ?_⟩
      rw [hk k (by omega), vw_elem (by simp [neg1]; omega)]
      simp [neg1]) (List.replicate (Int.toNat ((a).length : Int)) 0, 0) ⟨0, rfl, by omega, by simp, fun k hk => by omega⟩ (by dsimp only; omega)
  exact h1

def nofree (n : Nat) : List Bool := List.replicate n false
/-- What both functions return for valid lists. -/
def res : Sum (List Int) (List Int) → (List Int) × (List Int) × Int
  | .inl p => ([], sortI p, 14)
  | .inr l => (l, [], 0)

theorem onl_onl {p q : List Int} {g : Sum (List Int) (List Int)} : onl p (onl q g) = onl (p ++ q) g := by
  cases g <;> simp [onl]
theorem gr_cons (a b : List Int) (i : Nat) (o l : List Int) (tk : List Bool) : gr a b ((i : Int) :: o) l tk = if bf b tk (vw a i) b.length < 0 then .inl [(i : Int)] else onl [(i : Int)] (gr a b o (l.set i (bf b tk (vw a i) b.length)) (tk.set (bf b tk (vw a i) b.length).toNat true)) := by
  conv => lhs; unfold gr
  rw [Int.toNat_natCast]
  split
  · rfl
  · cases gr a b o (l.set i (bf b tk (vw a i) b.length)) (tk.set (bf b tk (vw a i) b.length).toNat true) <;> rfl
theorem take_one {o : List Int} {t : Nat} (h : t < o.length) : o.take (t + 1) = o.take t ++ [vw o t] := by rw [List.take_succ_eq_append_getElem h, vw_elem h]
theorem drop_one {o : List Int} {t : Nat} (h : t < o.length) : o.drop t = vw o t :: o.drop (t + 1) := by rw [List.drop_eq_getElem_cons h, vw_elem h]

theorem match_ok {a b : List Int} (hV : Vd a b) : ∃ o, assign_order a = some o ∧ Ord a o ∧ o.length ≤ 32 ∧ assign_Match a b = some (res (gr a b o (neg1 a.length) (nofree b.length))) := by
  obtain ⟨ha, hb, hv, hw⟩ := hV
  obtain ⟨o, ho, hO, hol⟩ := order_ok ha hv
  refine ⟨o, ho, hO, hol, ?_⟩
  obtain ⟨c, hc, hc0⟩ := check_ok a b
  obtain rfl := hc0.2 ⟨ha, hb, hv, hw⟩
  unfold assign_Match
  rw [hc]
  simp only [Option.bind_some]
  rw [if_neg (by decide), if_pos (by omega), fill_ok a ha]
  simp only [Option.bind_some]
  rw [if_pos (by omega), ho]
  simp only [Option.bind_some]
  have hg : ∀ t, t < o.length → ∃ i : Nat, vw o t = i ∧ i < a.length ∧ 0 < vw a i := fun t ht => by
    obtain ⟨i, h1, h2, h3⟩ := (hO.mem _).1 (vw_mem ht)
    exact ⟨i, h2, h1, h3⟩
  obtain ⟨r, h1, h2⟩ := loop_inv (step := assign_Match_L20 a b o) (fun s => ∃ t : Nat, s.2.2 = (t : Int) ∧ t ≤ o.length ∧ s.1.length = a.length ∧ s.2.1.length = b.length ∧ gr a b o (neg1 a.length) (nofree b.length) = onl (o.take t) (gr a b (o.drop t) s.1 s.2.1)) (fun s => o.length - s.2.2.toNat)
    (fun r => match r with | .inl q => ∃ p, gr a b o (neg1 a.length) (nofree b.length) = .inl p ∧ q = sortI p | .inr l => gr a b o (neg1 a.length) (nofree b.length) = .inr l) (by
      rintro ⟨l, tk, _⟩ ⟨t, rfl, ht, hl, htl, hgr⟩
      dsimp only at hl htl hgr ⊢
      unfold assign_Match_L20
      dsimp only
      by_cases hlt : t < o.length
      · obtain ⟨i, e1, e2, e3⟩ := hg t hlt
        rw [if_pos (dpos (by omega)), vw_idx hlt]
        simp only [Option.bind_some]
        rw [e1, best_ok htl hb e2]
        simp only [Option.bind_some]
        rw [drop_one hlt, e1] at hgr
        rw [gr_cons] at hgr
        rcases bf_range b tk (vw a i) b.length with h5 | ⟨u, h5, h6⟩
        · right
          rw [h5] at hgr ⊢
          rw [if_pos (by omega)] at hgr
          rw [if_pos (dpos (by omega)), wk1 (by omega), if_pos (by omega)]
          have hcl : slices_Clone_int_int_ ((o.drop (Int.toNat (0 : Int))).take (Int.toNat ((t + 1 : Nat) : Int) - Int.toNat (0 : Int))) = some (o.take (t + 1)) := by
            unfold slices_Clone_int_int_
            simp only [Int.toNat_natCast, Int.toNat_zero, List.drop_zero, Nat.sub_zero, List.nil_append]
            rw [if_pos (by simp; omega)]
          rw [hcl]
          simp only [Option.bind_some]
          rw [if_pos ⟨by rw [take_one hlt]; simp, by simp; omega⟩]
          exact ⟨_, rfl, _, hgr, by rw [take_one hlt, e1]⟩
        · left
          rw [h6] at hgr ⊢
          rw [if_neg (by omega), Int.toNat_natCast, onl_onl] at hgr
          rw [if_neg (dneg (by omega)), bw_idx (by omega : u < tk.length)]
          simp only [Option.bind_some]
          rw [vw_idx (by omega : i < l.length)]
          simp only [Option.bind_some, Int.toNat_natCast]
          rw [wk1 (by omega)]
          exact ⟨_, rfl, ⟨t + 1, rfl, by omega, by simp [hl], by simp [htl], by rw [hgr, take_one hlt, e1]⟩, by dsimp only; omega⟩
      · right
        rw [if_neg (dneg (by omega))]
        obtain rfl : t = o.length := by omega
        rw [List.drop_length] at hgr
        exact ⟨_, rfl, hgr⟩) (neg1 a.length, List.replicate (Int.toNat ((b).length : Int)) false, 0) ⟨0, rfl, by omega, by simp [neg1], by simp, by
        dsimp only
        rw [List.drop_zero, List.take_zero]
        show _ = onl [] (gr a b o (neg1 a.length) (List.replicate (Int.toNat ((b).length : Int)) false))
        rw [Int.toNat_natCast]
        show gr a b o (neg1 a.length) (nofree b.length) = onl [] (gr a b o (neg1 a.length) (nofree b.length))
        cases gr a b o (neg1 a.length) (nofree b.length) <;> simp [onl]⟩ (by dsimp only; omega)
  rw [h1]
  cases r with
  | inl q => obtain ⟨p, h3, rfl⟩ := h2; rw [h3]; rfl
  | inr l =>
    have h2' : gr a b o (neg1 a.length) (nofree b.length) = .inr l := h2
    rw [h2']; rfl

/-! ### The reference -/
def nf (a : List Int) (dn : List Bool) : Nat → Int
  | 0 => -1
  | k + 1 => if 0 < vw a k ∧ bw dn k = false ∧ (nf a dn k < 0 ∨ vw a (nf a dn k).toNat < vw a k) then (k : Int) else nf a dn k
theorem nf_spec (a : List Int) (dn : List Bool) : ∀ k, (nf a dn k = -1 ∧ ∀ i, i < k → 0 < vw a i → bw dn i = true) ∨
    ∃ i : Nat, i < k ∧ nf a dn k = i ∧ 0 < vw a i ∧ bw dn i = false ∧ ∀ j : Nat, j < k → 0 < vw a j → bw dn j = false → j = i ∨ ls a i j
  | 0 => Or.inl ⟨rfl, fun t h => by omega⟩
  | k + 1 => by
    have ih := nf_spec a dn k
    have key : ∀ i : Nat, ky a (i : Int) = vw a i := fun i => by unfold ky vw; rw [Int.toNat_natCast]
    unfold nf
    by_cases e : 0 < vw a k ∧ bw dn k = false ∧ (nf a dn k < 0 ∨ vw a (nf a dn k).toNat < vw a k)
    · rw [if_pos e]
      refine Or.inr ⟨k, by omega, rfl, e.1, e.2.1, fun j hj h0 hdn => ?_⟩
      by_cases ej : j = k
      · exact Or.inl ej
      · rcases ih with ⟨h1, h2⟩ | ⟨i, h1, h2, h3, h4, h5⟩
        · rw [h2 j (by omega) h0] at hdn; cases hdn
        · right
          rw [h2, Int.toNat_natCast] at e
          have hki : ls a k i := by unfold ls; rw [key, key]; omega
          rcases h5 j (by omega) h0 hdn with rfl | h6
          · exact hki
          · exact ls_trans hki h6
    · rw [if_neg e]
      rcases ih with ⟨h1, h2⟩ | ⟨i, h1, h2, h3, h4, h5⟩
      · refine Or.inl ⟨h1, fun i hi h0 => ?_⟩
        by_cases ei : i = k
        · subst ei
          cases hb : bw dn i with
          | true => rfl
          | false => exact absurd ⟨h0, hb, Or.inl (by omega)⟩ e
        · exact h2 i (by omega) h0
      · refine Or.inr ⟨i, by omega, h2, h3, h4, fun j hj h0 hdn => ?_⟩
        by_cases ej : j = k
        · subst ej
          right
          rw [h2, Int.toNat_natCast] at e
          unfold ls; rw [key, key]
          by_cases hlt : vw a i < vw a j
          · exact absurd ⟨h0, hdn, Or.inr hlt⟩ e
          · omega
        · exact h5 j (by omega) h0 hdn
theorem next_sel {a : List Int} {dn : List Bool} (hdn : dn.length = a.length) (hl : a.length ≤ 32) : loop (r16_Match_L21 a dn) (-1, 0) = some (nf a dn a.length) := by
  obtain ⟨r, h1, rfl⟩ := loop_inv (step := r16_Match_L21 a dn) (fun s => ∃ t : Nat, s = (nf a dn t, (t : Int)) ∧ t ≤ a.length) (fun s => a.length - s.2.toNat) (fun r => r = nf a dn a.length) (by
    rintro _ ⟨t, rfl, ht⟩
    unfold r16_Match_L21
    dsimp only
    by_cases hlt : t < a.length
    · left
      rw [if_pos (dpos (by omega)), vw_idx hlt, bw_idx (by omega : t < dn.length)]
      simp only [Option.bind_some]
      rw [wk1 (by omega)]
      have hs : nf a dn (t + 1) = if 0 < vw a t ∧ bw dn t = false ∧ (nf a dn t < 0 ∨ vw a (nf a dn t).toNat < vw a t) then (t : Int) else nf a dn t := rfl
      refine ⟨(nf a dn (t + 1), ((t + 1 : Nat) : Int)), ?_, ⟨t + 1, rfl, by omega⟩, by dsimp only; omega⟩
      rw [hs]
      by_cases e0 : vw a t > 0
      · rw [if_pos (dpos e0)]
        by_cases e1 : bw dn t = true
        · rw [if_neg (by rw [e1]; simp), if_neg (by rw [e1]; simp)]
        · have e1' : bw dn t = false := by simpa using e1
          rw [if_pos (by rw [e1']; rfl)]
          by_cases e3 : nf a dn t < 0
          · rw [if_pos (dpos e3), if_pos ⟨e0, e1', Or.inl e3⟩]
          · rw [if_neg (dneg e3)]
            rcases nf_spec a dn t with ⟨e, _⟩ | ⟨u, h5, h6, _⟩
            · omega
            · rw [h6, vw_idx (by omega : u < a.length)]
              simp only [Option.bind_some, Int.toNat_natCast]
              by_cases e4 : vw a t > vw a u
              · rw [if_pos (dpos e4), if_pos ⟨e0, e1', Or.inr e4⟩]
              · rw [if_neg (dneg e4), if_neg (by omega)]
      · rw [if_neg (dneg e0), if_neg (by omega)]
    · right
      rw [if_neg (dneg (by omega))]
      obtain rfl : t = a.length := by omega
      exact ⟨_, rfl, rfl⟩) (-1, 0) ⟨0, rfl, by omega⟩ (by dsimp only; omega)
  exact h1
/-- The indexes that are marked, in ascending order. -/
theorem marked_ok {a : List Int} {dn : List Bool} {x : Int} {i : Nat} (hx : x = i) (hi : i < a.length) (hdn : dn.length = a.length) (hl : a.length ≤ 32) {p : List Int} (hp : p.Nodup) (hm : ∀ y, y ∈ p ↔ ∃ k : Nat, k < a.length ∧ y = k ∧ (bw dn k = true ∨ k = i)) :
    loop (r16_Match_L52 a dn x) (([] : List Int), 0) = some (sortI p) := by
  subst hx
  obtain ⟨r, h1, rfl⟩ := loop_inv (step := r16_Match_L52 a dn i) (fun s => ∃ t : Nat, s.2 = (t : Int) ∧ t ≤ a.length ∧ s.1.length ≤ t ∧ s.1.Pairwise (· < ·) ∧ ∀ y, y ∈ s.1 ↔ ∃ k : Nat, k < t ∧ y = k ∧ (bw dn k = true ∨ k = i)) (fun s => a.length - s.2.toNat) (fun r => r = sortI p) (by
    rintro ⟨d, _⟩ ⟨t, rfl, ht, hdl, hpw, hd⟩
    dsimp only at hdl hpw hd ⊢
    unfold r16_Match_L52
    dsimp only
    rw [Int.toNat_natCast]
    by_cases hlt : t < a.length
    · left
      rw [if_pos (dpos (by omega)), bw_idx (by rw [List.length_set]; omega), bw_set (by omega)]
      simp only [Option.bind_some]
      rw [wk1 (by omega)]
      by_cases e : (if t = i then true else bw dn t) = true
      · have e' : bw dn t = true ∨ t = i := by
          by_cases h : t = i
          · exact Or.inr h
          · rw [if_neg h] at e; exact Or.inl e
        rw [if_pos e, if_pos (by simp only [List.length_singleton]; omega)]
        refine ⟨_, rfl, ⟨t + 1, rfl, by omega, by simp; omega, ?_, fun y => ?_⟩, by dsimp only; omega⟩
        · refine List.pairwise_append.2 ⟨hpw, List.pairwise_singleton _ _, fun y hy z hz => ?_⟩
          obtain ⟨k, h5, rfl, _⟩ := (hd y).1 hy
          simp only [List.mem_singleton] at hz
          omega
        · simp only [List.mem_append, List.mem_singleton, hd y]
          constructor
          · rintro (⟨k, h5, h6, h7⟩ | rfl)
            · exact ⟨k, by omega, h6, h7⟩
            · exact ⟨t, by omega, rfl, e'⟩
          · rintro ⟨k, h5, h6, h7⟩
            by_cases h : k = t
            · subst h; exact Or.inr h6
            · exact Or.inl ⟨k, by omega, h6, h7⟩
      · have e' : ¬ (bw dn t = true ∨ t = i) := by
          rintro (h | h)
          · apply e; split
            · rfl
            · exact h
          · exact e (by rw [if_pos h])
        rw [if_neg e]
        refine ⟨_, rfl, ⟨t + 1, rfl, by omega, by dsimp only; omega, hpw, fun y => ?_⟩, by dsimp only; omega⟩
        rw [hd y]
        constructor
        · rintro ⟨k, h5, h6, h7⟩; exact ⟨k, by omega, h6, h7⟩
        · rintro ⟨k, h5, h6, h7⟩
          have : k ≠ t := fun h => e' (h ▸ h7)
          exact ⟨k, by omega, h6, h7⟩
    · right
      rw [if_neg (dneg (by omega))]
      obtain rfl : t = a.length := by omega
      exact ⟨_, rfl, strict_ext _ _ hpw (sortI_strict hp) fun y => by rw [hd y, (sortI_perm p).mem_iff, hm y]⟩) (([] : List Int), 0) ⟨0, rfl, by omega, by simp, List.Pairwise.nil, fun y => by simp⟩ (by dsimp only; omega)
  exact h1

theorem refmatch_ok {a b : List Int} (hV : Vd a b) {o : List Int} (hO : Ord a o) (hol : o.length ≤ 32) : r16_Match a b = some (res (gr a b o (neg1 a.length) (nofree b.length))) := by
  obtain ⟨ha, hb, hv, hw⟩ := hV
  obtain ⟨c, hc, hc0⟩ := check_ok a b
  obtain rfl := hc0.2 ⟨ha, hb, hv, hw⟩
  unfold r16_Match
  rw [valid_eq, hc]
  simp only [Option.bind_some]
  rw [if_neg (by decide), if_pos (by omega), fill_eq a ha]
  simp only [Option.bind_some]
  rw [if_pos (by omega), if_pos (by omega)]
  have hg : ∀ t, t < o.length → ∃ i : Nat, vw o t = i ∧ i < a.length ∧ 0 < vw a i := fun t ht => by
    obtain ⟨i, h1, h2, h3⟩ := (hO.mem _).1 (vw_mem ht)
    exact ⟨i, h2, h1, h3⟩
  have hnd := hO.nodup
  have htk : ∀ t, (o.take t).Nodup := fun t => hnd.sublist (List.take_sublist _ _)
  have hout : ∀ t, t < o.length → vw o t ∉ o.take t := fun t ht hm => by
    have := htk (t + 1)
    rw [take_one ht] at this
    exact (List.nodup_append.1 this).2.2 _ hm _ (by simp) rfl
  have hinit : ∀ i : Nat, i < a.length → (bw (List.replicate (Int.toNat ((a).length : Int)) false) i = true ↔ (i : Int) ∈ o.take 0) := fun i hi => by
    rw [List.take_zero]
    have : bw (List.replicate (Int.toNat ((a).length : Int)) false) i = false := by
      unfold bw
      rw [List.getD_eq_getElem?_getD, List.getElem?_eq_getElem (by simp; omega)]
      simp
    rw [this]
    simp
  obtain ⟨r, h1, h2⟩ := loop_dec (step := r16_Match_L19 a b) (fun n s => ∃ t : Nat, n = o.length - t ∧ t ≤ o.length ∧ s.1.length = a.length ∧ s.2.1.length = b.length ∧ s.2.2.length = a.length ∧ (∀ i : Nat, i < a.length → (bw s.2.2 i = true ↔ (i : Int) ∈ o.take t)) ∧ gr a b o (neg1 a.length) (nofree b.length) = onl (o.take t) (gr a b (o.drop t) s.1 s.2.1))
    (fun r => r = res (gr a b o (neg1 a.length) (nofree b.length))) (by
      rintro n ⟨l, tk, dn⟩ ⟨t, rfl, ht, hl, htl, hdl, hd, hgr⟩
      dsimp only at hl htl hdl hd hgr ⊢
      unfold r16_Match_L19
      dsimp only
      rw [next_sel hdl ha]
      simp only [Option.bind_some]
      by_cases hlt : t < o.length
      · obtain ⟨i, e1, e2, e3⟩ := hg t hlt
        have hni : bw dn i = false := by
          cases hb2 : bw dn i with
          | false => rfl
          | true => exact absurd ((hd i e2).1 hb2) (by rw [← e1]; exact hout t hlt)
        have hn : nf a dn a.length = i := by
          rcases nf_spec a dn a.length with ⟨_, h5⟩ | ⟨j, h5, h6, h7, h8, h9⟩
          · rw [h5 i e2 e3] at hni; cases hni
          · rw [h6]
            rcases h9 i e2 e3 hni with e | e
            · rw [e]
            · exfalso
              obtain ⟨q, hq, hqj⟩ := vw_of_mem ((hO.mem (j : Int)).2 ⟨j, h5, rfl, h7⟩)
              have hqt : t ≤ q := by
                rcases Nat.lt_or_ge q t with h | h
                · exfalso
                  have : (j : Int) ∈ o.take t := by
                    rw [← hqj, vw_elem hq]
                    exact List.mem_iff_getElem.2 ⟨q, by simp; omega, by simp⟩
                  rw [(hd j h5).2 this] at h8; cases h8
                · exact h
              by_cases hqe : q = t
              · subst hqe
                have : (i : Int) = j := by rw [← e1, hqj]
                obtain rfl : i = j := by omega
                exact ls_irr e
              · have := hO.srt t q (Nat.zero_le _) (by omega) hq
                rw [e1, hqj] at this
                exact ls_irr (ls_trans this e)
        rw [hn, if_neg (dneg (by omega)), bw_idx (by omega : i < dn.length)]
        simp only [Option.bind_some]
        rw [best_eq a b tk i htl, best_ok htl hb e2]
        simp only [Option.bind_some]
        rw [drop_one hlt, e1] at hgr
        rw [gr_cons] at hgr
        rcases bf_range b tk (vw a i) b.length with h5 | ⟨u, h5, h6⟩
        · right
          rw [h5] at hgr ⊢
          rw [if_pos (by omega)] at hgr
          rw [if_pos (dpos (by omega))]
          have hgr' : gr a b o (neg1 a.length) (nofree b.length) = .inl (o.take t ++ [(i : Int)]) := hgr
          rw [marked_ok (p := o.take t ++ [(i : Int)]) rfl e2 hdl ha (by rw [← e1, ← take_one hlt]; exact htk _) fun y => ?_, hgr']
          · exact ⟨_, rfl, rfl⟩
          · simp only [List.mem_append, List.mem_singleton]
            constructor
            · rintro (h | rfl)
              · obtain ⟨k, h7, rfl, h8⟩ := (hO.mem y).1 (List.mem_of_mem_take h)
                exact ⟨k, h7, rfl, Or.inl ((hd k h7).2 h)⟩
              · exact ⟨i, e2, rfl, Or.inr rfl⟩
            · rintro ⟨k, h7, rfl, h8 | rfl⟩
              · exact Or.inl ((hd k h7).1 h8)
              · exact Or.inr rfl
        · left
          rw [h6] at hgr ⊢
          rw [if_neg (by omega), Int.toNat_natCast, onl_onl] at hgr
          rw [if_neg (dneg (by omega)), bw_idx (by omega : u < tk.length)]
          simp only [Option.bind_some]
          rw [vw_idx (by omega : i < l.length)]
          simp only [Option.bind_some, Int.toNat_natCast]
          refine ⟨_, o.length - (t + 1), rfl, by omega, t + 1, rfl, by omega, by simp [hl], by simp [htl], by simp [hdl], fun k hk => ?_, by dsimp only; rw [hgr, take_one hlt, e1]⟩
          dsimp only
          rw [bw_set (by omega), take_one hlt, e1]
          simp only [List.mem_append, List.mem_singleton]
          by_cases e : k = i
          · rw [if_pos e, e]; simp
          · rw [if_neg e, hd k hk]
            constructor
            · exact Or.inl
            · rintro (h | h)
              · exact h
              · exact absurd (by omega) e
      · right
        obtain rfl : t = o.length := by omega
        have hn : nf a dn a.length = -1 := by
          rcases nf_spec a dn a.length with ⟨h5, _⟩ | ⟨j, h5, h6, h7, h8, h9⟩
          · exact h5
          · rw [(hd j h5).2 (by rw [List.take_length]; exact (hO.mem _).2 ⟨j, h5, rfl, h7⟩)] at h8; cases h8
        rw [hn, if_pos (dpos (by omega))]
        rw [List.drop_length] at hgr
        have hgr' : gr a b o (neg1 a.length) (nofree b.length) = .inr l := hgr
        exact ⟨_, rfl, by rw [hgr']; rfl⟩) o.length (neg1 a.length, List.replicate (Int.toNat ((b).length : Int)) false, List.replicate (Int.toNat ((a).length : Int)) false) ⟨0, rfl, by omega, by simp [neg1], by simp, by simp, hinit, by
        dsimp only
        rw [List.drop_zero, List.take_zero]
        show _ = onl [] (gr a b o (neg1 a.length) (List.replicate (Int.toNat ((b).length : Int)) false))
        rw [Int.toNat_natCast]
        show gr a b o (neg1 a.length) (nofree b.length) = onl [] (gr a b o (neg1 a.length) (nofree b.length))
        cases gr a b o (neg1 a.length) (nofree b.length) <;> simp [onl]⟩ (by omega)
  rw [h1]
  subst h2
  rfl
/-- Both answer alike. -/
theorem match_eq (a b : List Int) : ∃ r, assign_Match a b = some r ∧ r16_Match a b = some r ∧ (¬ Vd a b → r.1 = [] ∧ r.2.1 = [] ∧ r.2.2 ≠ 0 ∧ r.2.2 ≠ 14) := by
  by_cases hV : Vd a b
  · obtain ⟨o, _, hO, hol, h1⟩ := match_ok hV
    exact ⟨_, h1, refmatch_ok hV hO hol, fun h => absurd hV h⟩
  · obtain ⟨c, hc, hc0⟩ := check_ok a b
    have hne : c ≠ 0 := fun e => hV (hc0.1 e)
    have h14 : c ≠ 14 := by
      intro e
      subst e
      unfold assign_check at hc
      split at hc
      · cases hc
      · split at hc
        · cases hc
        · rename_i q1 q2
          obtain ⟨d, e1, e2⟩ := chk_a a (by simp at q1; omega)
          obtain ⟨d', e3, e4⟩ := chk_b b (by simp at q2; omega)
          rw [e1] at hc
          simp only [Option.bind_some] at hc
          rw [e3] at hc
          rcases e2 with ⟨rfl, _⟩ | ⟨rfl, _⟩
          · cases hc
          · rcases e4 with ⟨rfl, _⟩ | ⟨rfl, _⟩ <;> cases hc
    refine ⟨([], [], c), ?_, ?_, fun _ => ⟨rfl, rfl, hne, h14⟩⟩
    · unfold assign_Match; rw [hc]; simp only [Option.bind_some]; rw [if_pos (by simpa using hne)]
    · unfold r16_Match; rw [valid_eq, hc]; simp only [Option.bind_some]; rw [if_pos (by simpa using hne)]
end Go.Proofs.Ytdbomhhcebmkpaa
