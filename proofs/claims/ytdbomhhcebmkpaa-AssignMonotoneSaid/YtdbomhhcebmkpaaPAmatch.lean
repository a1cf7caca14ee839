/- What the functions of the package assign and of its reference compute: the check, the order, the best track, the greedy assignment. Conditions: those of each theorem. -/
import Derived.Test.YtdbomhhcebmkpaaPAsort2
import Derived.Test.YtdbomhhcebmkpaaGassign
import Derived.Test.YtdbomhhcebmkpaaGr16
set_option linter.unusedVariables false
set_option linter.unusedSimpArgs false
namespace Go.Proofs.Ytdbomhhcebmkpaa
open Go Go.V Go.Proofs

def bw (l : List Bool) (k : Nat) : Bool := l.getD k false
theorem bw_idx {d : List Bool} {k : Nat} (h : k < d.length) : idx d (k : Int) = some (bw d k) := by
  rw [idx_nat]; unfold bw; rw [List.getD_eq_getElem?_getD, List.getElem?_eq_getElem h]; rfl
theorem vw_set {d : List Int} {i : Nat} (h : i < d.length) (x : Int) (k : Nat) : vw (d.set i x) k = if k = i then x else vw d k := by
  unfold vw
  rw [List.getD_eq_getElem?_getD, List.getElem?_set]
  by_cases e : k = i
  · subst e; simp [h]
  · rw [if_neg (fun h => e h.symm), if_neg e, List.getD_eq_getElem?_getD]
theorem bw_set {d : List Bool} {i : Nat} (h : i < d.length) (x : Bool) (k : Nat) : bw (d.set i x) k = if k = i then x else bw d k := by
  unfold bw
  rw [List.getD_eq_getElem?_getD, List.getElem?_set]
  by_cases e : k = i
  · subst e; simp [h]
  · rw [if_neg (fun h => e h.symm), if_neg e, List.getD_eq_getElem?_getD]
theorem vw_elem {d : List Int} {k : Nat} (h : k < d.length) : vw d k = d[k] := by unfold vw; rw [List.getD_eq_getElem?_getD, List.getElem?_eq_getElem h]; rfl
theorem vw_of_mem {d : List Int} {x : Int} (h : x ∈ d) : ∃ k, k < d.length ∧ vw d k = x := by
  obtain ⟨k, hk, e⟩ := List.getElem_of_mem h
  exact ⟨k, hk, by unfold vw; rw [List.getD_eq_getElem?_getD, List.getElem?_eq_getElem hk]; exact e⟩

/-! ### The check -/
def Vd (a b : List Int) : Prop := a.length ≤ 32 ∧ b.length ≤ 32 ∧ (∀ x ∈ a, 0 ≤ x ∧ x ≤ 38400) ∧ ∀ x ∈ b, 1 ≤ x ∧ x ≤ 38400
theorem chk_a (a : List Int) (h : a.length ≤ 32) : ∃ d, loop (assign_check_L5 a) 0 = some d ∧ ((d = .inl () ∧ ¬ ∀ x ∈ a, 0 ≤ x ∧ x ≤ 38400) ∨ (d = .inr () ∧ ∀ x ∈ a, 0 ≤ x ∧ x ≤ 38400)) := by
  refine loop_inv (fun s => ∃ i : Nat, s = (i : Int) ∧ i ≤ a.length ∧ ∀ k, k < i → 0 ≤ vw a k ∧ vw a k ≤ 38400) (fun s => a.length - s.toNat) _ ?_ 0 ⟨0, rfl, by omega, fun k hk => by omega⟩ (by omega)
  rintro _ ⟨i, rfl, hi, hk⟩
  unfold assign_check_L5
  dsimp only
  by_cases hlt : i < a.length
  · rw [if_pos (dpos (by omega)), vw_idx hlt]
    simp only [Option.bind_some]
    by_cases h0 : vw a i < 0
    · rw [if_pos (dpos h0)]; exact Or.inr ⟨_, rfl, Or.inl ⟨rfl, fun h => by have := h _ (vw_mem hlt); omega⟩⟩
    · rw [if_neg (dneg h0)]
      by_cases h1 : vw a i > 38400
      · rw [if_pos (dpos h1)]; exact Or.inr ⟨_, rfl, Or.inl ⟨rfl, fun h => by have := h _ (vw_mem hlt); omega⟩⟩
      · rw [if_neg (dneg h1), wk1 (by omega)]
        refine Or.inl ⟨_, rfl, ⟨i + 1, rfl, by omega, fun k hk2 => ?_⟩, by omega⟩
        by_cases e : k = i
        · subst e; omega
        · exact hk k (by omega)
  · rw [if_neg (dneg (by omega))]
    refine Or.inr ⟨_, rfl, Or.inr ⟨rfl, fun x hx => ?_⟩⟩
    obtain ⟨k, h1, rfl⟩ := vw_of_mem hx
    exact hk k (by omega)
theorem chk_b (a : List Int) (h : a.length ≤ 32) : ∃ d, loop (assign_check_L9 a) 0 = some d ∧ ((d = .inl () ∧ ¬ ∀ x ∈ a, 1 ≤ x ∧ x ≤ 38400) ∨ (d = .inr () ∧ ∀ x ∈ a, 1 ≤ x ∧ x ≤ 38400)) := by
  refine loop_inv (fun s => ∃ i : Nat, s = (i : Int) ∧ i ≤ a.length ∧ ∀ k, k < i → 1 ≤ vw a k ∧ vw a k ≤ 38400) (fun s => a.length - s.toNat) _ ?_ 0 ⟨0, rfl, by omega, fun k hk => by omega⟩ (by omega)
  rintro _ ⟨i, rfl, hi, hk⟩
  unfold assign_check_L9
  dsimp only
  by_cases hlt : i < a.length
  · rw [if_pos (dpos (by omega)), vw_idx hlt]
    simp only [Option.bind_some]
    by_cases h0 : vw a i < 1
    · rw [if_pos (dpos h0)]; exact Or.inr ⟨_, rfl, Or.inl ⟨rfl, fun h => by have := h _ (vw_mem hlt); omega⟩⟩
    · rw [if_neg (dneg h0)]
      by_cases h1 : vw a i > 38400
      · rw [if_pos (dpos h1)]; exact Or.inr ⟨_, rfl, Or.inl ⟨rfl, fun h => by have := h _ (vw_mem hlt); omega⟩⟩
      · rw [if_neg (dneg h1), wk1 (by omega)]
        refine Or.inl ⟨_, rfl, ⟨i + 1, rfl, by omega, fun k hk2 => ?_⟩, by omega⟩
        by_cases e : k = i
        · subst e; omega
        · exact hk k (by omega)
  · rw [if_neg (dneg (by omega))]
    refine Or.inr ⟨_, rfl, Or.inr ⟨rfl, fun x hx => ?_⟩⟩
    obtain ⟨k, h1, rfl⟩ := vw_of_mem hx
    exact hk k (by omega)
theorem chk_eqa (a : List Int) : r16_valid_L5 a = assign_check_L5 a := by
  funext s
  unfold r16_valid_L5 assign_check_L5
  dsimp only
  cases idx a s <;> rfl
theorem chk_eqb (a : List Int) : r16_valid_L11 a = assign_check_L9 a := by
  funext s
  unfold r16_valid_L11 assign_check_L9
  dsimp only
  cases idx a s <;> rfl
theorem valid_eq (a b : List Int) : r16_valid a b = assign_check a b := by
  unfold r16_valid assign_check
  rw [chk_eqa, chk_eqb]
  rfl
theorem check_ok (a b : List Int) : ∃ c, assign_check a b = some c ∧ (c = 0 ↔ Vd a b) := by
  unfold assign_check Vd
  by_cases h1 : a.length ≤ 32
  · rw [if_neg (dneg (by omega))]
    by_cases h2 : b.length ≤ 32
    · rw [if_neg (dneg (by omega))]
      obtain ⟨d, e1, e2⟩ := chk_a a h1
      rw [e1]
      rcases e2 with ⟨rfl, e2⟩ | ⟨rfl, e2⟩
      · exact ⟨2, rfl, by omega, fun h => absurd h.2.2.1 e2⟩
      · obtain ⟨d, e3, e4⟩ := chk_b b h2
        simp only [Option.bind_some]
        rw [e3]
        rcases e4 with ⟨rfl, e4⟩ | ⟨rfl, e4⟩
        · exact ⟨2, rfl, by omega, fun h => absurd h.2.2.2 e4⟩
        · exact ⟨0, rfl, fun _ => ⟨h1, h2, e2, e4⟩, fun _ => rfl⟩
    · rw [if_pos (dpos (by omega))]
      exact ⟨3, rfl, by omega, fun h => absurd h.2.1 h2⟩
  · rw [if_pos (dpos (by omega))]
    exact ⟨3, rfl, by omega, fun h => absurd h.1 h1⟩

/-! ### The order -/
theorem vw_pw {d : List Int} (h : d.Pairwise (· < ·)) : ∀ p q, p < q → q < d.length → vw d p < vw d q := fun p q h1 h2 => by
  rw [vw_elem (by omega : p < d.length), vw_elem h2]
  exact List.pairwise_iff_getElem.1 h p q (by omega) h2 h1
theorem wt_of {a : List Int} (h : ∀ x ∈ a, 0 ≤ x ∧ x ≤ 38400) : Wt a := fun x hx => by have := h x hx; omega

/-- All indexes of loads that are not 0, the greatest first. -/
structure Ord (a o : List Int) : Prop where
  mem : ∀ x, x ∈ o ↔ ∃ i : Nat, i < a.length ∧ x = i ∧ 0 < vw a i
  srt : Srt a (vw o) 0 o.length
theorem order_ok {a : List Int} (hl : a.length ≤ 32) (ha : ∀ x ∈ a, 0 ≤ x ∧ x ≤ 38400) : ∃ o, assign_order a = some o ∧ Ord a o ∧ o.length ≤ 32 := by
  unfold assign_order
  obtain ⟨d, h1, h2, h3, h4⟩ := loop_inv (step := assign_order_L5 a) (fun s => ∃ i : Nat, s.2 = (i : Int) ∧ i ≤ a.length ∧ s.1.length ≤ i ∧ s.1.Pairwise (· < ·) ∧ ∀ x, x ∈ s.1 ↔ ∃ k : Nat, k < i ∧ x = k ∧ 0 < vw a k)
    (fun s => a.length - s.2.toNat) (fun d => d.length ≤ a.length ∧ d.Pairwise (· < ·) ∧ ∀ x, x ∈ d ↔ ∃ k : Nat, k < a.length ∧ x = k ∧ 0 < vw a k) (by
      rintro ⟨d, _⟩ ⟨i, rfl, hi, hdl, hp, hm⟩
      dsimp only at hdl hp hm ⊢
      unfold assign_order_L5
      dsimp only
      by_cases hlt : i < a.length
      · rw [if_pos (dpos (by omega)), vw_idx hlt]
        simp only [Option.bind_some]
        left
        by_cases h0 : vw a i > 0
        · rw [if_pos (dpos h0), if_pos (by simp only [List.length_singleton]; omega), wk1 (by omega)]
          refine ⟨_, rfl, ⟨i + 1, rfl, by omega, by simp; omega, ?_, fun x => ?_⟩, by dsimp only; omega⟩
          · refine List.pairwise_append.2 ⟨hp, List.pairwise_singleton _ _, fun x hx y hy => ?_⟩
            obtain ⟨k, h5, rfl, _⟩ := (hm x).1 hx
            simp only [List.mem_singleton] at hy
            omega
          · simp only [List.mem_append, List.mem_singleton, hm x]
            constructor
            · rintro (⟨k, h5, h6, h7⟩ | rfl)
              · exact ⟨k, by omega, h6, h7⟩
              · exact ⟨i, by omega, rfl, h0⟩
            · rintro ⟨k, h5, h6, h7⟩
              by_cases e : k = i
              · subst e; exact Or.inr h6
              · exact Or.inl ⟨k, by omega, h6, h7⟩
        · rw [if_neg (dneg h0), wk1 (by omega)]
          refine ⟨_, rfl, ⟨i + 1, rfl, by omega, by dsimp only; omega, hp, fun x => ?_⟩, by dsimp only; omega⟩
          rw [hm x]
          constructor
          · rintro ⟨k, h5, h6, h7⟩; exact ⟨k, by omega, h6, h7⟩
          · rintro ⟨k, h5, h6, h7⟩
            have : k ≠ i := fun e => by subst e; omega
            exact ⟨k, by omega, h6, h7⟩
      · right
        rw [if_neg (dneg (by omega))]
        obtain rfl : i = a.length := by omega
        exact ⟨_, rfl, hdl, hp, hm⟩) (([] : List Int), 0) ⟨0, rfl, by omega, by simp, List.Pairwise.nil, fun x => by simp⟩ (by dsimp only; omega)
  rw [h1]
  simp only [Option.bind_some]
  obtain ⟨o, h5, h6, h7⟩ := stable_ok (ld := a) (d := d) (wt_of ha) (fun x hx => by obtain ⟨k, h8, rfl, _⟩ := (h4 x).1 hx; omega) (vw_pw h3) (by omega)
  rw [h5]
  simp only [Option.bind_some]
  rw [if_pos h6.length_eq]
  refine ⟨o, rfl, ⟨fun x => ?_, by rw [h6.length_eq]; exact h7⟩, by rw [h6.length_eq]; omega⟩
  rw [h6.mem_iff, h4]

/-! ### The best track -/
def bf (b : List Int) (tk : List Bool) (n : Int) : Nat → Int
  | 0 => -1
  | k + 1 => if bw tk k = false ∧ n ≤ vw b k ∧ (bf b tk n k < 0 ∨ vw b k < vw b (bf b tk n k).toNat) then (k : Int) else bf b tk n k
theorem bf_spec (b : List Int) (tk : List Bool) (n : Int) : ∀ k, (bf b tk n k = -1 ∧ ∀ t, t < k → bw tk t = false → vw b t < n) ∨ ∃ t : Nat, t < k ∧ bf b tk n k = t ∧ bw tk t = false ∧ n ≤ vw b t
  | 0 => Or.inl ⟨rfl, fun t h => by omega⟩
  | k + 1 => by
    have ih := bf_spec b tk n k
    unfold bf
    by_cases e : bw tk k = false ∧ n ≤ vw b k ∧ (bf b tk n k < 0 ∨ vw b k < vw b (bf b tk n k).toNat)
    · rw [if_pos e]; exact Or.inr ⟨k, by omega, rfl, e.1, e.2.1⟩
    · rw [if_neg e]
      rcases ih with ⟨h1, h2⟩ | ⟨t, h1, h2, h3, h4⟩
      · refine Or.inl ⟨h1, fun t ht htk => ?_⟩
        by_cases e2 : t = k
        · subst e2
          by_cases h : vw b t < n
          · exact h
          · exact absurd ⟨htk, by omega, Or.inl (by omega)⟩ e
        · exact h2 t (by omega) htk
      · exact Or.inr ⟨t, by omega, h2, h3, h4⟩
theorem bf_range (b : List Int) (tk : List Bool) (n : Int) (k : Nat) : bf b tk n k = -1 ∨ ∃ t : Nat, t < k ∧ bf b tk n k = t := by
  rcases bf_spec b tk n k with ⟨h, _⟩ | ⟨t, h1, h2, _⟩
  · exact Or.inl h
  · exact Or.inr ⟨t, h1, h2⟩

theorem best_ok {a b : List Int} {tk : List Bool} (htk : tk.length = b.length) (hb : b.length ≤ 32) {i : Nat} (hi : i < a.length) : loop (assign_Match_L26 a b tk i) (-1, 0) = some (bf b tk (vw a i) b.length) := by
  obtain ⟨r, h1, rfl⟩ := loop_inv (step := assign_Match_L26 a b tk i) (fun s => ∃ t : Nat, s = (bf b tk (vw a i) t, (t : Int)) ∧ t ≤ b.length) (fun s => b.length - s.2.toNat) (fun r => r = bf b tk (vw a i) b.length) (by
    rintro _ ⟨t, rfl, ht⟩
    unfold assign_Match_L26
    dsimp only
    by_cases hlt : t < b.length
    · left
      rw [if_pos (dpos (by omega)), vw_idx hlt, bw_idx (by omega : t < tk.length)]
      simp only [Option.bind_some]
      rw [vw_idx hi, wk1 (by omega)]
      simp only [Option.bind_some]
      have hs : bf b tk (vw a i) (t + 1) = if bw tk t = false ∧ vw a i ≤ vw b t ∧ (bf b tk (vw a i) t < 0 ∨ vw b t < vw b (bf b tk (vw a i) t).toNat) then (t : Int) else bf b tk (vw a i) t := rfl
      refine ⟨(bf b tk (vw a i) (t + 1), ((t + 1 : Nat) : Int)), ?_, ⟨t + 1, rfl, by omega⟩, by dsimp only; omega⟩
      rw [hs]
      by_cases e1 : bw tk t = true
      · rw [if_neg (by rw [e1]; simp), if_neg (by rw [e1]; simp)]
      · have e1' : bw tk t = false := by simpa using e1
        rw [if_pos (by rw [e1']; rfl)]
        by_cases e2 : vw b t ≥ vw a i
        · rw [if_pos (dpos e2)]
          by_cases e3 : bf b tk (vw a i) t < 0
          · rw [if_pos (dpos e3), if_pos ⟨e1', e2, Or.inl e3⟩]
          · rw [if_neg (dneg e3)]
            rcases bf_range b tk (vw a i) t with e | ⟨u, h5, h6⟩
            · omega
            · rw [h6, vw_idx (by omega : u < b.length)]
              simp only [Option.bind_some, Int.toNat_natCast]
              by_cases e4 : vw b t < vw b u
              · rw [if_pos (dpos e4), if_pos ⟨e1', e2, Or.inr e4⟩]
              · rw [if_neg (dneg e4), if_neg (by omega)]
        · rw [if_neg (dneg e2), if_neg (by omega)]
    · right
      rw [if_neg (dneg (by omega))]
      obtain rfl : t = b.length := by omega
      exact ⟨_, rfl, rfl⟩) (-1, 0) ⟨0, rfl, by omega⟩ (by dsimp only; omega)
  exact h1
theorem best_eq (a b : List Int) (tk : List Bool) (i : Int) (htk : tk.length = b.length) : r16_Match_L39 a b tk i = assign_Match_L26 a b tk i := by
  funext ⟨r, t⟩
  unfold r16_Match_L39 assign_Match_L26
  dsimp only
  by_cases h : t < (b.length : Int)
  · rw [if_pos (dpos h), if_pos (dpos h)]
    by_cases h0 : 0 ≤ t
    · obtain ⟨k, rfl⟩ : ∃ k : Nat, t = k := ⟨t.toNat, by omega⟩
      rw [vw_idx (by omega : k < b.length), bw_idx (by omega : k < tk.length)]
      cases bw tk k <;> rfl
    · have e1 : idx b t = none := by unfold idx; rw [if_neg h0]
      have e2 : idx tk t = none := by unfold idx; rw [if_neg h0]
      rw [e1, e2]; rfl
  · rw [if_neg (dneg h), if_neg (dneg h)]

/-! ### The greedy assignment -/
def gr (a b : List Int) : List Int → List Int → List Bool → Sum (List Int) (List Int)
  | [], l, tk => .inr l
  | i :: o, l, tk =>
    if bf b tk (vw a i.toNat) b.length < 0 then .inl [i]
    else match gr a b o (l.set i.toNat (bf b tk (vw a i.toNat) b.length)) (tk.set (bf b tk (vw a i.toNat) b.length).toNat true) with
      | .inl p => .inl (i :: p)
      | .inr l' => .inr l'
def onl (p : List Int) : Sum (List Int) (List Int) → Sum (List Int) (List Int)
  | .inl q => .inl (p ++ q)
  | .inr l => .inr l
/-- The loads of o have been given tracks: which of them stand where. -/
structure Asd (a b pre l : List Int) (tk : List Bool) : Prop where
  ll : l.length = a.length
  tl : tk.length = b.length
  at_ : ∀ i : Nat, (i : Int) ∈ pre → i < a.length ∧ 0 < vw a i ∧ ∃ t : Nat, t < b.length ∧ vw l i = t ∧ bw tk t = true ∧ vw a i ≤ vw b t
  nat : ∀ x ∈ pre, 0 ≤ x
  no : ∀ k, k < a.length → (k : Int) ∉ pre → vw l k = -1
  tk : ∀ t, t < b.length → bw tk t = true → ∃ i : Nat, (i : Int) ∈ pre ∧ vw l i = t
  inj : ∀ i j : Nat, (i : Int) ∈ pre → (j : Int) ∈ pre → vw l i = vw l j → i = j
theorem Asd.step {a b pre l : List Int} {tk : List Bool} (h : Asd a b pre l tk) {i t : Nat} (hi : i < a.length) (h0 : 0 < vw a i) (hn : (i : Int) ∉ pre) (ht : t < b.length) (hf : bw tk t = false) (hle : vw a i ≤ vw b t) :
    Asd a b (pre ++ [(i : Int)]) (l.set i t) (tk.set t true) := by
  have vl := vw_set (d := l) (i := i) (by rw [h.ll]; exact hi) (t : Int)
  have vt := bw_set (d := tk) (i := t) (by rw [h.tl]; exact ht) true
  have key : ∀ j : Nat, (j : Int) ∈ pre → j ≠ i := fun j hj e => hn (e ▸ hj)
  refine ⟨by simp [h.ll], by simp [h.tl], fun j hj => ?_, fun x hx => ?_, fun k hk hkn => ?_, fun u hu hut => ?_, fun j k hj hk e => ?_⟩
  · simp only [List.mem_append, List.mem_singleton] at hj
    rcases hj with hj | hj
    · obtain ⟨h1, h2, u, h3, h4, h5, h6⟩ := h.at_ j hj
      refine ⟨h1, h2, u, h3, by rw [vl, if_neg (key j hj)]; exact h4, ?_, h6⟩
      rw [vt]; split
      · rfl
      · exact h5
    · obtain rfl : j = i := by omega
      exact ⟨hi, h0, t, ht, by rw [vl, if_pos rfl], by rw [vt, if_pos rfl], hle⟩
  · simp only [List.mem_append, List.mem_singleton] at hx
    rcases hx with hx | rfl
    · exact h.nat x hx
    · omega
  · simp only [List.mem_append, List.mem_singleton, not_or] at hkn
    rw [vl, if_neg (by omega)]; exact h.no k hk hkn.1
  · rw [vt] at hut
    by_cases e : u = t
    · subst e; exact ⟨i, by simp, by rw [vl, if_pos rfl]⟩
    · rw [if_neg e] at hut
      obtain ⟨j, h1, h2⟩ := h.tk u hu hut
      exact ⟨j, by simp [h1], by rw [vl, if_neg (key j h1)]; exact h2⟩
  · simp only [List.mem_append, List.mem_singleton] at hj hk
    have free : ∀ j : Nat, (j : Int) ∈ pre → vw l j ≠ t := fun j hj e2 => by
      obtain ⟨_, _, u, h3, h4, h5, _⟩ := h.at_ j hj
      obtain rfl : u = t := by omega
      rw [hf] at h5; cases h5
    rcases hj with hj | hj <;> rcases hk with hk | hk
    · rw [vl, vl, if_neg (key j hj), if_neg (key k hk)] at e; exact h.inj j k hj hk e
    · obtain rfl : k = i := by omega
      rw [vl, vl, if_neg (key j hj), if_pos rfl] at e; exact absurd e (free j hj)
    · obtain rfl : j = i := by omega
      rw [vl, vl, if_neg (key k hk), if_pos rfl] at e; exact absurd e.symm (free k hk)
    · omega
/-- What the greedy assignment gives. -/
def Gok (a b pre o : List Int) : Sum (List Int) (List Int) → Prop
  | .inr l => ∃ tk, Asd a b (pre ++ o) l tk
  | .inl p => ∃ (q r : List Int) (i : Nat) (l : List Int) (tk : List Bool), o = q ++ (i : Int) :: r ∧ p = q ++ [(i : Int)] ∧ Asd a b (pre ++ q) l tk ∧ ∀ t, t < b.length → bw tk t = false → vw b t < vw a i
theorem gr_ok {a b : List Int} : ∀ (o pre l : List Int) (tk : List Bool), Asd a b pre l tk → (∀ x ∈ o, ∃ i : Nat, x = i ∧ i < a.length ∧ 0 < vw a i) → o.Nodup → (∀ x ∈ o, x ∉ pre) → Gok a b pre o (gr a b o l tk)
  | [], pre, l, tk, h, _, _, _ => ⟨tk, by rw [List.append_nil]; exact h⟩
  | x :: o, pre, l, tk, h, hx, hnd, hd => by
    obtain ⟨i, rfl, hi, h0⟩ := hx x List.mem_cons_self
    unfold gr
    rw [Int.toNat_natCast]
    rcases bf_spec b tk (vw a i) b.length with ⟨h1, h2⟩ | ⟨t, h1, h2, h3, h4⟩
    · rw [h1, if_pos (by omega)]
      exact ⟨[], o, i, l, tk, rfl, rfl, by rw [List.append_nil]; exact h, h2⟩
    · rw [h2, if_neg (by omega), Int.toNat_natCast]
      have hnc := List.nodup_cons.1 hnd
      have ih := gr_ok o (pre ++ [(i : Int)]) (l.set i t) (tk.set t true) (h.step hi h0 (hd _ List.mem_cons_self) h1 h3 h4) (fun x hx' => hx x (List.mem_cons_of_mem _ hx')) hnc.2 (fun x hx' hm => by
        simp only [List.mem_append, List.mem_singleton] at hm
        rcases hm with hm | rfl
        · exact hd x (List.mem_cons_of_mem _ hx') hm
        · exact hnc.1 hx')
      generalize hg : gr a b o (l.set i t) (tk.set t true) = g at ih
      cases g with
      | inl p =>
        obtain ⟨q, r, j, l', tk', e1, e2, e3, e4⟩ := ih
        exact ⟨(i : Int) :: q, r, j, l', tk', by rw [e1]; rfl, by rw [e2]; rfl, by rw [List.append_assoc] at e3; exact e3, e4⟩
      | inr l' =>
        obtain ⟨tk', e⟩ := ih
        exact ⟨tk', by rw [List.append_assoc] at e; exact e⟩
end Go.Proofs.Ytdbomhhcebmkpaa
