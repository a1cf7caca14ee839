/- Plain laws of the functions that the statement reaches, text by text. Conditions: those of each theorem. -/
import Derived.Test.YtlejnkhaphlooaaGreatPX0
import Derived.Test.YtlejnkhaphlooaaGreatGassign
import Derived.Test.YtlejnkhaphlooaaGreatGT
import Derived.Test.YtlejnkhaphlooaaGreatGlaw17sane
import Derived.Test.YtlejnkhaphlooaaGreatGPlannerLimits
set_option linter.unusedVariables false
set_option linter.unusedSimpArgs false
namespace Go.Proofs.YtlejnkhaphlooaaGreat
open Go Go.V Go.Proofs
def bw (l : List Bool) (k : Nat) : Bool := l.getD k false
theorem bw_idx {d : List Bool} {k : Nat} (h : k < d.length) : idx d (k : Int) = some (bw d k) := by
  rw [idx_nat]; unfold bw; rw [List.getD_eq_getElem?_getD, List.getElem?_eq_getElem h]; rfl
theorem vw_set {d : List Int} {i : Nat} (h : i < d.length) (x : Int) (k : Nat) : vw (d.set i x) k = if k = i then x else vw d k := by
  unfold vw
  rw [List.getD_eq_getElem?_getD, List.getElem?_set]
  by_cases e : k = i
  · subst e; simp [h]
  · rw [if_neg (fun h => e h.symm), if_neg e, List.getD_eq_getElem?_getD]
theorem bw_set {d : List Bool} {i : Nat} (h : i < d.length) (x : Bool) (k : Nat) : bw (d.set i x) k = if k = i then x else bw d k := by
  unfold bw
  rw [List.getD_eq_getElem?_getD, List.getElem?_set]
  by_cases e : k = i
  · subst e; simp [h]
  · rw [if_neg (fun h => e h.symm), if_neg e, List.getD_eq_getElem?_getD]
theorem vw_elem {d : List Int} {k : Nat} (h : k < d.length) : vw d k = d[k] := by unfold vw; rw [List.getD_eq_getElem?_getD, List.getElem?_eq_getElem h]; rfl
theorem vw_of_mem {d : List Int} {x : Int} (h : x ∈ d) : ∃ k, k < d.length ∧ vw d k = x := by
  obtain ⟨k, hk, e⟩ := List.getElem_of_mem h
  exact ⟨k, hk, by unfold vw; rw [List.getD_eq_getElem?_getD, List.getElem?_eq_getElem hk]; exact e⟩
def Vd (a b : List Int) : Prop := a.length ≤ 32 ∧ b.length ≤ 32 ∧ (∀ x ∈ a, 0 ≤ x ∧ x ≤ 38400) ∧ ∀ x ∈ b, 1 ≤ x ∧ x ≤ 38400
theorem chk_a (a : List Int) (h : a.length ≤ 32) : ∃ d, loop (assign_check_L5 a) 0 = some d ∧ ((d = .inl () ∧ ¬ ∀ x ∈ a, 0 ≤ x ∧ x ≤ 38400) ∨ (d = .inr () ∧ ∀ x ∈ a, 0 ≤ x ∧ x ≤ 38400)) := by
  refine loop_inv (fun s => ∃ i : Nat, s = (i : Int) ∧ i ≤ a.length ∧ ∀ k, k < i → 0 ≤ vw a k ∧ vw a k ≤ 38400) (fun s => a.length - s.toNat) _ ?_ 0 ⟨0, rfl, by omega, fun k hk => by omega⟩ (by omega)
  rintro _ ⟨i, rfl, hi, hk⟩
  unfold assign_check_L5
  dsimp only
  by_cases hlt : i < a.length
  · rw [if_pos (dpos (by omega)), vw_idx hlt]
    simp only [Option.bind_some]
    by_cases h0 : vw a i < 0
    · rw [if_pos (dpos h0)]; exact Or.inr ⟨_, rfl, Or.inl ⟨rfl, fun h => by have := h _ (vw_mem hlt); omega⟩⟩
    · rw [if_neg (dneg h0)]
      by_cases h1 : vw a i > 38400
      · rw [if_pos (dpos h1)]; exact Or.inr ⟨_, rfl, Or.inl ⟨rfl, fun h => by have := h _ (vw_mem hlt); omega⟩⟩
      · rw [if_neg (dneg h1), wk1 (by omega)]
        refine Or.inl ⟨_, rfl, ⟨i + 1, rfl, by omega, fun k hk2 => ?_⟩, by omega⟩
        by_cases e : k = i
        · subst e; omega
        · exact hk k (by omega)
  · rw [if_neg (dneg (by omega))]
    refine Or.inr ⟨_, rfl, Or.inr ⟨rfl, fun x hx => ?_⟩⟩
    obtain ⟨k, h1, rfl⟩ := vw_of_mem hx
    exact hk k (by omega)
theorem chk_b (a : List Int) (h : a.length ≤ 32) : ∃ d, loop (assign_check_L9 a) 0 = some d ∧ ((d = .inl () ∧ ¬ ∀ x ∈ a, 1 ≤ x ∧ x ≤ 38400) ∨ (d = .inr () ∧ ∀ x ∈ a, 1 ≤ x ∧ x ≤ 38400)) := by
  refine loop_inv (fun s => ∃ i : Nat, s = (i : Int) ∧ i ≤ a.length ∧ ∀ k, k < i → 1 ≤ vw a k ∧ vw a k ≤ 38400) (fun s => a.length - s.toNat) _ ?_ 0 ⟨0, rfl, by omega, fun k hk => by omega⟩ (by omega)
  rintro _ ⟨i, rfl, hi, hk⟩
  unfold assign_check_L9
  dsimp only
  by_cases hlt : i < a.length
  · rw [if_pos (dpos (by omega)), vw_idx hlt]
    simp only [Option.bind_some]
    by_cases h0 : vw a i < 1
    · rw [if_pos (dpos h0)]; exact Or.inr ⟨_, rfl, Or.inl ⟨rfl, fun h => by have := h _ (vw_mem hlt); omega⟩⟩
    · rw [if_neg (dneg h0)]
      by_cases h1 : vw a i > 38400
      · rw [if_pos (dpos h1)]; exact Or.inr ⟨_, rfl, Or.inl ⟨rfl, fun h => by have := h _ (vw_mem hlt); omega⟩⟩
      · rw [if_neg (dneg h1), wk1 (by omega)]
        refine Or.inl ⟨_, rfl, ⟨i + 1, rfl, by omega, fun k hk2 => ?_⟩, by omega⟩
        by_cases e : k = i
        · subst e; omega
        · exact hk k (by omega)
  · rw [if_neg (dneg (by omega))]
    refine Or.inr ⟨_, rfl, Or.inr ⟨rfl, fun x hx => ?_⟩⟩
    obtain ⟨k, h1, rfl⟩ := vw_of_mem hx
    exact hk k (by omega)
theorem check_ok (a b : List Int) : ∃ c, assign_check a b = some c ∧ (c = 0 ↔ Vd a b) := by
  unfold assign_check Vd
  by_cases h1 : a.length ≤ 32
  · rw [if_neg (dneg (by omega))]
    by_cases h2 : b.length ≤ 32
    · rw [if_neg (dneg (by omega))]
      obtain ⟨d, e1, e2⟩ := chk_a a h1
      rw [e1]
      rcases e2 with ⟨rfl, e2⟩ | ⟨rfl, e2⟩
      · exact ⟨2, rfl, by omega, fun h => absurd h.2.2.1 e2⟩
      · obtain ⟨d, e3, e4⟩ := chk_b b h2
        simp only [Option.bind_some]
        rw [e3]
        rcases e4 with ⟨rfl, e4⟩ | ⟨rfl, e4⟩
        · exact ⟨2, rfl, by omega, fun h => absurd h.2.2.2 e4⟩
        · exact ⟨0, rfl, fun _ => ⟨h1, h2, e2, e4⟩, fun _ => rfl⟩
    · rw [if_pos (dpos (by omega))]
      exact ⟨3, rfl, by omega, fun h => absurd h.2.1 h2⟩
  · rw [if_pos (dpos (by omega))]
    exact ⟨3, rfl, by omega, fun h => absurd h.1 h1⟩
theorem vw_pw {d : List Int} (h : d.Pairwise (· < ·)) : ∀ p q, p < q → q < d.length → vw d p < vw d q := fun p q h1 h2 => by
  rw [vw_elem (by omega : p < d.length), vw_elem h2]
  exact List.pairwise_iff_getElem.1 h p q (by omega) h2 h1
theorem wt_of {a : List Int} (h : ∀ x ∈ a, 0 ≤ x ∧ x ≤ 38400) : Wt a := fun x hx => by have := h x hx; omega
structure Ord (a o : List Int) : Prop where
  mem : ∀ x, x ∈ o ↔ ∃ i : Nat, i < a.length ∧ x = i ∧ 0 < vw a i
  srt : Srt a (vw o) 0 o.length
theorem aorder_ok {a : List Int} (hN : a.length ≤ LN) (ha : ∀ x ∈ a, 0 ≤ x ∧ x ≤ 38400) : ∃ o, assign_order a = some o ∧ Ord a o ∧ o.length ≤ 32 := by
  have hl := LN_le hN
  unfold assign_order
  obtain ⟨d, h1, h2, h3, h4⟩ := loop_inv (step := assign_order_L5 a) (fun s => ∃ i : Nat, s.2 = (i : Int) ∧ i ≤ a.length ∧ s.1.length ≤ i ∧ s.1.Pairwise (· < ·) ∧ ∀ x, x ∈ s.1 ↔ ∃ k : Nat, k < i ∧ x = k ∧ 0 < vw a k)
    (fun s => a.length - s.2.toNat) (fun d => d.length ≤ a.length ∧ d.Pairwise (· < ·) ∧ ∀ x, x ∈ d ↔ ∃ k : Nat, k < a.length ∧ x = k ∧ 0 < vw a k) (by
      rintro ⟨d, _⟩ ⟨i, rfl, hi, hdl, hp, hm⟩
      dsimp only at hdl hp hm ⊢
      unfold assign_order_L5
      dsimp only
      by_cases hlt : i < a.length
      · rw [if_pos (dpos (by omega)), vw_idx hlt]
        simp only [Option.bind_some]
        left
        by_cases h0 : vw a i > 0
        · rw [if_pos (dpos h0), if_pos (by simp only [List.length_singleton]; omega), wk1 (by omega)]
          refine ⟨_, rfl, ⟨i + 1, rfl, by omega, by simp; omega, ?_, fun x => ?_⟩, by dsimp only; omega⟩
          · refine List.pairwise_append.2 ⟨hp, List.pairwise_singleton _ _, fun x hx y hy => ?_⟩
            obtain ⟨k, h5, rfl, _⟩ := (hm x).1 hx
            simp only [List.mem_singleton] at hy
            omega
          · simp only [List.mem_append, List.mem_singleton, hm x]
            constructor
            · rintro (⟨k, h5, h6, h7⟩ | rfl)
              · exact ⟨k, by omega, h6, h7⟩
              · exact ⟨i, by omega, rfl, h0⟩
            · rintro ⟨k, h5, h6, h7⟩
              by_cases e : k = i
              · subst e; exact Or.inr h6
              · exact Or.inl ⟨k, by omega, h6, h7⟩
        · rw [if_neg (dneg h0), wk1 (by omega)]
          refine ⟨_, rfl, ⟨i + 1, rfl, by omega, by dsimp only; omega, hp, fun x => ?_⟩, by dsimp only; omega⟩
          rw [hm x]
          constructor
          · rintro ⟨k, h5, h6, h7⟩; exact ⟨k, by omega, h6, h7⟩
          · rintro ⟨k, h5, h6, h7⟩
            have : k ≠ i := fun e => by subst e; omega
            exact ⟨k, by omega, h6, h7⟩
      · right
        rw [if_neg (dneg (by omega))]
        obtain rfl : i = a.length := by omega
        exact ⟨_, rfl, hdl, hp, hm⟩) (([] : List Int), 0) ⟨0, rfl, by omega, by simp, List.Pairwise.nil, fun x => by simp⟩ (by dsimp only; omega)
  rw [h1]
  simp only [Option.bind_some]
  obtain ⟨o, h5, h6, h7⟩ := stable_ok (ld := a) (d := d) (wt_of ha) (fun x hx => by obtain ⟨k, h8, rfl, _⟩ := (h4 x).1 hx; omega) (vw_pw h3) (Nat.le_trans h2 hN)
  rw [h5]
  simp only [Option.bind_some]
  rw [if_pos h6.length_eq]
  refine ⟨o, rfl, ⟨fun x => ?_, by rw [h6.length_eq]; exact h7⟩, by rw [h6.length_eq]; omega⟩
  rw [h6.mem_iff, h4]
def bf (b : List Int) (tk : List Bool) (n : Int) : Nat → Int
  | 0 => -1
  | k + 1 => if bw tk k = false ∧ n ≤ vw b k ∧ (bf b tk n k < 0 ∨ vw b k < vw b (bf b tk n k).toNat) then (k : Int) else bf b tk n k
theorem bf_spec (b : List Int) (tk : List Bool) (n : Int) : ∀ k, (bf b tk n k = -1 ∧ ∀ t, t < k → bw tk t = false → vw b t < n) ∨ ∃ t : Nat, t < k ∧ bf b tk n k = t ∧ bw tk t = false ∧ n ≤ vw b t
  | 0 => Or.inl ⟨rfl, fun t h => by omega⟩
  | k + 1 => by
    have ih := bf_spec b tk n k
    unfold bf
    by_cases e : bw tk k = false ∧ n ≤ vw b k ∧ (bf b tk n k < 0 ∨ vw b k < vw b (bf b tk n k).toNat)
    · rw [if_pos e]; exact Or.inr ⟨k, by omega, rfl, e.1, e.2.1⟩
    · rw [if_neg e]
      rcases ih with ⟨h1, h2⟩ | ⟨t, h1, h2, h3, h4⟩
      · refine Or.inl ⟨h1, fun t ht htk => ?_⟩
        by_cases e2 : t = k
        · subst e2
          by_cases h : vw b t < n
          · exact h
          · exact absurd ⟨htk, by omega, Or.inl (by omega)⟩ e
        · exact h2 t (by omega) htk
      · exact Or.inr ⟨t, by omega, h2, h3, h4⟩
theorem bf_range (b : List Int) (tk : List Bool) (n : Int) (k : Nat) : bf b tk n k = -1 ∨ ∃ t : Nat, t < k ∧ bf b tk n k = t := by
  rcases bf_spec b tk n k with ⟨h, _⟩ | ⟨t, h1, h2, _⟩
  · exact Or.inl h
  · exact Or.inr ⟨t, h1, h2⟩
theorem best_ok {a b : List Int} {tk : List Bool} (htk : tk.length = b.length) (hb : b.length ≤ 32) {i : Nat} (hi : i < a.length) : loop (assign_Match_L23 a b tk i) (-1, 0) = some (bf b tk (vw a i) b.length) := by
  obtain ⟨r, h1, rfl⟩ := loop_inv (step := assign_Match_L23 a b tk i) (fun s => ∃ t : Nat, s = (bf b tk (vw a i) t, (t : Int)) ∧ t ≤ b.length) (fun s => b.length - s.2.toNat) (fun r => r = bf b tk (vw a i) b.length) (by
    rintro _ ⟨t, rfl, ht⟩
    unfold assign_Match_L23
    dsimp only
    by_cases hlt : t < b.length
    · left
      rw [if_pos (dpos (by omega)), vw_idx hlt, bw_idx (by omega : t < tk.length)]
      simp only [Option.bind_some]
      rw [vw_idx hi, wk1 (by omega)]
      simp only [Option.bind_some]
      have hs : bf b tk (vw a i) (t + 1) = if bw tk t = false ∧ vw a i ≤ vw b t ∧ (bf b tk (vw a i) t < 0 ∨ vw b t < vw b (bf b tk (vw a i) t).toNat) then (t : Int) else bf b tk (vw a i) t := rfl
      refine ⟨(bf b tk (vw a i) (t + 1), ((t + 1 : Nat) : Int)), ?_, ⟨t + 1, rfl, by omega⟩, by dsimp only; omega⟩
      rw [hs]
      by_cases e1 : bw tk t = true
      · rw [if_neg (by rw [e1]; simp), if_neg (by rw [e1]; simp)]
      · have e1' : bw tk t = false := by simpa using e1
        rw [if_pos (by rw [e1']; rfl)]
        by_cases e2 : vw b t ≥ vw a i
        · rw [if_pos (dpos e2)]
          by_cases e3 : bf b tk (vw a i) t < 0
          · rw [if_pos (dpos e3), if_pos ⟨e1', e2, Or.inl e3⟩]
          · rw [if_neg (dneg e3)]
            rcases bf_range b tk (vw a i) t with e | ⟨u, h5, h6⟩
            · omega
            · rw [h6, vw_idx (by omega : u < b.length)]
              simp only [Option.bind_some, Int.toNat_natCast]
              by_cases e4 : vw b t < vw b u
              · rw [if_pos (dpos e4), if_pos ⟨e1', e2, Or.inr e4⟩]
              · rw [if_neg (dneg e4), if_neg (by omega)]
        · rw [if_neg (dneg e2), if_neg (by omega)]
    · right
      rw [if_neg (dneg (by omega))]
      obtain rfl : t = b.length := by omega
      exact ⟨_, rfl, rfl⟩) (-1, 0) ⟨0, rfl, by omega⟩ (by dsimp only; omega)
  exact h1
def gr (a b : List Int) : List Int → List Int → List Bool → Sum (List Int) (List Int)
  | [], l, tk => .inr l
  | i :: o, l, tk =>
    if bf b tk (vw a i.toNat) b.length < 0 then .inl [i]
    else match gr a b o (l.set i.toNat (bf b tk (vw a i.toNat) b.length)) (tk.set (bf b tk (vw a i.toNat) b.length).toNat true) with
      | .inl p => .inl (i :: p)
      | .inr l' => .inr l'
def onl (p : List Int) : Sum (List Int) (List Int) → Sum (List Int) (List Int)
  | .inl q => .inl (p ++ q)
  | .inr l => .inr l
structure Asd (a b pre l : List Int) (tk : List Bool) : Prop where
  ll : l.length = a.length
  tl : tk.length = b.length
  at_ : ∀ i : Nat, (i : Int) ∈ pre → i < a.length ∧ 0 < vw a i ∧ ∃ t : Nat, t < b.length ∧ vw l i = t ∧ bw tk t = true ∧ vw a i ≤ vw b t
  nat : ∀ x ∈ pre, 0 ≤ x
  no : ∀ k, k < a.length → (k : Int) ∉ pre → vw l k = -1
  tk : ∀ t, t < b.length → bw tk t = true → ∃ i : Nat, (i : Int) ∈ pre ∧ vw l i = t
  inj : ∀ i j : Nat, (i : Int) ∈ pre → (j : Int) ∈ pre → vw l i = vw l j → i = j
theorem Asd.step {a b pre l : List Int} {tk : List Bool} (h : Asd a b pre l tk) {i t : Nat} (hi : i < a.length) (h0 : 0 < vw a i) (hn : (i : Int) ∉ pre) (ht : t < b.length) (hf : bw tk t = false) (hle : vw a i ≤ vw b t) :
    Asd a b (pre ++ [(i : Int)]) (l.set i t) (tk.set t true) := by
  have vl := vw_set (d := l) (i := i) (by rw [h.ll]; exact hi) (t : Int)
  have vt := bw_set (d := tk) (i := t) (by rw [h.tl]; exact ht) true
  have key : ∀ j : Nat, (j : Int) ∈ pre → j ≠ i := fun j hj e => hn (e ▸ hj)
  refine ⟨by simp [h.ll], by simp [h.tl], fun j hj => ?_, fun x hx => ?_, fun k hk hkn => ?_, fun u hu hut => ?_, fun j k hj hk e => ?_⟩
  · simp only [List.mem_append, List.mem_singleton] at hj
    rcases hj with hj | hj
    · obtain ⟨h1, h2, u, h3, h4, h5, h6⟩ := h.at_ j hj
      refine ⟨h1, h2, u, h3, by rw [vl, if_neg (key j hj)]; exact h4, ?_, h6⟩
      rw [vt]; split
      · rfl
      · exact h5
    · obtain rfl : j = i := by omega
      exact ⟨hi, h0, t, ht, by rw [vl, if_pos rfl], by rw [vt, if_pos rfl], hle⟩
  · simp only [List.mem_append, List.mem_singleton] at hx
    rcases hx with hx | rfl
    · exact h.nat x hx
    · omega
  · simp only [List.mem_append, List.mem_singleton, not_or] at hkn
    rw [vl, if_neg (by omega)]; exact h.no k hk hkn.1
  · rw [vt] at hut
    by_cases e : u = t
    · subst e; exact ⟨i, by simp, by rw [vl, if_pos rfl]⟩
    · rw [if_neg e] at hut
      obtain ⟨j, h1, h2⟩ := h.tk u hu hut
      exact ⟨j, by simp [h1], by rw [vl, if_neg (key j h1)]; exact h2⟩
  · simp only [List.mem_append, List.mem_singleton] at hj hk
    have free : ∀ j : Nat, (j : Int) ∈ pre → vw l j ≠ t := fun j hj e2 => by
      obtain ⟨_, _, u, h3, h4, h5, _⟩ := h.at_ j hj
      obtain rfl : u = t := by omega
      rw [hf] at h5; cases h5
    rcases hj with hj | hj <;> rcases hk with hk | hk
    · rw [vl, vl, if_neg (key j hj), if_neg (key k hk)] at e; exact h.inj j k hj hk e
    · obtain rfl : k = i := by omega
      rw [vl, vl, if_neg (key j hj), if_pos rfl] at e; exact absurd e (free j hj)
    · obtain rfl : j = i := by omega
      rw [vl, vl, if_neg (key k hk), if_pos rfl] at e; exact absurd e.symm (free k hk)
    · omega
def Gok (a b pre o : List Int) : Sum (List Int) (List Int) → Prop
  | .inr l => ∃ tk, Asd a b (pre ++ o) l tk
  | .inl p => ∃ (q r : List Int) (i : Nat) (l : List Int) (tk : List Bool), o = q ++ (i : Int) :: r ∧ p = q ++ [(i : Int)] ∧ Asd a b (pre ++ q) l tk ∧ ∀ t, t < b.length → bw tk t = false → vw b t < vw a i
theorem gr_ok {a b : List Int} : ∀ (o pre l : List Int) (tk : List Bool), Asd a b pre l tk → (∀ x ∈ o, ∃ i : Nat, x = i ∧ i < a.length ∧ 0 < vw a i) → o.Nodup → (∀ x ∈ o, x ∉ pre) → Gok a b pre o (gr a b o l tk)
  | [], pre, l, tk, h, _, _, _ => ⟨tk, by rw [List.append_nil]; exact h⟩
  | x :: o, pre, l, tk, h, hx, hnd, hd => by
    obtain ⟨i, rfl, hi, h0⟩ := hx x List.mem_cons_self
    unfold gr
    rw [Int.toNat_natCast]
    rcases bf_spec b tk (vw a i) b.length with ⟨h1, h2⟩ | ⟨t, h1, h2, h3, h4⟩
    · rw [h1, if_pos (by omega)]
      exact ⟨[], o, i, l, tk, rfl, rfl, by rw [List.append_nil]; exact h, h2⟩
    · rw [h2, if_neg (by omega), Int.toNat_natCast]
      have hnc := List.nodup_cons.1 hnd
      have ih := gr_ok o (pre ++ [(i : Int)]) (l.set i t) (tk.set t true) (h.step hi h0 (hd _ List.mem_cons_self) h1 h3 h4) (fun x hx' => hx x (List.mem_cons_of_mem _ hx')) hnc.2 (fun x hx' hm => by
        simp only [List.mem_append, List.mem_singleton] at hm
        rcases hm with hm | rfl
        · exact hd x (List.mem_cons_of_mem _ hx') hm
        · exact hnc.1 hx')
      generalize hg : gr a b o (l.set i t) (tk.set t true) = g at ih
      cases g with
      | inl p =>
        obtain ⟨q, r, j, l', tk', e1, e2, e3, e4⟩ := ih
        exact ⟨(i : Int) :: q, r, j, l', tk', by rw [e1]; rfl, by rw [e2]; rfl, by rw [List.append_assoc] at e3; exact e3, e4⟩
      | inr l' =>
        obtain ⟨tk', e⟩ := ih
        exact ⟨tk', by rw [List.append_assoc] at e; exact e⟩
end Go.Proofs.YtlejnkhaphlooaaGreat
set_option linter.unusedVariables false
set_option linter.unusedSimpArgs false
namespace Go.Proofs.YtlejnkhaphlooaaGreat
open Go Go.V Go.Proofs
theorem vw_ext {l k : List Int} (h : l.length = k.length) (e : ∀ i, i < l.length → vw l i = vw k i) : l = k := by
  refine List.ext_getElem h fun i h1 h2 => ?_
  have := e i h1
  rw [vw_elem h1, vw_elem h2] at this
  exact this
theorem strict_of {l : List Int} (h : l.Pairwise (· ≤ ·)) (hn : l.Nodup) : l.Pairwise (· < ·) :=
  List.Pairwise.imp₂ (fun a b h1 h2 => by omega) h hn
theorem sortI_strict {p : List Int} (h : p.Nodup) : (sortI p).Pairwise (· < ·) := strict_of (sortI_sorted p) ((sortI_perm p).nodup_iff.2 h)
theorem Ord.nodup {a o : List Int} (h : Ord a o) : o.Nodup := by
  refine List.pairwise_iff_getElem.2 fun i j h1 h2 hij e => ?_
  have := h.srt i j (Nat.zero_le _) hij h2
  rw [vw_elem h1, vw_elem h2, e] at this
  exact ls_irr this
def neg1 (n : Nat) : List Int := List.replicate n (-1)
theorem fill_ok (a : List Int) (hl : a.length ≤ 32) : loop (assign_Match_L9 a) ((List.replicate (Int.toNat ((a).length : Int)) 0 : List Int), 0) = some (neg1 a.length) := by
  obtain ⟨d, h1, rfl⟩ := loop_inv (step := assign_Match_L9 a) (fun s => ∃ i : Nat, s.2 = (i : Int) ∧ i ≤ a.length ∧ s.1.length = a.length ∧ ∀ k, k < i → vw s.1 k = -1) (fun s => a.length - s.2.toNat) (fun d => d = neg1 a.length) (by
    rintro ⟨d, _⟩ ⟨i, rfl, hi, hdl, hk⟩
    dsimp only at hdl hk ⊢
    unfold assign_Match_L9
    dsimp only
    by_cases hlt : i < a.length
    · left
      rw [if_pos (dpos (by simp; omega)), vw_idx (by omega : i < d.length)]
      simp only [Option.bind_some, Int.toNat_natCast]
      rw [wk1 (by omega)]
      refine ⟨_, rfl, ⟨i + 1, rfl, by omega, by simp [hdl], fun k hk2 => ?_⟩, by dsimp only; omega⟩
      dsimp only
      rw [vw_set (by omega)]
      split
      · rfl
      · exact hk k (by omega)
    · right
      rw [if_neg (dneg (by simp; omega))]
      refine ⟨_, rfl, vw_ext (by simp [neg1, hdl]) fun k hk2 => ?_⟩
      rw [hk k (by omega), vw_elem (by simp [neg1]; omega)]
      simp [neg1]) (List.replicate (Int.toNat ((a).length : Int)) 0, 0) ⟨0, rfl, by omega, by simp, fun k hk => by omega⟩ (by dsimp only; omega)
  exact h1
def nofree (n : Nat) : List Bool := List.replicate n false
def res : Sum (List Int) (List Int) → (List Int) × (List Int) × Int
  | .inl p => ([], sortI p, 14)
  | .inr l => (l, [], 0)
theorem onl_onl {p q : List Int} {g : Sum (List Int) (List Int)} : onl p (onl q g) = onl (p ++ q) g := by
  cases g <;> simp [onl]
theorem gr_cons (a b : List Int) (i : Nat) (o l : List Int) (tk : List Bool) : gr a b ((i : Int) :: o) l tk = if bf b tk (vw a i) b.length < 0 then .inl [(i : Int)] else onl [(i : Int)] (gr a b o (l.set i (bf b tk (vw a i) b.length)) (tk.set (bf b tk (vw a i) b.length).toNat true)) := by
  conv => lhs; unfold gr
  rw [Int.toNat_natCast]
  split
  · rfl
  · cases gr a b o (l.set i (bf b tk (vw a i) b.length)) (tk.set (bf b tk (vw a i) b.length).toNat true) <;> rfl
theorem take_one {o : List Int} {t : Nat} (h : t < o.length) : o.take (t + 1) = o.take t ++ [vw o t] := by rw [List.take_succ_eq_append_getElem h, vw_elem h]
theorem drop_one {o : List Int} {t : Nat} (h : t < o.length) : o.drop t = vw o t :: o.drop (t + 1) := by rw [List.drop_eq_getElem_cons h, vw_elem h]
theorem match_ok {a b : List Int} (hV : Vd a b) (hN : a.length ≤ LN) : ∃ o, assign_order a = some o ∧ Ord a o ∧ o.length ≤ 32 ∧ assign_Match a b = some (res (gr a b o (neg1 a.length) (nofree b.length))) := by
  obtain ⟨ha, hb, hv, hw⟩ := hV
  obtain ⟨o, ho, hO, hol⟩ := aorder_ok hN hv
  refine ⟨o, ho, hO, hol, ?_⟩
  obtain ⟨c, hc, hc0⟩ := check_ok a b
  obtain rfl := hc0.2 ⟨ha, hb, hv, hw⟩
  unfold assign_Match
  rw [hc]
  simp only [Option.bind_some]
  rw [if_neg (by decide), if_pos (by omega), fill_ok a ha]
  simp only [Option.bind_some]
  rw [if_pos (by omega), ho]
  simp only [Option.bind_some]
  have hg : ∀ t, t < o.length → ∃ i : Nat, vw o t = i ∧ i < a.length ∧ 0 < vw a i := fun t ht => by
    obtain ⟨i, h1, h2, h3⟩ := (hO.mem _).1 (vw_mem ht)
    exact ⟨i, h2, h1, h3⟩
  obtain ⟨r, h1, h2⟩ := loop_inv (step := assign_Match_L18 a b o) (fun s => ∃ t : Nat, s.2.2 = (t : Int) ∧ t ≤ o.length ∧ s.1.length = a.length ∧ s.2.1.length = b.length ∧ gr a b o (neg1 a.length) (nofree b.length) = onl (o.take t) (gr a b (o.drop t) s.1 s.2.1)) (fun s => o.length - s.2.2.toNat)
    (fun r => match r with | .inl q => ∃ p, gr a b o (neg1 a.length) (nofree b.length) = .inl p ∧ q = sortI p | .inr l => gr a b o (neg1 a.length) (nofree b.length) = .inr l) (by
      rintro ⟨l, tk, _⟩ ⟨t, rfl, ht, hl, htl, hgr⟩
      dsimp only at hl htl hgr ⊢
      unfold assign_Match_L18
      dsimp only
      by_cases hlt : t < o.length
      · obtain ⟨i, e1, e2, e3⟩ := hg t hlt
        rw [if_pos (dpos (by omega)), vw_idx hlt]
        simp only [Option.bind_some]
        rw [e1, best_ok htl hb e2]
        simp only [Option.bind_some]
        rw [drop_one hlt, e1] at hgr
        rw [gr_cons] at hgr
        rcases bf_range b tk (vw a i) b.length with h5 | ⟨u, h5, h6⟩
        · right
          rw [h5] at hgr ⊢
          rw [if_pos (by omega)] at hgr
          rw [if_pos (dpos (by omega)), wk1 (by omega), if_pos (by omega)]
          have hcl : slices_Clone_int_int_ ((o.drop (Int.toNat (0 : Int))).take (Int.toNat ((t + 1 : Nat) : Int) - Int.toNat (0 : Int))) = some (o.take (t + 1)) := by
            unfold slices_Clone_int_int_
            simp only [Int.toNat_natCast, Int.toNat_zero, List.drop_zero, Nat.sub_zero, List.nil_append]
            rw [if_pos (by simp; omega)]
          rw [hcl]
          simp only [Option.bind_some]
          rw [if_pos ⟨by rw [take_one hlt]; simp, by simp; omega⟩]
          exact ⟨_, rfl, _, hgr, by rw [take_one hlt, e1]⟩
        · left
          rw [h6] at hgr ⊢
          rw [if_neg (by omega), Int.toNat_natCast, onl_onl] at hgr
          rw [if_neg (dneg (by omega)), bw_idx (by omega : u < tk.length)]
          simp only [Option.bind_some]
          rw [vw_idx (by omega : i < l.length)]
          simp only [Option.bind_some, Int.toNat_natCast]
          rw [wk1 (by omega)]
          exact ⟨_, rfl, ⟨t + 1, rfl, by omega, by simp [hl], by simp [htl], by rw [hgr, take_one hlt, e1]⟩, by dsimp only; omega⟩
      · right
        rw [if_neg (dneg (by omega))]
        obtain rfl : t = o.length := by omega
        rw [List.drop_length] at hgr
        exact ⟨_, rfl, hgr⟩) (neg1 a.length, List.replicate (Int.toNat ((b).length : Int)) false, 0) ⟨0, rfl, by omega, by simp [neg1], by simp, by
        dsimp only
        rw [List.drop_zero, List.take_zero]
        show _ = onl [] (gr a b o (neg1 a.length) (List.replicate (Int.toNat ((b).length : Int)) false))
        rw [Int.toNat_natCast]
        show gr a b o (neg1 a.length) (nofree b.length) = onl [] (gr a b o (neg1 a.length) (nofree b.length))
        cases gr a b o (neg1 a.length) (nofree b.length) <;> simp [onl]⟩ (by dsimp only; omega)
  rw [h1]
  cases r with
  | inl q => obtain ⟨p, h3, rfl⟩ := h2; rw [h3]; rfl
  | inr l =>
    have h2' : gr a b o (neg1 a.length) (nofree b.length) = .inr l := h2
    rw [h2']; rfl
theorem match_bad {a b : List Int} (hV : ¬ Vd a b) : ∃ c, assign_check a b = some c ∧ c ≠ 0 ∧ c ≠ 14 ∧ assign_Match a b = some ([], [], c) := by
  obtain ⟨c, hc, hc0⟩ := check_ok a b
  have hne : c ≠ 0 := fun e => hV (hc0.1 e)
  have h14 : c ≠ 14 := by
    intro e
    subst e
    unfold assign_check at hc
    split at hc
    · cases hc
    · split at hc
      · cases hc
      · rename_i q1 q2
        obtain ⟨d, e1, e2⟩ := chk_a a (by simp at q1; omega)
        obtain ⟨d', e3, e4⟩ := chk_b b (by simp at q2; omega)
        rw [e1] at hc
        simp only [Option.bind_some] at hc
        rw [e3] at hc
        rcases e2 with ⟨rfl, _⟩ | ⟨rfl, _⟩
        · cases hc
        · rcases e4 with ⟨rfl, _⟩ | ⟨rfl, _⟩ <;> cases hc
  refine ⟨c, hc, hne, h14, ?_⟩
  unfold assign_Match; rw [hc]; simp only [Option.bind_some]; rw [if_pos (by simpa using hne)]
theorem match_spec (a b : List Int) (hN : a.length ≤ LN) : ∃ r, assign_Match a b = some r ∧ (¬ Vd a b → r.1 = [] ∧ r.2.1 = [] ∧ r.2.2 ≠ 0 ∧ r.2.2 ≠ 14) := by
  by_cases hV : Vd a b
  · obtain ⟨o, _, hO, hol, h1⟩ := match_ok hV hN
    exact ⟨_, h1, fun h => absurd hV h⟩
  · obtain ⟨c, hc, hne, h14, h1⟩ := match_bad hV
    exact ⟨_, h1, fun _ => ⟨rfl, rfl, hne, h14⟩⟩
end Go.Proofs.YtlejnkhaphlooaaGreat
set_option linter.unusedVariables false
set_option linter.unusedSimpArgs false
namespace Go.Proofs.YtlejnkhaphlooaaGreat
open Go Go.V Go.Proofs
theorem len_le {α : Type} [DecidableEq α] : ∀ (l m : List α), l.Nodup → (∀ x, x ∈ l → x ∈ m) → l.length ≤ m.length
  | [], m, _, _ => Nat.zero_le _
  | x :: l, m, hn, hs => by
    have h := List.nodup_cons.1 hn
    have hx : x ∈ m := hs x List.mem_cons_self
    have := len_le l (m.erase x) h.2 fun y hy => by
      have hyx : y ≠ x := fun e => h.1 (e ▸ hy)
      exact (List.mem_erase_of_ne hyx).2 (hs y (List.mem_cons_of_mem _ hy))
    rw [List.length_erase_of_mem hx] at this
    have hp : 0 < m.length := List.length_pos_of_mem hx
    simp only [List.length_cons]
    omega
def tl (b : List Int) (n : Int) (k : Nat) : List Nat := (List.range k).filter fun t => decide (n ≤ vw b t)
theorem tl_mem {b : List Int} {n : Int} {k t : Nat} : t ∈ tl b n k ↔ t < k ∧ n ≤ vw b t := by unfold tl; simp
theorem tl_nodup (b : List Int) (n : Int) (k : Nat) : (tl b n k).Nodup := List.nodup_range.filter _
def Few (a b : List Int) : Prop := ∃ k, k < a.length ∧ 0 < vw a k ∧ (tl b (vw a k) b.length).length < (tl a (vw a k) a.length).length
structure Asg (a b l : List Int) : Prop where
  ll : l.length = a.length
  z : ∀ i, i < a.length → vw a i = 0 → vw l i = -1
  at_ : ∀ i, i < a.length → vw a i ≠ 0 → ∃ t : Nat, t < b.length ∧ vw l i = t ∧ vw a i ≤ vw b t
  inj : ∀ i j, i < a.length → j < a.length → vw a i ≠ 0 → vw a j ≠ 0 → vw l i = vw l j → i = j
theorem nofew_f {a b : List Int} (f : Nat → Nat) (hat : ∀ i, i < a.length → vw a i ≠ 0 → f i < b.length ∧ vw a i ≤ vw b (f i)) (hinj : ∀ i j, i < a.length → j < a.length → vw a i ≠ 0 → vw a j ≠ 0 → f i = f j → i = j) : ¬ Few a b := by
  rintro ⟨k, hk, h0, hlt⟩
  have hin : ∀ i, i ∈ tl a (vw a k) a.length → i < a.length ∧ vw a i ≠ 0 := fun i hi => by
    have := tl_mem.1 hi
    exact ⟨this.1, by omega⟩
  have h1 : ((tl a (vw a k) a.length).map f).Nodup := by
    refine List.pairwise_map.2 (List.Pairwise.imp_of_mem ?_ (tl_nodup a (vw a k) a.length))
    intro i j hi hj hne e
    exact hne (hinj i j (hin i hi).1 (hin j hj).1 (hin i hi).2 (hin j hj).2 e)
  have h2 := len_le _ (tl b (vw a k) b.length) h1 fun x hx => by
    obtain ⟨i, hi, rfl⟩ := List.mem_map.1 hx
    obtain ⟨ht, e2⟩ := hat i (hin i hi).1 (hin i hi).2
    have := tl_mem.1 hi
    exact tl_mem.2 ⟨ht, by omega⟩
  rw [List.length_map] at h2
  omega
structure Rfs (a b r : List Int) : Prop where
  asc : r.Pairwise (· < ·)
  mem : ∀ x ∈ r, ∃ i : Nat, x = i ∧ i < a.length ∧ 0 < vw a i
  least : ∃ i : Nat, (i : Int) ∈ r ∧ (∀ j : Nat, (j : Int) ∈ r → vw a i ≤ vw a j) ∧ (tl b (vw a i) b.length).length < r.length
theorem Rfs.few {a b r : List Int} (h : Rfs a b r) : Few a b := by
  obtain ⟨i, hi, hle, hlt⟩ := h.least
  obtain ⟨i', e, h1, h2⟩ := h.mem _ hi
  obtain rfl : i = i' := by omega
  refine ⟨i, h1, h2, Nat.lt_of_lt_of_le hlt ?_⟩
  have hnd : (r.map Int.toNat).Nodup := by
    refine List.pairwise_map.2 (List.Pairwise.imp_of_mem ?_ h.asc)
    intro x y hx hy hxy e
    obtain ⟨j, rfl, _, _⟩ := h.mem x hx
    obtain ⟨k, rfl, _, _⟩ := h.mem y hy
    omega
  have := len_le _ (tl a (vw a i) a.length) hnd fun x hx => by
    obtain ⟨y, hy, rfl⟩ := List.mem_map.1 hx
    obtain ⟨j, rfl, h3, h4⟩ := h.mem y hy
    rw [Int.toNat_natCast]
    exact tl_mem.2 ⟨h3, hle j hy⟩
  rwa [List.length_map] at this
theorem asd_nil (a b : List Int) : Asd a b [] (neg1 a.length) (nofree b.length) :=
  ⟨by simp [neg1], by simp [nofree], fun i h => (by cases h), fun x h => (by cases h), fun k hk _ => by
    rw [vw_elem (by simp [neg1]; omega)]; simp [neg1], fun t ht h => by
    have : bw (nofree b.length) t = false := by
      unfold bw nofree
      rw [List.getD_eq_getElem?_getD, List.getElem?_eq_getElem (by simp; omega)]
      simp
    rw [this] at h
    exact Bool.noConfusion h, fun i j h => (by cases h)⟩
theorem greedy {a b o : List Int} (hV : Vd a b) (hO : Ord a o) : (∃ l, gr a b o (neg1 a.length) (nofree b.length) = .inr l ∧ Asg a b l) ∨ ∃ p, gr a b o (neg1 a.length) (nofree b.length) = .inl p ∧ Rfs a b (sortI p) := by
  have hx : ∀ x ∈ o, ∃ i : Nat, x = i ∧ i < a.length ∧ 0 < vw a i := fun x hx => by
    obtain ⟨i, h1, h2, h3⟩ := (hO.mem x).1 hx
    exact ⟨i, h2, h1, h3⟩
  have h := gr_ok (b := b) o [] _ _ (asd_nil a b) hx hO.nodup (fun x _ h => by cases h)
  generalize gr a b o (neg1 a.length) (nofree b.length) = g at h
  cases g with
  | inr l =>
    left
    obtain ⟨tk, hA⟩ := h
    rw [List.nil_append] at hA
    have hpos : ∀ i, i < a.length → vw a i ≠ 0 → (i : Int) ∈ o := fun i hi h0 => (hO.mem _).2 ⟨i, hi, rfl, by have := hV.2.2.1 _ (vw_mem hi); omega⟩
    refine ⟨l, rfl, hA.ll, fun i hi h0 => hA.no i hi fun hm => ?_, fun i hi h0 => ?_, fun i j hi hj h1 h2 e => hA.inj i j (hpos i hi h1) (hpos j hj h2) e⟩
    · obtain ⟨j, _, e, h2⟩ := (hO.mem _).1 hm
      obtain rfl : i = j := by omega
      omega
    · obtain ⟨_, _, t, h3, h4, _, h5⟩ := hA.at_ i (hpos i hi h0)
      exact ⟨t, h3, h4, h5⟩
  | inl p =>
    right
    obtain ⟨q, r, i, l, tk, rfl, rfl, hA, hfree⟩ := h
    rw [List.nil_append] at hA
    refine ⟨_, rfl, ?_⟩
    have hnd := hO.nodup
    have hq : (q ++ [(i : Int)]).Nodup := by
      refine hnd.sublist ?_
      exact List.Sublist.append_left (by simp) q
    have hper := sortI_perm (q ++ [(i : Int)])
    obtain ⟨i', e, hi, h0⟩ := hx (i : Int) (by simp)
    obtain rfl : i = i' := by omega
    refine ⟨sortI_strict hq, fun x hx' => hx x ?_, i, hper.mem_iff.2 (by simp), fun j hj => ?_, ?_⟩
    · have := hper.mem_iff.1 hx'
      simp only [List.mem_append, List.mem_singleton] at this
      rcases this with h | h
      · simp [h]
      · simp [h]
    · have := hper.mem_iff.1 hj
      simp only [List.mem_append, List.mem_singleton] at this
      rcases this with h | h
      · obtain ⟨k, hk, e2⟩ := vw_of_mem h
        have hs := hO.srt k q.length (Nat.zero_le _) hk (by simp)
        have e3 : vw (q ++ (i : Int) :: r) k = j := by
          rw [vw_elem (by simp; omega), List.getElem_append_left hk, ← vw_elem hk]; exact e2
        have e4 : vw (q ++ (i : Int) :: r) q.length = i := by
          rw [vw_elem (by simp)]; simp
        rw [e3, e4] at hs
        have key : ∀ i : Nat, ky a (i : Int) = vw a i := fun i => by unfold ky vw; rw [Int.toNat_natCast]
        unfold ls at hs
        rw [key, key] at hs
        omega
      · obtain rfl : j = i := by omega
        exact Int.le_refl _
    · rw [hper.length_eq, List.length_append, List.length_singleton]
      have := len_le (tl b (vw a i) b.length) (q.map fun x => (vw l x.toNat).toNat) (tl_nodup _ _ _) fun t ht => by
        obtain ⟨h1, h2⟩ := tl_mem.1 ht
        cases hb : bw tk t with
        | false => have := hfree t h1 hb; omega
        | true =>
          obtain ⟨j, h3, h4⟩ := hA.tk t h1 hb
          exact List.mem_map.2 ⟨(j : Int), h3, by rw [Int.toNat_natCast, h4, Int.toNat_natCast]⟩
      rw [List.length_map] at this
      omega
theorem match_two {a b : List Int} (hV : Vd a b) (hN : a.length ≤ LN) : (∃ l, assign_Match a b = some (l, [], 0) ∧ Asg a b l) ∨ ∃ r, assign_Match a b = some ([], r, 14) ∧ Rfs a b r := by
  obtain ⟨o, _, hO, _, h1⟩ := match_ok hV hN
  rcases greedy hV hO with ⟨l, h2, h3⟩ | ⟨p, h2, h3⟩
  · exact Or.inl ⟨l, by rw [h1, h2]; rfl, h3⟩
  · exact Or.inr ⟨_, by rw [h1, h2]; rfl, h3⟩
theorem fits_ok {a b l : List Int} (hV : Vd a b) (hA : Asg a b l) : assign_Fits a b l = some true := by
  obtain ⟨c, hc, hc0⟩ := check_ok a b
  obtain rfl := hc0.2 hV
  obtain ⟨ha, hb, hv, hw⟩ := hV
  unfold assign_Fits
  rw [hc]
  simp only [Option.bind_some]
  have hl := hA.ll
  rw [if_neg (by decide), if_neg (by simp [hl]), if_pos (by omega)]
  obtain ⟨d, h1, rfl⟩ := loop_inv (step := assign_Fits_L9 a b l) (fun s => ∃ t : Nat, s.2 = (t : Int) ∧ t ≤ l.length ∧ s.1.length = b.length ∧ ∀ u, u < b.length → bw s.1 u = true → ∃ j, j < t ∧ vw a j ≠ 0 ∧ vw l j = u) (fun s => l.length - s.2.toNat) (fun d => d = .inr ()) (by
    rintro ⟨tk, _⟩ ⟨t, rfl, ht, htl, htk⟩
    dsimp only at htl htk ⊢
    unfold assign_Fits_L9
    dsimp only
    by_cases hlt : t < l.length
    · rw [if_pos (dpos (by omega)), vw_idx hlt, vw_idx (by omega : t < a.length)]
      simp only [Option.bind_some]
      rw [wk1 (by omega)]
      left
      by_cases e1 : vw a t = 0
      · rw [if_pos (by simp [e1]), if_neg (by simp [hA.z t (by omega) e1])]
        refine ⟨_, rfl, ⟨t + 1, rfl, by omega, htl, fun u hu htu => ?_⟩, by dsimp only; omega⟩
        obtain ⟨j, h2, h3, h4⟩ := htk u hu htu
        exact ⟨j, by omega, h3, h4⟩
      · obtain ⟨u, h2, h3, h4⟩ := hA.at_ t (by omega) e1
        rw [if_neg (by simp [e1]), h3, if_neg (dneg (by omega)), if_neg (dneg (by omega)), bw_idx (by omega : u < tk.length), vw_idx h2]
        simp only [Option.bind_some]
        have hf : bw tk u = false := by
          cases hb2 : bw tk u with
          | false => rfl
          | true =>
            obtain ⟨j, h5, h6, h7⟩ := htk u h2 hb2
            have := hA.inj j t (by omega) (by omega) h6 e1 (by omega)
            omega
        rw [hf, if_neg (by simp), if_neg (dneg (by omega))]
        refine ⟨_, rfl, ⟨t + 1, rfl, by omega, by simp [htl], fun v hv htv => ?_⟩, by dsimp only; omega⟩
        dsimp only at htv
        rw [Int.toNat_natCast, bw_set (by omega)] at htv
        by_cases ev : v = u
        · subst ev; exact ⟨t, by omega, e1, h3⟩
        · rw [if_neg ev] at htv
          obtain ⟨j, h5, h6, h7⟩ := htk v hv htv
          exact ⟨j, by omega, h6, h7⟩
    · rw [if_neg (dneg (by omega))]
      exact Or.inr ⟨_, rfl, rfl⟩) (List.replicate (Int.toNat ((b).length : Int)) false, 0) ⟨0, rfl, by omega, by simp, fun u hu h => by
        exfalso
        have : bw (List.replicate (Int.toNat ((b).length : Int)) false) u = false := by
          unfold bw
          rw [List.getD_eq_getElem?_getD, List.getElem?_eq_getElem (by simp; omega)]
          simp
        dsimp only at h
        rw [this] at h; cases h⟩ (by dsimp only; omega)
  rw [h1]
  rfl
end Go.Proofs.YtlejnkhaphlooaaGreat
set_option linter.unusedVariables false
set_option linter.unusedSimpArgs false
set_option linter.unusedSectionVars false
set_option maxRecDepth 100000
namespace Go.Proofs.YtlejnkhaphlooaaGreat
open Go Go.V Go.Proofs
def ldOf (its : List Item) (S : Int) (v : List Int) : List Int := lst (ld (yard its S v) (lens its) its.length) (S.toNat + trains its)
theorem make_plan {its : List Item} {w S : Int} {v : List Int} (hg : JobGood its w) (hl : leastcode_Least its w = some ((S, v), 0)) :
    ∃ c, certificate_Make its w = some (((S, v), c), 0) ∧ Accepts its w S v c ∧ c.length ≤ 41 := by
  rcases Make_ok0 hg with ⟨v', S', m, c, hv, hm, hS, hA, hcl, hM, hL⟩ | h
  · rw [hl] at hL
    cases hL
    exact ⟨c, hM, hA, hcl⟩
  · exfalso
    obtain ⟨p, e1, e2⟩ := Least_ok hg
    rw [hl] at e1
    cases e1
    rcases e2 with ⟨v', S', m, hv, e, hm, hS⟩ | ⟨e, _⟩
    · cases e
      obtain ⟨q, w1, w4⟩ := Witness_ok hg
      unfold certificate_Make at h
      rw [hl] at h
      simp only [obind] at h
      rw [w1] at h
      rcases w4 with ⟨v', hv', h0, h3⟩ | ⟨_, hs⟩
      · simp only [obind] at h
        rw [h0] at h
        simp at h
      · exact absurd hv (hs.none (fun i => (hg.b i).1) v)
    · cases e
theorem ldOf_len (its : List Item) (S : Int) (v : List Int) : (ldOf its S v).length = S.toNat + trains its := lst_len _ _
theorem ldOf_vd {its : List Item} {w S : Int} {v : List Int} (hG : Good its w S v) (tr : List Int) : Vd (ldOf its S v) tr ↔ (tr.length ≤ 32 ∧ ∀ x ∈ tr, 1 ≤ x ∧ x ≤ 38400) := by
  have h1 := hG.st
  have h2 : trains its ≤ 16 := trains_bound its 0 (by omega) fun x hx => by
    obtain ⟨i, hi⟩ := List.getElem?_of_mem hx
    exact (hG.job.it i x hi).1.2
  have h3 := hG.job.len
  unfold Vd
  rw [ldOf_len]
  constructor
  · rintro ⟨_, a, _, b⟩; exact ⟨a, b⟩
  · rintro ⟨a, b⟩
    refine ⟨by omega, a, fun x hx => ?_, b⟩
    obtain ⟨p, _, rfl⟩ := List.mem_map.1 hx
    have := ld_range (yard its S v) (lens its) (fun i => lens_range hG i) its.length p
    omega
theorem ldOf_N {its : List Item} {w S : Int} {v : List Int} (hG : Good its w S v) (hN : 12 + trains its ≤ LN) : (ldOf its S v).length ≤ LN := by
  have h1 := hG.st
  rw [ldOf_len]; omega
theorem sheet_ok {its : List Item} {w S : Int} {v : List Int} (hP : HasPlan its w S v) (hl : leastcode_Least its w = some ((S, v), 0)) (hN : 12 + trains its ≤ LN) (tr : List Int) :
    ∃ c r, certificate_Make its w = some (((S, v), c), 0) ∧ Accepts its w S v c ∧ c.length ≤ 41 ∧ assign_Match (ldOf its S v) tr = some r ∧
      (¬ (tr.length ≤ 32 ∧ ∀ x ∈ tr, 1 ≤ x ∧ x ≤ 38400) → r.1 = [] ∧ r.2.1 = [] ∧ r.2.2 ≠ 0 ∧ r.2.2 ≠ 14) ∧
      ((tr.length ≤ 32 ∧ ∀ x ∈ tr, 1 ≤ x ∧ x ≤ 38400) → (r.2.1 = [] ∧ r.2.2 = 0 ∧ Asg (ldOf its S v) tr r.1) ∨ (r.1 = [] ∧ r.2.2 = 14 ∧ Rfs (ldOf its S v) tr r.2.1)) ∧
      rollin_Loads its w S v = some (ldOf its S v, 0) ∧
      planner_sheet its w tr = some (if r.2.2 ≠ 0 then ((([], 0), ((0, []), []), []), r.2.1, r.2.2) else (((its, w), ((S, v), c), r.1), [], 0)) := by
  obtain ⟨m, hv, hm, hS, hG⟩ := hP
  have hg := hG.job
  obtain ⟨c, hM, hA, hcl⟩ := make_plan hg hl
  obtain ⟨r, r1, r3⟩ := match_spec (ldOf its S v) tr (ldOf_N hG hN)
  have hL := Loads_ok hG
  refine ⟨c, r, hM, hA, hcl, r1, fun h => r3 fun q => h ((ldOf_vd hG tr).1 q), fun h => ?_, hL, ?_⟩
  · rcases match_two ((ldOf_vd hG tr).2 h) (ldOf_N hG hN) with ⟨l, e, q⟩ | ⟨l, e, q⟩
    · rw [r1] at e; cases e; exact .inl ⟨rfl, rfl, q⟩
    · rw [r1] at e; cases e; exact .inr ⟨rfl, rfl, q⟩
  · unfold planner_sheet slices_Clone_humpyard_api_Item_humpyard_api_Item_
    have hlen := hg.len
    rw [if_pos (by simp only [List.length_nil]; omega)]
    simp only [obind, List.nil_append]
    rw [hM]
    simp only [obind, bne_self_eq_false, Bool.false_eq_true, if_false]
    rw [hL]
    simp only [obind, bne_self_eq_false, Bool.false_eq_true, if_false]
    show ((assign_Match (ldOf its S v) tr).bind _) = _
    rw [r1]
    simp only [obind]
    by_cases q : r.2.2 = 0
    · rw [if_neg (by simpa using q), if_neg (by simpa using q)]
    · rw [if_pos (by simpa using q), if_pos q]
end Go.Proofs.YtlejnkhaphlooaaGreat
set_option linter.unusedVariables false
set_option linter.unusedSimpArgs false
set_option linter.unusedSectionVars false
set_option maxRecDepth 100000
namespace Go.Proofs.YtlejnkhaphlooaaGreat
open Go Go.V Go.Proofs
theorem schR_mem {its : List Item} (h : JobGood its 0) {s : Sc} (hs : s ∈ insAll (schL its)) : ∃ w S v, w ∈ ws4 ∧ s = scOf its w S v ∧ HasPlan its w S v ∧ leastcode_Least its w = some ((S, v), 0) :=
  schL_mem h ((insAll_mem s _ _ rfl).1 hs)
end Go.Proofs.YtlejnkhaphlooaaGreat
set_option linter.unusedVariables false
set_option linter.unusedSimpArgs false
set_option linter.unusedSectionVars false
set_option maxRecDepth 100000
namespace Go.Proofs.YtlejnkhaphlooaaGreat
open Go Go.V Go.Proofs
abbrev Sh := ((List Item × Int) × ((Int × List Int) × List Int) × List Int)
def sh0 : Sh := (([], 0), ((0, []), []), [])
def TrOK (tr : List Int) : Prop := tr.length ≤ 32 ∧ ∀ x ∈ tr, 1 ≤ x ∧ x ≤ 38400
def NoFit (its : List Item) (tr : List Int) (s : Sc) : Prop := ∀ S v, leastcode_Least its s.1 = some ((S, v), 0) → ∃ r, Rfs (ldOf its S v) tr r
theorem pl_step {its : List Item} (h : JobGood its 0) (hN : 12 + trains its ≤ LN) {tr : List Int} (hT : TrOK tr) (e0 : Int) {i : Nat} (hi : i < (insAll (schL its)).length) :
    ∃ w S v c, (insAll (schL its))[i] = scOf its w S v ∧ HasPlan its w S v ∧ leastcode_Least its w = some ((S, v), 0) ∧ Accepts its w S v c ∧ c.length ≤ 41 ∧ certificate_Make its w = some (((S, v), c), 0) ∧
      ((∃ l, assign_Match (ldOf its S v) tr = some (l, [], 0) ∧ Asg (ldOf its S v) tr l ∧ ∀ d, planner_Plan_L10 its tr (insAll (schL its), e0) (d, (i : Int)) = some (.done (.inl (its, w, S, v, c, l, 0)))) ∨
       (∃ q r, assign_Match (ldOf its S v) tr = some (q, r, 14) ∧ Rfs (ldOf its S v) tr r ∧ ∀ d, planner_Plan_L10 its tr (insAll (schL its), e0) (d, (i : Int)) = some (.next (if i = 0 then r else d, ((i + 1 : Nat) : Int))))) := by
  obtain ⟨w, S, v, hw, hs, hP, hl⟩ := schR_mem h (List.getElem_mem hi)
  obtain ⟨c, r, q1, q3, q4, q5, q7, q8, q9, q11⟩ := sheet_ok hP hl hN tr
  have hlen : (insAll (schL its)).length ≤ 4 := by rw [insAll_len _ _ rfl]; exact schL_len its
  have hx : idx (insAll (schL its)) (i : Int) = some (scOf its w S v) := by rw [idx_nat, List.getElem?_eq_getElem hi, hs]
  refine ⟨w, S, v, c, hs, hP, hl, q3, q4, q1, ?_⟩
  rcases q8 hT with ⟨a1, a2, a3⟩ | ⟨a1, a2, a3⟩
  · refine .inl ⟨r.1, by rw [q5, ← a1, ← a2], a3, fun d => ?_⟩
    unfold planner_Plan_L10
    dsimp only
    rw [if_pos (dpos (by omega)), hx]
    simp only [obind]
    rw [show (scOf its w S v).1 = w from rfl, q11, if_neg (by simpa using a2)]
    rfl
  · refine .inr ⟨r.1, r.2.1, by rw [q5, ← a2], a3, fun d => ?_⟩
    unfold planner_Plan_L10
    dsimp only
    rw [if_pos (dpos (by omega)), hx]
    simp only [obind]
    rw [show (scOf its w S v).1 = w from rfl, q11, if_pos (by rw [a2]; decide)]
    simp only [obind]
    rw [a2, if_neg (by decide), if_pos (by decide), lk1 (by omega)]
    by_cases c0 : i = 0
    · subst c0; rfl
    · rw [if_neg (by simpa using c0), if_neg c0]
theorem pl_end {its : List Item} (tr : List Int) (e0 : Int) (d : List Int) : planner_Plan_L10 its tr (insAll (schL its), e0) (d, ((insAll (schL its)).length : Int)) = some (.done (.inr d)) := by
  unfold planner_Plan_L10
  dsimp only
  rw [if_neg (dneg (by omega))]
inductive Planned (its : List Item) (tr : List Int) : Sh → List Int → Int → Prop
  | fits {P : List Sc} {w S : Int} {v c l : List Int} {Q : List Sc} (hL : insAll (schL its) = P ++ scOf its w S v :: Q) (hP : HasPlan its w S v) (hl : leastcode_Least its w = some ((S, v), 0)) (hA : Accepts its w S v c) (hc : c.length ≤ 41)
      (ha : Asg (ldOf its S v) tr l) (hn : ∀ s ∈ P, NoFit its tr s) : Planned its tr (((its, w), ((S, v), c), l)) [] 0
  | room {w S : Int} {v c : List Int} {Q : List Sc} {r : List Int} (hL : insAll (schL its) = scOf its w S v :: Q) (hP : HasPlan its w S v) (hl : leastcode_Least its w = some ((S, v), 0)) (hM : certificate_Make its w = some (((S, v), c), 0))
      (hr : Rfs (ldOf its S v) tr r) (hn : ∀ s ∈ insAll (schL its), NoFit its tr s) : Planned its tr sh0 r 14
theorem nofit_of {its : List Item} {tr : List Int} {w S : Int} {v : List Int} (hl : leastcode_Least its w = some ((S, v), 0)) {r : List Int} (h : Rfs (ldOf its S v) tr r) : NoFit its tr (scOf its w S v) := by
  intro S' v' e
  change leastcode_Least its w = _ at e
  rw [hl] at e
  cases e
  exact ⟨r, h⟩
theorem pl_loop {its : List Item} (h : JobGood its 0) (hN : 12 + trains its ≤ LN) {tr : List Int} (hT : TrOK tr) (hne : schL its ≠ []) (e0 : Int) :
    ∃ d, loop (planner_Plan_L10 its tr (insAll (schL its), e0)) ([], 0) = some d ∧
      ((∃ w S v c l, d = .inl (its, w, S, v, c, l, 0) ∧ Planned its tr ((its, w), ((S, v), c), l) [] 0) ∨ ∃ r, d = .inr r ∧ Planned its tr sh0 r 14) := by
  have hp : 0 < (insAll (schL its)).length := by rw [insAll_len _ _ rfl]; exact List.length_pos_iff.2 hne
  have hlen : (insAll (schL its)).length ≤ 4 := by rw [insAll_len _ _ rfl]; exact schL_len its
  refine loop_inv (step := planner_Plan_L10 its tr (insAll (schL its), e0)) (fun s => ∃ i : Nat, s.2 = (i : Int) ∧ i ≤ (insAll (schL its)).length ∧ (∀ x ∈ (insAll (schL its)).take i, NoFit its tr x) ∧
      (0 < i → ∃ w S v c Q, insAll (schL its) = scOf its w S v :: Q ∧ HasPlan its w S v ∧ leastcode_Least its w = some ((S, v), 0) ∧ certificate_Make its w = some (((S, v), c), 0) ∧ Rfs (ldOf its S v) tr s.1)) (fun s => (insAll (schL its)).length - s.2.toNat) _ ?_ ([], 0) ⟨0, rfl, by omega, fun x hx => by simp at hx, fun q => by omega⟩ (by dsimp only; omega)
  rintro ⟨d, _⟩ ⟨i, rfl, hi, hn, hf⟩
  dsimp only at hf ⊢
  by_cases c : i < (insAll (schL its)).length
  · obtain ⟨w, S, v, cc, h1, h2, h3, h4, h5, h6, ⟨l, _, hl, q⟩ | ⟨_, r, _, hr, q⟩⟩ := pl_step h hN hT e0 c
    · refine .inr ⟨_, q d, .inl ⟨w, S, v, cc, l, rfl, ?_⟩⟩
      refine .fits (P := (insAll (schL its)).take i) (Q := (insAll (schL its)).drop (i + 1)) ?_ h2 h3 h4 h5 hl hn
      rw [← h1, ← List.drop_eq_getElem_cons c, List.take_append_drop]
    · refine .inl ⟨_, q d, ⟨i + 1, rfl, c, fun x hx => ?_, fun _ => ?_⟩, by dsimp only; omega⟩
      · rw [List.take_succ_eq_append_getElem c, List.mem_append] at hx
        rcases hx with hx | hx
        · exact hn x hx
        · rw [List.mem_singleton.1 hx, h1]
          exact nofit_of h3 hr
      · dsimp only
        by_cases c0 : i = 0
        · subst c0
          rw [if_pos rfl]
          refine ⟨w, S, v, cc, (insAll (schL its)).drop 1, ?_, h2, h3, h6, hr⟩
          rw [← h1, ← List.drop_eq_getElem_cons c, List.drop_zero]
        · rw [if_neg c0]
          exact hf (by omega)
  · obtain rfl : i = (insAll (schL its)).length := by omega
    refine .inr ⟨_, pl_end tr e0 d, .inr ⟨d, rfl, ?_⟩⟩
    obtain ⟨w, S, v, cc, Q, h1, h2, h3, h4, h5⟩ := hf hp
    exact .room h1 h2 h3 h4 h5 fun x hx => hn x (by rw [List.take_of_length_le (Nat.le_refl _)]; exact hx)
theorem Plan_ok {its : List Item} (h : JobGood its 0) (hN : 12 + trains its ≤ LN) {tr : List Int} (hT : TrOK tr) :
    ∃ s r e, planner_Plan its tr = some (s, r, e) ∧ ((schL its = [] ∧ s = sh0 ∧ r = [] ∧ e = 15) ∨ (schL its ≠ [] ∧ Planned its tr s r e)) := by
  unfold planner_Plan
  rw [Schemes_ok h]
  simp only [obind]
  unfold schR
  by_cases c : schL its = []
  · rw [if_pos c]
    exact ⟨_, _, _, rfl, .inl ⟨c, rfl, rfl, rfl⟩⟩
  · rw [if_neg c, if_neg (by simp)]
    obtain ⟨d, hd, hd2⟩ := pl_loop h hN hT c 0
    rw [hd]
    simp only [obind]
    rcases hd2 with ⟨w, S, v, cc, l, rfl, q⟩ | ⟨r, rfl, q⟩
    · exact ⟨_, _, _, rfl, .inr ⟨c, q⟩⟩
    · exact ⟨_, _, _, rfl, .inr ⟨c, q⟩⟩
theorem Plan_badT {its : List Item} {tr : List Int} (hj : JobGood its 0) (hN : 12 + trains its ≤ LN) (hT : ¬ TrOK tr) (hne : schL its ≠ []) : ∃ w S v r, (insAll (schL its)).head? = some (scOf its w S v) ∧ HasPlan its w S v ∧ certificate_Make its w = some (((S, v), r), 0) ∧ ∃ m, assign_Match (ldOf its S v) tr = some m ∧ m.1 = [] ∧ m.2.1 = [] ∧ m.2.2 ≠ 0 ∧ m.2.2 ≠ 14 ∧ planner_Plan its tr = some (sh0, [], m.2.2) := by
  unfold planner_Plan
  rw [Schemes_ok hj]
  simp only [obind]
  unfold schR
  rw [if_neg hne, if_neg (by simp)]
  have hi : 0 < (insAll (schL its)).length := by rw [insAll_len _ _ rfl]; exact List.length_pos_iff.2 hne
  obtain ⟨w, S, v, hw, hs, hP, hl⟩ := schR_mem hj (List.getElem_mem hi)
  obtain ⟨cc, r, q1, q3, q4, q5, q7, q8, q9, q11⟩ := sheet_ok hP hl hN tr
  obtain ⟨b1, b2, b3, b4⟩ := q7 hT
  have hx : idx (insAll (schL its)) 0 = some (scOf its w S v) := by rw [show (0 : Int) = ((0 : Nat) : Int) from rfl, idx_nat, List.getElem?_eq_getElem hi, hs]
  have s1 : planner_Plan_L10 its tr (insAll (schL its), 0) ([], 0) = some (.done (.inl ([], 0, 0, [], [], [], r.2.2))) := by
    unfold planner_Plan_L10
    dsimp only
    rw [if_pos (dpos (by omega)), hx]
    simp only [obind]
    rw [show (scOf its w S v).1 = w from rfl, q11, if_pos b3]
    simp only [obind]
    rw [if_neg (by simpa using b3), if_neg (by simpa using b4)]
  rw [loop_of (step := planner_Plan_L10 its tr (insAll (schL its), 0)) 1 (by omega) (by simp only [loopN]; rw [s1]; rfl)]
  exact ⟨w, S, v, cc, by rw [List.head?_eq_getElem?, List.getElem?_eq_getElem hi, hs], hP, q1, r, q5, b1, b2, b3, b4, rfl⟩
end Go.Proofs.YtlejnkhaphlooaaGreat
set_option linter.unusedVariables false
set_option linter.unusedSimpArgs false
set_option linter.unusedSectionVars false
set_option maxRecDepth 100000
namespace Go.Proofs.YtlejnkhaphlooaaGreat
open Go Go.V Go.Proofs
theorem good_of {its : List Item} {wt : Int} (h : job_Valid its wt = some 0) : JobGood its wt := by
  obtain ⟨e, h1, h2⟩ := jobvalid_spec its wt
  rw [h] at h1
  cases h1
  rcases h2 with ⟨_, h2⟩ | ⟨h2, _⟩
  · exact h2
  · exact absurd rfl h2
theorem Least_none {its : List Item} {wt : Int} (hg : JobGood its wt) (h : ∀ v, ¬ IsLst its wt v) : leastcode_Least its wt = some ((0, []), 15) := by
  obtain ⟨p, h1, h2⟩ := Least_ok hg
  rcases h2 with ⟨v, S, m, hv, _⟩ | ⟨rfl, _⟩
  · exact absurd hv (h v)
  · exact h1
theorem Least_some {its : List Item} {wt : Int} (hg : JobGood its wt) {v : List Int} {m : Nat} {S : Int} (hv : IsLst its wt v) (hm : IsMx v m) (hS : LongSpec m S) : leastcode_Least its wt = some ((S, v), 0) := by
  obtain ⟨p, h1, h2⟩ := Least_ok hg
  rcases h2 with ⟨v', S', m', hv', rfl, hm', hS'⟩ | ⟨_, hs⟩
  · have e := lst_unique (fun i => (hg.b i).1) hv hv'
    subst e
    have e := hm.uniq hm'
    subst e
    rw [h1, long_unique hS hS']
  · exact absurd hv (hs.none (fun i => (hg.b i).1) v)
theorem mx_of {v : List Int} {m : Nat} (h : ∀ x ∈ v, x ≤ (m : Int)) (h2 : m = 0 ∨ (m : Int) ∈ v) : IsMx v m := by
  refine ⟨fun y => ?_, ?_⟩
  · by_cases hy : y < v.length
    · rw [List.getD_eq_getElem?_getD, List.getElem?_eq_getElem hy]
      exact h _ (List.getElem_mem hy)
    · rw [List.getD_eq_getElem?_getD, List.getElem?_eq_none (by omega)]
      show (0 : Int) ≤ m
      omega
  · rcases h2 with h2 | h2
    · exact .inl h2
    · obtain ⟨i, hi, e⟩ := List.getElem_of_mem h2
      exact .inr ⟨i, hi, by rw [List.getD_eq_getElem?_getD, List.getElem?_eq_getElem hi]; exact e⟩
theorem schO_of {its : List Item} {w S : Int} {v : List Int} (hg : JobGood its w) (hl : leastcode_Least its w = some ((S, v), 0)) : schO its w = some (scOf its w S v) := by
  rcases sch_cases hg with ⟨S', v', hP, q0, q⟩ | ⟨_, q0, q⟩
  · rw [hl] at q0
    cases q0
    exact schO_some q
  · rw [hl] at q0
    cases q0
theorem schO_no {its : List Item} {w : Int} (hg : JobGood its w) (hl : leastcode_Least its w = some ((0, []), 15)) : schO its w = none := by
  rcases sch_cases hg with ⟨S', v', hP, q0, q⟩ | ⟨_, q0, q⟩
  · rw [hl] at q0
    cases q0
  · exact schO_none q
def T3 : List Item := [(0, 0, 0, 100), (0, 0, 0, 100), (0, 1, 0, 100)]
theorem T3_good (w : Int) (h : w = 0 ∨ w = 1 ∨ w = 2 ∨ w = 12) : JobGood T3 w := by
  rcases h with rfl | rfl | rfl | rfl <;> exact good_of (by decide +kernel)
theorem T3_least (w : Int) (h : w = 0 ∨ w = 1 ∨ w = 2 ∨ w = 12) : leastcode_Least T3 w = some ((0, [0, 0, 0]), 0) := by
  refine Least_some (T3_good w h) ⟨rfl, ?_⟩ (mx_of (m := 0) (by decide) (.inl rfl)) ⟨0, rfl, by omega, by decide, .inl rfl⟩
  rcases h with rfl | rfl | rfl | rfl <;> decide +kernel
theorem T3_sc : Prod.snd (scOf T3 0 0 [0, 0, 0]) = (0, 3, 1) := by decide +kernel
theorem T3_sc' (w : Int) : scOf T3 w 0 [0, 0, 0] = (w, 0, 3, 1) := by
  have h := T3_sc
  unfold scOf at *
  rw [← h]
theorem T3_all : schL T3 = [(0, 0, 3, 1), (1, 0, 3, 1), (2, 0, 3, 1), (12, 0, 3, 1)] := by
  have h0 := schO_of (T3_good 0 (by simp)) (T3_least 0 (by simp))
  have h1 := schO_of (T3_good 1 (by simp)) (T3_least 1 (by simp))
  have h2 := schO_of (T3_good 2 (by simp)) (T3_least 2 (by simp))
  have h3 := schO_of (T3_good 12 (by simp)) (T3_least 12 (by simp))
  rw [T3_sc'] at h0 h1 h2 h3
  unfold schL ws4
  rw [List.filterMap_cons_some h0, List.filterMap_cons_some h1, List.filterMap_cons_some h2, List.filterMap_cons_some h3, List.filterMap_nil]
theorem T3_schemes : planner_Schemes T3 = some ([(0, 0, 3, 1), (1, 0, 3, 1), (2, 0, 3, 1), (12, 0, 3, 1)], 0) := by
  rw [Schemes_ok (T3_good 0 (.inl rfl))]
  unfold schR
  rw [T3_all, if_neg (by simp)]
  exact congrArg some (congrArg (fun x => (x, (0 : Int))) (by decide +kernel))
def T4 : List Item := [(0, 1, 0, 100), (0, 3, 0, 100), (0, 0, 0, 100), (0, 2, 0, 100)]
theorem T4_good (w : Int) (h : w = 0 ∨ w = 1 ∨ w = 2 ∨ w = 12) : JobGood T4 w := by
  rcases h with rfl | rfl | rfl | rfl <;> exact good_of (by decide +kernel)
theorem T4_least (w : Int) (h : w = 1 ∨ w = 2 ∨ w = 12) : leastcode_Least T4 w = some ((2, [1, 2, 0, 1]), 0) := by
  refine Least_some (T4_good w (.inr h)) ⟨rfl, ?_⟩ (mx_of (m := 2) (by decide) (.inr (by decide))) ⟨2, rfl, by omega, by decide, .inr (by decide)⟩
  rcases h with rfl | rfl | rfl <;> decide +kernel
theorem T4_none : leastcode_Least T4 0 = some ((0, []), 15) := by
  refine Least_none (T4_good 0 (.inl rfl)) fun v hv => ?_
  have e2 : need T4 v 2 = 0 := rfl
  have h2 := hv.eq 2 (by decide)
  rw [e2, show NX 0 (rOf T4 2) 0 = (0, 0) by decide +kernel] at h2
  have h2' : v.getD 2 0 = 0 := (congrArg Prod.fst h2).symm
  have e0 : need T4 v 0 = if v.getD 2 0 + 2 - 1 > 0 then v.getD 2 0 + 2 - 1 else 0 := rfl
  rw [h2'] at e0
  have h0 := hv.eq 0 (by decide)
  rw [e0, show NX (if (0 : Int) + 2 - 1 > 0 then 0 + 2 - 1 else 0) (rOf T4 0) 0 = (0, 15) by decide +kernel] at h0
  exact absurd (show (15 : Int) = 0 from congrArg Prod.snd h0) (by decide)
theorem T4_sc : Prod.snd (scOf T4 0 2 [1, 2, 0, 1]) = (2, 7, 3) := by decide +kernel
theorem T4_sc' (w : Int) : scOf T4 w 2 [1, 2, 0, 1] = (w, 2, 7, 3) := by
  have h := T4_sc
  unfold scOf at *
  rw [← h]
theorem T4_all : schL T4 = [(1, 2, 7, 3), (2, 2, 7, 3), (12, 2, 7, 3)] := by
  have h0 := schO_no (T4_good 0 (by simp)) T4_none
  have h1 := schO_of (T4_good 1 (by simp)) (T4_least 1 (by simp))
  have h2 := schO_of (T4_good 2 (by simp)) (T4_least 2 (by simp))
  have h3 := schO_of (T4_good 12 (by simp)) (T4_least 12 (by simp))
  rw [T4_sc'] at h1 h2 h3
  unfold schL ws4
  rw [List.filterMap_cons_none h0, List.filterMap_cons_some h1, List.filterMap_cons_some h2, List.filterMap_cons_some h3, List.filterMap_nil]
theorem T4_ins : insAll (schL T4) = [(1, 2, 7, 3), (2, 2, 7, 3), (12, 2, 7, 3)] := by rw [T4_all]; decide +kernel
theorem T4_ld : ldOf T4 2 [1, 2, 0, 1] = [200, 100, 400] := by decide +kernel
theorem T4_plan {tr : List Int} (hT : TrOK tr) (hl : 3 ≤ tr.length) (hx : ∀ x ∈ tr, 500 ≤ x) : ∃ c l, planner_Plan T4 tr = some (((T4, 1), ((2, [1, 2, 0, 1]), c), l), [], 0) ∧ Accepts T4 1 2 [1, 2, 0, 1] c ∧ Asg (ldOf T4 2 [1, 2, 0, 1]) tr l := by
  have hno : ¬ NoFit T4 tr (1, 2, 7, 3) := fun h => by
    obtain ⟨r, hr⟩ := h _ _ (T4_least 1 (.inl rfl))
    refine nofew_f (fun i => i) (fun i hi h0 => ?_) (fun i j _ _ _ _ e => e) hr.few
    rw [T4_ld] at hi ⊢
    have hi3 : i < 3 := hi
    have h1 : vw tr i ∈ tr := vw_mem (by omega)
    have h2 := hx _ h1
    refine ⟨by omega, ?_⟩
    have : ∀ i, i < 3 → vw [200, 100, 400] i ≤ 500 := by decide
    have := this i hi3
    omega
  obtain ⟨s, r, e, h1, ⟨h2, _⟩ | ⟨_, h2⟩⟩ := Plan_ok (T4_good 0 (.inl rfl)) (by decide) hT
  · rw [T4_all] at h2; cases h2
  · rw [h1]
    cases h2 with
    | @fits P w S v c l Q hL hP hl hA hc ha hn =>
      rw [T4_ins] at hL
      cases P with
      | nil =>
        have hs : (1, 2, 7, 3) = scOf T4 w S v := (List.cons.inj hL).1
        have hw : (1 : Int) = w := congrArg Prod.fst hs
        subst hw
        rw [T4_least 1 (.inl rfl)] at hl
        cases hl
        exact ⟨c, l, rfl, hA, ha⟩
      | cons p P =>
        have hs : (1, 2, 7, 3) = p := (List.cons.inj hL).1
        exact absurd (hs ▸ hn p List.mem_cons_self) hno
    | room hL hP hl hM hr hn =>
      exact absurd (hn _ (by rw [T4_ins]; exact List.mem_cons_self)) hno
theorem sane17 : law17_sane = some true := by
  have h1 : law17_items [0, 0, 1] = some T3 := by decide +kernel
  have h2 : law17_items [1, 3, 0, 2] = some T4 := by decide +kernel
  have h3 : ∃ l, planner_Items ([(([([98] : List UInt8)] : List (List UInt8)))] : List (List (List UInt8))) ([(([51, 49, 56, 48, 50, 55, 55, 51, 49, 50, 51, 55] : List UInt8), 100, 2, 100, 0, 0, false, ([97] : List UInt8))] : List ((List UInt8) × Int × Int × Int × Int × Int × Bool × (List UInt8))) = some (l, 13) := ⟨[], by decide +kernel⟩
  obtain ⟨c, l, h4, _⟩ := T4_plan (tr := [500, 500, 500]) ⟨by decide, by decide⟩ (by decide) (by decide)
  obtain ⟨k, h3⟩ := h3
  unfold law17_sane
  rw [h1]
  simp only [obind]
  rw [T3_schemes]
  simp only [obind]
  rw [h2]
  simp only [obind]
  rw [h4]
  simp only [obind]
  rw [h3]
  simp only [obind]
  rw [if_pos (by decide), if_pos (by decide), show (0 : Int) = ((0 : Nat) : Int) from rfl, idx_nat]
  rfl
end Go.Proofs.YtlejnkhaphlooaaGreat
set_option linter.unusedVariables false
set_option linter.unusedSimpArgs false
set_option maxRecDepth 100000
namespace Go.Proofs.YtlejnkhaphlooaaGreat
open Go Go.V Go.Proofs
theorem cCheck_ok {its : List Item} {w S : Int} {v c : List Int} (hA : Accepts its w S v c) : certificate_Check its w S v c = some 0 := by
  obtain ⟨e, h1, h2, _⟩ := Check_ok0 its w S v c (by have := hA.1.job.len; omega)
  rw [h1, h2.2 hA]
theorem Check_own {its : List Item} {w S : Int} {v c l tr : List Int} (hA : Accepts its w S v c) (hT : TrOK tr) (ha : Asg (ldOf its S v) tr l) : planner_Check its w S v c l tr = some 0 := by
  have hG := hA.1
  unfold planner_Check
  rw [cCheck_ok hA]
  simp only [obind]
  rw [if_neg (by decide), show rollin_Loads its w S v = some (ldOf its S v, 0) from Loads_ok hG]
  simp only [obind]
  rw [if_neg (by decide), fits_ok ((ldOf_vd hG tr).2 hT) ha]
  rfl
end Go.Proofs.YtlejnkhaphlooaaGreat
set_option linter.unusedVariables false
set_option linter.unusedSectionVars false
set_option linter.unusedSimpArgs false
set_option maxRecDepth 100000
namespace Go.Proofs.YtlejnkhaphlooaaGreat
open Go Go.V Go.Proofs
theorem place_mod (p : Int) (n : Nat) (hn : 1 ≤ n ∧ n ≤ 1000) : ∃ a : Nat, Int.tmod (IntKind.i64.wrap ((Int.tmod p (n : Int)) + (n : Int))) (n : Int) = (a : Int) ∧ a < n := by
  have h1 := tmod_range p (n : Int) (by omega)
  rw [wr_id (by omega) (by omega), Int.tmod_eq_emod_of_nonneg (by omega)]
  have h2 := Int.emod_nonneg (Int.tmod p (n : Int) + n) (by omega : (n : Int) ≠ 0)
  have h3 := Int.emod_lt_of_pos (Int.tmod p (n : Int) + n) (by omega : (0 : Int) < n)
  exact ⟨((Int.tmod p (n : Int) + n) % n).toNat, by omega, by omega⟩
theorem ixA_mem {s : List UInt8} : ∀ {l : List (List UInt8)} (k : Nat), s ∈ l → ∃ i, ixA s k l = some i
  | [], k, h => by cases h
  | x :: l, k, h => by
    rw [ixA_cons]
    by_cases c : s = x
    · rw [if_pos c]; exact ⟨_, rfl⟩
    · rw [if_neg c]
      refine ixA_mem (k + 1) ?_
      rcases List.mem_cons.1 h with q | q
      · exact absurd q c
      · exact q
theorem good_items (o : List (List (List UInt8))) (h0 : ∃ q, o = names10 :: q) (ho : o.length ≤ 16) (hol : ∀ r ∈ o, r.length ≤ 32) (l : List Wg) (hl : l.length ≤ 96) (hm : ∀ w ∈ l, MadeW w) :
    ∃ d, planner_Items o l = some (d, 0) ∧ d.length = l.length ∧ ∀ (i : Nat) (w : Wg), l[i]? = some w → ∃ b : Nat, d[i]? = some (0, (b : Int), 0, w.2.1) ∧ b < 10 ∧ names10[b]? = some w.2.2.2.2.2.2.2 := by
  obtain ⟨q, rfl⟩ := h0
  unfold planner_Items
  obtain ⟨e, b2, b3⟩ := blk_ok (names10 :: q) (by omega)
  have b3' : e = .inr () := by
    rcases b3 with ⟨_, b3⟩ | ⟨b3, _⟩
    · exact absurd hol b3
    · exact b3
  subst b3'
  rw [if_neg (dneg (by omega)), if_neg (dneg (by omega)), b2]
  simp only [obind]
  obtain ⟨d, hd, h1, h2⟩ := loop_inv (step := planner_Items_L14 (names10 :: q) l) (fun s => ∃ i : Nat, s.2 = (i : Int) ∧ i ≤ l.length ∧ s.1.length = i ∧ ∀ (j : Nat) (w : Wg), j < i → l[j]? = some w → ∃ b : Nat, s.1[j]? = some (0, (b : Int), 0, w.2.1) ∧ b < 10 ∧ names10[b]? = some w.2.2.2.2.2.2.2) (fun s => l.length - s.2.toNat)
    (fun e => ∃ d, e = .inr d ∧ d.length = l.length ∧ ∀ (j : Nat) (w : Wg), l[j]? = some w → ∃ b : Nat, d[j]? = some (0, (b : Int), 0, w.2.1) ∧ b < 10 ∧ names10[b]? = some w.2.2.2.2.2.2.2) (by
    rintro ⟨d, _⟩ ⟨i, rfl, hi, hd, hj⟩
    dsimp only at hd hj ⊢
    by_cases c : i < l.length
    · left
      obtain ⟨e, h1, h2⟩ := it_step (names10 :: q) (by omega) (fun r hr => by have := hol r hr; omega) l (MadeW.wstr hm) c (by omega) d (by omega)
      have hw := hm _ (List.getElem_mem c)
      rw [hw.2.2] at h1
      cases h1
      obtain ⟨b, hb⟩ := ixA_mem 0 hw.2.1
      have hb2 := ixA_at hb
      have hb3 : names10.length = 10 := rfl
      rw [Nat.sub_zero] at hb2
      rw [h2, if_neg (by decide), fdA_cons, hb]
      refine ⟨_, rfl, ⟨i + 1, rfl, c, by simp [hd], fun j w hji hjw => ?_⟩, by dsimp only; omega⟩
      by_cases e : j = i
      · subst e
        rw [List.getElem?_eq_getElem c] at hjw
        cases hjw
        exact ⟨b, by rw [List.getElem?_append_right (by omega), hd, Nat.sub_self]; rfl, by omega, hb2.2.2⟩
      · obtain ⟨b', q1, q2⟩ := hj j w (by omega) hjw
        exact ⟨b', by rw [List.getElem?_append_left (by omega)]; exact q1, q2⟩
    · right
      obtain rfl : i = l.length := by omega
      rw [it_end _ l d]
      refine ⟨_, rfl, d, rfl, hd, fun j w hjw => hj j w ?_ hjw⟩
      rcases Nat.lt_or_ge j l.length with q | q
      · exact q
      · rw [List.getElem?_eq_none q] at hjw; cases hjw) ([], 0) ⟨0, rfl, Nat.zero_le _, rfl, fun j w h => by omega⟩ (by simp; omega)
  obtain ⟨rfl, h1, h2⟩ := h2
  rw [hd]
  exact ⟨_, rfl, h1, h2⟩
theorem lim_J69 (o : List (List (List UInt8))) (h0 : ∃ q, o = names10 :: q) (l : List Wg) (hl : l.length ≤ 1000) (d : List (Int × Int × Int × Int)) (e : Int) (hd : d.length = l.length) (h : ∀ (i : Nat) (w : Wg), l[i]? = some w → ∃ b : Nat, d[i]? = some (0, (b : Int), 0, w.2.1) ∧ b < 10 ∧ names10[b]? = some w.2.2.2.2.2.2.2) :
    law17_PlannerLimits_J69 l o (d, e) = some true := by
  obtain ⟨q, rfl⟩ := h0
  unfold law17_PlannerLimits_J69
  have h1 := loop_count (law17_PlannerLimits_L70 l (names10 :: q) (d, e)) (.inr ()) 0 d.length (by omega) (by omega) (fun i _ hi => by
    have hil : i < l.length := by omega
    obtain ⟨b, q1, q2, q3⟩ := h i _ (List.getElem?_eq_getElem hil)
    unfold law17_PlannerLimits_L70
    dsimp only
    rw [if_pos (dpos (by omega)), idx_nat, q1]
    simp only [obind]
    rw [if_neg (by decide), if_neg (dneg (by omega)), if_neg (dneg (by omega)), show (0 : Int) = ((0 : Nat) : Int) from rfl, idx_nat, List.getElem?_cons_zero]
    simp only [obind]
    rw [idx_nat, q3]
    simp only [obind]
    rw [idx_nat, List.getElem?_eq_getElem hil]
    simp only [obind]
    rw [if_neg (by simp), wr_id (by omega) (by omega)]) (by
    unfold law17_PlannerLimits_L70
    dsimp only
    rw [if_neg (dneg (by omega))])
  rw [show ((0 : Nat) : Int) = 0 from rfl] at h1
  rw [h1]
  simp only [obind]
  rw [sane17]; rfl
theorem lim_good (o : List (List (List UInt8))) (h0 : ∃ q, o = names10 :: q) (ho : o.length ≤ 16) (hol : ∀ r ∈ o, r.length ≤ 32) (l : List Wg) (hl : l.length ≤ 96) (hm : ∀ w ∈ l, MadeW w) : law17_PlannerLimits_J14 0 l o = some true := by
  obtain ⟨d, h1, h2, h3⟩ := good_items o h0 ho hol l hl hm
  unfold law17_PlannerLimits_J14
  rw [h1]
  simp only [obind]
  rw [if_neg (by decide), if_pos (by decide), if_neg (by rw [h2]; simp), lim_J69 o h0 l (by omega) d 0 h2 h3]
theorem lim_bad (o : List (List (List UInt8))) (l : List Wg) (h : planner_Items o l = some ([], 3)) : law17_PlannerLimits_J14 3 l o = some true := by
  unfold law17_PlannerLimits_J14
  rw [h]
  simp only [obind]
  rw [if_neg (by decide), if_neg (by decide)]
  unfold law17_PlannerLimits_J69
  have s1 : law17_PlannerLimits_L70 l o ([], 3) 0 = some (.done (.inr ())) := by
    unfold law17_PlannerLimits_L70
    dsimp only
    rw [if_neg (dneg (by simp))]
  rw [loop_of (step := law17_PlannerLimits_L70 l o ([], 3)) 1 (by decide) (by simp only [loopN]; rw [s1]; rfl)]
  simp only [obind]
  rw [sane17]; rfl
theorem fill_ok' {α : Type} (f : List α → Option (Step (List α) (List α))) (x : α) (n : Nat) (hn : n ≤ 1000) (h : ∀ d : List α, d.length ≤ 1000 → f d = some (if d.length < n then .next (d ++ [x]) else .done d)) (d0 : List α) (h0 : d0.length ≤ n) :
    ∃ k, loop f d0 = some (d0 ++ List.replicate k x) ∧ d0.length + k = n := by
  obtain ⟨d, h1, k, rfl, h2⟩ := loop_inv (step := f) (fun s => ∃ k, s = d0 ++ List.replicate k x ∧ d0.length + k ≤ n) (fun s => n - s.length) (fun d => ∃ k, d = d0 ++ List.replicate k x ∧ d0.length + k = n) (by
    rintro _ ⟨k, rfl, hk⟩
    have hlen : (d0 ++ List.replicate k x).length = d0.length + k := by simp
    rw [h _ (by omega), hlen]
    by_cases c : d0.length + k < n
    · rw [if_pos c]
      refine .inl ⟨_, rfl, ⟨k + 1, ?_, by omega⟩, by rw [List.length_append, hlen, List.length_singleton]; omega⟩
      rw [List.append_assoc, ← List.replicate_succ']
    · rw [if_neg c]
      exact .inr ⟨_, rfl, k, rfl, by omega⟩) d0 ⟨0, by simp, by omega⟩ (by omega)
  exact ⟨k, h1, h2⟩
theorem T4_33 {tr : List Int} (h : tr.length = 33) : planner_Plan T4 tr = some (sh0, [], 3) := by
  obtain ⟨w, S, v, cc, hh, hP, hM, r, hm, b1, b2, b3, b4, e⟩ := Plan_badT (tr := tr) (T4_good 0 (.inl rfl)) (by decide) (fun q => by have := q.1; omega) (by rw [T4_all]; simp)
  obtain ⟨_, _, _, _, hG⟩ := id hP
  have hlen := ldOf_N hG (by decide)
  have h32 := LN_le hlen
  have hc : assign_check (ldOf T4 S v) tr = some 3 := by
    unfold assign_check
    rw [if_neg (dneg (by omega)), if_pos (dpos (by omega))]
  have h2 : assign_Match (ldOf T4 S v) tr = some ([], [], 3) := by
    unfold assign_Match
    rw [hc]
    rfl
  rw [hm] at h2
  cases h2
  exact e
theorem limits_ok (t : List Int) (p1 p2 : Int) : law17_PlannerLimits t p1 p2 = some true := by
  unfold law17_PlannerLimits gen_New
  simp only [obind]
  obtain ⟨ws, k1, e1, k0, k2, hwl, hwm⟩ := wagons_mk t 0 4 (by omega) (by omega) (by omega)
  rw [show (4 : Int) = ((4 : Nat) : Int) from rfl, e1]
  simp only [obind]
  obtain ⟨m, hm, hm3⟩ := place_mod p1 3 (by omega)
  obtain ⟨c, hc, hc4⟩ := place_mod p2 4 (by omega)
  have hm' : Int.tmod (IntKind.i64.wrap ((Int.tmod p1 3) + 3)) 3 = (m : Int) := hm
  have hc' : Int.tmod (IntKind.i64.wrap ((Int.tmod p2 4) + 4)) 4 = (c : Int) := hc
  have hfin : ∀ want : Int, (want = if m > 1 then 3 else 0) → law17_PlannerLimits_J13 p1 p2 (t, 0) (ws, k1) [names10] want = some true := by
    intro want hwant
    unfold law17_PlannerLimits_J13
    rw [hc']
    by_cases c0 : c = 0
    · rw [if_pos (by simp [c0])]
      obtain ⟨k, q1, q2⟩ := fill_ok' (law17_PlannerLimits_L15 p1) [] (15 + m) (by omega) (fun d hd => by
        unfold law17_PlannerLimits_L15
        dsimp only
        rw [hm', wr_id (by omega) (by omega)]
        by_cases q : d.length < 15 + m
        · rw [if_pos (dpos (by omega)), if_pos (by simp only [List.length_singleton]; omega), if_pos q]
        · rw [if_neg (dneg (by omega)), if_neg q]) [names10] (by simp; omega)
      rw [q1]
      simp only [obind]
      have hlen : ([names10] ++ List.replicate k []).length = 15 + m := by rw [← q2]; simp; omega
      by_cases m1 : m > 1
      · rw [if_pos m1] at hwant
        subst hwant
        refine lim_bad _ _ ?_
        unfold planner_Items
        rw [if_pos (dpos (by omega))]
      · rw [if_neg m1] at hwant
        subst hwant
        refine lim_good ([names10] ++ List.replicate k []) ⟨_, rfl⟩ (by omega) (fun r hr => ?_) ws (by omega) hwm
        rcases List.mem_cons.1 hr with rfl | hr
        · decide
        · rw [(List.mem_replicate.1 hr).2]; decide
    · rw [if_neg (by simp; omega)]
      by_cases c1 : c = 1
      · rw [if_pos (by simp [c1])]
        obtain ⟨k, q1, q2⟩ := fill_ok' (law17_PlannerLimits_L20 p1) [122, 122] (31 + m) (by omega) (fun d hd => by
          unfold law17_PlannerLimits_L20
          dsimp only
          rw [hm', wr_id (by omega) (by omega)]
          by_cases q : d.length < 31 + m
          · rw [if_pos (dpos (by omega)), if_pos (by simp only [List.length_singleton]; omega), if_pos q]
          · rw [if_neg (dneg (by omega)), if_neg q]) [] (by simp)
        rw [q1]
        simp only [obind]
        have hlen : ([] ++ List.replicate k ([122, 122] : List UInt8)).length = 31 + m := by rw [← q2]; simp
        generalize ([] ++ List.replicate k ([122, 122] : List UInt8)) = z at hlen
        rw [if_pos (by simp)]
        by_cases m1 : m > 1
        · rw [if_pos m1] at hwant
          subst hwant
          refine lim_bad _ _ ?_
          obtain ⟨e, b2, b3⟩ := blk_ok ([names10] ++ [z]) (by simp)
          have b3' : e = .inl () := by
            rcases b3 with ⟨b3, _⟩ | ⟨_, b3⟩
            · exact b3
            · have := b3 z (by simp); omega
          subst b3'
          unfold planner_Items
          rw [if_neg (dneg (by simp)), if_neg (dneg (by omega)), b2]
          rfl
        · rw [if_neg m1] at hwant
          subst hwant
          refine lim_good _ ⟨_, rfl⟩ (by simp) (fun r hr => ?_) ws (by omega) hwm
          rcases List.mem_cons.1 hr with rfl | hr
          · decide
          · rw [List.mem_singleton.1 hr]; omega
      · rw [if_neg (by simp; omega)]
        by_cases c2 : c = 2
        · rw [if_pos (by simp [c2])]
          obtain ⟨d, hd, h1, h2⟩ := loop_inv (step := law17_PlannerLimits_L29 p1 (t, 0)) (fun s => ∃ i : Nat, s.2.2 = (i : Int) ∧ i ≤ 95 + m ∧ s.2.1.length = i ∧ 0 ≤ s.1 ∧ s.1 ≤ 2100 + 20 * i ∧ ∀ w ∈ s.2.1, MadeW w) (fun s => 200 - s.2.2.toNat) (fun d => d.length = 95 + m ∧ ∀ w ∈ d, MadeW w) (by
            rintro ⟨e, d, _⟩ ⟨i, rfl, hi, hd, h0, h1, h2⟩
            dsimp only at hd h0 h1 h2 ⊢
            unfold law17_PlannerLimits_L29
            dsimp only
            rw [hm', wr_id (n := 95 + (m : Int)) (by omega) (by omega)]
            by_cases q : i < 95 + m
            · obtain ⟨w, k', g1, g2, g3, g4⟩ := wagon_mk t e i (by omega) (by omega) (by omega)
              rw [if_pos (dpos (by omega)), g1]
              simp only [obind]
              rw [if_pos (by simp only [List.length_singleton]; omega), wi1 (by omega)]
              refine .inl ⟨_, rfl, ⟨i + 1, rfl, by omega, by simp [hd], by dsimp only; omega, by dsimp only; omega, fun x hx => ?_⟩, by dsimp only; omega⟩
              rcases List.mem_append.1 hx with hx | hx
              · exact h2 x hx
              · rw [List.mem_singleton.1 hx]; exact g4
            · rw [if_neg (dneg (by omega))]
              exact .inr ⟨_, rfl, by omega, h2⟩) (k1, [], 0) ⟨0, rfl, by omega, rfl, by dsimp only; omega, by dsimp only; omega, fun w h => by simp at h⟩ (by dsimp only; omega)
          rw [hd]
          simp only [obind]
          by_cases m1 : m > 1
          · rw [if_pos m1] at hwant
            subst hwant
            refine lim_bad _ _ ?_
            unfold planner_Items
            rw [if_neg (dneg (by simp)), if_pos (dpos (by omega))]
          · rw [if_neg m1] at hwant
            subst hwant
            refine lim_good _ ⟨[], rfl⟩ (by simp) (fun r hr => ?_) d (by omega) h2
            rw [List.mem_singleton.1 hr]; decide
        · rw [if_neg (by simp; omega)]
          obtain ⟨k, q1, q2⟩ := fill_ok' (law17_PlannerLimits_L39 p1) 500 (31 + m) (by omega) (fun d hd => by
            unfold law17_PlannerLimits_L39
            dsimp only
            rw [hm', wr_id (by omega) (by omega)]
            by_cases q : d.length < 31 + m
            · rw [if_pos (dpos (by omega)), if_pos (by simp only [List.length_singleton]; omega), if_pos q]
            · rw [if_neg (dneg (by omega)), if_neg q]) [] (by simp)
          rw [q1]
          simp only [obind]
          have hlen : (([] : List Int) ++ List.replicate k 500).length = 31 + m := by rw [← q2]; simp
          have hall : ∀ x ∈ ([] : List Int) ++ List.replicate k 500, x = 500 := fun x hx => by
            rw [List.nil_append] at hx
            exact (List.mem_replicate.1 hx).2
          generalize (([] : List Int) ++ List.replicate k 500) = tr at hlen hall
          have h4 : law17_items [1, 3, 0, 2] = some T4 := by decide +kernel
          rw [h4]
          simp only [obind]
          by_cases m1 : m > 1
          · rw [if_pos m1] at hwant
            subst hwant
            rw [T4_33 (by omega)]
            simp only [obind]
            rw [if_pos (by decide), if_pos (by decide), if_pos (by decide), sane17]; rfl
          · rw [if_neg m1] at hwant
            subst hwant
            have hT : TrOK tr := ⟨by omega, fun x hx => by rw [hall x hx]; omega⟩
            obtain ⟨cc, l, h5, hA, ha⟩ := T4_plan hT (by omega) (fun x hx => by rw [hall x hx]; omega)
            rw [h5]
            simp only [obind]
            rw [if_pos (by decide), if_pos (by decide), if_neg (by decide), Check_own hA hT ha]
            simp only [obind]
            rw [if_pos (by decide), sane17]; rfl
  rw [hm']
  by_cases m1 : (m : Int) > 1
  · rw [if_pos (dpos m1)]
    exact hfin 3 (by rw [if_pos (by omega)])
  · rw [if_neg (dneg m1)]
    exact hfin 0 (by rw [if_neg (by omega)])
end Go.Proofs.YtlejnkhaphlooaaGreat
