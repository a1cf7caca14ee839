/- Plain laws: loads and moves, summed over the items. No condition beyond those of each theorem. -/
import Derived.Test.YtmjobkpgnhbcbaaPRtrack
set_option linter.unusedVariables false
set_option linter.unusedSectionVars false
set_option maxRecDepth 100000
namespace Go.Proofs.Ytmjobkpgnhbcbaa
open Go Go.V Go.Proofs

/-- What item i adds to the load of place p: the steps come first, then the trains. -/
def con (Y : Yard) (ln : Nat → Int) (i p : Nat) : Int := if p < Y.S then (if Y.rd i ≤ p ∧ (Y.c i).testBit p = true then ln i else 0) else (if p = Y.S + Y.tr i then ln i else 0)
def ld (Y : Yard) (ln : Nat → Int) : Nat → Nat → Int
  | 0, _ => 0
  | i + 1, p => ld Y ln i p + con Y ln i p
def lens (items : List Item) : Nat → Int := fun i => (items.getD i (0, 0, 0, 0)).2.2.2

theorem con_range (Y : Yard) (ln : Nat → Int) (h : ∀ i, 0 ≤ ln i ∧ ln i ≤ 400) (i p : Nat) : 0 ≤ con Y ln i p ∧ con Y ln i p ≤ 400 := by
  have := h i
  unfold con
  split <;> split <;> omega
theorem ld_range (Y : Yard) (ln : Nat → Int) (h : ∀ i, 0 ≤ ln i ∧ ln i ≤ 400) : ∀ i p, 0 ≤ ld Y ln i p ∧ ld Y ln i p ≤ 400 * i
  | 0, p => by simp [ld]
  | i + 1, p => by
    have h1 := ld_range Y ln h i p
    have h2 := con_range Y ln h i p
    simp only [ld]
    omega

section
variable {items : List Item} {wt S : Int} {codes : List Int} (hg : Good items wt S codes)
include hg

theorem lens_at {i : Nat} {x : Item} (h : items[i]? = some x) : lens items i = x.2.2.2 := by
  have e2 : items.getD i (0, 0, 0, 0) = x := by simp [List.getD, h]
  simp only [lens, e2]
theorem lens_range (i : Nat) : 0 ≤ lens items i ∧ lens items i ≤ 400 := by
  by_cases h : i < items.length
  · have hx : items[i]? = some items[i] := List.getElem?_eq_getElem h
    rw [lens_at hg hx]
    have := (hg.job.it i _ hx).2.2.2
    omega
  · have : items.getD i (0, 0, 0, 0) = (0, 0, 0, 0) := by simp [List.getD, List.getElem?_eq_none (by omega : items.length ≤ i)]
    simp only [lens, this]
    decide

theorem LL27_ok (i : Nat) (hi : i < items.length) (x : Item) (hx : items[i]? = some x) (N : Nat) (hN : S.toNat ≤ N) :
    loop (rollin_Loads_L27 S codes (i : Int) x) (lst (ld (yard items S codes) (lens items) i) N, x.2.2.1) =
      some (lst (fun p => ld (yard items S codes) (lens items) i p + if p < S.toNat then con (yard items S codes) (lens items) i p else 0) N) := by
  obtain ⟨it, c, hit, hc, hgd, ec, hcl, er, et, htr, _⟩ := item_at hg hi
  rw [hx] at hit; cases hit
  obtain ⟨hS0, hS1⟩ := hg.st
  have hl := hg.job.len
  have hp := pow_le S.toNat (by omega)
  have hln := lens_at hg hx
  have hlr := lens_range hg
  have hlr' := ld_range (yard items S codes) (lens items) hlr i
  have hYS : (yard items S codes).S = S.toNat := rfl
  generalize yard items S codes = Y at *
  obtain ⟨d, h1, h2⟩ := loop_inv (step := rollin_Loads_L27 S codes (i : Int) x) (fun s => ∃ b : Nat, Y.rd i ≤ b ∧ s = (lst (fun p => ld Y (lens items) i p + if p < S.toNat ∧ p < b then con Y (lens items) i p else 0) N, (b : Int)))
    (fun s => 20 - s.2.toNat) (fun d => d = lst (fun p => ld Y (lens items) i p + if p < S.toNat then con Y (lens items) i p else 0) N) (by
    rintro _ ⟨b, hb, rfl⟩
    unfold rollin_Loads_L27
    simp only
    by_cases hbS : b < S.toNat
    · rw [if_pos (dpos (by omega)), idx_nat, hc]
      simp only [Option.bind_some]
      rw [if_pos (by omega), ec, bit_if _ b (by omega) (by omega)]
      have same : ∀ p, p ≠ b → (ld Y (lens items) i p + if p < S.toNat ∧ p < b + 1 then con Y (lens items) i p else 0) = (ld Y (lens items) i p + if p < S.toNat ∧ p < b then con Y (lens items) i p else 0) := by
        intro p hpb
        by_cases h1 : p < S.toNat ∧ p < b
        · rw [if_pos h1, if_pos (by omega)]
        · rw [if_neg h1, if_neg (by omega)]
      cases htb : (Y.c i).testBit b with
      | true =>
        rw [if_pos rfl, idx_nat, lst_get _ (by omega)]
        simp only [Option.bind_some]
        refine .inl ⟨_, rfl, ⟨b + 1, by omega, ?_⟩, ?_⟩
        · rw [wr_id (n := (b : Int) + 1) (by omega) (by omega), Int.toNat_natCast]
          congr 1
          refine lst_set _ _ _ (by omega) ?_ same
          have h3 := hlr' b
          have h4 := hlr i
          have e1 : con Y (lens items) i b = lens items i := by
            simp only [con]
            rw [if_pos (by omega), if_pos ⟨hb, htb⟩]
          rw [if_pos (by omega), if_neg (by omega), e1, ← hln, wr_id (by omega) (by omega)]
          omega
        · simp only
          rw [wr_id (n := (b : Int) + 1) (by omega) (by omega)]
          omega
      | false =>
        rw [if_neg (by decide)]
        refine .inl ⟨_, rfl, ⟨b + 1, by omega, ?_⟩, ?_⟩
        · rw [wr_id (n := (b : Int) + 1) (by omega) (by omega)]
          congr 1
          refine lst_congr fun p _ => ?_
          by_cases hpb : p = b
          · subst hpb
            have e1 : con Y (lens items) i p = 0 := by
              simp only [con]
              rw [if_pos (by omega), if_neg (by simp [htb])]
            rw [if_neg (by omega), if_pos (by omega), e1]
          · exact (same p hpb).symm
        · simp only
          rw [wr_id (n := (b : Int) + 1) (by omega) (by omega)]
          omega
    · rw [if_neg (dneg (by omega))]
      refine .inr ⟨_, rfl, lst_congr fun p _ => ?_⟩
      by_cases h1 : p < S.toNat
      · rw [if_pos h1, if_pos (by omega)]
      · rw [if_neg h1, if_neg (by omega)]) (lst (ld Y (lens items) i) N, x.2.2.1) ⟨Y.rd i, Nat.le_refl _, by
        rw [er]
        congr 1
        refine lst_congr fun p _ => ?_
        by_cases h1 : p < S.toNat ∧ p < Y.rd i
        · rw [if_pos h1]
          have e1 : con Y (lens items) i p = 0 := by
            simp only [con]
            rw [if_pos (by omega), if_neg (by omega)]
          rw [e1]; omega
        · rw [if_neg h1]; omega⟩ (by simp only; omega)
  rw [h1, h2]

theorem Loads_ok : rollin_Loads items wt S codes = some (lst (ld (yard items S codes) (lens items) items.length) (S.toNat + trains items), 0) := by
  obtain ⟨hS0, hS1⟩ := hg.st
  have hl := hg.job.len
  have hT := T_le hg
  have hlr := lens_range hg
  unfold rollin_Loads
  rw [valid_ok hg]
  simp only [Option.bind_some, bne_self_eq_false, Bool.false_eq_true, if_false]
  rw [start_ok hg]
  simp only [Option.bind_some]
  have eN : IntKind.i64.wrap (S + ((rows ((yard items S codes).B 0) (trains items)).length : Int)) = ((S.toNat + trains items : Nat) : Int) := by
    rw [rows_len, wr_id (by omega) (by omega)]; omega
  rw [eN, if_pos (by omega), Int.toNat_natCast, lst_zero]
  obtain ⟨d, h1, h2⟩ := loop_inv (step := rollin_Loads_L19 items S codes) (fun s => ∃ i : Nat, i ≤ items.length ∧ s = (lst (ld (yard items S codes) (lens items) i) (S.toNat + trains items), (i : Int))) (fun s => items.length - s.2.toNat)
    (fun d => d = lst (ld (yard items S codes) (lens items) items.length) (S.toNat + trains items)) (by
    rintro _ ⟨i, hi, rfl⟩
    unfold rollin_Loads_L19
    simp only
    by_cases hil : i < items.length
    · obtain ⟨x, c, hx, hc, hgd, ec, hcl, er, et, htr, _⟩ := item_at hg hil
      rw [if_pos (dpos (by omega)), idx_nat, hx]
      simp only [Option.bind_some]
      rw [LL27_ok hg i hil x hx _ (by omega)]
      simp only [Option.bind_some]
      have hln := lens_at hg hx
      have hlr' := ld_range (yard items S codes) (lens items) hlr i
      have hYS : (yard items S codes).S = S.toNat := rfl
      generalize yard items S codes = Y at *
      rw [et, wr_id (n := S + (Y.tr i : Int)) (by omega) (by omega), show S + (Y.tr i : Int) = ((S.toNat + Y.tr i : Nat) : Int) by omega, idx_nat, lst_get _ (by omega)]
      simp only [Option.bind_some]
      refine .inl ⟨_, rfl, ⟨i + 1, by omega, ?_⟩, ?_⟩
      · rw [wr_id (n := (i : Int) + 1) (by omega) (by omega), Int.toNat_natCast]
        congr 1
        have h3 := hlr' (S.toNat + Y.tr i)
        have h4 := hlr i
        refine lst_set _ _ _ (by omega) ?_ (fun p hp => ?_)
        · rw [if_neg (by omega), ← hln, wr_id (by omega) (by omega)]
          simp only [ld, con]
          rw [if_neg (by omega), if_pos (by omega)]
          omega
        · simp only [ld]
          by_cases hpS : p < S.toNat
          · rw [if_pos hpS]
          · rw [if_neg hpS]
            simp only [con]
            rw [if_neg (by omega), if_neg (by omega)]
      · simp only
        rw [wr_id (n := (i : Int) + 1) (by omega) (by omega)]
        omega
    · rw [if_neg (dneg (by omega))]
      exact .inr ⟨_, rfl, by rw [show i = items.length by omega]⟩) (lst (fun _ => 0) (S.toNat + trains items), 0) ⟨0, by omega, by congr 1⟩ (by simp; omega)
  rw [h1, h2]
  rfl

/-- The real bits of item i. -/
def bitsL (c r : Nat) (m : Nat) : List Nat := (List.range m).filter fun b => decide (r ≤ b) && c.testBit b
omit hg in
theorem bitsL_succ (c r m : Nat) : bitsL c r (m + 1) = bitsL c r m ++ [m].filter (fun b => decide (r ≤ b) && c.testBit b) := by simp [bitsL, List.range_succ]
omit hg in
theorem bitsL_len (c r m : Nat) : (bitsL c r m).length ≤ m := by
  have := List.length_filter_le (fun b => decide (r ≤ b) && c.testBit b) (List.range m)
  simpa [bitsL] using this

omit hg in
theorem Real_ok (c r w : Nat) (hr : r ≤ 12) (hc : c < 4096) (hn : isN r w c = true) : r12_Real (c : Int) (r : Int) = some (castL (bitsL c r 12), 0) := by
  simp only [isN, Bool.and_eq_true, decide_eq_true_eq] at hn
  have hp := pow_le r hr
  unfold r12_Real
  rw [if_neg (dneg (by omega)), if_neg (dneg (by omega)), if_neg (dneg (by omega)), if_neg (dneg (by omega)), if_pos (by omega), one_shl r hr, if_pos (by omega), if_pos (by omega), tmod_nat, hn.1, wr_id (n := ((2 ^ r : Nat) : Int) - 1) (by omega) (by omega)]
  rw [if_neg (by
    have : ((2 ^ r - 1 : Nat) : Int) = ((2 ^ r : Nat) : Int) - 1 := by omega
    simp [this])]
  obtain ⟨d, h1, h2⟩ := loop_inv (step := r12_Real_L3 (c : Int)) (fun s => ∃ b : Nat, r ≤ b ∧ b ≤ 12 ∧ s = (castL (bitsL c r b), (b : Int))) (fun s => 12 - s.2.toNat) (fun d => d = castL (bitsL c r 12)) (by
    rintro _ ⟨b, hb, hb2, rfl⟩
    unfold r12_Real_L3
    simp only
    by_cases h : b < 12
    · rw [if_pos (dpos (by omega)), if_pos (by omega), bit_if c b (by omega) (by omega)]
      have hl := bitsL_len c r b
      cases htb : c.testBit b with
      | true =>
        rw [if_pos rfl, if_pos (by rw [castL_len]; simp only [List.length_cons, List.length_nil]; omega), wr_id (by omega) (by omega)]
        refine .inl ⟨_, rfl, ⟨b + 1, by omega, by omega, ?_⟩, by simp only; omega⟩
        rw [bitsL_succ, castL_app]
        simp [hb, htb, castL]
      | false =>
        rw [if_neg (by decide), wr_id (by omega) (by omega)]
        refine .inl ⟨_, rfl, ⟨b + 1, by omega, by omega, ?_⟩, by simp only; omega⟩
        rw [bitsL_succ]
        simp [htb]
    · rw [if_neg (dneg (by omega))]
      exact .inr ⟨_, rfl, by rw [show b = 12 by omega]⟩) ([], (r : Int)) ⟨r, Nat.le_refl _, hr, by
        have : bitsL c r r = [] := by
          simp only [bitsL]
          refine List.filter_eq_nil_iff.2 fun x hx => ?_
          have := List.mem_range.1 hx
          simp; omega
        rw [this]; rfl⟩ (by simp; omega)
  rw [h1, h2]
  rfl

/-- A sum over the numbers below n. -/
def sumN (f : Nat → Nat) : Nat → Nat
  | 0 => 0
  | n + 1 => sumN f n + f n
omit hg in
theorem sumN_congr {f g : Nat → Nat} : ∀ {n : Nat}, (∀ x, x < n → f x = g x) → sumN f n = sumN g n
  | 0, _ => rfl
  | n + 1, h => by
    simp only [sumN]
    rw [sumN_congr (n := n) (fun x hx => h x (by omega)), h n (by omega)]
omit hg in
theorem sumN_add (f g : Nat → Nat) : ∀ n, sumN (fun x => f x + g x) n = sumN f n + sumN g n
  | 0 => rfl
  | n + 1 => by simp only [sumN]; rw [sumN_add f g n]; omega
omit hg in
theorem len_filter (p : Nat → Bool) : ∀ n, ((List.range n).filter p).length = sumN (fun x => if p x then 1 else 0) n
  | 0 => rfl
  | n + 1 => by
    rw [List.range_succ, List.filter_append, List.length_append, len_filter p n]
    simp only [sumN]
    cases h : p n <;> simp [h]

theorem moves_sum : ∀ k, k ≤ S.toNat → (yard items S codes).moves (k + 1) = sumN (fun x => if (yard items S codes).rd x ≤ k then 1 + (bitsL ((yard items S codes).c x) ((yard items S codes).rd x) k).length else 0) items.length := by
  generalize hY : yard items S codes = Y
  have hn : Y.n = items.length := by rw [← hY]; rfl
  have hYS : Y.S = S.toNat := by rw [← hY]; rfl
  intro k
  induction k with
  | zero =>
    intro _
    have hp : Y.pull 0 = [] := rfl
    simp only [Yard.moves, hp, List.length_nil]
    rw [Yard.new, len_filter, hn]
    simp only [Nat.zero_add]
    refine sumN_congr fun x _ => ?_
    by_cases h : Y.rd x = 0
    · simp [h, bitsL]
    · rw [if_neg (by simpa using h), if_neg (by omega)]
  | succ k ih =>
    intro hk
    have ih := ih (by omega)
    have hi := Y.inv k (by omega)
    have e1 : (Y.pull (k + 1)).length = sumN (fun x => if (decide (Y.rd x ≤ k) && (Y.c x).testBit k) then 1 else 0) items.length := by
      rw [← len_filter, ← hn]
      have hp : Y.pull (k + 1) = Y.A (k + 1) k := rfl
      rw [hp]
      refine Yard.same_len (hi.an k) (List.Nodup.sublist List.filter_sublist List.nodup_range) (fun x => ?_)
      rw [hi.a, List.mem_filter, List.mem_range, Bool.and_eq_true, decide_eq_true_eq]
      constructor
      · rintro ⟨h1, h2, h3⟩; exact ⟨h1, h2, (nb_some h3).2.2.1⟩
      · rintro ⟨h1, h2, h3⟩; exact ⟨h1, h2, nb_here h3 (by omega)⟩
    have e2 : (Y.new (k + 1)).length = sumN (fun x => if (Y.rd x == k + 1) then 1 else 0) items.length := by rw [Yard.new, len_filter, hn]
    rw [Yard.moves, ih, e1, e2, ← sumN_add, ← sumN_add]
    refine sumN_congr fun x _ => ?_
    have hb : (bitsL (Y.c x) (Y.rd x) (k + 1)).length = (bitsL (Y.c x) (Y.rd x) k).length + (if (decide (Y.rd x ≤ k) && (Y.c x).testBit k) then 1 else 0) := by
      rw [bitsL_succ, List.length_append]
      congr 1
      cases h : (decide (Y.rd x ≤ k) && (Y.c x).testBit k) <;> simp [h]
    by_cases h1 : Y.rd x ≤ k
    · have c1 : (Y.rd x == k + 1) = false := by simp; omega
      have c2 : Y.rd x ≤ k + 1 := by omega
      rw [hb]
      simp only [h1, c1, c2, if_true, decide_true, Bool.true_and, Bool.false_eq_true, if_false]
      omega
    · by_cases h2 : Y.rd x = k + 1
      · have c1 : (Y.rd x == k + 1) = true := by simp [h2]
        have c2 : Y.rd x ≤ k + 1 := by omega
        have : bitsL (Y.c x) (Y.rd x) (k + 1) = [] := by
          simp only [bitsL]
          refine List.filter_eq_nil_iff.2 fun y hy => ?_
          have := List.mem_range.1 hy
          simp; omega
        rw [this]
        simp only [h1, c1, c2, if_true, decide_false, Bool.false_and, Bool.false_eq_true, if_false, List.length_nil]
      · have c1 : (Y.rd x == k + 1) = false := by simpa using h2
        have c2 : ¬ Y.rd x ≤ k + 1 := by omega
        simp only [h1, c1, c2, decide_false, Bool.false_and, Bool.false_eq_true, if_false]

omit hg in
theorem bits_up (c r s : Nat) (hc : c < 2 ^ s) : ∀ d, bitsL c r (s + d) = bitsL c r s
  | 0 => rfl
  | d + 1 => by
    rw [← Nat.add_assoc, bitsL_succ, bits_up c r s hc d]
    have : c.testBit (s + d) = false := Nat.testBit_lt_two_pow (Nat.lt_of_lt_of_le hc (Nat.pow_le_pow_right (by omega) (by omega)))
    simp [this]
end

end Go.Proofs.Ytmjobkpgnhbcbaa
