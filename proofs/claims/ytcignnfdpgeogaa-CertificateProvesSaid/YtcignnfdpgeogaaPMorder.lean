/- Plain laws: the tracks of the trains are sorted by codes, then by the list. No condition. -/
import Derived.Test.YtcignnfdpgeogaaPMrun
set_option linter.unusedVariables false
set_option linter.unusedSectionVars false
set_option maxRecDepth 100000
namespace Go.Proofs.Ytcignnfdpgeogaa
open Go Go.V Go.Proofs

namespace Yard
variable (Y : Yard)
/-- x comes before y at time k: by the lower k bits, then by number. -/
def lt (k x y : Nat) : Prop := Y.c x % 2 ^ k < Y.c y % 2 ^ k ∨ (Y.c x % 2 ^ k = Y.c y % 2 ^ k ∧ x < y)

theorem mod_bit (c k : Nat) : c % 2 ^ (k + 1) = (if c.testBit k then 2 ^ k else 0) + c % 2 ^ k := by
  rw [Nat.pow_succ, Nat.mod_mul]
  rw [Nat.testBit_eq_decide_div_mod_eq]
  by_cases h1 : c / 2 ^ k % 2 = 1
  · rw [h1]; simp; omega
  · have : c / 2 ^ k % 2 = 0 := by omega
    rw [this]; simp

theorem sorted (ha : ∀ x y, x < Y.n → y < Y.n → Y.rd x < Y.rd y → x < y) (hm : ∀ x, x < Y.n → Y.c x % 2 ^ (Y.rd x) = 2 ^ (Y.rd x) - 1) :
    ∀ (k : Nat), k ≤ Y.S → (∀ b, (Y.A (k + 1) b).Pairwise (Y.lt k)) ∧ (∀ t, (Y.B (k + 1) t).Pairwise (Y.lt k))
  | 0, _ => by
    have hp : Y.pull 0 = [] := rfl
    have h0 : (Y.new 0).Pairwise (Y.lt 0) := by
      refine List.Pairwise.imp (R := (· < ·)) (fun {a b} h => .inr ⟨by simp [Nat.mod_one], h⟩) ?_
      exact List.Pairwise.sublist List.filter_sublist List.pairwise_lt_range
    refine ⟨fun b => ?_, fun t => ?_⟩
    · rw [A_succ, hp, if_neg (by omega)]
      simp only [A, both, List.nil_append]
      exact List.Pairwise.sublist List.filter_sublist h0
    · rw [B_succ, hp]
      simp only [B, both, List.nil_append]
      exact List.Pairwise.sublist List.filter_sublist h0
  | k + 1, hk => by
    obtain ⟨iA, iB⟩ := sorted ha hm k (by omega)
    have hi := Y.inv k (by omega)
    have hp : Y.pull (k + 1) = Y.A (k + 1) k := rfl
    have p0 : 0 < 2 ^ k := Nat.two_pow_pos k
    -- who is pulled has the bit k
    have pb : ∀ x, x ∈ Y.pull (k + 1) → x < Y.n ∧ Y.rd x ≤ k ∧ (Y.c x).testBit k = true := by
      intro x hx
      rw [hp, hi.a] at hx
      exact ⟨hx.1, hx.2.1, (nb_some hx.2.2).2.2.1⟩
    have ps : (Y.pull (k + 1)).Pairwise (Y.lt (k + 1)) := by
      rw [hp]
      refine List.Pairwise.imp_of_mem (fun {a b} ha' hb' h => ?_) (iA k)
      have h1 := (pb a (by rw [hp]; exact ha')).2.2
      have h2 := (pb b (by rw [hp]; exact hb')).2.2
      simp only [lt, mod_bit, h1, h2, if_true] at h ⊢
      omega
    have ns : (Y.new (k + 1)).Pairwise (Y.lt (k + 1)) := by
      refine List.Pairwise.imp_of_mem (R := (· < ·)) (fun {a b} ha' hb' h => .inr ⟨?_, h⟩) (List.Pairwise.sublist List.filter_sublist List.pairwise_lt_range)
      obtain ⟨a1, a2⟩ := Y.mem_new.1 ha'
      obtain ⟨b1, b2⟩ := Y.mem_new.1 hb'
      have e1 := hm a a1
      have e2 := hm b b1
      rw [a2] at e1; rw [b2] at e2
      omega
    have all : (Y.pull (k + 1) ++ Y.new (k + 1)).Pairwise (Y.lt (k + 1)) := by
      refine List.pairwise_append.2 ⟨ps, ns, fun x hx y hy => ?_⟩
      obtain ⟨x1, x2, x3⟩ := pb x hx
      obtain ⟨y1, y2⟩ := Y.mem_new.1 hy
      have e2 := hm y y1
      rw [y2] at e2
      have e3 : Y.c x % 2 ^ (k + 1) < 2 ^ (k + 1) := Nat.mod_lt _ (Nat.two_pow_pos _)
      have e4 := ha x y x1 y1 (by omega)
      simp only [lt]
      omega
    -- who was there before has not the bit k
    have old : ∀ (l : List Nat), l.Pairwise (Y.lt k) → (∀ x ∈ l, x < Y.n ∧ Y.rd x ≤ k ∧ (Y.c x).testBit k = false) → ∀ q : Nat → Bool,
        (l ++ (Y.pull (k + 1) ++ Y.new (k + 1)).filter q).Pairwise (Y.lt (k + 1)) := by
      intro l hl hlm q
      refine List.pairwise_append.2 ⟨?_, List.Pairwise.sublist List.filter_sublist all, fun x hx y hy => ?_⟩
      · refine List.Pairwise.imp_of_mem (fun {a b} ha' hb' h => ?_) hl
        have h1 := (hlm a ha').2.2
        have h2 := (hlm b hb').2.2
        simp only [lt, mod_bit, h1, h2] at h ⊢
        simpa using h
      · obtain ⟨x1, x2, x3⟩ := hlm x hx
        have hy' := (List.mem_filter.1 hy).1
        have e1 : Y.c x % 2 ^ k < 2 ^ k := Nat.mod_lt _ p0
        have e0 : Y.c x % 2 ^ (k + 1) = Y.c x % 2 ^ k := by rw [mod_bit, x3]; simp
        rcases List.mem_append.1 hy' with h | h
        · have h2 := (pb y h).2.2
          have e2 : Y.c y % 2 ^ (k + 1) = 2 ^ k + Y.c y % 2 ^ k := by rw [mod_bit, h2]; simp
          left; omega
        · obtain ⟨y1, y2⟩ := Y.mem_new.1 h
          have e2 := hm y y1
          rw [y2] at e2
          have e3 : 2 ^ (k + 1) = 2 ^ k * 2 := Nat.pow_succ 2 k
          have e4 := ha x y x1 y1 (by omega)
          simp only [lt]
          omega
    refine ⟨fun b => ?_, fun t => ?_⟩
    · rw [A_succ]
      by_cases hb : b + 1 = k + 1
      · rw [if_pos hb, List.nil_append]
        exact List.Pairwise.sublist List.filter_sublist all
      · rw [if_neg hb]
        refine old _ (iA b) (fun x hx => ?_) _
        obtain ⟨q1, q2, q3⟩ := (hi.a b x).1 hx
        obtain ⟨r1, r2, r3, r4⟩ := nb_some q3
        exact ⟨q1, q2, r4 k (by omega) (by omega)⟩
    · rw [B_succ]
      refine old _ (iB t) (fun x hx => ?_) _
      obtain ⟨q1, q2, q3, q4⟩ := (hi.b t x).1 hx
      refine ⟨q1, q2, ?_⟩
      cases ht : (Y.c x).testBit k with
      | false => rfl
      | true => rw [nb_here ht (by omega)] at q3; cases q3
end Yard

theorem asc_le {items : List Item} {wt : Int} (h : JobGood items wt) : ∀ (d i : Nat) (x y : Item), items[i]? = some x → items[i + d]? = some y → x.2.2.1 ≤ y.2.2.1
  | 0, i, x, y, hx, hy => by
    rw [Nat.add_zero, hx] at hy; cases hy; exact Int.le_refl _
  | d + 1, i, x, y, hx, hy => by
    have hlt := (List.getElem?_eq_some_iff.1 hy).1
    have hz : items[i + d]? = some (items[i + d]'(by omega)) := List.getElem?_eq_getElem _
    have h1 := asc_le h d i x _ hx hz
    have h2 := h.asc (i + d) _ y hz (by rw [← hy]; rfl)
    omega

section
variable {items : List Item} {wt S : Int} {codes : List Int} (hg : Good items wt S codes)
include hg
theorem rd_lt (x y : Nat) (hx : x < items.length) (hy : y < items.length) (h : (yard items S codes).rd x < (yard items S codes).rd y) : x < y := by
  obtain ⟨a, c, h1, _, _, _, _, e1, _⟩ := item_at hg hx
  obtain ⟨b, d, h2, _, _, _, _, e2, _⟩ := item_at hg hy
  rcases Nat.lt_or_ge x y with h3 | h3
  · exact h3
  · have := asc_le hg.job (x - y) y b a h2 (by rw [show y + (x - y) = x by omega]; exact h1)
    omega
theorem missed_mod (x : Nat) (hx : x < items.length) : (yard items S codes).c x % 2 ^ ((yard items S codes).rd x) = 2 ^ ((yard items S codes).rd x) - 1 := by
  obtain ⟨a, c, h1, _, _, _, _, e1, _, _, hi⟩ := item_at hg hx
  simp only [isN, Bool.and_eq_true, decide_eq_true_eq] at hi
  exact hi.1

/-- The tracks of the trains at the end. -/
theorem final_mem (t x : Nat) (hr : ∀ i, i < items.length → (yard items S codes).rd i ≤ S.toNat) : x ∈ (yard items S codes).B (S.toNat + 1) t ↔ x < items.length ∧ (yard items S codes).tr x = t := by
  have hi := (yard items S codes).inv S.toNat (Nat.le_refl _)
  rw [hi.b]
  constructor
  · rintro ⟨h1, _, _, h2⟩; exact ⟨h1, h2⟩
  · rintro ⟨h1, h2⟩
    refine ⟨h1, hr x h1, ?_, h2⟩
    show nb _ S.toNat S.toNat = none
    rw [nb, if_neg (by omega)]

/-- The tracks of the first m trains, one behind another. -/
def cat (Y : Yard) (k m : Nat) : List Nat := (List.range m).flatMap (fun b => Y.B k b)
omit hg in
theorem cat_succ (Y : Yard) (k m : Nat) : cat Y k (m + 1) = cat Y k m ++ Y.B k m := by simp [cat, List.range_succ]

theorem steps_le : ∀ i, i < items.length → (∀ (j : Nat) (x : Item), items[j]? = some x → x.2.2.1 ≤ S) → (yard items S codes).rd i ≤ S.toNat := by
  intro i hi h
  obtain ⟨a, c, h1, _, _, _, _, e1, _⟩ := item_at hg hi
  have := h i a h1
  omega

/-- No round lies behind the last step: its missed bits would be too many. -/
theorem rounds_le (i : Nat) (hi : i < items.length) : (yard items S codes).rd i ≤ S.toNat := by
  obtain ⟨a, c, h1, _, hgd, e0, hc, e1, _⟩ := item_at hg hi
  have hm := missed_mod hg i hi
  have h12 : (yard items S codes).rd i ≤ 12 := by have := hgd.2.2.1; omega
  rcases Nat.lt_or_ge S.toNat ((yard items S codes).rd i) with h | h
  · have hp : 2 ^ (S.toNat + 1) ≤ 2 ^ ((yard items S codes).rd i) := Nat.pow_le_pow_right (by omega) (by omega)
    have hp2 : 2 ^ (S.toNat + 1) = 2 ^ S.toNat * 2 := Nat.pow_succ 2 _
    have hp3 := Nat.two_pow_pos S.toNat
    have hle : (yard items S codes).c i % 2 ^ ((yard items S codes).rd i) ≤ (yard items S codes).c i := Nat.mod_le _ _
    omega
  · exact h

theorem cat_len : (cat (yard items S codes) (S.toNat + 1) (trains items)).length = items.length := by
  have hi := (yard items S codes).inv S.toNat (Nat.le_refl _)
  have key : ∀ m, (cat (yard items S codes) (S.toNat + 1) m).Nodup ∧ ∀ x, x ∈ cat (yard items S codes) (S.toNat + 1) m ↔ x < items.length ∧ (yard items S codes).tr x < m := by
    intro m
    induction m with
    | zero => exact ⟨by simp [cat], fun x => by simp [cat]⟩
    | succ m ih =>
      obtain ⟨h1, h2⟩ := ih
      rw [cat_succ]
      refine ⟨List.nodup_append.2 ⟨h1, hi.bn m, fun x hx y hy he => ?_⟩, fun x => ?_⟩
      · subst he
        have a1 := (h2 x).1 hx
        have a2 := (final_mem hg m x (rounds_le hg)).1 hy
        omega
      · rw [List.mem_append, h2, final_mem hg m x (rounds_le hg)]
        omega
  obtain ⟨h1, h2⟩ := key (trains items)
  have := Yard.same_len h1 List.nodup_range (fun x => (h2 x).trans (by
    rw [List.mem_range (n := items.length)]
    constructor
    · exact fun h => h.1
    · intro h
      obtain ⟨_, _, _, _, _, _, _, _, _, htr, _⟩ := item_at hg h
      exact ⟨h, htr⟩))
  simpa using this

theorem valid_ok : rollin_Valid items wt S codes = some 0 := by
  have hl := hg.job.len
  obtain ⟨e, h1, h2⟩ := valid_spec items wt S codes (by rw [hg.cl]; omega) (by omega)
  rcases h2 with ⟨rfl, _⟩ | ⟨_, h, _⟩
  · exact h1
  · exact absurd hg h

theorem Run_ok : rollin_Run items wt S codes = some ((rows ((yard items S codes).B (S.toNat + 1)) (trains items), (((yard items S codes).moves (S.toNat + 1) : Nat) : Int)), 0) := by
  unfold rollin_Run
  rw [valid_ok hg]
  simp only [Option.bind_some, bne_self_eq_false, Bool.false_eq_true, if_false]
  have h := run_ok hg S.toNat (Nat.le_refl _)
  rw [Int.toNat_of_nonneg hg.st.1] at h
  rw [h]
  rfl

end

end Go.Proofs.Ytcignnfdpgeogaa
