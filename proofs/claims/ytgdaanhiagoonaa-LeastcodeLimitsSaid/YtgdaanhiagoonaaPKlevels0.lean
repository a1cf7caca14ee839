/- Plain laws: where all items are of round 0, the least code of an item is the code whose index is its level. No condition beyond those of each theorem. -/
import Derived.Test.YtgdaanhiagoonaaPKuse
import Derived.Test.YtgdaanhiagoonaaPKrank
set_option linter.unusedVariables false
set_option linter.unusedSectionVars false
set_option linter.unusedSimpArgs false
set_option maxRecDepth 100000
namespace Go.Proofs.Ytgdaanhiagoonaa
open Go Go.V Go.Proofs

section
variable {its : List Item} {wt : Int} (hg : JobGood its wt) (h0 : ∀ y, rOf its y = 0) {l : List Int} (hl : IsLev its l)
include hg h0 hl

/-- The number of codes below what is asked of an item is what is asked of its level. -/
theorem cb_need {d : List Int} (y : Nat) (hd : ∀ x, rel its x y > 0 → 0 ≤ d.getD x 0 ∧ isN 0 wt.toNat (d.getD x 0).toNat = true ∧ ((cb (isN 0 wt.toNat) (d.getD x 0).toNat : Nat) : Int) = l.getD x 0) :
    ∀ m, ((cb (isN 0 wt.toNat) (needU its d y m).toNat : Nat) : Int) = needU its l y m
  | 0 => rfl
  | m + 1 => by
    have ih := cb_need y hd m
    have hn := needU_nonneg its d y m
    unfold needU
    by_cases hr : rel its m y > 0
    · obtain ⟨q0, q1, q2⟩ := hd m hr
      rw [if_pos hr, if_pos hr]
      have hs : ((cb (isN 0 wt.toNat) (d.getD m 0 + rel its m y - 1).toNat : Nat) : Int) = l.getD m 0 + rel its m y - 1 := by
        rcases rel_range its m y with e | e | e
        · omega
        · rw [e, show (d.getD m 0 + 1 - 1) = d.getD m 0 by omega, q2]; omega
        · rw [e, show (d.getD m 0 + 2 - 1).toNat = (d.getD m 0).toNat + 1 by omega]
          have : cb (isN 0 wt.toNat) ((d.getD m 0).toNat + 1) = cb (isN 0 wt.toNat) (d.getD m 0).toNat + 1 := by
            show cb (isN 0 wt.toNat) (d.getD m 0).toNat + (if isN 0 wt.toNat (d.getD m 0).toNat = true then 1 else 0) = _
            rw [if_pos q1]
          rw [this]
          omega
      rw [← hs, ← ih]
      by_cases hgt : d.getD m 0 + rel its m y - 1 > needU its d y m
      · have hm := cb_mono (isN 0 wt.toNat) (show (needU its d y m).toNat ≤ (d.getD m 0 + rel its m y - 1).toNat by omega)
        rw [if_pos hgt]
        split
        · rfl
        · omega
      · have hm := cb_mono (isN 0 wt.toNat) (show (d.getD m 0 + rel its m y - 1).toNat ≤ (needU its d y m).toNat by omega)
        rw [if_neg hgt, if_neg (by omega)]
    · rw [if_neg hr, if_neg hr]
      exact ih

/-- The next code at or above a number has as many codes below it as the number. -/
theorem nx_cb {n : Int} (hn : 0 ≤ n) : (∃ k : Nat, NX n 0 wt = ((k : Int), 0) ∧ k < 4096 ∧ isN 0 wt.toNat k = true ∧ cb (isN 0 wt.toNat) k = cb (isN 0 wt.toNat) n.toNat) ∨ (NX n 0 wt = (0, 15) ∧ cb (isN 0 wt.toNat) 4096 ≤ cb (isN 0 wt.toNat) n.toNat) := by
  have hw := hg.w
  have hs := (nx_ok hn (r := 0) (by omega) hw).2.2
  rw [show Int.toNat 0 = 0 from rfl] at hs
  rcases hs with ⟨k, e, h1, h2, h3, h4⟩ | ⟨e, h1⟩
  · refine .inl ⟨k, e, h2, h3, ?_⟩
    obtain ⟨c, rfl⟩ : ∃ c, k = n.toNat + c := ⟨k - n.toNat, by omega⟩
    rw [cb_add, cb_false c (fun x hx => h4 (n.toNat + x) (by omega) (by omega))]
    rfl
  · refine .inr ⟨e, ?_⟩
    rcases Nat.lt_or_ge n.toNat 4096 with q | q
    · obtain ⟨c, hc⟩ : ∃ c, 4096 = n.toNat + c := ⟨4096 - n.toNat, by omega⟩
      have : cb (isN 0 wt.toNat) (n.toNat + c) = cb (isN 0 wt.toNat) n.toNat := by
        rw [cb_add, cb_false c (fun x hx => h1 (n.toNat + x) (by omega) (by omega))]
        rfl
      rw [← hc] at this
      omega
    · exact cb_mono _ q

/-- Numbers that are right on a set that is closed downwards are the codes of the levels. -/
theorem lvl_on {d : List Int} (S : Nat → Prop) (hS : ∀ y, S y → y < its.length) (hdown : ∀ x y, S y → rel its x y > 0 → S x)
    (hd : ∀ y, S y → NX (need its d y) (rOf its y) wt = (d.getD y 0, 0)) : ∀ y, S y → 0 ≤ d.getD y 0 ∧ d.getD y 0 < 4096 ∧ isN 0 wt.toNat (d.getD y 0).toNat = true ∧ ((cb (isN 0 wt.toNat) (d.getD y 0).toNat : Nat) : Int) = l.getD y 0 := by
  have key : ∀ n y, (bOf its y).toNat < n → S y → 0 ≤ d.getD y 0 ∧ d.getD y 0 < 4096 ∧ isN 0 wt.toNat (d.getD y 0).toNat = true ∧ ((cb (isN 0 wt.toNat) (d.getD y 0).toNat : Nat) : Int) = l.getD y 0 := by
    intro n
    induction n with
    | zero => intro y hy; omega
    | succ n ih =>
      intro y hy hs
      have e := hd y hs
      have hc := cb_need hg h0 hl (d := d) y (fun x hr => by
        have h1 := (rel_blk hr).1
        have := (hg.b x).1
        obtain ⟨a, _, b, c⟩ := ih x (by omega) (hdown x y hs hr)
        exact ⟨a, b, c⟩) its.length
      rw [h0 y] at e
      rcases nx_cb hg h0 hl (needU_nn its d y) with ⟨k, e1, h1, h2, h3⟩ | ⟨e1, _⟩
      · rw [e] at e1
        have ek : d.getD y 0 = (k : Int) := congrArg Prod.fst e1
        rw [ek, Int.toNat_natCast]
        refine ⟨by omega, by omega, h2, ?_⟩
        rw [h3, hl.eq y (hS y hs)]
        exact hc
      · rw [e] at e1
        have := congrArg Prod.snd e1
        simp at this
  exact fun y hs => key _ y (Nat.lt_succ_self _) hs
theorem lvl_lst {v : List Int} (hv : IsLst its wt v) (y : Nat) (hy : y < its.length) : 0 ≤ v.getD y 0 ∧ v.getD y 0 < 4096 ∧ isN 0 wt.toNat (v.getD y 0).toNat = true ∧ ((cb (isN 0 wt.toNat) (v.getD y 0).toNat : Nat) : Int) = l.getD y 0 :=
  lvl_on hg h0 hl (fun y => y < its.length) (fun y h => h) (fun x y _ hr => (rel_blk hr).2.1) hv.eq y hy
theorem lvl_lt {v : List Int} (hv : IsLst its wt v) (y : Nat) (hy : y < its.length) : l.getD y 0 < ((cb (isN 0 wt.toNat) 4096 : Nat) : Int) := by
  obtain ⟨a, b, c, d⟩ := lvl_lst hg h0 hl hv y hy
  have := cb_lt (isN 0 wt.toNat) (show (v.getD y 0).toNat < 4096 by omega) c
  omega
/-- Where there are codes enough, there is a solution. -/
theorem lvl_free (hall : ∀ y, y < its.length → l.getD y 0 < ((cb (isN 0 wt.toNat) 4096 : Nat) : Int)) : ¬ Stuck its wt := by
  rintro ⟨d, S, y, h1, h2, h3, h4, h5, h6⟩
  have hc := cb_need hg h0 hl (d := d) y (fun x hr => by
    obtain ⟨a, _, b, c⟩ := lvl_on hg h0 hl S h1 h2 h3 x (h5 x hr)
    exact ⟨a, b, c⟩) its.length
  have hly := hl.eq y h4
  have := hall y h4
  rw [h0 y] at h6
  rcases nx_cb hg h0 hl (needU_nn its d y) with ⟨k, e1, _, _, _⟩ | ⟨e1, h7⟩
  · rw [h6] at e1
    have := congrArg Prod.snd e1
    simp at this
  · unfold need at h7 hly
    omega
end
end Go.Proofs.Ytgdaanhiagoonaa
