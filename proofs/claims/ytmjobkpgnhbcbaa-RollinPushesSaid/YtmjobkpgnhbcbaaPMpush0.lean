/- Plain laws: with the least codes of items of round 0 every step is used. No condition beyond those of each theorem. -/
import Derived.Test.YtmjobkpgnhbcbaaPMorder
import Derived.Test.YtmjobkpgnhbcbaaPKuse0
import Derived.Test.YtmjobkpgnhbcbaaPKrank0
set_option linter.unusedVariables false
set_option linter.unusedSectionVars false
set_option linter.unusedSimpArgs false
set_option maxRecDepth 100000
namespace Go.Proofs.Ytmjobkpgnhbcbaa
open Go Go.V Go.Proofs

theorem nx_cb {n wt : Int} (hw : 0 ≤ wt ∧ wt ≤ 12) (hn : 0 ≤ n) : (∃ k : Nat, NX n 0 wt = ((k : Int), 0) ∧ k < 4096 ∧ isN 0 wt.toNat k = true ∧ cb (isN 0 wt.toNat) k = cb (isN 0 wt.toNat) n.toNat) ∨ NX n 0 wt = (0, 15) := by
  have hs := (nx_ok hn (r := 0) (by omega) hw).2.2
  rw [show Int.toNat 0 = 0 from rfl] at hs
  rcases hs with ⟨k, e, h1, h2, h3, h4⟩ | ⟨e, h1⟩
  · refine .inl ⟨k, e, h2, h3, ?_⟩
    obtain ⟨c, rfl⟩ : ∃ c, k = n.toNat + c := ⟨k - n.toNat, by omega⟩
    rw [cb_add, cb_false c (fun x hx => h4 (n.toNat + x) (by omega) (by omega))]
    rfl
  · exact .inr e

section
variable {its : List Item} {wt : Int} (hg : JobGood its wt) (h0 : ∀ y, rOf its y = 0) {v : List Int} (hv : IsLst its wt v)
include hg h0 hv

theorem lst_code (y : Nat) (hy : y < its.length) : 0 ≤ v.getD y 0 ∧ v.getD y 0 < 4096 ∧ isN 0 wt.toNat (v.getD y 0).toNat = true ∧ cb (isN 0 wt.toNat) (v.getD y 0).toNat = cb (isN 0 wt.toNat) (need its v y).toNat := by
  have e := hv.eq y hy
  rw [h0 y] at e
  rcases nx_cb hg.w (needU_nn its v y) with ⟨k, e1, h1, h2, h3⟩ | e1
  · rw [e] at e1
    have ek : v.getD y 0 = (k : Int) := congrArg Prod.fst e1
    rw [ek, Int.toNat_natCast]
    exact ⟨by omega, by omega, h2, h3⟩
  · rw [e] at e1
    have := congrArg Prod.snd e1
    simp at this

theorem contig : ∀ (b y : Nat), (bOf its y).toNat < b → y < its.length → ∀ i, i ≤ cb (isN 0 wt.toNat) (v.getD y 0).toNat → ∃ x, x < its.length ∧ cb (isN 0 wt.toNat) (v.getD x 0).toNat = i
  | 0, y, h, _, _, _ => by omega
  | b + 1, y, h, hy, i, hi => by
    by_cases e : i = cb (isN 0 wt.toNat) (v.getD y 0).toNat
    · exact ⟨y, hy, e.symm⟩
    · obtain ⟨_, _, _, c4⟩ := lst_code hg h0 hv y hy
      rcases needU_at its v y its.length with hz | ⟨x, h1, h2, h3⟩
      · have hz' : need its v y = 0 := hz
        rw [hz'] at c4
        have : cb (isN 0 wt.toNat) (0 : Int).toNat = 0 := rfl
        omega
      · have h3' : v.getD x 0 + rel its x y - 1 = need its v y := h3
        obtain ⟨x1, _, x3, _⟩ := lst_code hg h0 hv x h1
        have hblk := (rel_blk h2).1
        have hb0 := (hg.b x).1
        refine contig b x (by omega) h1 i ?_
        have hst : cb (isN 0 wt.toNat) ((v.getD x 0).toNat + 1) ≤ cb (isN 0 wt.toNat) (v.getD x 0).toNat + 1 := by
          show cb (isN 0 wt.toNat) (v.getD x 0).toNat + (if isN 0 wt.toNat (v.getD x 0).toNat = true then 1 else 0) ≤ _
          split <;> omega
        have hle := cb_mono (isN 0 wt.toNat) (show (need its v y).toNat ≤ (v.getD x 0).toNat + 1 by
          rcases rel_range its x y with e | e | e <;> omega)
        omega

theorem pc_pow (k : Nat) (hk : k < 12) : pc (2 ^ k) = 1 := by
  have h := pc_top k 0 hk (Nat.two_pow_pos k)
  rw [Nat.add_zero] at h
  rw [h]
  simp [pc, pcd_zero]
theorem pc_pos : ∀ (d u : Nat), 0 < u → u < 2 ^ d → 0 < pcd d u
  | 0, u, h1, h2 => by simp at h2; omega
  | d + 1, u, h1, h2 => by
    unfold pcd
    rw [Nat.pow_succ] at h2
    by_cases h : u % 2 = 0
    · have := pc_pos d (u / 2) (by omega) (by omega)
      omega
    · omega
/-- Each bit below the greatest code's length is some item's. -/
theorem bit_used {m : Nat} {S : Int} (hm : IsMx v m) (hS : LongSpec m S) (k : Nat) (hk : (k : Int) < S) : ∃ x, x < its.length ∧ (v.getD x 0).toNat.testBit k = true := by
  obtain ⟨n, rfl, hn12, h1, h2⟩ := hS
  have hk' : k < n := by omega
  rcases h2 with rfl | h2
  · omega
  have hvl := hv.len
  rcases hm.2 with e | ⟨y, hy, e⟩
  · rw [e, Nat.zero_div] at h2; omega
  obtain ⟨y1, y2, y3, _⟩ := lst_code hg h0 hv y (by omega)
  have hmy : (v.getD y 0).toNat = m := by omega
  rw [hmy] at y3
  have hge : 2 ^ (n - 1) ≤ m := by
    rcases Nat.lt_or_ge m (2 ^ (n - 1)) with q | q
    · rw [Nat.div_eq_of_lt q] at h2; omega
    · exact q
  have hk2 : 2 ^ k ≤ 2 ^ (n - 1) := Nat.pow_le_pow_right (by omega) (by omega)
  have hp := Nat.two_pow_pos k
  have hcode : isN 0 wt.toNat (2 ^ k) = true := by
    simp only [isN, Bool.and_eq_true, decide_eq_true_eq, Nat.pow_zero, Nat.div_one] at y3 ⊢
    refine ⟨by rw [Nat.mod_one], ?_⟩
    rw [pc_pow (its := its) hg h0 hv k (by omega)]
    have := pc_pos hg h0 hv 12 m (by omega) (by omega)
    have : 0 < pc m := this
    omega
  obtain ⟨x, hx, hcx⟩ := contig hg h0 hv _ y (Nat.lt_succ_self _) (by omega) (cb (isN 0 wt.toNat) (2 ^ k)) (by rw [hmy]; exact cb_mono _ (by omega))
  obtain ⟨x1, x2, x3, _⟩ := lst_code hg h0 hv x hx
  refine ⟨x, hx, ?_⟩
  have : (v.getD x 0).toNat = 2 ^ k := by
    rcases Nat.lt_trichotomy (v.getD x 0).toNat (2 ^ k) with q | q | q
    · have := cb_lt (isN 0 wt.toNat) q x3; omega
    · exact q
    · have := cb_lt (isN 0 wt.toNat) q hcode; omega
  rw [this]
  exact Nat.testBit_two_pow_self
end

namespace Yard
variable (Y : Yard)
/-- With items of round 0 alone, of which each step has one with its bit, each time has a push. -/
theorem pushes_all (hr : ∀ x, x < Y.n → Y.rd x = 0) (hn : 0 < Y.n) (hb : ∀ k, k < Y.S → ∃ x, x < Y.n ∧ (Y.c x).testBit k = true) : ∀ k, k ≤ Y.S + 1 → Y.pushes k = k
  | 0, _ => rfl
  | k + 1, hk => by
    have ih := pushes_all hr hn hb k (by omega)
    have hpos : 0 < (Y.pull k).length + (Y.new k).length := by
      by_cases h0 : k = 0
      · subst h0
        have : 0 ∈ Y.new 0 := Y.mem_new.2 ⟨hn, hr 0 hn⟩
        have := List.length_pos_of_mem this
        omega
      · obtain ⟨x, hx, hbx⟩ := hb (k - 1) (by omega)
        have hi := Y.inv (k - 1) (by omega)
        have hmem : x ∈ Y.pull k := by
          unfold pull
          rw [if_neg h0]
          have := (hi.a (k - 1) x).2 ⟨hx, by rw [hr x hx]; omega, nb_here hbx (by omega)⟩
          rw [show k - 1 + 1 = k by omega] at this
          exact this
        have := List.length_pos_of_mem hmem
        omega
    show Y.pushes k + (if 0 < (Y.pull k).length + (Y.new k).length then 1 else 0) = k + 1
    rw [if_pos hpos, ih]
theorem pushes_none (hn : Y.n = 0) : ∀ k, k ≤ Y.S + 1 → Y.pushes k = 0
  | 0, _ => rfl
  | k + 1, hk => by
    have ih := pushes_none hn k (by omega)
    have h1 : Y.new k = [] := by unfold new; rw [hn]; rfl
    have h2 : Y.pull k = [] := by
      by_cases h0 : k = 0
      · subst h0; rfl
      · have hi := Y.inv (k - 1) (by omega)
        unfold pull
        rw [if_neg h0]
        apply List.eq_nil_iff_forall_not_mem.2
        intro x hx
        have := (hi.a (k - 1) x).1 (by rw [show k - 1 + 1 = k by omega]; exact hx)
        omega
    show Y.pushes k + (if 0 < (Y.pull k).length + (Y.new k).length then 1 else 0) = 0
    rw [h1, h2, ih]
    rfl
end Yard
end Go.Proofs.Ytmjobkpgnhbcbaa
