/- Plain laws: which proofs are accepted by the program, and which one it makes. No condition beyond those of each theorem. -/
import Derived.Test.YtcignnfdpgeogaaPKbd
import Derived.Test.YtcignnfdpgeogaaPMvalid2
import Derived.Test.YtcignnfdpgeogaaPMplan
import Derived.Test.YtcignnfdpgeogaaPJrelG
import Derived.Test.YtcignnfdpgeogaaGcertificate
set_option linter.unusedVariables false
set_option linter.unusedSectionVars false
set_option linter.unusedSimpArgs false
set_option maxRecDepth 100000
namespace Go.Proofs.Ytcignnfdpgeogaa
open Go Go.V Go.Proofs

section
variable {its : List Item} {wt S : Int} {codes : List Int} (hG : Good its wt S codes)
include hG

theorem codes_small (y : Nat) : 0 ≤ codes.getD y 0 ∧ codes.getD y 0 ≤ 4095 := by
  by_cases hy : y < its.length
  · have hyc : y < codes.length := by rw [hG.cl]; exact hy
    obtain ⟨c1, c2, _⟩ := hG.code y _ _ (List.getElem?_eq_getElem hy) (List.getElem?_eq_getElem hyc)
    have hp := pow_le S.toNat (by have := hG.st; omega)
    rw [List.getD_eq_getElem?_getD, List.getElem?_eq_getElem hyc]
    simp only [Option.getD_some]
    omega
  · rw [List.getD_eq_getElem?_getD, List.getElem?_eq_none (by rw [hG.cl]; omega)]
    decide

theorem CC14_ok (x : Nat) (hx : x < its.length) : (loop (certificate_Check_L14 its wt codes (x : Int)) 0 = some (.inr ()) ∧ ∀ y, y < its.length → rel its x y > 0 → codes.getD x 0 + rel its x y - 1 ≤ codes.getD y 0) ∨
    (loop (certificate_Check_L14 its wt codes (x : Int)) 0 = some (.inl 12) ∧ ¬ ∀ y, y < its.length → rel its x y > 0 → codes.getD x 0 + rel its x y - 1 ≤ codes.getD y 0) := by
  have hl := hG.job.len
  have hcl := hG.cl
  obtain ⟨d, h1, h2⟩ := loop_inv (step := certificate_Check_L14 its wt codes (x : Int)) (fun s => ∃ t : Nat, s = (t : Int) ∧ t ≤ its.length ∧ ∀ y, y < t → rel its x y > 0 → codes.getD x 0 + rel its x y - 1 ≤ codes.getD y 0) (fun s => its.length - s.toNat)
    (fun d => (d = .inr () ∧ ∀ y, y < its.length → rel its x y > 0 → codes.getD x 0 + rel its x y - 1 ≤ codes.getD y 0) ∨ (d = .inl 12 ∧ ¬ ∀ y, y < its.length → rel its x y > 0 → codes.getD x 0 + rel its x y - 1 ≤ codes.getD y 0)) (by
    rintro _ ⟨t, rfl, ht, hall⟩
    unfold certificate_Check_L14
    simp only
    by_cases h : t < its.length
    · have hrr := rel_range its x t
      rw [if_pos (dpos (by omega)), Relation_good hG.job x t hx h]
      simp only [obind, bne_self_eq_false, Bool.false_eq_true, if_false]
      rw [wr_id (n := (t : Int) + 1) (by omega) (by omega)]
      by_cases hr : rel its x t > 0
      · have hcx := codes_small hG x
        rw [if_pos (dpos hr), idx_getD (by omega)]
        simp only [obind]
        rw [idx_getD (by omega)]
        simp only [obind]
        rw [wr_id (n := codes.getD x 0 + rel its x t) (by omega) (by omega), wr_id (n := codes.getD x 0 + rel its x t - 1) (by omega) (by omega)]
        by_cases hgt : codes.getD x 0 + rel its x t - 1 > codes.getD t 0
        · rw [if_pos (dpos hgt)]
          exact .inr ⟨_, rfl, .inr ⟨rfl, fun q => by have := q t h hr; omega⟩⟩
        · rw [if_neg (dneg hgt)]
          refine .inl ⟨_, rfl, ⟨t + 1, rfl, by omega, fun y hy hyr => ?_⟩, by omega⟩
          by_cases e : y = t
          · subst e; omega
          · exact hall y (by omega) hyr
      · rw [if_neg (dneg hr)]
        refine .inl ⟨_, rfl, ⟨t + 1, rfl, by omega, fun y hy hyr => ?_⟩, by omega⟩
        by_cases e : y = t
        · subst e; omega
        · exact hall y (by omega) hyr
    · rw [if_neg (dneg (by omega))]
      have : t = its.length := by omega
      subst this
      exact .inr ⟨_, rfl, .inl ⟨rfl, hall⟩⟩) 0 ⟨0, rfl, by omega, fun y h => by omega⟩ (by simp; omega)
  rcases h2 with ⟨rfl, h2⟩ | ⟨rfl, h2⟩
  · exact .inl ⟨h1, h2⟩
  · exact .inr ⟨h1, h2⟩

theorem CC12_ok : (loop (certificate_Check_L12 its wt codes) 0 = some (.inr ()) ∧ RelOK its codes) ∨ (loop (certificate_Check_L12 its wt codes) 0 = some (.inl 12) ∧ ¬ RelOK its codes) := by
  have hl := hG.job.len
  obtain ⟨d, h1, h2⟩ := loop_inv (step := certificate_Check_L12 its wt codes) (fun s => ∃ t : Nat, s = (t : Int) ∧ t ≤ its.length ∧ ∀ x, x < t → ∀ y, y < its.length → rel its x y > 0 → codes.getD x 0 + rel its x y - 1 ≤ codes.getD y 0) (fun s => its.length - s.toNat)
    (fun d => (d = .inr () ∧ RelOK its codes) ∨ (d = .inl 12 ∧ ¬ RelOK its codes)) (by
    rintro _ ⟨t, rfl, ht, hall⟩
    unfold certificate_Check_L12
    simp only
    by_cases h : t < its.length
    · rw [if_pos (dpos (by omega))]
      rcases CC14_ok hG t h with ⟨e1, e2⟩ | ⟨e1, e2⟩
      · rw [e1]
        simp only [obind]
        rw [wr_id (n := (t : Int) + 1) (by omega) (by omega)]
        refine .inl ⟨_, rfl, ⟨t + 1, rfl, by omega, fun x hx => ?_⟩, by omega⟩
        by_cases e : x = t
        · subst e; exact e2
        · exact hall x (by omega)
      · rw [e1]
        exact .inr ⟨_, rfl, .inr ⟨rfl, fun q => e2 fun y _ hr => q t y hr⟩⟩
    · rw [if_neg (dneg (by omega))]
      have : t = its.length := by omega
      subst this
      exact .inr ⟨_, rfl, .inl ⟨rfl, fun x y hr => hall x (rel_blk hr).2.1 y (rel_blk hr).2.2 hr⟩⟩) 0 ⟨0, rfl, by omega, fun x h => by omega⟩ (by simp; omega)
  rcases h2 with ⟨rfl, h2⟩ | ⟨rfl, h2⟩
  · exact .inl ⟨h1, h2⟩
  · exact .inr ⟨h1, h2⟩
end

/-- What an accepted proof has. -/
def Accepts (its : List Item) (wt S : Int) (codes c : List Int) : Prop :=
  Good its wt S codes ∧ RelOK its codes ∧ ChainOK its c c.length ∧ (bdr its wt c c.length).2 = 0 ∧ ∃ b : Nat, (bdr its wt c c.length).1 = (b : Int) ∧ b < 4096 ∧ LongSpec b S

theorem Check_ok0 (its : List Item) (wt S : Int) (codes c : List Int) (hil : its.length ≤ 1000) : ∃ e, certificate_Check its wt S codes c = some e ∧ (e = 0 ↔ Accepts its wt S codes c) ∧
    (Good its wt S codes → ¬ RelOK its codes → e = 12) ∧ (JobGood its wt → ¬ Good its wt S codes → e = 1) := by
  obtain ⟨e0, he0, hj0⟩ := jobvalid_spec its wt
  rcases hj0 with ⟨rfl, hj0⟩ | ⟨hne, hj0⟩
  rotate_left
  · have hb : (e0 != 0) = true := bne_iff_ne.2 hne
    have h1 : rollin_Valid its wt S codes = some e0 := by unfold rollin_Valid; rw [he0]; simp only [obind, hb, if_true]
    unfold certificate_Check
    rw [h1]
    simp only [obind, hb, if_true]
    exact ⟨_, rfl, ⟨fun q => absurd q hne, fun q => absurd q.1.job hj0⟩, fun q => absurd q.job hj0, fun q => absurd q hj0⟩
  have hlen := hj0.len
  by_cases hbig : codes.length < 4611686018427387904
  rotate_left
  · -- codes too many: the lengths differ
    have hne2 : ((codes.length : Int) != (its.length : Int)) = true := by rw [bne_iff_ne]; omega
    have hng : ¬ Good its wt S codes := fun q => by have := q.cl; omega
    have h1 : rollin_Valid its wt S codes = some 1 := by
      unfold rollin_Valid; rw [he0]
      simp only [obind, bne_self_eq_false, Bool.false_eq_true, if_false]
      split
      · rfl
      · split
        · rfl
        · first | rfl | rw [if_pos hne2]
    unfold certificate_Check
    rw [h1]
    exact ⟨1, rfl, ⟨fun q => (by cases q), fun q => absurd q.1 hng⟩, fun q => absurd q hng, fun _ _ => rfl⟩
  obtain ⟨e, h1, hv⟩ := valid_spec its wt S codes hbig (by omega)
  rcases hv with ⟨rfl, hG⟩ | ⟨hne, hng, he1⟩
  rotate_left
  · have hb : (e != 0) = true := bne_iff_ne.2 hne
    unfold certificate_Check
    rw [h1]
    simp only [obind, hb, if_true]
    exact ⟨_, rfl, ⟨fun q => absurd q hne, fun q => absurd q.1 hng⟩, fun q => absurd q hng, fun q _ => he1 q⟩
  unfold certificate_Check
  rw [h1]
  simp only [obind, bne_self_eq_false, Bool.false_eq_true, if_false]
  rcases CC12_ok hG with ⟨c1, c2⟩ | ⟨c1, c2⟩
  · rw [c1]
    simp only [obind]
    rcases Bound_okU hj0 c with ⟨b1, b2⟩ | ⟨b1, b2⟩
    · rw [b2]
      simp only [obind]
      rcases bdr_range hj0 b1 c.length (Nat.le_refl _) with ⟨q0, q1, q2⟩ | q0
      · obtain ⟨T, t1, t2⟩ := steps_ok (bdr its wt c c.length).1.toNat (by omega)
        rw [show (((bdr its wt c c.length).1.toNat : Nat) : Int) = (bdr its wt c c.length).1 by omega] at t1
        rw [if_neg (by rw [q0]; decide), t1]
        simp only [obind, bne_self_eq_false, Bool.false_eq_true, if_false]
        by_cases hT : T = S
        · subst hT
          rw [if_neg (by simp)]
          exact ⟨0, rfl, ⟨fun _ => ⟨hG, c2, b1, q0, (bdr its wt c c.length).1.toNat, by omega, by omega, t2⟩, fun _ => rfl⟩, fun _ q => absurd c2 q, fun _ q => absurd hG q⟩
        · rw [if_pos (bne_iff_ne.2 hT)]
          refine ⟨17, rfl, ⟨fun q => (by cases q), ?_⟩, fun _ q => absurd c2 q, fun _ q => absurd hG q⟩
          rintro ⟨_, _, _, _, b, w1, w2, w3⟩
          rw [w1, Int.toNat_natCast] at t2
          exact absurd (long_unique t2 w3) hT
      · rw [q0, if_pos (by decide)]
        refine ⟨15, rfl, ⟨fun q => (by cases q), ?_⟩, fun _ q => absurd c2 q, fun _ q => absurd hG q⟩
        rintro ⟨_, _, _, w, _⟩
        rw [q0] at w
        exact absurd w (by decide)
    · rw [b2]
      simp only [obind]
      rw [if_pos (by decide)]
      exact ⟨1, rfl, ⟨fun q => (by cases q), fun q => absurd q.2.2.1 b1⟩, fun _ q => absurd c2 q, fun _ q => absurd hG q⟩
  · rw [c1]
    exact ⟨12, rfl, ⟨fun q => (by cases q), fun q => absurd q.2.1 c2⟩, fun _ _ => rfl, fun _ q => absurd hG q⟩

/-! ### Make -/
/-- What Make answers for a valid job. -/
theorem Make_ok0 {its : List Item} {wt : Int} (hg : JobGood its wt) :
    (∃ v S m w, IsLst its wt v ∧ IsMx v m ∧ LongSpec m S ∧ Accepts its wt S v w ∧ w.length ≤ 41 ∧ certificate_Make its wt = some (((S, v), w), 0) ∧ leastcode_Least its wt = some ((S, v), 0)) ∨
    certificate_Make its wt = some (((0, []), []), 15) := by
  obtain ⟨p, e1, e2⟩ := Least_ok hg
  obtain ⟨w, w1, w4⟩ := Witness_ok hg
  unfold certificate_Make
  rw [e1]
  simp only [obind]
  rw [w1]
  rcases e2 with ⟨v, S, m, hv, rfl, hm, hS⟩ | ⟨rfl, hs⟩
  · left
    simp only [obind, bne_self_eq_false, Bool.false_eq_true, if_false]
    have hc := hv.c12 hg
    have hm12 : m < 4096 := by
      rcases hm.2 with q | ⟨y, _, q⟩
      · omega
      · have := hc y; omega
    rcases w4 with ⟨v', hv', h0, h3⟩ | ⟨_, hs⟩
    · have e := lst_unique (fun i => (hg.b i).1) hv hv'
      subst e
      rw [h0]
      simp only [bne_self_eq_false, Bool.false_eq_true, if_false]
      have hrel : RelOK its v := fun x y hr => lst_rel hg hv hr
      have hG := least_good hg hv hm hS
      rcases h3 with ⟨h3, h4⟩ | ⟨y0, h3, h4⟩
      · have hm0 : m = 0 := by
          rcases hm.2 with q | ⟨y, q, _⟩
          · exact q
          · omega
        subst hm0
        refine ⟨v, S, 0, w.1, hv, hm, hS, ⟨hG, hrel, ?_, ?_, 0, ?_, by omega, hS⟩, ?_, rfl, rfl⟩
        · rw [h4]; exact ⟨fun i h => by simp at h, fun i h => by simp at h⟩
        · rw [h4]; rfl
        · rw [h4]; rfl
        · rw [h4]; simp
      · obtain ⟨b1, b2, b3⟩ := wit_bound hg hv y0 (by have := h3.1; have := hv.len; omega)
        have hmx : v.getD y0 0 = m := by
          have q1 := hm.1 y0
          have q0 := hc y0
          rcases hm.2 with q | ⟨y, q, q2⟩
          · omega
          · have := h3.2.1 y q
            omega
        refine ⟨v, S, m, w.1, hv, hm, hS, ⟨hG, hrel, ?_, ?_, m, ?_, hm12, hS⟩, ?_, rfl, rfl⟩
        · rw [h4]; exact b1
        · rw [h4, b3]
        · rw [h4, b3]; exact hmx
        · rw [h4]; exact b2
    · exact absurd hv (hs.none (fun i => (hg.b i).1) v)
  · right
    simp
end Go.Proofs.Ytcignnfdpgeogaa
