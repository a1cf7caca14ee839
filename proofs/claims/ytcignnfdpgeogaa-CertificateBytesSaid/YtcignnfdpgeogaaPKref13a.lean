
/- Plain laws: the reference of the least codes answers as the program does. No condition beyond those of each theorem. -/
import Derived.Test.YtcignnfdpgeogaaPKuse0
import Derived.Test.YtcignnfdpgeogaaPKleast
import Derived.Test.YtcignnfdpgeogaaPJref
import Derived.Test.YtcignnfdpgeogaaPKlong
import Derived.Test.YtcignnfdpgeogaaGr13
set_option linter.unusedVariables false
set_option linter.unusedSectionVars false
set_option linter.unusedSimpArgs false
set_option maxRecDepth 100000
namespace Go.Proofs.Ytcignnfdpgeogaa
open Go Go.V Go.Proofs


/-- The items of the blocks below b, and those of block b below y, have their least numbers; m is the greatest number so far. -/
def RUp (its : List Item) (wt : Int) (d : List Int) (m : Nat) (b : Int) (y : Nat) : Prop :=
  d.length = its.length ∧ C12 d ∧ IsMx d m ∧ (∀ z, z < its.length → (bOf its z < b ∨ (bOf its z = b ∧ z < y)) → NX (need its d z) (rOf its z) wt = (d.getD z 0, 0)) ∧ (∀ z, z < its.length → ¬ (bOf its z < b ∨ (bOf its z = b ∧ z < y)) → d.getD z 0 = 0)
theorem C12.small {d : List Int} (h : C12 d) : Small d := fun x => by have := h x; omega
theorem need_set' {its : List Item} {d : List Int} {z y : Nat} {a : Int} (h : bOf its z ≤ bOf its y) : need its (d.set y a) z = need its d z :=
  need_congr fun x hr => by
    have := (rel_blk hr).1
    rw [getD_set, if_neg (fun q => by rw [q.1] at h; omega)]

section
variable {its : List Item} {wt : Int} (hg : JobGood its wt)
include hg

theorem RL15_ok (b : Nat) (d0 : List Int) (m0 : Nat) (h0 : RUp its wt d0 m0 (b : Int) 0) :
    ∃ d, loop (r13_Least_L15 its wt (b : Int)) (d0, (m0 : Int), 0) = some d ∧ ((∃ d2 m2, d = .inr (d2, ((m2 : Nat) : Int)) ∧ RUp its wt d2 m2 ((b : Int) + 1) 0) ∨ (d = .inl 15 ∧ Stuck its wt)) := by
  have hl := hg.len
  refine loop_inv (step := r13_Least_L15 its wt (b : Int)) (fun s => ∃ (d : List Int) (m y : Nat), s = (d, (m : Int), (y : Int)) ∧ y ≤ its.length ∧ RUp its wt d m (b : Int) y) (fun s => its.length - s.2.2.toNat) _ ?_ _ ⟨d0, m0, 0, rfl, by omega, h0⟩ (by simp; omega)
  rintro _ ⟨d, m, y, rfl, hy, ⟨hd, hB, hm, hq, hz⟩⟩
  unfold r13_Least_L15
  simp only [hd]
  by_cases h : y < its.length
  · obtain ⟨a, ha⟩ : ∃ a, its[y]? = some a := ⟨_, List.getElem?_eq_getElem h⟩
    have hba : bOf its y = a.2.1 := by unfold bOf; rw [ha]
    have har : rOf its y = a.2.2.1 := by unfold rOf; rw [ha]
    rw [if_pos (dpos (by omega)), idx_nat, ha]
    simp only [obind]
    rw [wr_id (n := (y : Int) + 1) (by omega) (by omega)]
    by_cases hab : a.2.1 = (b : Int)
    · have hneed : 0 ≤ need its d y ∧ need its d y ≤ 4096 := hB.need (its := its) y its.length
      have hr := hg.r y
      rw [if_neg (by rw [hab]; simp), base_ok wt (by omega) hd hB.small y h]
      simp only [obind]
      rw [← har, (nx_ok hneed.1 hr hg.w).2.1]
      simp only [obind]
      rcases nx_cases hneed.1 hr hg.w with ⟨q0, q1, q2⟩ | q0
      · rw [if_neg (by rw [q0]; decide), idx_getD (by omega)]
        simp only [obind, Int.toNat_natCast]
        have hz0 := hz y h (by omega)
        have hmx : ∃ m2 : Nat, (if (NX (need its d y) (rOf its y) wt).1 > (m : Int) then (NX (need its d y) (rOf its y) wt).1 else (m : Int)) = (m2 : Int) ∧ IsMx (d.set y (NX (need its d y) (rOf its y) wt).1) m2 := by
          by_cases hgt : (NX (need its d y) (rOf its y) wt).1 > (m : Int)
          · refine ⟨(NX (need its d y) (rOf its y) wt).1.toNat, by rw [if_pos hgt]; omega, fun z => ?_, .inr ⟨y, by rw [List.length_set]; omega, by rw [getD_set, if_pos ⟨rfl, by omega⟩]; omega⟩⟩
            rw [getD_set]
            split
            · omega
            · have := hm.1 z; omega
          · refine ⟨m, by rw [if_neg hgt], fun z => ?_, ?_⟩
            · rw [getD_set]
              split
              · omega
              · exact hm.1 z
            · rcases hm.2 with e | ⟨z, e1, e2⟩
              · exact .inl e
              · by_cases e : y = z
                · subst e; left; omega
                · exact .inr ⟨z, by rw [List.length_set]; exact e1, by rw [getD_set, if_neg (fun q => e q.1)]; exact e2⟩
        obtain ⟨m2, e1, e2⟩ := hmx
        rw [e1]
        refine .inl ⟨_, rfl, ⟨_, m2, y + 1, rfl, by omega, by rw [List.length_set]; exact hd, fun z => ?_, e2, fun z hzl hzz => ?_, fun z hzl hzz => ?_⟩, by simp only; omega⟩
        · rw [getD_set]
          split
          · omega
          · exact hB z
        · have hzy : bOf its z ≤ bOf its y := by omega
          rw [need_set' hzy, getD_set]
          by_cases e : y = z
          · subst e
            rw [if_pos ⟨rfl, by omega⟩]
            exact Prod.ext rfl q0
          · rw [if_neg (fun q => e q.1)]
            exact hq z hzl (by omega)
        · rw [getD_set, if_neg (fun q => hzz (.inr ⟨by rw [← q.1]; omega, by omega⟩))]
          exact hz z hzl (by omega)
      · rw [if_pos (by rw [q0]; decide), q0]
        refine .inr ⟨_, rfl, .inr ⟨rfl, d, fun z => z < its.length ∧ bOf its z < (b : Int), y, fun z hzz => hzz.1, fun x z hzz hr => ?_, fun z hzz => hq z hzz.1 (.inl hzz.2), h, fun x hr => ?_, q0⟩⟩
        · have := rel_blk hr
          exact ⟨this.2.1, by omega⟩
        · have := rel_blk hr
          exact ⟨this.2.1, by omega⟩
    · rw [if_pos (by simpa using hab)]
      refine .inl ⟨_, rfl, ⟨d, m, y + 1, rfl, by omega, hd, hB, hm, fun z hzl hzz => hq z hzl ?_, fun z hzl hzz => hz z hzl ?_⟩, by simp only; omega⟩
      · rcases hzz with e | ⟨e1, e2⟩
        · exact .inl e
        · by_cases e : z = y
          · subst e; omega
          · exact .inr ⟨e1, by omega⟩
      · omega
  · rw [if_neg (dneg (by omega))]
    refine .inr ⟨_, rfl, .inl ⟨d, m, rfl, hd, hB, hm, fun z hzl hzz => hq z hzl ?_, fun z hzl hzz => hz z hzl ?_⟩⟩
    · rcases hzz with e | ⟨_, e2⟩
      · omega
      · omega
    · omega

theorem rLeast_ok : ∃ p, r13_Least its wt = some p ∧ LeastSpec its wt p := by
  have hl := hg.len
  unfold r13_Least
  rw [jv_same, valid_good hg]
  simp only [obind, bne_self_eq_false, Bool.false_eq_true, if_false]
  rw [if_pos (by omega)]
  have hrep : ∀ y, (List.replicate (Int.toNat ((its.length : Nat) : Int)) 0 : List Int).getD y 0 = 0 := fun y => by
    rw [List.getD_eq_getElem?_getD, List.getElem?_replicate]; split <;> rfl
  obtain ⟨d, h1, h2⟩ := loop_inv (step := r13_Least_L13 its wt) (fun s => ∃ (d : List Int) (m b : Nat), s = (d, (m : Int), (b : Int)) ∧ b ≤ 32 ∧ RUp its wt d m (b : Int) 0) (fun s => 32 - s.2.2.toNat)
    (fun d => (∃ d2 m2, d = .inr (d2, ((m2 : Nat) : Int)) ∧ RUp its wt d2 m2 32 0) ∨ (d = .inl 15 ∧ Stuck its wt)) (by
    rintro _ ⟨d, m, b, rfl, hb, hd⟩
    unfold r13_Least_L13
    simp only
    by_cases h : b < 32
    · obtain ⟨r, e1, e2⟩ := RL15_ok hg b d m hd
      rw [if_pos (dpos (by omega)), e1]
      rcases e2 with ⟨d2, m2, rfl, e3⟩ | ⟨rfl, e3⟩
      · simp only [obind]
        rw [wr_id (by omega) (by omega)]
        exact .inl ⟨_, rfl, ⟨d2, m2, b + 1, rfl, by omega, e3⟩, by simp only; omega⟩
      · exact .inr ⟨_, rfl, .inr ⟨rfl, e3⟩⟩
    · rw [if_neg (dneg (by omega))]
      have : b = 32 := by omega
      subst this
      exact .inr ⟨_, rfl, .inl ⟨d, m, rfl, hd⟩⟩) ((List.replicate (Int.toNat ((its.length : Nat) : Int)) 0 : List Int), 0, 0) ⟨_, 0, 0, rfl, by omega, by simp, fun y => by rw [hrep]; omega, ⟨fun y => by rw [hrep]; omega, .inl rfl⟩, fun z hz h => by have := hg.b z; omega, fun z hz h => hrep z⟩ (by simp)
  rw [h1]
  rcases h2 with ⟨v, m, rfl, h3, h4, h5, h6, _⟩ | ⟨rfl, h3⟩
  · have hv : IsLst its wt v := ⟨h3, fun y hy => h6 y hy (.inl (by have := hg.b y; omega))⟩
    have hm : m < 4096 := by
      rcases h5.2 with e | ⟨y, _, e⟩
      · omega
      · have := h4 y; omega
    obtain ⟨S, e1, e2⟩ := rlong_ok m hm
    simp only [obind]
    rw [e1]
    exact ⟨_, rfl, .inl ⟨v, S, m, hv, rfl, h5, e2⟩⟩
  · exact ⟨_, rfl, .inr ⟨rfl, h3⟩⟩

theorem spec_uniq {p q : (Int × List Int) × Int} (h : LeastSpec its wt p) (g : LeastSpec its wt q) : p = q := by
  rcases h with ⟨v, S, m, hv, rfl, hm, hS⟩ | ⟨rfl, hs⟩ <;> rcases g with ⟨v', S', m', hv', rfl, hm', hS'⟩ | ⟨rfl, hs'⟩
  · have e := lst_unique (fun i => (hg.b i).1) hv hv'
    subst e
    have e := hm.uniq hm'
    subst e
    rw [long_unique hS hS']
  · exact absurd hv (hs'.none (fun i => (hg.b i).1) v)
  · exact absurd hv' (hs.none (fun i => (hg.b i).1) v')
  · rfl

theorem wit_same : ∃ p, leastcode_Witness its wt = some p ∧ r13_Witness its wt = some p ∧ p.1.length ≤ 1000 := by
  have hl := hg.len
  obtain ⟨⟨w, we⟩, w1, w2⟩ := Witness_ok hg
  obtain ⟨p, e1, e2⟩ := rLeast_ok hg
  refine ⟨_, w1, ?_⟩
  unfold r13_Witness
  rw [e1]
  simp only [obind]
  rcases e2 with ⟨v, S, m, hv, rfl, hm, hS⟩ | ⟨rfl, hs⟩
  · have hc := hv.c12 hg
    simp only [bne_self_eq_false, Bool.false_eq_true, if_false]
    rcases w2 with ⟨v', hv', rfl, w3⟩ | ⟨_, hs⟩
    · have e := lst_unique (fun i => (hg.b i).1) hv hv'
      subst e
      rcases back_ok wt (by omega) hv.len hc.small hg.b with ⟨q0, q⟩ | ⟨y1, q0, q⟩
      · rcases w3 with ⟨w3, w4⟩ | ⟨y0, w3, w4⟩
        · simp only at w4
          subst w4
          rw [q]; exact ⟨rfl, by simp⟩
        · have := w3.1; omega
      · rcases w3 with ⟨w3, w4⟩ | ⟨y0, w3, w4⟩
        · have := q0.1; omega
        · have e := q0.uniq w3
          subst e
          simp only at w4
          subst w4
          rw [q]
          refine ⟨rfl, ?_⟩
          have key : ∀ (f y : Nat), (down2 its v f y).length ≤ f + 1 := by
            intro f
            induction f with
            | zero => intro y; simp [down2]
            | succ f ih =>
              intro y
              unfold down2
              split
              · have := ih (nx2 its v y); simp only [List.length_cons]; omega
              · simp
          have := key 40 y1
          show (castL (down2 its v 40 y1).reverse).length ≤ 1000
          rw [castL_len, List.length_reverse]
          omega
    · exact absurd hv (hs.none (fun i => (hg.b i).1) v)
  · rw [if_pos (by decide)]
    rcases w2 with ⟨v', hv', _⟩ | ⟨w3, _⟩
    · exact absurd hv' (hs.none (fun i => (hg.b i).1) v')
    · cases w3; exact ⟨rfl, Nat.zero_le _⟩
end
end Go.Proofs.Ytcignnfdpgeogaa
