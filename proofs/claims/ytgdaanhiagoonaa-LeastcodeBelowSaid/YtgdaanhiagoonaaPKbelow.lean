/- Plain law of LeastcodeBelow: the least codes are at most those of a plan that was made by going through the blocks with larger steps. No condition. -/
import Derived.Test.YtgdaanhiagoonaaPKsorts0
import Derived.Test.YtgdaanhiagoonaaGLeastcodeBelow
set_option linter.unusedVariables false
set_option linter.unusedSectionVars false
set_option linter.unusedSimpArgs false
set_option maxRecDepth 100000
namespace Go.Proofs.Ytgdaanhiagoonaa
open Go Go.V Go.Proofs

/-- The items of the blocks below b, and those of block b below y, have numbers with room. -/
def BUp (its : List Item) (wt : Int) (d : List Int) (b : Int) (y : Nat) : Prop :=
  d.length = its.length ∧ C12 d ∧ ∀ z, z < its.length → (bOf its z < b ∨ (bOf its z = b ∧ z < y)) → ∃ a : Int, 0 ≤ a ∧ NX (need its d z + a) (rOf its z) wt = (d.getD z 0, 0)
theorem C12.small {d : List Int} (h : C12 d) : Small d := fun x => by have := h x; omega
theorem need_set' {its : List Item} {d : List Int} {z y : Nat} {a : Int} (h : bOf its z ≤ bOf its y) : need its (d.set y a) z = need its d z :=
  need_congr fun x hr => by
    have := (rel_blk hr).1
    rw [getD_set, if_neg (fun q => by rw [q.1] at h; omega)]

section
variable {its : List Item} {wt : Int} (hg : JobGood its wt) (l : List Int) (kk k0 : Int)
include hg

theorem KB27_ok (b : Nat) (k1 : Int) (hk1 : 0 ≤ k1 ∧ k1 ≤ 1000000) (d0 : List Int) (h0 : BUp its wt d0 (b : Int) 0) (dl : List Int) (hdl : dl.length = its.length) :
    ∃ d, loop (law13_LeastcodeBelow_L27 (l, kk) ((its, wt), k0) dl (b : Int)) (k1, d0, 0) = some d ∧
      (d = .inl true ∨ ∃ k2 d2, d = .inr (k2, d2) ∧ k1 ≤ k2 ∧ k2 ≤ k1 + 100 ∧ BUp its wt d2 ((b : Int) + 1) 0) := by
  have hl := hg.len
  refine loop_inv (step := law13_LeastcodeBelow_L27 (l, kk) ((its, wt), k0) dl (b : Int)) (fun s => ∃ (d : List Int) (y : Nat) (k : Int), s = (k, d, (y : Int)) ∧ y ≤ its.length ∧ BUp its wt d (b : Int) y ∧ k1 ≤ k ∧ k ≤ k1 + y) (fun s => its.length - s.2.2.toNat) _ ?_ _ ⟨d0, 0, k1, rfl, by omega, h0, by omega, by omega⟩ (by simp; omega)
  rintro _ ⟨d, y, k, rfl, hy, ⟨hd, hB, hq⟩, hka, hkb⟩
  unfold law13_LeastcodeBelow_L27
  simp only [hdl]
  by_cases h : y < its.length
  · obtain ⟨a, ha⟩ : ∃ a, its[y]? = some a := ⟨_, List.getElem?_eq_getElem h⟩
    have hba : bOf its y = a.2.1 := by unfold bOf; rw [ha]
    have har : rOf its y = a.2.2.1 := by unfold rOf; rw [ha]
    rw [if_pos (dpos (by omega)), idx_nat, ha]
    simp only [obind]
    rw [wr_id (n := (y : Int) + 1) (by omega) (by omega)]
    by_cases hab : a.2.1 = (b : Int)
    · obtain ⟨c, hp, hc⟩ := pick_ok l k [0, 0, 1, 3] (by omega) (by omega) (by decide) (by decide)
      have hcr : 0 ≤ c ∧ c ≤ 3 := (by decide : ∀ x ∈ [(0 : Int), 0, 1, 3], 0 ≤ x ∧ x ≤ 3) c hc
      have hnd := hB.need (its := its) y its.length
      have hneed : 0 ≤ need its d y ∧ need its d y ≤ 4096 := hnd
      have hr := hg.r y
      rw [if_neg (by rw [hab]; simp), base_ok wt (by omega) hd hB.small y h]
      simp only [obind]
      rw [hp]
      simp only [obind]
      rw [wr_id (n := need its d y + c) (by omega) (by omega), ← har, (nx_ok (n := need its d y + c) (by omega) hr hg.w).2.1]
      simp only [obind]
      unfold law13_LeastcodeBelow_J32
      rcases nx_cases (n := need its d y + c) (by omega) hr hg.w with ⟨q0, q1, q2⟩ | q0
      · rw [if_neg (by rw [q0]; decide), idx_getD (by omega)]
        simp only [obind, Int.toNat_natCast]
        rw [wr_id (n := (y : Int) + 1) (by omega) (by omega)]
        refine .inl ⟨_, rfl, ⟨_, y + 1, _, rfl, by omega, ⟨by rw [List.length_set]; exact hd, fun z => ?_, fun z hz hzz => ?_⟩, by omega, by omega⟩, by simp only; omega⟩
        · rw [getD_set]
          split
          · omega
          · exact hB z
        · have hzy : bOf its z ≤ bOf its y := by omega
          rw [need_set' hzy, getD_set]
          by_cases e : y = z
          · subst e
            rw [if_pos ⟨rfl, by omega⟩]
            exact ⟨c, hcr.1, Prod.ext rfl q0⟩
          · rw [if_neg (fun q => e q.1)]
            exact hq z hz (by omega)
      · rw [if_pos (by rw [q0]; decide), sane13_ok]
        exact .inr ⟨_, rfl, .inl rfl⟩
    · rw [if_pos (by simpa using hab)]
      refine .inl ⟨_, rfl, ⟨d, y + 1, k, rfl, by omega, ⟨hd, hB, fun z hz hzz => hq z hz ?_⟩, by omega, by omega⟩, by simp only; omega⟩
      rcases hzz with e | ⟨e1, e2⟩
      · exact .inl e
      · by_cases e : z = y
        · subst e; omega
        · exact .inr ⟨e1, by omega⟩
  · rw [if_neg (dneg (by omega))]
    refine .inr ⟨_, rfl, .inr ⟨k, d, rfl, hka, by omega, hd, hB, fun z hz hzz => hq z hz ?_⟩⟩
    rcases hzz with e | ⟨_, e2⟩
    · omega
    · omega

theorem KB25_ok (hk0 : 0 ≤ k0 ∧ k0 ≤ 100000) : ∃ d, loop (law13_LeastcodeBelow_L25 (l, kk) ((its, wt), k0)) (k0, (List.replicate (Int.toNat ((its.length : Nat) : Int)) 0 : List Int), 0) = some d ∧
      (d = .inl true ∨ ∃ d2, d = .inr d2 ∧ BUp its wt d2 32 0) := by
  refine loop_inv (step := law13_LeastcodeBelow_L25 (l, kk) ((its, wt), k0)) (fun s => ∃ (d : List Int) (b : Nat) (k : Int), s = (k, d, (b : Int)) ∧ b ≤ 32 ∧ BUp its wt d (b : Int) 0 ∧ 0 ≤ k ∧ k ≤ 100000 + 100 * b) (fun s => 32 - s.2.2.toNat) _ ?_ _ ⟨_, 0, k0, rfl, by omega, ⟨by simp, fun y => by
    rw [List.getD_eq_getElem?_getD, List.getElem?_replicate]; split <;> decide, fun z hz h => by have := hg.b z; omega⟩, by omega, by omega⟩ (by simp)
  rintro _ ⟨d, b, k, rfl, hb, hd, hka, hkb⟩
  unfold law13_LeastcodeBelow_L25
  simp only
  by_cases h : b < 32
  · obtain ⟨r, e1, e2⟩ := KB27_ok hg l kk k0 b k (by omega) d hd d hd.1
    rw [if_pos (dpos (by omega)), e1]
    rcases e2 with rfl | ⟨k2, d2, rfl, e3, e4, e5⟩
    · exact .inr ⟨_, rfl, .inl rfl⟩
    · simp only [obind]
      rw [wr_id (by omega) (by omega)]
      exact .inl ⟨_, rfl, ⟨d2, b + 1, k2, rfl, by omega, e5, by omega, by omega⟩, by simp only; omega⟩
  · rw [if_neg (dneg (by omega))]
    have : b = 32 := by omega
    subst this
    exact .inr ⟨_, rfl, .inr ⟨d, rfl, hd⟩⟩
end

theorem below_ok (l : List Int) : law13_LeastcodeBelow l = some true := by
  unfold law13_LeastcodeBelow gen_New
  simp only [obind]
  obtain ⟨its, wt, k, h1, k0, k1, _, hg, _⟩ := job_ok l 0 12 (by omega) (by omega)
  have hl := hg.len
  rw [h1]
  simp only [obind]
  rcases Least_cases hg with ⟨v, S, m, hv, e1, hm, hS⟩ | ⟨e1, hs⟩
  · have hvl := hv.len
    rw [e1]
    simp only [obind, bne_self_eq_false, Bool.false_eq_true, if_false]
    rw [if_neg (by rw [hvl]; simp), if_pos (by omega)]
    obtain ⟨d, e2, e3⟩ := KB25_ok hg l 0 k (by omega)
    rw [e2]
    rcases e3 with rfl | ⟨u, rfl, hul, hc, hu⟩
    · rfl
    · have hall : ∀ z, z < its.length → ∃ a : Int, 0 ≤ a ∧ NX (need its u z + a) (rOf its z) wt = (u.getD z 0, 0) := fun z hz => hu z hz (.inl (by have := hg.b z; omega))
      have hw := hg.w
      have hU : Upper its wt u := fun y hy => by
        obtain ⟨a, a0, ha⟩ := hall y hy
        have := nx_le (needU_nn its u y) (by omega : need its u y ≤ need its u y + a) (hg.r y) (w := wt) (w' := wt) (by omega) (by rw [ha])
        rw [ha] at this
        exact this
      have hle := upper_le hg hU hv
      simp only [obind]
      have h := loop_count (law13_LeastcodeBelow_L41 ((S, v), 0) u) (.inr ()) 0 its.length (by omega) (by omega) (fun y _ hy => by
        have := hle y hy
        unfold law13_LeastcodeBelow_L41
        simp only [hul]
        rw [if_pos (dpos (by omega)), idx_getD (by omega)]
        simp only [obind]
        rw [idx_getD (by omega)]
        simp only [obind]
        rw [if_neg (dneg (by omega)), wr_id (by omega) (by omega)]) (by
        unfold law13_LeastcodeBelow_L41
        simp only [hul]
        rw [if_neg (dneg (by omega))])
      rw [show ((0 : Nat) : Int) = 0 from rfl] at h
      rw [h]
      simp only [obind]
      rw [sorts_ok wt (by omega) hul hc (fun x y hr => by
        obtain ⟨_, hx, hy⟩ := rel_blk hr
        have h1 := needU_ge its u y its.length x hx hr
        obtain ⟨a, a0, ha⟩ := hall y hy
        have hnn := needU_nn its u y
        have h2 := (nx_ge (n := need its u y + a) (by omega) (hg.r y) hw (by rw [ha])).1
        rw [ha] at h2
        simp only at h2
        unfold need at h2
        omega)]
      simp only [obind]
      rw [if_pos trivial, sane13_ok]
      rfl
  · rw [e1]
    simp only [obind]
    rw [if_pos (by decide), if_pos (by decide), sane13_ok]
    rfl
end Go.Proofs.Ytgdaanhiagoonaa
