/- Plain law of LeastcodeSorts: the least codes are of the form, satisfy all relations, and Steps is the bit length of the greatest one. No condition. -/
import Derived.Test.YtgdaanhiagoonaaPKsorts0
import Derived.Test.YtgdaanhiagoonaaGLeastcodeSorts
set_option linter.unusedVariables false
set_option linter.unusedSectionVars false
set_option linter.unusedSimpArgs false
set_option maxRecDepth 100000
namespace Go.Proofs.Ytgdaanhiagoonaa
open Go Go.V Go.Proofs

theorem KS28_ok {its : List Item} {wt k e : Int} (hg : JobGood its wt) {v : List Int} (hv : IsLst its wt v) (S : Int) : ∃ m, loop (law13_LeastcodeSorts_L28 ((its, wt), k) ((S, v), e)) (0, 0) = some (.inr ((m : Nat) : Int)) ∧ IsMx v m := by
  have hl := hg.len
  have hc := hv.c12 hg
  have hvl := hv.len
  obtain ⟨d, h1, h2⟩ := loop_inv (step := law13_LeastcodeSorts_L28 ((its, wt), k) ((S, v), e)) (fun s => ∃ (i m : Nat), s = ((m : Int), (i : Int)) ∧ i ≤ its.length ∧ (∀ y, y < i → v.getD y 0 ≤ m) ∧ (m = 0 ∨ ∃ y, y < its.length ∧ v.getD y 0 = m)) (fun s => its.length - s.2.toNat)
    (fun d => ∃ m : Nat, d = .inr (m : Int) ∧ IsMx v m) (by
    rintro _ ⟨i, m, rfl, hi, hm, hat⟩
    unfold law13_LeastcodeSorts_L28
    simp only [hvl]
    by_cases h : i < its.length
    · obtain ⟨c0, c1⟩ := hc i
      obtain ⟨a, ha⟩ : ∃ a, its[i]? = some a := ⟨_, List.getElem?_eq_getElem h⟩
      have har : rOf its i = a.2.2.1 := by unfold rOf; rw [ha]
      have hr := hg.r i
      have hw := hg.w
      have he := hv.eq i h
      have his : r12_Is (v.getD i 0) (rOf its i) wt = some true := by
        rcases (nx_ok (needU_nn its v i) hr hw).2.2 with ⟨c, e1, _, e2, e3, _⟩ | ⟨e1, _⟩
        · rw [he] at e1
          have e4 : v.getD i 0 = (c : Int) := congrArg Prod.fst e1
          have := ris_ok c (rOf its i).toNat wt.toNat e2 (by omega) (by omega)
          rw [e3, show (((rOf its i).toNat : Nat) : Int) = rOf its i by omega, show ((wt.toNat : Nat) : Int) = wt by omega, ← e4] at this
          exact this
        · rw [he] at e1
          have := congrArg Prod.snd e1
          simp at this
      rw [if_pos (dpos (by omega)), idx_getD (by omega), idx_nat, ha]
      simp only [obind]
      rw [← har, his]
      simp only [obind, Bool.not_true, Bool.false_eq_true, if_false]
      rw [wr_id (by omega) (by omega)]
      by_cases hgt : v.getD i 0 > m
      · refine .inl ⟨_, rfl, ⟨i + 1, (v.getD i 0).toNat, ?_, by omega, fun y hy => ?_, .inr ⟨i, by omega, by omega⟩⟩, by simp only; omega⟩
        · rw [if_pos hgt, show (((v.getD i 0).toNat : Nat) : Int) = v.getD i 0 by omega]; rfl
        · by_cases q : y = i
          · subst q; omega
          · have := hm y (by omega); omega
      · refine .inl ⟨_, rfl, ⟨i + 1, m, by rw [if_neg hgt]; rfl, by omega, fun y hy => ?_, hat⟩, by simp only; omega⟩
        by_cases q : y = i
        · subst q; omega
        · exact hm y (by omega)
    · rw [if_neg (dneg (by omega))]
      refine .inr ⟨_, rfl, m, rfl, fun y => ?_, by
        rcases hat with e | ⟨y, q, e⟩
        · exact .inl e
        · exact .inr ⟨y, by omega, e⟩⟩
      by_cases q : y < its.length
      · exact hm y (by omega)
      · rw [List.getD_eq_getElem?_getD, List.getElem?_eq_none (by omega)]
        show (0 : Int) ≤ m
        omega) (0, 0) ⟨0, 0, rfl, by omega, fun y h => by omega, .inl rfl⟩ (by simp; omega)
  obtain ⟨m, rfl, h3⟩ := h2
  exact ⟨m, h1, h3⟩

theorem mx_small {v : List Int} (hc : C12 v) {m : Nat} (h : IsMx v m) : m < 4096 := by
  rcases h.2 with e | ⟨y, _, e⟩
  · omega
  · have := hc y; omega

theorem leastSorts_ok (l : List Int) : law13_LeastcodeSorts l = some true := by
  unfold law13_LeastcodeSorts gen_New
  simp only [obind]
  obtain ⟨its, wt, k, h1, _, _, _, hg, _⟩ := job_ok l 0 16 (by omega) (by omega)
  have hl := hg.len
  rw [h1]
  simp only [obind]
  rcases Least_cases hg with ⟨v, S, m, hv, e1, hm, hS⟩ | ⟨e1, hs⟩
  · rw [e1]
    simp only [obind, bne_self_eq_false, Bool.false_eq_true, if_false]
    obtain ⟨m', e2, hm'⟩ := KS28_ok (k := k) (e := 0) hg hv S
    have e := hm.uniq hm'
    subst e
    obtain ⟨d, e3, hd⟩ := rlong_ok m (mx_small (hv.c12 hg) hm)
    rw [if_neg (by rw [hv.len]; simp), sorts_ok wt (by omega) hv.len (hv.c12 hg) (fun x y hr => lst_rel hg hv hr)]
    simp only [obind, Bool.not_true, Bool.false_eq_true, if_false]
    rw [e2]
    simp only [obind]
    rw [e3]
    simp only [obind]
    rw [if_pos (by rw [long_unique hS hd]; simp), sane13_ok]
    rfl
  · obtain ⟨p, w1, w2⟩ := Witness_ok hg
    rcases w2 with ⟨v, hv, _⟩ | ⟨rfl, _⟩
    · exact absurd hv (hs.none (fun i => (hg.b i).1) v)
    · rw [e1]
      simp only [obind]
      rw [if_pos (by decide), w1]
      simp only [obind]
      rw [if_pos (by decide), if_pos (by decide), sane13_ok]
      rfl
end Go.Proofs.Ytgdaanhiagoonaa
