/- Plain law of RollinPushes: a job of one round with the least codes needs one push more than it has steps. No condition. -/
import Derived.Test.YtmjobkpgnhbcbaaPMplan
import Derived.Test.YtmjobkpgnhbcbaaPMpush0
import Derived.Test.YtmjobkpgnhbcbaaGRollinPushes
set_option linter.unusedVariables false
set_option linter.unusedSectionVars false
set_option linter.unusedSimpArgs false
set_option maxRecDepth 100000
namespace Go.Proofs.Ytmjobkpgnhbcbaa
open Go Go.V Go.Proofs

def flat1 (a : Item) : Item := (a.1, a.2.1, 0, a.2.2.2)
theorem MP13_ok (its : List Item) (wt k : Int) (hl : its.length ≤ 1000) : loop (law14_RollinPushes_L13 ((its, wt), k)) (its, 0) = some (its.map flat1) := by
  obtain ⟨d, h1, h2⟩ := loop_inv (step := law14_RollinPushes_L13 ((its, wt), k)) (fun s => ∃ (d : List Item) (i : Nat), s = (d, (i : Int)) ∧ i ≤ its.length ∧ d.length = its.length ∧ ∀ j, d[j]? = if j < i then (its[j]?).map flat1 else its[j]?) (fun s => its.length - s.2.toNat) (fun d => d = its.map flat1) (by
    rintro _ ⟨d, i, rfl, hi, hd, hj⟩
    unfold law14_RollinPushes_L13
    simp only
    by_cases h : i < its.length
    · have hx : its[i]? = some its[i] := List.getElem?_eq_getElem h
      generalize its[i] = a at hx
      rw [if_pos (dpos (by omega)), idx_nat, hj i, if_neg (by omega), hx]
      simp only [obind, Int.toNat_natCast]
      rw [wr_id (by omega) (by omega)]
      refine .inl ⟨_, rfl, ⟨_, i + 1, rfl, by omega, by rw [List.length_set]; exact hd, fun j => ?_⟩, by simp only; omega⟩
      rw [List.getElem?_set]
      by_cases e : i = j
      · subst e
        rw [if_pos rfl, if_pos (by omega), if_pos (by omega), hx]
        rfl
      · rw [if_neg e, hj j]
        by_cases q : j < i
        · rw [if_pos q, if_pos (by omega)]
        · rw [if_neg q, if_neg (by omega)]
    · rw [if_neg (dneg (by omega))]
      refine .inr ⟨_, rfl, ?_⟩
      apply List.ext_getElem? 
      intro j
      rw [hj j, List.getElem?_map]
      by_cases q : j < i
      · rw [if_pos q]
      · rw [if_neg q, List.getElem?_eq_none (by omega)]; rfl) (its, 0) ⟨its, 0, rfl, by omega, rfl, fun j => by rw [if_neg (by omega)]⟩ (by simp; omega)
  rw [h1, h2]
theorem flat_good {its : List Item} {wt : Int} (hg : JobGood its wt) : JobGood (its.map flat1) wt := by
  have key : ∀ (i : Nat) (x : Item), (its.map flat1)[i]? = some x → ∃ a, its[i]? = some a ∧ x = flat1 a := by
    intro i x hx
    rw [List.getElem?_map] at hx
    cases h : its[i]? with
    | none => rw [h] at hx; cases hx
    | some a => rw [h] at hx; cases hx; exact ⟨a, rfl, rfl⟩
  refine ⟨by rw [List.length_map]; exact hg.len, hg.w, fun i x hx => ?_, fun i x y hx hy => ?_⟩
  · obtain ⟨a, ha, rfl⟩ := key i x hx
    obtain ⟨g1, g2, g3, g4⟩ := hg.it i a ha
    exact ⟨g1, g2, ⟨Int.le_refl 0, by show (0 : Int) ≤ 12; omega⟩, g4⟩
  · obtain ⟨a, ha, rfl⟩ := key i x hx
    obtain ⟨b, hb, rfl⟩ := key (i + 1) y hy
    exact Int.le_refl 0
theorem flat_r (its : List Item) (y : Nat) : rOf (its.map flat1) y = 0 := by
  unfold rOf
  rw [List.getElem?_map]
  cases its[y]? <;> rfl

theorem Pushes_ok {its : List Item} {wt S : Int} {codes : List Int} (hg : Good its wt S codes) : rollin_Pushes its wt S codes = some ((((yard its S codes).pushes (S.toNat + 1) : Nat) : Int), 0) := by
  unfold rollin_Pushes
  rw [valid_ok hg]
  simp only [obind, bne_self_eq_false, Bool.false_eq_true, if_false]
  have h := run_ok hg S.toNat (Nat.le_refl _)
  rw [Int.toNat_of_nonneg hg.st.1] at h
  rw [h]
  rfl

theorem rollinPushes_ok (l : List Int) : law14_RollinPushes l = some true := by
  unfold law14_RollinPushes gen_New
  simp only [obind]
  obtain ⟨its0, wt, k, h1, k0, k1, _, hg0, _⟩ := job_ok l 0 16 (by omega) (by omega)
  have hl0 := hg0.len
  rw [h1]
  simp only [obind]
  rw [MP13_ok its0 wt k (by omega)]
  simp only [obind]
  have hg := flat_good hg0
  have h0 := flat_r its0
  generalize its0.map flat1 = its at hg h0 ⊢
  have hl := hg.len
  rcases Least_cases hg with ⟨v, S, m, hv, e1, hm, hS⟩ | ⟨e1, hs⟩
  · rw [e1]
    simp only [obind, bne_self_eq_false, Bool.false_eq_true, if_false]
    have hG := least_good hg hv hm hS
    obtain ⟨hS0, hS1⟩ := hG.st
    rw [Pushes_ok hG]
    simp only [obind]
    rw [if_pos (by simp), wr_id (n := S + 1) (by omega) (by omega)]
    by_cases hz : its.length = 0
    · have hp : (yard its S v).pushes (S.toNat + 1) = 0 := (yard its S v).pushes_none hz _ (Nat.le_refl _)
      rw [if_pos (by rw [hz]; rfl), hp, if_pos (by rfl), sane14_ok]
      rfl
    · have hp : (yard its S v).pushes (S.toNat + 1) = S.toNat + 1 := by
        refine (yard its S v).pushes_all (fun x hx => ?_) (by show 0 < its.length; omega) (fun k hk => ?_) _ (Nat.le_refl _)
        · obtain ⟨it, c, hit, _, _, _, _, er, _⟩ := item_at hG hx
          have := h0 x
          unfold rOf at this
          rw [hit] at this
          simp only at this
          omega
        · have hk' : (k : Int) < S := by
            have : k < S.toNat := hk
            omega
          obtain ⟨x, hx, hb⟩ := bit_used hg h0 hv hm hS k hk'
          refine ⟨x, hx, ?_⟩
          exact hb
      rw [if_neg (by rw [beq_iff_eq]; omega), if_pos (dpos (by omega)), hp, if_pos (by rw [beq_iff_eq]; omega), sane14_ok]
      rfl
  · rw [e1]
    simp only [obind]
    rw [if_pos (by decide), if_pos (by decide), sane14_ok]
    rfl
end Go.Proofs.Ytmjobkpgnhbcbaa
