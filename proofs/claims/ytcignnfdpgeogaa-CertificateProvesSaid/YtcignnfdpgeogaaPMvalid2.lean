/- Plain laws: which plans are valid, for the program. No condition beyond those of each theorem. -/
import Derived.Test.YtcignnfdpgeogaaPMvalid
set_option linter.unusedVariables false
set_option maxRecDepth 100000
namespace Go.Proofs.Ytcignnfdpgeogaa
open Go Go.V Go.Proofs

theorem valid_spec (items : List Item) (wt S : Int) (codes : List Int) (hcl : codes.length < 4611686018427387904) (hil : items.length < 4611686018427387904) :
    ∃ e, rollin_Valid items wt S codes = some e ∧ ((e = 0 ∧ Good items wt S codes) ∨ (e ≠ 0 ∧ ¬ Good items wt S codes ∧ (JobGood items wt → e = 1))) := by
  obtain ⟨e, he, hj⟩ := jobvalid_spec items wt
  unfold rollin_Valid
  rw [he]
  simp only [Option.bind_some]
  rcases hj with ⟨rfl, hj⟩ | ⟨hne, hj⟩
  · simp only [bne_self_eq_false, Bool.false_eq_true, if_false]
    by_cases hS : 0 ≤ S ∧ S ≤ 12
    · simp only [show decide (S < 0) = false from decide_eq_false (by omega), show decide (S > 12) = false from decide_eq_false (by omega), Bool.false_eq_true, if_false]
      by_cases hc : codes.length = items.length
      · simp only [show ((codes.length : Int) != (items.length : Int)) = false by simp [hc], Bool.false_eq_true, if_false]
        have hl := hj.len
        have hp := pow_le S.toNat (by omega)
        have isx : ∀ (i : Nat) (x : Item) (c : Int), items[i]? = some x → 0 ≤ c ∧ c < 4096 → code_Is c x.2.2.1 wt = some (isN x.2.2.1.toNat wt.toNat c.toNat) ∧ r12_Is c x.2.2.1 wt = some (isN x.2.2.1.toNat wt.toNat c.toNat) := by
          intro i x c hx hcr
          obtain ⟨_, _, hr, _⟩ := hj.it i x hx
          have hw := hj.w
          have e1 : c = (c.toNat : Int) := by omega
          have e2 : x.2.2.1 = (x.2.2.1.toNat : Int) := by omega
          have e3 : wt = (wt.toNat : Int) := by omega
          have a := is_ok c.toNat x.2.2.1.toNat wt.toNat (by omega) (by omega) (by omega)
          have b := ris_ok c.toNat x.2.2.1.toNat wt.toNat (by omega) (by omega) (by omega)
          rw [← e1, ← e2, ← e3] at a b
          exact ⟨a, b⟩
        obtain ⟨d, g1, g2⟩ := valid_loop (rollin_Valid_L11 items wt S codes) items wt S codes hl hc
          (fun i x c hx hcc hq => by
            obtain ⟨q1, q2, q3⟩ := hq
            have hlt := (List.getElem?_eq_some_iff.1 hx).1
            unfold rollin_Valid_L11
            simp only
            rw [if_pos (dpos (by omega)), idx_nat, hcc]
            simp only [Option.bind_some]
            rw [idx_nat, hx]
            simp only [Option.bind_some]
            rw [(isx i x c hx ⟨q1, by omega⟩).1]
            simp only [Option.bind_some]
            rw [if_neg (by simp [q3]), if_pos hS.1, pow_min S hS, if_neg (by
              have := mt (fdiv_ne c S.toNat q1).1 (by omega)
              simpa using this), wr_id (by omega) (by omega)])
          (fun i x c hx hcc hq => by
            have hlt := (List.getElem?_eq_some_iff.1 hx).1
            obtain ⟨_, _, hr, _⟩ := hj.it i x hx
            unfold rollin_Valid_L11
            simp only
            rw [if_pos (dpos (by omega)), idx_nat, hcc]
            simp only [Option.bind_some]
            rw [idx_nat, hx]
            simp only [Option.bind_some]
            by_cases hcr : 0 ≤ c ∧ c < 4096
            · rw [(isx i x c hx hcr).1]
              simp only [Option.bind_some]
              cases hi : isN x.2.2.1.toNat wt.toNat c.toNat
              · rfl
              · rw [if_neg (by simp), if_pos hS.1, pow_min S hS, if_pos (by
                  have := (fdiv_ne c S.toNat hcr.1).2 (by
                    rcases Int.lt_or_le c ((2 ^ S.toNat : Nat) : Int) with h | h
                    · exact absurd ⟨hcr.1, h, hi⟩ hq
                    · exact h)
                  simpa using this)]
            · rw [(is_out c _ wt hcr hr hj.w).1]
              rfl)
          (by
            unfold rollin_Valid_L11
            simp only
            rw [if_neg (dneg (by omega))])
        rw [g1]
        simp only [Option.bind_some]
        rcases g2 with ⟨rfl, g2⟩ | ⟨rfl, g2⟩
        · exact ⟨_, rfl, .inl ⟨rfl, ⟨hj, hS, hc, g2⟩⟩⟩
        · exact ⟨_, rfl, .inr ⟨by decide, fun h => g2 h.code, fun _ => rfl⟩⟩
      · simp only [show ((codes.length : Int) != (items.length : Int)) = true by simpa using (show ¬ (codes.length : Int) = (items.length : Int) by omega), if_true]
        exact ⟨_, rfl, .inr ⟨by decide, fun h => hc h.cl, fun _ => rfl⟩⟩
    · by_cases h0 : S < 0
      · simp only [show decide (S < 0) = true from decide_eq_true h0, if_true]
        exact ⟨_, rfl, .inr ⟨by decide, fun h => hS h.st, fun _ => rfl⟩⟩
      · simp only [show decide (S < 0) = false from decide_eq_false h0, show decide (S > 12) = true from decide_eq_true (by omega), Bool.false_eq_true, if_false, if_true]
        exact ⟨_, rfl, .inr ⟨by decide, fun h => hS h.st, fun _ => rfl⟩⟩
  · simp only [show (e != 0) = true by simpa using hne, if_true]
    exact ⟨_, rfl, .inr ⟨hne, fun h => hj h.job, fun h => absurd h hj⟩⟩

end Go.Proofs.Ytcignnfdpgeogaa
