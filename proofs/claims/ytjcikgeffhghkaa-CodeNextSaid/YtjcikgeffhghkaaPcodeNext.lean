/- Plain law: CodeNext answers true at every list of numbers. No condition. -/
import Derived.Test.YtjcikgeffhghkaaPcode
import Derived.Test.YtjcikgeffhghkaaPcodeForm
import Derived.Test.YtjcikgeffhghkaaGCodeNext
set_option maxRecDepth 100000
set_option linter.unusedVariables false
namespace Go.Proofs.Ytjcikgeffhghkaa
open Go Go.V Go.Proofs

theorem scan14 (a b : Nat) (n r w : Nat) (k : Int) (e1 e2 e3 : Int) (hn : n < 4300) (hr : r ≤ 12) (hw : w ≤ 12)
    (hs : ∀ x, n ≤ x → x < 4096 → isN r w x = false) : loop (law12_CodeNext_L25 ((r : Int), (w : Int), e2) ((n : Int), e3)) (n : Int) = some (.inr ()) := by
  have hmin : ∃ E : Nat, E ≤ 4096 ∧ (if (4096 : Int) < IntKind.i64.wrap ((n : Int) + 300) then 4096 else IntKind.i64.wrap ((n : Int) + 300)) = (E : Int) := by
    rw [wr_id (by omega) (by omega)]
    split
    · exact ⟨4096, by omega, rfl⟩
    · exact ⟨n + 300, by omega, by omega⟩
  obtain ⟨E, hE, hm⟩ := hmin
  refine loop_count _ _ n (max n E) (by omega) (by omega) ?_ ?_
  · intro x h1 h2
    unfold law12_CodeNext_L25
    simp only
    rw [hm, if_pos (dpos (by omega)), is_ok x r w (by omega) hr hw, hs x h1 (by omega)]
    simp only [Option.bind_some]
    rw [wr_id (by omega) (by omega)]
    simp
  · unfold law12_CodeNext_L25
    simp only
    rw [hm, if_neg (dneg (by omega))]

theorem scan38 (n k r w : Nat) (e1 e2 : Int) (hk : k < 4096) (hn : n ≤ k) (hr : r ≤ 12) (hw : w ≤ 12)
    (hs : ∀ x, n ≤ x → x < k → isN r w x = false) : loop (law12_CodeNext_L38 ((r : Int), (w : Int), e1) ((k : Int), e2)) (n : Int) = some (.inr ()) := by
  refine loop_count _ _ n k hn (by omega) ?_ ?_
  · intro x h1 h2
    unfold law12_CodeNext_L38
    simp only
    rw [if_pos (dpos (by omega)), is_ok x r w (by omega) hr hw, hs x h1 h2]
    simp only [Option.bind_some]
    rw [wr_id (by omega) (by omega)]
    simp
  · unfold law12_CodeNext_L38
    simp only
    rw [if_neg (dneg (by omega))]

theorem law_CodeNext (t : List Int) : law12_CodeNext t = some true := by
  unfold law12_CodeNext
  simp only [gen_New, Option.bind_some]
  obtain ⟨r, w, h1, hr, hw⟩ := form_nat t 0 (by omega) (by omega)
  rw [h1]
  simp only [Option.bind_some]
  obtain ⟨n, h2, hn⟩ := next_nat t (0 + 2) 4200 (by omega) (by omega) (by omega) (by omega)
  rw [h2]
  simp only [Option.bind_some]
  obtain ⟨p, h3, hp⟩ := next_ok' n r w hr hw
  rw [h3]
  simp only [Option.bind_some]
  obtain ⟨m, h4, hm⟩ := next_nat t (0 + 2 + 1) 100 (by omega) (by omega) (by omega) (by omega)
  obtain ⟨q, h5, hq⟩ := next_ok' (n + m) r w hr hw
  have h6 : IntKind.i64.wrap ((n : Int) + (m : Int)) = ((n + m : Nat) : Int) := by rw [wr_id (by omega) (by omega)]; omega
  rcases hp with ⟨k, rfl, g1, g2, g3, g4⟩ | ⟨rfl, g1⟩
  · rw [if_neg (by simp), if_pos (by simp), if_neg (dneg (by omega)), is_ok k r w g2 hr hw, g3]
    simp only [Option.bind_some]
    rw [if_neg (by simp), scan38 n k r w _ _ g2 g1 hr hw g4]
    simp only [Option.bind_some]
    rw [h4]
    simp only [Option.bind_some, h6]
    rw [h5]
    simp only [Option.bind_some]
    rcases hq with ⟨l, rfl, f1, f2, f3, f4⟩ | ⟨rfl, f1⟩
    · have hl : k ≤ l := by
        rcases Nat.lt_or_ge l k with h | h
        · rw [g4 l (by omega) h] at f3; cases f3
        · exact h
      rw [if_neg (by simp), if_pos (by simp), if_pos (dpos (by omega)), sane12_ok]
      rfl
    · rw [if_pos (by simp), sane12_ok]
      rfl
  · rw [if_pos (by simp), if_neg (by simp), scan14 0 0 n r w 0 0 _ _ (by omega) hr hw g1]
    simp only [Option.bind_some]
    rw [h4]
    simp only [Option.bind_some, h6]
    rw [h5]
    simp only [Option.bind_some]
    rcases hq with ⟨l, rfl, f1, f2, f3, f4⟩ | ⟨rfl, f1⟩
    · rw [g1 l (by omega) f2] at f3; cases f3
    · rw [if_pos (by simp), sane12_ok]
      rfl

end Go.Proofs.Ytjcikgeffhghkaa
