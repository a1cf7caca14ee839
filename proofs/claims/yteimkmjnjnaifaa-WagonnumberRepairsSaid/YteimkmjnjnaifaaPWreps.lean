/- Plain law of WagonnumberRepairs: Repairs returns numbers that differ from the string in one digit or in one exchange, in ascending order. No condition. -/
import Derived.Test.YteimkmjnjnaifaaPWfmt
import Derived.Test.YteimkmjnjnaifaaGWagonnumberRepairs
set_option linter.unusedVariables false
set_option linter.unusedSectionVars false
set_option linter.unusedSimpArgs false
set_option maxRecDepth 100000
namespace Go.Proofs.Yteimkmjnjnaifaa
open Go Go.V Go.Proofs

/-- The places below n where two strings differ. -/
def dfU (x s : List UInt8) : Nat → List Int
  | 0 => []
  | n + 1 => if gv x n ≠ gv s n then dfU x s n ++ [(n : Int)] else dfU x s n
theorem dfU_len (x s : List UInt8) : ∀ n, (dfU x s n).length ≤ n
  | 0 => by simp [dfU]
  | n + 1 => by
    have := dfU_len x s n
    unfold dfU
    split
    · simp; omega
    · omega
theorem df_ok {x s : List UInt8} (hx : x.length = 12) (hs : s.length = 12) : loop (law02_WagonnumberRepairs_L27 s x) (([] : List Int), 0) = some (dfU x s 12) := by
  obtain ⟨d, h1, h2⟩ := loop_inv (step := law02_WagonnumberRepairs_L27 s x) (fun t => ∃ j : Nat, t = (dfU x s j, (j : Int)) ∧ j ≤ 12) (fun t => 12 - t.2.toNat) (fun d => d = dfU x s 12) (by
    rintro _ ⟨j, rfl, hj⟩
    unfold law02_WagonnumberRepairs_L27
    simp only
    by_cases h : j < 12
    · have hl := dfU_len x s j
      rw [if_pos (dpos (by omega)), sAt_ok (by omega)]
      simp only [obind]
      rw [sAt_ok (by omega)]
      simp only [obind]
      rw [wr_id (by omega) (by omega)]
      by_cases he : gv x j = gv s j
      · rw [if_neg (by rw [he]; simp)]
        exact .inl ⟨_, rfl, ⟨j + 1, by rw [dfU, if_neg (fun q => q he)]; rfl, by omega⟩, by simp only; omega⟩
      · rw [if_pos (by simpa using he), if_pos (by simp only [List.length_cons, List.length_nil]; omega)]
        exact .inl ⟨_, rfl, ⟨j + 1, by rw [dfU, if_pos he]; rfl, by omega⟩, by simp only; omega⟩
    · rw [if_neg (dneg (by omega))]
      have : j = 12 := by omega
      subst this
      exact .inr ⟨_, rfl, rfl⟩) (([] : List Int), 0) ⟨0, rfl, by omega⟩ (by simp)
  rw [h1, h2]
theorem df_one {x s : List UInt8} {i : Nat} (h1 : gv x i ≠ gv s i) (h2 : ∀ j, j ≠ i → gv x j = gv s j) : ∀ n, dfU x s n = if i < n then [(i : Int)] else []
  | 0 => by simp [dfU]
  | n + 1 => by
    unfold dfU
    rw [df_one h1 h2 n]
    by_cases h : n = i
    · subst h; rw [if_pos h1, if_neg (by omega), if_pos (by omega)]; rfl
    · rw [if_neg (fun q => q (h2 n h))]
      by_cases hlt : i < n
      · rw [if_pos hlt, if_pos (by omega)]
      · rw [if_neg hlt, if_neg (by omega)]
theorem df_two {x s : List UInt8} {i : Nat} (h1 : gv x i ≠ gv s i) (h2 : gv x (i + 1) ≠ gv s (i + 1)) (h3 : ∀ j, j ≠ i → j ≠ i + 1 → gv x j = gv s j) : ∀ n, dfU x s n = if i + 1 < n then [(i : Int), ((i + 1 : Nat) : Int)] else if i < n then [(i : Int)] else []
  | 0 => by simp [dfU]
  | n + 1 => by
    unfold dfU
    rw [df_two h1 h2 h3 n]
    by_cases h : n = i
    · subst h; rw [if_pos h1, if_neg (by omega), if_neg (by omega), if_neg (by omega), if_pos (by omega)]; rfl
    · by_cases h' : n = i + 1
      · subst h'; rw [if_pos h2, if_neg (by omega), if_pos (by omega), if_pos (by omega)]; rfl
      · rw [if_neg (fun q => q (h3 n h h'))]
        by_cases hlt : i + 1 < n
        · rw [if_pos hlt, if_pos (by omega)]
        · rw [if_neg hlt, if_neg (by omega), if_neg (by omega), if_neg (by omega)]
theorem J21_ok {s x : List UInt8} (hs : s.length = 12) (hx : RP s 12 x) (m : Int) : law02_WagonnumberRepairs_J21 s m x = some (.next (IntKind.i64.wrap (m + 1))) := by
  have hN : Num x := by
    rcases hx with ⟨i, c, _, _, _, _, h⟩ | ⟨i, _, _, _, _, h⟩
    · exact h
    · exact h
  have hxl := hN.2.1
  unfold law02_WagonnumberRepairs_J21
  rw [df_ok hxl hs]
  simp only [obind]
  rcases hx with ⟨i, c, hi, _, rfl, hne, _⟩ | ⟨i, _, hi, hne, rfl, _⟩
  · have g1 : gv (s.set i c) i ≠ gv s i := fun q => hne ((set_ne (by omega) c).2 (by rw [gv_set (by omega), if_pos rfl] at q; exact q))
    rw [df_one g1 (fun j hj => by rw [gv_set (by omega), if_neg (fun q => hj q.symm)]) 12, if_pos hi, if_neg (by simp)]
  · have a1 := gv_swp (s := s) (i := i) (by omega) i
    have a2 := gv_swp (s := s) (i := i) (by omega) (i + 1)
    rw [if_pos rfl] at a1
    rw [if_neg (by omega), if_pos rfl] at a2
    have e := df_two (x := swp s i) (s := s) (i := i) (by rw [a1]; exact fun q => hne q.symm) (by rw [a2]; exact hne) (fun j h1 h2 => by rw [gv_swp (by omega), if_neg h1, if_neg h2]) 12
    rw [if_pos (by omega)] at e
    have i0 : idx [(i : Int), ((i + 1 : Nat) : Int)] 0 = some (i : Int) := rfl
    have i1 : idx [(i : Int), ((i + 1 : Nat) : Int)] 1 = some ((i + 1 : Nat) : Int) := rfl
    rw [e, if_pos (by simp), if_pos (by simp), i1]
    simp only [obind]
    rw [i0]
    simp only [obind]
    rw [wr_id (n := (i : Int) + 1) (by omega) (by omega), if_pos (by rw [beq_iff_eq]; omega), sAt_ok (by rw [swp_len]; omega)]
    simp only [obind]
    rw [sAt_ok (by omega)]
    simp only [obind]
    rw [if_pos (by rw [a1]; simp), sAt_ok (by rw [swp_len]; omega)]
    simp only [obind]
    rw [sAt_ok (by omega)]
    simp only [obind]
    rw [if_neg (by rw [a2]; simp)]
theorem wagRepJ_ok {s : List UInt8} (hd : Digs s) (hl : s.length = 12) : law02_WagonnumberRepairs_J8 s = some true := by
  unfold law02_WagonnumberRepairs_J8
  obtain ⟨l, h1, h2, h3, h4⟩ := wrep_ok hd hl
  rw [h1]
  simp only [obind]
  obtain ⟨d, g1, g2⟩ := loop_inv (step := law02_WagonnumberRepairs_L17 s (l, 0)) (fun t => ∃ i : Nat, t = (i : Int) ∧ i ≤ l.length) (fun t => l.length - t.toNat) (fun d => d = .inr ()) (by
    rintro _ ⟨i, rfl, hi⟩
    unfold law02_WagonnumberRepairs_L17
    simp only
    by_cases h : i < l.length
    · have hm : l.getD i [] ∈ l := by rw [List.getD_eq_getElem?_getD, List.getElem?_eq_getElem h]; exact List.getElem_mem h
      have hR := (h3 _).1 hm
      have hNe : Num (l.getD i []) ∧ l.getD i [] ≠ s := by
        rcases hR with ⟨j, c, _, _, _, q1, q2⟩ | ⟨j, _, q0, q1, q2, q3⟩
        · exact ⟨q2, q1⟩
        · refine ⟨q3, fun q => q1 ?_⟩
          have := gv_swp (s := s) (i := j) (by omega) j
          rw [if_pos rfl, ← q2, q] at this
          exact this
      have h12 := hNe.1.2.1
      rw [if_pos (dpos (by omega)), idx_nat, getD_get h]
      simp only [obind]
      rw [if_neg (by rw [h12]; decide), wValid_ok _ (by omega)]
      simp only [obind]
      rw [if_neg (by rw [vcode_zero.2 hNe.1]; decide), if_neg (by simpa using hNe.2)]
      have hJ := J21_ok hl hR (i : Int)
      rw [wr_id (n := (i : Int) + 1) (by omega) (by omega)] at hJ
      by_cases h0 : 0 < i
      · rw [if_pos (dpos (by omega)), wr_id (n := (i : Int) - 1) (by omega) (by omega), show (i : Int) - 1 = ((i - 1 : Nat) : Int) by omega, idx_nat, getD_get (by omega)]
        simp only [obind]
        rw [if_neg (by rw [ascS_at h2 (by omega) h]; simp), hJ]
        exact .inl ⟨_, rfl, ⟨i + 1, rfl, by omega⟩, by omega⟩
      · rw [if_neg (dneg (by omega)), hJ]
        exact .inl ⟨_, rfl, ⟨i + 1, rfl, by omega⟩, by omega⟩
    · rw [if_neg (dneg (by omega))]
      exact .inr ⟨_, rfl, rfl⟩) 0 ⟨0, rfl, by omega⟩ (by simp; omega)
  rw [g1, g2]
  simp only [obind]
  rw [if_pos (by simp), sane02_ok]
  rfl
theorem wagRep_ok (t : List Int) : law02_WagonnumberRepairs t = some true := by
  unfold law02_WagonnumberRepairs gen_New
  simp only [obind]
  obtain ⟨s, e1, hl, hd⟩ := gdigits_ok t 0 12 (by omega) (by omega) (by omega)
  rw [show (12 : Int) = ((12 : Nat) : Int) from rfl, e1]
  simp only [obind]
  obtain ⟨v, e2, _, _⟩ := next_ok t (0 + ((12 : Nat) : Int)) 3 (by omega) (by omega) (by omega) (by omega)
  rw [e2]
  simp only [obind]
  by_cases h : (v == 0) = true
  · obtain ⟨n, e3, hN⟩ := gnumber_ok t (0 + ((12 : Nat) : Int) + 1) 3 (by omega) (by omega) (by omega)
    rw [if_pos h, show (3 : Int) = ((3 : Nat) : Int) from rfl, e3]
    simp only [obind]
    exact wagRepJ_ok hN.1 hN.2.1
  · rw [if_neg h]
    exact wagRepJ_ok hd hl
end Go.Proofs.Yteimkmjnjnaifaa
