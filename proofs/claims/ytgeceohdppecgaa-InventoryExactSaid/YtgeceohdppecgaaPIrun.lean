
/- Running shifts: the program and the reference do the same. Conditions: those of each theorem. -/
import Derived.Test.YtgeceohdppecgaaPImade
set_option linter.unusedVariables false
set_option linter.unusedSimpArgs false
namespace Go.Proofs.Ytgeceohdppecgaa
open Go Go.V Go.Proofs

abbrev Shf := Int × Int × Int × Bool
noncomputable def runS (T : Trk) (L : List Int) : List Shf → Nat → Sta → (Int × Int) ⊕ Sta
  | [], _, s => .inr s
  | m :: l, i, s => if cd T L s m.1 m.2.1 m.2.2.1 = 0 then runS T L l (i + 1) (mv s m.1 m.2.2.1 m.2.2.2) else .inl ((i : Int), cd T L s m.1 m.2.1 m.2.2.1)
theorem runS_at {T : Trk} {L : List Int} {l : List Shf} {i : Nat} (h : i < l.length) (s : Sta) :
    runS T L (l.drop i) i s = if cd T L s l[i].1 l[i].2.1 l[i].2.2.1 = 0 then runS T L (l.drop (i + 1)) (i + 1) (mv s l[i].1 l[i].2.2.1 l[i].2.2.2) else .inl ((i : Int), cd T L s l[i].1 l[i].2.1 l[i].2.2.1) := by
  rw [List.drop_eq_getElem_cons h]; rfl
theorem runS_vld {T : Trk} {L : List Int} : ∀ {l : List Shf} {i : Nat} {s r : Sta}, Vld T L s → runS T L l i s = .inr r → Vld T L r
  | [], _, s, r, h, e => by cases e; exact h
  | m :: l, i, s, r, h, e => by
    unfold runS at e
    split at e
    · rename_i c; exact runS_vld (mv_vld h _ c) e
    · cases e

theorem runloop {step : Sta × Int → Option (Step (Sta × Int) ((Int × Int) ⊕ Sta))} {T : Trk} {L : List Int} (l : List Shf) (hl : l.length < 4294967296) {s : Sta} (hs : Vld T L s)
    (h2 : ∀ b, step (b, (l.length : Int)) = some (.done (.inr b)))
    (h1 : ∀ (i : Nat) (h : i < l.length) (b : Sta), Vld T L b → step (b, (i : Int)) = if cd T L b l[i].1 l[i].2.1 l[i].2.2.1 = 0 then some (.next (mv b l[i].1 l[i].2.2.1 l[i].2.2.2, ((i + 1 : Nat) : Int))) else some (.done (.inl ((i : Int), cd T L b l[i].1 l[i].2.1 l[i].2.2.1)))) :
    loop step (s, 0) = some (runS T L l 0 s) := by
  obtain ⟨d, hd, rfl⟩ := loop_inv (step := step) (fun p => ∃ (b : Sta) (i : Nat), p = (b, (i : Int)) ∧ i ≤ l.length ∧ Vld T L b ∧ runS T L (l.drop i) i b = runS T L l 0 s) (fun p => l.length - p.2.toNat) (fun d => d = runS T L l 0 s) (by
    rintro _ ⟨b, i, rfl, hi, hb, he⟩
    by_cases h : i < l.length
    · rw [h1 i h b hb]
      rw [runS_at h] at he
      by_cases c : cd T L b l[i].1 l[i].2.1 l[i].2.2.1 = 0
      · rw [if_pos c] at he ⊢
        exact .inl ⟨_, rfl, ⟨_, i + 1, rfl, by omega, mv_vld hb _ c, he⟩, by dsimp only; omega⟩
      · rw [if_neg c] at he ⊢
        exact .inr ⟨_, rfl, he⟩
    · obtain rfl : i = l.length := by omega
      rw [List.drop_length] at he
      exact .inr ⟨_, h2 b, he⟩) (s, 0) ⟨s, 0, rfl, Nat.zero_le _, hs, rfl⟩ (by dsimp only; omega)
  exact hd


/-- What Run gives. -/
noncomputable def rn (T : Trk) (L : List Int) (s : Sta) (l : List Shf) : Sta × Int × Int :=
  open Classical in if Vld T L s then (match runS T L l 0 s with | .inl (i, c) => ([], i, c) | .inr b => (b, (l.length : Int), 0)) else ([], 0, 1)
theorem run_ok (T : Trk) (L : List Int) (s : Sta) (l : List Shf) (hl : l.length < 4294967296) (hs : ∀ row ∈ s, row.length < 4294967296) : inventory_Run T L s l = some (rn T L s l) := by
  obtain ⟨b, hb, hV⟩ := valid_ok T L s hs
  unfold inventory_Run
  rw [hb]
  simp only [Option.bind_some]
  cases b with
  | false => rw [if_pos (show (!false) = true from rfl)]; unfold rn; rw [if_neg (by simpa using hV)]
  | true =>
    have h := hV.1 rfl
    rw [if_neg (by simp), copied_ok s (vld_sml h)]
    simp only [Option.bind_some]
    rw [runloop (step := inventory_Run_L12 T L l) (T := T) (L := L) l hl h (fun b => by unfold inventory_Run_L12; dsimp only; rw [if_neg (dneg (by omega))]) fun i hi b hb => by
      unfold inventory_Run_L12
      dsimp only
      rw [if_pos (dpos (by omega)), iget hi]
      simp only [Option.bind_some]
      rw [shift_ok hb]
      simp only [Option.bind_some]
      by_cases c : cd T L b l[i].1 l[i].2.1 l[i].2.2.1 = 0
      · rw [if_pos c, if_pos c, if_pos (mv_len _ _ _ _), if_neg (by simp [c]), iw1 (by omega)]
      · rw [if_neg c, if_neg c, if_pos rfl, if_pos (by simpa using c)]]
    unfold rn
    rw [if_pos h]
    cases runS T L l 0 s <;> rfl
theorem rrun_ok (T : Trk) (L : List Int) (s : Sta) (l : List Shf) (hl : l.length < 4294967296) (hs : ∀ row ∈ s, row.length < 4294967296) : r42_Run T L s l = some (rn T L s l) := by
  obtain ⟨b, hb, hV⟩ := rvalid_ok T L s hs
  unfold r42_Run
  rw [hb]
  simp only [Option.bind_some]
  cases b with
  | false => rw [if_pos (show (!false) = true from rfl)]; unfold rn; rw [if_neg (by simpa using hV)]
  | true =>
    have h := hV.1 rfl
    rw [if_neg (by simp), rcopied_ok s (vld_sml h)]
    simp only [Option.bind_some]
    rw [runloop (step := r42_Run_L12 T L l) (T := T) (L := L) l hl h (fun b => by unfold r42_Run_L12; dsimp only; rw [if_neg (dneg (by omega))]) fun i hi b hb => by
      unfold r42_Run_L12
      dsimp only
      rw [if_pos (dpos (by omega)), iget hi]
      simp only [Option.bind_some]
      rw [rapply_ok T L b _ _ _ _ (vld_sml hb).2, ap_yes hb]
      simp only [Option.bind_some]
      by_cases c : cd T L b l[i].1 l[i].2.1 l[i].2.2.1 = 0
      · rw [if_pos c, if_pos c, if_neg (by simp), iw1 (by omega)]
      · rw [if_neg c, if_neg c, if_pos (by simpa using c)]]
    unfold rn
    rw [if_pos h]
    cases runS T L l 0 s <;> rfl


/-- Two lists of lists are compared. -/
theorem lists_same (a : Sta) (h : Sml a) : gen_Lists a a = some true := by
  unfold gen_Lists
  rw [if_neg (by simp)]
  have : loop (gen_Lists_L4 a a) ((0 : Nat) : Int) = some (.inr ()) := loop_count _ _ 0 a.length (Nat.zero_le _) (by have := h.1; omega) (fun x _ hx => by
    have h1 := h.1
    have h2 := h.2 _ (List.getElem_mem hx)
    unfold gen_Lists_L4
    dsimp only
    rw [if_pos (dpos (by omega)), iget hx]
    simp only [Option.bind_some]
    rw [ints_ok _ _ (by omega)]
    simp only [Option.bind_some, decide_true]
    rw [if_neg (by simp), wr_id (by omega) (by omega)]) (by
    unfold gen_Lists_L4
    dsimp only
    rw [if_neg (dneg (by omega))])
  rw [show ((0 : Nat) : Int) = 0 from rfl] at this
  rw [this]; rfl
end Go.Proofs.Ytgeceohdppecgaa
