
/- Plain laws: the bytes of proofs and the proofs of bytes, by the program and by the reference. Conditions: those of each theorem. -/
import Derived.Test.YtcignnfdpgeogaaPKcode
import Derived.Test.YtcignnfdpgeogaaPvw
import Derived.Test.YtcignnfdpgeogaaGcertificate
import Derived.Test.YtcignnfdpgeogaaGr15
set_option linter.unusedVariables false
set_option linter.unusedSimpArgs false
namespace Go.Proofs.Ytcignnfdpgeogaa
open Go Go.V Go.Proofs

theorem w8 {n : Int} (h1 : 0 ≤ n) (h2 : n < 256) : IntKind.u8.wrap n = n := by
  unfold IntKind.wrap
  simp [IntKind.signed, IntKind.bits]
  omega
theorem w8m (n : Int) : IntKind.u8.wrap n = n % 256 := by
  unfold IntKind.wrap
  simp [IntKind.signed, IntKind.bits]

/-! ### The check -/
def Vp (S : Int) (v c : List Int) : Prop := v.length ≤ 96 ∧ c.length ≤ 96 ∧ 0 ≤ S ∧ S ≤ 12 ∧ (∀ x ∈ v, 0 ≤ x ∧ x < 4096) ∧ ∀ x ∈ c, 0 ≤ x ∧ x < 96
theorem chk_v (v : List Int) (h : v.length ≤ 96) : (loop (certificate_check_L8 v) 0 = some (.inl ()) ∧ ¬ ∀ x ∈ v, 0 ≤ x ∧ x < 4096) ∨ (loop (certificate_check_L8 v) 0 = some (.inr ()) ∧ ∀ x ∈ v, 0 ≤ x ∧ x < 4096) := by
  obtain ⟨d, h1, h2⟩ := loop_inv (step := certificate_check_L8 v) (fun s => ∃ i : Nat, s = (i : Int) ∧ i ≤ v.length ∧ ∀ k, k < i → 0 ≤ vw v k ∧ vw v k < 4096) (fun s => v.length - s.toNat) (fun d => (d = .inl () ∧ ¬ ∀ x ∈ v, 0 ≤ x ∧ x < 4096) ∨ (d = .inr () ∧ ∀ x ∈ v, 0 ≤ x ∧ x < 4096)) (by
    rintro _ ⟨i, rfl, hi, hk⟩
    unfold certificate_check_L8
    dsimp only
    by_cases hlt : i < v.length
    · rw [if_pos (dpos (by omega)), vw_idx hlt]
      simp only [Option.bind_some]
      by_cases h0 : vw v i < 0
      · rw [if_pos (dpos h0)]; exact Or.inr ⟨_, rfl, Or.inl ⟨rfl, fun h => by have := h _ (vw_mem hlt); omega⟩⟩
      · rw [if_neg (dneg h0)]
        by_cases h1 : vw v i ≥ 4096
        · rw [if_pos (dpos h1)]; exact Or.inr ⟨_, rfl, Or.inl ⟨rfl, fun h => by have := h _ (vw_mem hlt); omega⟩⟩
        · rw [if_neg (dneg h1), wk1 (by omega)]
          refine Or.inl ⟨_, rfl, ⟨i + 1, rfl, by omega, fun k hk2 => ?_⟩, by omega⟩
          by_cases e : k = i
          · subst e; omega
          · exact hk k (by omega)
    · rw [if_neg (dneg (by omega))]
      refine Or.inr ⟨_, rfl, Or.inr ⟨rfl, fun x hx => ?_⟩⟩
      obtain ⟨k, h1, rfl⟩ := vw_of_mem hx
      exact hk k (by omega)) 0 ⟨0, rfl, by omega, fun k hk => by omega⟩ (by omega)
  rcases h2 with ⟨rfl, h2⟩ | ⟨rfl, h2⟩
  · exact Or.inl ⟨h1, h2⟩
  · exact Or.inr ⟨h1, h2⟩
theorem chk_c (v : List Int) (h : v.length ≤ 96) : (loop (certificate_check_L12 v) 0 = some (.inl ()) ∧ ¬ ∀ x ∈ v, 0 ≤ x ∧ x < 96) ∨ (loop (certificate_check_L12 v) 0 = some (.inr ()) ∧ ∀ x ∈ v, 0 ≤ x ∧ x < 96) := by
  obtain ⟨d, h1, h2⟩ := loop_inv (step := certificate_check_L12 v) (fun s => ∃ i : Nat, s = (i : Int) ∧ i ≤ v.length ∧ ∀ k, k < i → 0 ≤ vw v k ∧ vw v k < 96) (fun s => v.length - s.toNat) (fun d => (d = .inl () ∧ ¬ ∀ x ∈ v, 0 ≤ x ∧ x < 96) ∨ (d = .inr () ∧ ∀ x ∈ v, 0 ≤ x ∧ x < 96)) (by
    rintro _ ⟨i, rfl, hi, hk⟩
    unfold certificate_check_L12
    dsimp only
    by_cases hlt : i < v.length
    · rw [if_pos (dpos (by omega)), vw_idx hlt]
      simp only [Option.bind_some]
      by_cases h0 : vw v i < 0
      · rw [if_pos (dpos h0)]; exact Or.inr ⟨_, rfl, Or.inl ⟨rfl, fun h => by have := h _ (vw_mem hlt); omega⟩⟩
      · rw [if_neg (dneg h0)]
        by_cases h1 : vw v i ≥ 96
        · rw [if_pos (dpos h1)]; exact Or.inr ⟨_, rfl, Or.inl ⟨rfl, fun h => by have := h _ (vw_mem hlt); omega⟩⟩
        · rw [if_neg (dneg h1), wk1 (by omega)]
          refine Or.inl ⟨_, rfl, ⟨i + 1, rfl, by omega, fun k hk2 => ?_⟩, by omega⟩
          by_cases e : k = i
          · subst e; omega
          · exact hk k (by omega)
    · rw [if_neg (dneg (by omega))]
      refine Or.inr ⟨_, rfl, Or.inr ⟨rfl, fun x hx => ?_⟩⟩
      obtain ⟨k, h1, rfl⟩ := vw_of_mem hx
      exact hk k (by omega)) 0 ⟨0, rfl, by omega, fun k hk => by omega⟩ (by omega)
  rcases h2 with ⟨rfl, h2⟩ | ⟨rfl, h2⟩
  · exact Or.inl ⟨h1, h2⟩
  · exact Or.inr ⟨h1, h2⟩
theorem val_v (v : List Int) (h : v.length ≤ 96) (ok : Bool) : ∃ r, loop (r15_valid_L8 v) (ok, 0) = some r ∧ (r = true ↔ ok = true ∧ ∀ x ∈ v, 0 ≤ x ∧ x < 4096) := by
  refine loop_inv (step := r15_valid_L8 v) (fun s => ∃ i : Nat, s.2 = (i : Int) ∧ i ≤ v.length ∧ (s.1 = true ↔ ok = true ∧ ∀ k, k < i → 0 ≤ vw v k ∧ vw v k < 4096)) (fun s => v.length - s.2.toNat) (fun r => (r = true ↔ ok = true ∧ ∀ x ∈ v, 0 ≤ x ∧ x < 4096)) ?_ (ok, 0) ⟨0, rfl, by omega, by simp⟩ (by dsimp only; omega)
  rintro ⟨o, _⟩ ⟨i, rfl, hi, hk⟩
  dsimp only at hk ⊢
  unfold r15_valid_L8
  dsimp only
  by_cases hlt : i < v.length
  · rw [if_pos (dpos (by omega)), vw_idx hlt]
    simp only [Option.bind_some]
    rw [wk1 (by omega)]
    have key : ∀ b : Bool, (b = true ↔ o = true ∧ 0 ≤ vw v i ∧ vw v i < 4096) → (b = true ↔ ok = true ∧ ∀ k, k < i + 1 → 0 ≤ vw v k ∧ vw v k < 4096) := fun b hb => by
      rw [hb, hk]
      constructor
      · rintro ⟨⟨h1, h2⟩, h3⟩
        refine ⟨h1, fun k hk2 => ?_⟩
        by_cases e : k = i
        · subst e; exact h3
        · exact h2 k (by omega)
      · rintro ⟨h1, h2⟩
        exact ⟨⟨h1, fun k hk2 => h2 k (by omega)⟩, h2 i (by omega)⟩
    left
    cases o with
    | false => exact ⟨_, rfl, ⟨i + 1, rfl, by omega, key false (by simp)⟩, by dsimp only; omega⟩
    | true =>
      rw [if_pos rfl]
      by_cases h0 : vw v i ≥ 0
      · rw [if_pos (dpos h0)]
        exact ⟨_, rfl, ⟨i + 1, rfl, by omega, key _ (by simp; omega)⟩, by dsimp only; omega⟩
      · rw [if_neg (dneg h0)]
        exact ⟨_, rfl, ⟨i + 1, rfl, by omega, key _ (by simp; omega)⟩, by dsimp only; omega⟩
  · rw [if_neg (dneg (by omega))]
    refine Or.inr ⟨_, rfl, ?_⟩
    rw [hk]
    constructor
    · rintro ⟨h1, h2⟩
      refine ⟨h1, fun x hx => ?_⟩
      obtain ⟨k, h3, rfl⟩ := vw_of_mem hx
      exact h2 k (by omega)
    · rintro ⟨h1, h2⟩
      exact ⟨h1, fun k hk2 => h2 _ (vw_mem (by omega))⟩
theorem val_c (v : List Int) (h : v.length ≤ 96) (ok : Bool) : ∃ r, loop (r15_valid_L14 v) (ok, 0) = some r ∧ (r = true ↔ ok = true ∧ ∀ x ∈ v, 0 ≤ x ∧ x < 96) := by
  refine loop_inv (step := r15_valid_L14 v) (fun s => ∃ i : Nat, s.2 = (i : Int) ∧ i ≤ v.length ∧ (s.1 = true ↔ ok = true ∧ ∀ k, k < i → 0 ≤ vw v k ∧ vw v k < 96)) (fun s => v.length - s.2.toNat) (fun r => (r = true ↔ ok = true ∧ ∀ x ∈ v, 0 ≤ x ∧ x < 96)) ?_ (ok, 0) ⟨0, rfl, by omega, by simp⟩ (by dsimp only; omega)
  rintro ⟨o, _⟩ ⟨i, rfl, hi, hk⟩
  dsimp only at hk ⊢
  unfold r15_valid_L14
  dsimp only
  by_cases hlt : i < v.length
  · rw [if_pos (dpos (by omega)), vw_idx hlt]
    simp only [Option.bind_some]
    rw [wk1 (by omega)]
    have key : ∀ b : Bool, (b = true ↔ o = true ∧ 0 ≤ vw v i ∧ vw v i < 96) → (b = true ↔ ok = true ∧ ∀ k, k < i + 1 → 0 ≤ vw v k ∧ vw v k < 96) := fun b hb => by
      rw [hb, hk]
      constructor
      · rintro ⟨⟨h1, h2⟩, h3⟩
        refine ⟨h1, fun k hk2 => ?_⟩
        by_cases e : k = i
        · subst e; exact h3
        · exact h2 k (by omega)
      · rintro ⟨h1, h2⟩
        exact ⟨⟨h1, fun k hk2 => h2 k (by omega)⟩, h2 i (by omega)⟩
    left
    cases o with
    | false => exact ⟨_, rfl, ⟨i + 1, rfl, by omega, key false (by simp)⟩, by dsimp only; omega⟩
    | true =>
      rw [if_pos rfl]
      by_cases h0 : vw v i ≥ 0
      · rw [if_pos (dpos h0)]
        exact ⟨_, rfl, ⟨i + 1, rfl, by omega, key _ (by simp; omega)⟩, by dsimp only; omega⟩
      · rw [if_neg (dneg h0)]
        exact ⟨_, rfl, ⟨i + 1, rfl, by omega, key _ (by simp; omega)⟩, by dsimp only; omega⟩
  · rw [if_neg (dneg (by omega))]
    refine Or.inr ⟨_, rfl, ?_⟩
    rw [hk]
    constructor
    · rintro ⟨h1, h2⟩
      refine ⟨h1, fun x hx => ?_⟩
      obtain ⟨k, h3, rfl⟩ := vw_of_mem hx
      exact h2 k (by omega)
    · rintro ⟨h1, h2⟩
      exact ⟨h1, fun k hk2 => h2 _ (vw_mem (by omega))⟩
theorem check15 (S : Int) (v c : List Int) : ∃ e, certificate_check S v c = some e ∧ r15_valid S v c = some e ∧ (e = 0 ↔ Vp S v c) := by
  unfold certificate_check r15_valid Vp
  by_cases h1 : v.length ≤ 96
  · have a1 : ¬ decide ((v.length : Int) > 96) = true := dneg (by omega)
    simp only [if_neg a1]
    by_cases h2 : c.length ≤ 96
    · have a2 : ¬ decide ((c.length : Int) > 96) = true := dneg (by omega)
      simp only [if_neg a2]
      have hJ : ∀ b : Bool, ∃ e, r15_valid_J6 v c b = some e ∧ ((e = 0 ∧ b = true ∧ (∀ x ∈ v, 0 ≤ x ∧ x < 4096) ∧ ∀ x ∈ c, 0 ≤ x ∧ x < 96) ∨ (e = 2 ∧ ¬ (b = true ∧ (∀ x ∈ v, 0 ≤ x ∧ x < 4096) ∧ ∀ x ∈ c, 0 ≤ x ∧ x < 96))) := fun b => by
        unfold r15_valid_J6
        obtain ⟨r1, e1, e2⟩ := val_v v h1 b
        obtain ⟨r2, e3, e4⟩ := val_c c h2 r1
        rw [e1]
        simp only [Option.bind_some]
        rw [e3]
        simp only [Option.bind_some]
        cases r2 with
        | false =>
          refine ⟨2, rfl, Or.inr ⟨rfl, fun h => ?_⟩⟩
          have := e4.2 ⟨e2.2 ⟨h.1, h.2.1⟩, h.2.2⟩
          cases this
        | true =>
          have h5 := e4.1 rfl
          have h6 := e2.1 h5.1
          exact ⟨0, rfl, Or.inl ⟨rfl, h6.1, h6.2, h5.2⟩⟩
      by_cases h3 : S < 0
      · rw [if_pos (dpos h3), if_neg (dneg (by omega))]
        obtain ⟨e, e1, e2⟩ := hJ false
        rw [e1]
        rcases e2 with ⟨_, h, _⟩ | ⟨rfl, _⟩
        · cases h
        · exact ⟨2, rfl, rfl, by omega, fun h => by omega⟩
      · have a3 : decide (S ≥ 0) = true := dpos (by omega)
        rw [if_neg (dneg h3)]
        simp only [if_pos a3]
        by_cases h4 : S > 12
        · rw [if_pos (dpos h4), show (decide (S ≤ 12)) = false from decide_eq_false (by omega)]
          obtain ⟨e, e1, e2⟩ := hJ false
          rw [e1]
          rcases e2 with ⟨_, h, _⟩ | ⟨rfl, _⟩
          · cases h
          · exact ⟨2, rfl, rfl, by omega, fun h => by omega⟩
        · rw [if_neg (dneg h4), show (decide (S ≤ 12)) = true from decide_eq_true (by omega)]
          obtain ⟨e, e1, e2⟩ := hJ true
          rw [e1]
          rcases chk_v v h1 with ⟨q1, q2⟩ | ⟨q1, q2⟩
          · rw [q1]
            simp only [Option.bind_some]
            rcases e2 with ⟨_, _, h, _⟩ | ⟨rfl, _⟩
            · exact absurd h q2
            · exact ⟨2, rfl, rfl, by omega, fun h => absurd h.2.2.2.2.1 q2⟩
          · rw [q1]
            simp only [Option.bind_some]
            rcases chk_c c h2 with ⟨q3, q4⟩ | ⟨q3, q4⟩
            · rw [q3]
              simp only [Option.bind_some]
              rcases e2 with ⟨_, _, _, h⟩ | ⟨rfl, _⟩
              · exact absurd h q4
              · exact ⟨2, rfl, rfl, by omega, fun h => absurd h.2.2.2.2.2 q4⟩
            · rw [q3]
              simp only [Option.bind_some]
              rcases e2 with ⟨rfl, _⟩ | ⟨_, h⟩
              · exact ⟨0, rfl, rfl, fun _ => ⟨h1, h2, by omega, by omega, q2, q4⟩, fun _ => rfl⟩
              · exact absurd ⟨rfl, q2, q4⟩ h
    · have a2 : decide ((c.length : Int) > 96) = true := dpos (by omega)
      simp only [if_pos a2]
      exact ⟨3, rfl, rfl, by omega, fun h => absurd h.2.1 h2⟩
  · have a1 : decide ((v.length : Int) > 96) = true := dpos (by omega)
    simp only [if_pos a1]
    exact ⟨3, rfl, rfl, by omega, fun h => absurd h.1 h1⟩

/-! ### Bytes of a proof -/

/-- d begins as the bytes of a proof do, up to code i. -/
structure Enh (S : Int) (v d : List Int) (i : Nat) : Prop where
  len : d.length = 2 + 2 * i
  s : vw d 0 = S
  n : vw d 1 = v.length
  hi : ∀ j, j < i → vw d (2 + 2 * j) = vw v j / 256
  lo : ∀ j, j < i → vw d (3 + 2 * j) = vw v j % 256

/-- d are the bytes of a proof, up to element j of the chain. -/
structure Enc15 (S : Int) (v c d : List Int) (i : Nat) : Prop where
  len : d.length = 3 + 2 * v.length + i
  s : vw d 0 = S
  n : vw d 1 = v.length
  hi : ∀ j, j < v.length → vw d (2 + 2 * j) = vw v j / 256
  lo : ∀ j, j < v.length → vw d (3 + 2 * j) = vw v j % 256
  m : vw d (2 + 2 * v.length) = c.length
  ch : ∀ j, j < i → vw d (3 + 2 * v.length + j) = vw c j
theorem Enc15.uniq {S : Int} {v c d d' : List Int} (h : Enc15 S v c d c.length) (k : Enc15 S v c d' c.length) : d = d' := by
  refine vw_ext (h.len.trans k.len.symm) fun x hx => ?_
  have hl := h.len
  by_cases e0 : x = 0
  · subst e0; rw [h.s, k.s]
  by_cases e1 : x = 1
  · subst e1; rw [h.n, k.n]
  by_cases e2 : x < 2 + 2 * v.length
  · rcases Nat.mod_two_eq_zero_or_one x with q | q
    · obtain ⟨j, rfl⟩ : ∃ j, x = 2 + 2 * j := ⟨x / 2 - 1, by omega⟩
      rw [h.hi j (by omega), k.hi j (by omega)]
    · obtain ⟨j, rfl⟩ : ∃ j, x = 3 + 2 * j := ⟨x / 2 - 1, by omega⟩
      rw [h.lo j (by omega), k.lo j (by omega)]
  by_cases e3 : x = 2 + 2 * v.length
  · subst e3; rw [h.m, k.m]
  · obtain ⟨j, rfl⟩ : ∃ j, x = 3 + 2 * v.length + j := ⟨x - (3 + 2 * v.length), by omega⟩
    rw [h.ch j (by omega), k.ch j (by omega)]
theorem Enh.step {S : Int} {v d : List Int} {i : Nat} (h : Enh S v d i) : Enh S v (d ++ [vw v i / 256, vw v i % 256]) (i + 1) := by
  have hl := h.len
  refine ⟨by simp; omega, by rw [vw_app, if_pos (by omega)]; exact h.s, by rw [vw_app, if_pos (by omega)]; exact h.n, fun j hj => ?_, fun j hj => ?_⟩
  · rw [vw_app]
    by_cases e : j = i
    · subst e; rw [if_neg (by omega), show 2 + 2 * j - d.length = 0 by omega]; rfl
    · rw [if_pos (by omega)]; exact h.hi j (by omega)
  · rw [vw_app]
    by_cases e : j = i
    · subst e; rw [if_neg (by omega), show 3 + 2 * j - d.length = 1 by omega]; rfl
    · rw [if_pos (by omega)]; exact h.lo j (by omega)
theorem Enh.turn {S : Int} {v c d : List Int} (h : Enh S v d v.length) : Enc15 S v c (d ++ [(c.length : Int)]) 0 := by
  have hl := h.len
  refine ⟨by simp; omega, by rw [vw_app, if_pos (by omega)]; exact h.s, by rw [vw_app, if_pos (by omega)]; exact h.n, fun j hj => ?_, fun j hj => ?_, ?_, fun j hj => by omega⟩
  · rw [vw_app, if_pos (by omega)]; exact h.hi j hj
  · rw [vw_app, if_pos (by omega)]; exact h.lo j hj
  · rw [vw_app, if_neg (by omega), show 2 + 2 * v.length - d.length = 0 by omega]; rfl
theorem Enc15.step {S : Int} {v c d : List Int} {i : Nat} (h : Enc15 S v c d i) : Enc15 S v c (d ++ [vw c i]) (i + 1) := by
  have hl := h.len
  refine ⟨by simp; omega, by rw [vw_app, if_pos (by omega)]; exact h.s, by rw [vw_app, if_pos (by omega)]; exact h.n, fun j hj => ?_, fun j hj => ?_, ?_, fun j hj => ?_⟩
  · rw [vw_app, if_pos (by omega)]; exact h.hi j hj
  · rw [vw_app, if_pos (by omega)]; exact h.lo j hj
  · rw [vw_app, if_pos (by omega)]; exact h.m
  · rw [vw_app]
    by_cases e : j = i
    · subst e; rw [if_neg (by omega), show 3 + 2 * v.length + j - d.length = 0 by omega]; rfl
    · rw [if_pos (by omega)]; exact h.ch j (by omega)
theorem enh_start {S : Int} {v c : List Int} (hV : Vp S v c) : Enh S v [IntKind.u8.wrap S, IntKind.u8.wrap ((v.length : Nat) : Int)] 0 := by
  obtain ⟨h1, h2, h3, h4, _⟩ := hV
  rw [w8 (n := S) h3 (by omega), w8 (n := (v.length : Int)) (by omega) (by omega)]
  exact ⟨rfl, rfl, rfl, fun j h => by omega, fun j h => by omega⟩
theorem encode15 (S : Int) (v c : List Int) : ∃ d e, certificate_Encode S v c = some (d, e) ∧ r15_Encode S v c = some (d, e) ∧ ((e = 0 ∧ Vp S v c ∧ Enc15 S v c d c.length) ∨ (e ≠ 0 ∧ d = [] ∧ ¬ Vp S v c)) := by
  obtain ⟨e, h1, h2, h3⟩ := check15 S v c
  unfold certificate_Encode r15_Encode
  rw [h1, h2]
  simp only [Option.bind_some]
  by_cases e0 : e = 0
  · subst e0
    have hV := h3.1 rfl
    have ⟨v1, v2, v3, v4, v5, v6⟩ := hV
    rw [if_neg (by decide), if_neg (by decide)]
    have f8 : (2 : Int) ^ (min (Int.toNat (8)) IntKind.i64.bits) = 256 := by decide
    have hv : ∀ j, j < v.length → 0 ≤ vw v j ∧ vw v j < 4096 := fun j hj => v5 _ (vw_mem hj)
    obtain ⟨d1, g1, g2⟩ := loop_inv (step := certificate_Encode_L11 v) (fun s => ∃ i : Nat, s.2 = (i : Int) ∧ i ≤ v.length ∧ Enh S v s.1 i) (fun s => v.length - s.2.toNat) (fun d => Enh S v d v.length) (by
      rintro ⟨d, _⟩ ⟨i, rfl, hi, hE⟩
      dsimp only at hE ⊢
      have hl := hE.len
      unfold certificate_Encode_L11
      dsimp only
      by_cases hlt : i < v.length
      · left
        have := hv i hlt
        rw [if_pos (dpos (by omega)), vw_idx hlt]
        simp only [Option.bind_some]
        rw [if_pos (by simp; omega), wk1 (by omega), f8, Int.fdiv_eq_ediv_of_nonneg _ (by omega), w8 (n := vw v i / 256) (by omega) (by omega), w8m (vw v i)]
        exact ⟨_, rfl, ⟨i + 1, rfl, by omega, hE.step⟩, by dsimp only; omega⟩
      · right
        rw [if_neg (dneg (by omega))]
        obtain rfl : i = v.length := by omega
        exact ⟨_, rfl, hE⟩) (_, 0) ⟨0, rfl, by omega, enh_start hV⟩ (by dsimp only; omega)
    obtain ⟨d2, g3, g4⟩ := loop_inv (step := r15_Encode_L11 v) (fun s => ∃ i : Nat, s.2 = (i : Int) ∧ i ≤ v.length ∧ Enh S v s.1 i) (fun s => v.length - s.2.toNat) (fun d => Enh S v d v.length) (by
      rintro ⟨d, _⟩ ⟨i, rfl, hi, hE⟩
      dsimp only at hE ⊢
      have hl := hE.len
      unfold r15_Encode_L11
      dsimp only
      by_cases hlt : i < v.length
      · left
        have := hv i hlt
        rw [if_pos (dpos (by omega)), vw_idx hlt]
        simp only [Option.bind_some]
        have t1 : IntKind.u8.wrap (IntKind.i64.wrap (Int.tdiv (vw v i) 256)) = vw v i / 256 := by
          rw [Int.tdiv_eq_ediv_of_nonneg (by omega), wr_id (by omega) (by omega), w8 (by omega) (by omega)]
        have t2 : IntKind.u8.wrap (Int.tmod (vw v i) 256) = vw v i % 256 := by
          rw [Int.tmod_eq_emod_of_nonneg (by omega), w8 (by omega) (by omega)]
        rw [if_pos (by simp; omega), wk1 (by omega), t1, t2]
        exact ⟨_, rfl, ⟨i + 1, rfl, by omega, hE.step⟩, by dsimp only; omega⟩
      · right
        rw [if_neg (dneg (by omega))]
        obtain rfl : i = v.length := by omega
        exact ⟨_, rfl, hE⟩) (_, 0) ⟨0, rfl, by omega, enh_start hV⟩ (by dsimp only; omega)
    rw [g1, g3]
    simp only [Option.bind_some]
    have hl1 := g2.len
    have hl2 := g4.len
    rw [if_pos (by simp; omega), if_pos (by simp; omega), w8 (n := (c.length : Int)) (by omega) (by omega)]
    have hc : ∀ j, j < c.length → 0 ≤ vw c j ∧ vw c j < 96 := fun j hj => v6 _ (vw_mem hj)
    obtain ⟨d3, g5, g6⟩ := loop_inv (step := certificate_Encode_L21 c) (fun s => ∃ i : Nat, s.2 = (i : Int) ∧ i ≤ c.length ∧ Enc15 S v c s.1 i) (fun s => c.length - s.2.toNat) (fun d => Enc15 S v c d c.length) (by
      rintro ⟨d, _⟩ ⟨i, rfl, hi, hE⟩
      dsimp only at hE ⊢
      have hl := hE.len
      unfold certificate_Encode_L21
      dsimp only
      by_cases hlt : i < c.length
      · left
        have := hc i hlt
        rw [if_pos (dpos (by omega)), vw_idx hlt]
        simp only [Option.bind_some]
        rw [if_pos (by simp; omega), wk1 (by omega), w8 (n := vw c i) (by omega) (by omega)]
        exact ⟨_, rfl, ⟨i + 1, rfl, by omega, hE.step⟩, by dsimp only; omega⟩
      · right
        rw [if_neg (dneg (by omega))]
        obtain rfl : i = c.length := by omega
        exact ⟨_, rfl, hE⟩) (d1 ++ [(c.length : Int)], 0) ⟨0, rfl, by omega, g2.turn⟩ (by dsimp only; omega)
    obtain ⟨d4, g7, g8⟩ := loop_inv (step := r15_Encode_L20 c) (fun s => ∃ i : Nat, s.2 = (i : Int) ∧ i ≤ c.length ∧ Enc15 S v c s.1 i) (fun s => c.length - s.2.toNat) (fun d => Enc15 S v c d c.length) (by
      rintro ⟨d, _⟩ ⟨i, rfl, hi, hE⟩
      dsimp only at hE ⊢
      have hl := hE.len
      unfold r15_Encode_L20
      dsimp only
      by_cases hlt : i < c.length
      · left
        have := hc i hlt
        rw [if_pos (dpos (by omega)), vw_idx hlt]
        simp only [Option.bind_some]
        rw [if_pos (by simp; omega), wk1 (by omega), w8 (n := vw c i) (by omega) (by omega)]
        exact ⟨_, rfl, ⟨i + 1, rfl, by omega, hE.step⟩, by dsimp only; omega⟩
      · right
        rw [if_neg (dneg (by omega))]
        obtain rfl : i = c.length := by omega
        exact ⟨_, rfl, hE⟩) (d2 ++ [(c.length : Int)], 0) ⟨0, rfl, by omega, g4.turn⟩ (by dsimp only; omega)
    rw [g5, g7]
    obtain rfl := g6.uniq g8
    exact ⟨d3, 0, rfl, rfl, Or.inl ⟨rfl, hV, g6⟩⟩
  · rw [if_pos (by simpa using e0), if_pos (by simpa using e0)]
    exact ⟨[], e, rfl, rfl, Or.inr ⟨e0, rfl, fun h => e0 (h3.2 h)⟩⟩

/-! ### The proof of bytes -/
def By (b : List Int) : Prop := ∀ x ∈ b, 0 ≤ x ∧ x < 256
theorem pair15 {x y : Int} (hx : 0 ≤ x ∧ x < 256) (hy : 0 ≤ y ∧ y < 256) : IntKind.i64.wrap ↑(BitVec.ofInt IntKind.i64.bits (IntKind.i64.wrap ((IntKind.i64.wrap x) * 2 ^ (min (Int.toNat (8)) IntKind.i64.bits))) ||| BitVec.ofInt IntKind.i64.bits (IntKind.i64.wrap y)).toNat = x * 256 + y := by
  have f8 : (2 : Int) ^ (min (Int.toNat (8)) IntKind.i64.bits) = 256 := by decide
  rw [f8, wr_id (n := x) (by omega) (by omega), wr_id (n := x * 256) (by omega) (by omega), wr_id (n := y) (by omega) (by omega)]
  obtain ⟨a, rfl⟩ : ∃ a : Nat, x = a := ⟨x.toNat, by omega⟩
  obtain ⟨b, rfl⟩ : ∃ b : Nat, y = b := ⟨y.toNat, by omega⟩
  have e : ((a : Int) * 256) = ((a * 256 : Nat) : Int) := by omega
  rw [e, or_nat _ _ (by omega) (by omega)]
  have ho : a * 256 ||| b = a * 256 + b := by
    rw [Nat.mul_comm]
    exact (Nat.two_pow_add_eq_or_of_lt (i := 8) (by omega) a).symm
  rw [ho]; omega

/-- What bytes tell. -/
structure Dec15 (b : List Int) (S : Int) (v c : List Int) : Prop where
  len : b.length = 3 + 2 * v.length + c.length
  s : vw b 0 = S
  n : vw b 1 = v.length
  co : ∀ j, j < v.length → vw v j = vw b (2 + 2 * j) * 256 + vw b (3 + 2 * j)
  m : vw b (2 + 2 * v.length) = c.length
  ch : ∀ j, j < c.length → vw c j = vw b (3 + 2 * v.length + j)
theorem enc_of_dec {b : List Int} (hb : By b) {S : Int} {v c : List Int} (h : Dec15 b S v c) : Enc15 S v c b c.length := by
  have hl := h.len
  have hr : ∀ k, k < b.length → 0 ≤ vw b k ∧ vw b k < 256 := fun k hk => hb _ (vw_mem hk)
  refine ⟨h.len, h.s, h.n, fun j hj => ?_, fun j hj => ?_, h.m, fun j hj => (h.ch j hj).symm⟩
  · have := hr (2 + 2 * j) (by omega); have := hr (3 + 2 * j) (by omega); rw [h.co j hj]; omega
  · have := hr (2 + 2 * j) (by omega); have := hr (3 + 2 * j) (by omega); rw [h.co j hj]; omega
theorem Dec15.uniq {b : List Int} {S S' : Int} {v v' c c' : List Int} (h : Dec15 b S v c) (k : Dec15 b S' v' c') : S = S' ∧ v = v' ∧ c = c' := by
  have e1 : v.length = v'.length := by have := h.n; have := k.n; omega
  have e2 : c.length = c'.length := by have := h.len; have := k.len; omega
  refine ⟨h.s.symm.trans k.s, vw_ext e1 fun i hi => ?_, vw_ext e2 fun i hi => ?_⟩
  · rw [h.co i hi, k.co i (by omega)]
  · rw [h.ch i hi, k.ch i (by omega), e1]
theorem dec_of_enc {S : Int} {v c d : List Int} (hV : Vp S v c) (h : Enc15 S v c d c.length) : Dec15 d S v c ∧ By d := by
  have hl := h.len
  have ⟨v1, v2, v3, v4, v5, v6⟩ := hV
  have hv : ∀ j, j < v.length → 0 ≤ vw v j ∧ vw v j < 4096 := fun j hj => v5 _ (vw_mem hj)
  refine ⟨⟨h.len, h.s, h.n, fun j hj => by have := hv j hj; rw [h.hi j hj, h.lo j hj]; omega, h.m, fun j hj => (h.ch j hj).symm⟩, fun y hy => ?_⟩
  obtain ⟨x, hx, rfl⟩ := vw_of_mem hy
  by_cases e0 : x = 0
  · subst e0; rw [h.s]; omega
  by_cases e1 : x = 1
  · subst e1; rw [h.n]; omega
  by_cases e2 : x < 2 + 2 * v.length
  · rcases Nat.mod_two_eq_zero_or_one x with q | q
    · obtain ⟨j, rfl⟩ : ∃ j, x = 2 + 2 * j := ⟨x / 2 - 1, by omega⟩
      have := hv j (by omega)
      rw [h.hi j (by omega)]; omega
    · obtain ⟨j, rfl⟩ : ∃ j, x = 3 + 2 * j := ⟨x / 2 - 1, by omega⟩
      rw [h.lo j (by omega)]; omega
  by_cases e3 : x = 2 + 2 * v.length
  · subst e3; rw [h.m]; omega
  · obtain ⟨j, rfl⟩ : ∃ j, x = 3 + 2 * v.length + j := ⟨x - (3 + 2 * v.length), by omega⟩
    rw [h.ch j (by omega)]
    have := v6 _ (vw_mem (by omega : j < c.length))
    omega
theorem decode15 (b : List Int) (hb : By b) (hl : b.length ≤ 1000) : ∃ S v c e, certificate_Decode b = some (((S, v), c), e) ∧ r15_Decode b = some (((S, v), c), e) ∧ v.length ≤ 1000 ∧ c.length ≤ 1000 ∧ (e = 0 → Vp S v c ∧ Dec15 b S v c) ∧ ((∃ S v c, Vp S v c ∧ Dec15 b S v c) → e = 0) := by
  have hr : ∀ k, k < b.length → 0 ≤ vw b k ∧ vw b k < 256 := fun k hk => hb _ (vw_mem hk)
  have bad : ∀ e : Int, e ≠ 0 → (¬ ∃ S v c, Vp S v c ∧ Dec15 b S v c) → ∃ S v c e', (some (((0, []), []), e) : Option (((Int × (List Int)) × (List Int)) × Int)) = some (((S, v), c), e') ∧ (some (((0, []), []), e) : Option (((Int × (List Int)) × (List Int)) × Int)) = some (((S, v), c), e') ∧ v.length ≤ 1000 ∧ c.length ≤ 1000 ∧ (e' = 0 → Vp S v c ∧ Dec15 b S v c) ∧ ((∃ S v c, Vp S v c ∧ Dec15 b S v c) → e' = 0) := fun e he hne =>
    ⟨0, [], [], e, rfl, rfl, by simp, by simp, fun h => absurd h he, fun h => absurd h hne⟩
  unfold certificate_Decode r15_Decode
  by_cases h0 : (b.length : Int) < 2
  · rw [if_pos (dpos h0), if_pos (dpos h0)]
    exact bad 10 (by omega) (by rintro ⟨S, v, c, _, h⟩; have := h.len; omega)
  · rw [if_neg (dneg h0), if_neg (dneg h0)]
    have i1 : idx b 1 = some (vw b 1) := vw_idx (by omega : 1 < b.length)
    have i0 : idx b 0 = some (vw b 0) := vw_idx (by omega : 0 < b.length)
    obtain ⟨n, hn⟩ : ∃ n : Nat, vw b 1 = n := ⟨(vw b 1).toNat, by have := hr 1 (by omega); omega⟩
    have hn2 := hr 1 (by omega)
    rw [i1, hn]
    simp only [Option.bind_some]
    rw [wr_id (n := (n : Int)) (by omega) (by omega), wr_id (n := 2 * (n : Int)) (by omega) (by omega), wr_id (n := 3 + 2 * (n : Int)) (by omega) (by omega), wr_id (n := 2 + 2 * (n : Int)) (by omega) (by omega)]
    by_cases h1 : (b.length : Int) < 3 + 2 * (n : Int)
    · rw [if_pos (dpos h1), if_pos (dpos h1)]
      exact bad 10 (by omega) (by rintro ⟨S, v, c, _, h⟩; have := h.len; have := h.n; omega)
    · rw [if_neg (dneg h1), if_neg (dneg h1)]
      have i2 : idx b (2 + 2 * (n : Int)) = some (vw b (2 + 2 * n)) := by
        have := vw_idx (by omega : 2 + 2 * n < b.length)
        rw [← this]; congr 1
      obtain ⟨m, hm⟩ : ∃ m : Nat, vw b (2 + 2 * n) = m := ⟨(vw b (2 + 2 * n)).toNat, by have := hr (2 + 2 * n) (by omega); omega⟩
      have hm2 := hr (2 + 2 * n) (by omega)
      rw [i2, hm]
      simp only [Option.bind_some]
      rw [wr_id (n := (m : Int)) (by omega) (by omega), wr_id (n := 2 + 2 * (n : Int) + 1) (by omega) (by omega), wr_id (n := 2 + 2 * (n : Int) + 1 + (m : Int)) (by omega) (by omega), wr_id (n := 3 + 2 * (n : Int) + (m : Int)) (by omega) (by omega)]
      have hdl0 : ∀ S v c, Dec15 b S v c → v.length = n ∧ c.length = m := fun S v c h => by
        have := h.n
        have e : v.length = n := by omega
        have := h.m
        rw [e, hm] at this
        exact ⟨e, by omega⟩
      by_cases h2 : (b.length : Int) < 3 + 2 * (n : Int) + (m : Int)
      · rw [if_pos (dpos (by omega)), if_pos (dpos h2)]
        exact bad 10 (by omega) (by rintro ⟨S, v, c, _, h⟩; have := h.len; have := hdl0 _ _ _ h; omega)
      · rw [if_neg (dneg (by omega)), if_neg (dneg h2)]
        by_cases h3 : (b.length : Int) > 3 + 2 * (n : Int) + (m : Int)
        · rw [if_pos (dpos (by omega)), if_pos (dpos h3)]
          exact bad 11 (by omega) (by rintro ⟨S, v, c, _, h⟩; have := h.len; have := hdl0 _ _ _ h; omega)
        · rw [if_neg (dneg (by omega)), if_neg (dneg h3), i0]
          simp only [Option.bind_some]
          have i3 : ∀ j : Nat, j < n → idx b (IntKind.i64.wrap (2 + IntKind.i64.wrap (2 * (j : Int)))) = some (vw b (2 + 2 * j)) := fun j hj => by
            rw [wr_id (n := 2 * (j : Int)) (by omega) (by omega), wr_id (by omega) (by omega)]
            have := vw_idx (by omega : 2 + 2 * j < b.length)
            rw [← this]; congr 1
          have i4 : ∀ j : Nat, j < n → idx b (IntKind.i64.wrap (3 + IntKind.i64.wrap (2 * (j : Int)))) = some (vw b (3 + 2 * j)) := fun j hj => by
            rw [wr_id (n := 2 * (j : Int)) (by omega) (by omega), wr_id (by omega) (by omega)]
            have := vw_idx (by omega : 3 + 2 * j < b.length)
            rw [← this]; congr 1
          have wn : IntKind.i64.wrap (n : Int) = n := wr_id (by omega) (by omega)
          obtain ⟨v, g1, g2, g3⟩ := loop_inv (step := certificate_Decode_L22 b n) (fun s => ∃ i : Nat, s.2 = (i : Int) ∧ i ≤ n ∧ s.1.length = i ∧ ∀ j, j < i → vw s.1 j = vw b (2 + 2 * j) * 256 + vw b (3 + 2 * j)) (fun s => n - s.2.toNat) (fun d => d.length = n ∧ ∀ j, j < n → vw d j = vw b (2 + 2 * j) * 256 + vw b (3 + 2 * j)) (by
            rintro ⟨d, _⟩ ⟨i, rfl, hi, hdl, hd⟩
            dsimp only at hdl hd ⊢
            unfold certificate_Decode_L22
            dsimp only
            rw [wn]
            by_cases hlt : i < n
            · left
              rw [if_pos (dpos (by omega)), i3 i hlt, i4 i hlt]
              simp only [Option.bind_some]
              rw [pair15 (hr _ (by omega)) (hr _ (by omega)), if_pos (by simp; omega), wk1 (by omega)]
              refine ⟨_, rfl, ⟨i + 1, rfl, by omega, by simp [hdl], fun j hj => ?_⟩, by dsimp only; omega⟩
              dsimp only
              rw [vw_app]
              by_cases e : j = i
              · subst e; rw [if_neg (by omega), show j - d.length = 0 by omega]; rfl
              · rw [if_pos (by omega)]; exact hd j (by omega)
            · right
              rw [if_neg (dneg (by omega))]
              obtain rfl : i = n := by omega
              exact ⟨_, rfl, hdl, hd⟩) (([] : List Int), 0) ⟨0, rfl, by omega, rfl, fun j h => by omega⟩ (by dsimp only; omega)
          obtain ⟨v', g4, g5, g6⟩ := loop_inv (step := r15_Decode_L23 b n) (fun s => ∃ i : Nat, s.2 = (i : Int) ∧ i ≤ n ∧ s.1.length = i ∧ ∀ j, j < i → vw s.1 j = vw b (2 + 2 * j) * 256 + vw b (3 + 2 * j)) (fun s => n - s.2.toNat) (fun d => d.length = n ∧ ∀ j, j < n → vw d j = vw b (2 + 2 * j) * 256 + vw b (3 + 2 * j)) (by
            rintro ⟨d, _⟩ ⟨i, rfl, hi, hdl, hd⟩
            dsimp only at hdl hd ⊢
            unfold r15_Decode_L23
            dsimp only
            rw [wn]
            by_cases hlt : i < n
            · left
              have q1 := hr (2 + 2 * i) (by omega)
              have q2 := hr (3 + 2 * i) (by omega)
              rw [if_pos (dpos (by omega)), i3 i hlt, i4 i hlt]
              simp only [Option.bind_some]
              rw [wr_id (n := vw b (2 + 2 * i)) (by omega) (by omega), wr_id (n := vw b (2 + 2 * i) * 256) (by omega) (by omega), wr_id (n := vw b (3 + 2 * i)) (by omega) (by omega), wr_id (n := vw b (2 + 2 * i) * 256 + vw b (3 + 2 * i)) (by omega) (by omega), if_pos (by simp; omega), wk1 (by omega)]
              refine ⟨_, rfl, ⟨i + 1, rfl, by omega, by simp [hdl], fun j hj => ?_⟩, by dsimp only; omega⟩
              dsimp only
              rw [vw_app]
              by_cases e : j = i
              · subst e; rw [if_neg (by omega), show j - d.length = 0 by omega]; rfl
              · rw [if_pos (by omega)]; exact hd j (by omega)
            · right
              rw [if_neg (dneg (by omega))]
              obtain rfl : i = n := by omega
              exact ⟨_, rfl, hdl, hd⟩) (([] : List Int), 0) ⟨0, rfl, by omega, rfl, fun j h => by omega⟩ (by dsimp only; omega)
          obtain rfl : v = v' := vw_ext (g2.trans g5.symm) fun j hj => by rw [g3 j (by omega), g6 j (by omega)]
          rw [g1, g4]
          simp only [Option.bind_some]
          rw [if_pos (by omega)]
          have hdr : ((b.drop (Int.toNat (2 + 2 * (n : Int) + 1))).take (Int.toNat (b.length : Int) - Int.toNat (2 + 2 * (n : Int) + 1))) = b.drop (3 + 2 * n) := by
            rw [show Int.toNat (2 + 2 * (n : Int) + 1) = 3 + 2 * n by omega, Int.toNat_natCast]
            exact List.take_of_length_le (by simp)
          obtain ⟨c, g7, g8, g9⟩ := loop_inv (step := certificate_Decode_L33 b n) (fun s => ∃ i : Nat, s.2 = (i : Int) ∧ i ≤ m ∧ s.1.length = i ∧ ∀ j, j < i → vw s.1 j = vw b (3 + 2 * n + j)) (fun s => m - s.2.toNat) (fun d => d.length = m ∧ ∀ j, j < m → vw d j = vw b (3 + 2 * n + j)) (by
            rintro ⟨d, _⟩ ⟨i, rfl, hi, hdl, hd⟩
            dsimp only at hdl hd ⊢
            unfold certificate_Decode_L33
            dsimp only
            rw [wn, wr_id (n := 2 * (n : Int)) (by omega) (by omega), wr_id (n := 2 + 2 * (n : Int)) (by omega) (by omega), wr_id (n := 2 + 2 * (n : Int) + 1) (by omega) (by omega), hdr]
            by_cases hlt : i < m
            · left
              have q1 := hr (3 + 2 * n + i) (by omega)
              rw [if_pos (dpos (by rw [List.length_drop]; omega)), vw_idx (by rw [List.length_drop]; omega : i < (b.drop (3 + 2 * n)).length), vw_drop]
              simp only [Option.bind_some]
              rw [wr_id (n := vw b (3 + 2 * n + i)) (by omega) (by omega), if_pos (by simp; omega), wk1 (by omega)]
              refine ⟨_, rfl, ⟨i + 1, rfl, by omega, by simp [hdl], fun j hj => ?_⟩, by dsimp only; omega⟩
              dsimp only
              rw [vw_app]
              by_cases e : j = i
              · subst e; rw [if_neg (by omega), show j - d.length = 0 by omega]; rfl
              · rw [if_pos (by omega)]; exact hd j (by omega)
            · right
              rw [if_neg (dneg (by rw [List.length_drop]; omega))]
              obtain rfl : i = m := by omega
              exact ⟨_, rfl, hdl, hd⟩) (([] : List Int), 0) ⟨0, rfl, by omega, rfl, fun j h => by omega⟩ (by dsimp only; omega)
          obtain ⟨c', f7, f8, f9⟩ := loop_inv (step := r15_Decode_L32 b n m) (fun s => ∃ i : Nat, s.2 = ((3 + 2 * n + i : Nat) : Int) ∧ i ≤ m ∧ s.1.length = i ∧ ∀ j, j < i → vw s.1 j = vw b (3 + 2 * n + j)) (fun s => 3 + 2 * n + m - s.2.toNat) (fun d => d.length = m ∧ ∀ j, j < m → vw d j = vw b (3 + 2 * n + j)) (by
            rintro ⟨d, _⟩ ⟨i, rfl, hi, hdl, hd⟩
            dsimp only at hdl hd ⊢
            unfold r15_Decode_L32
            dsimp only
            rw [wn, wr_id (n := 2 * (n : Int)) (by omega) (by omega), wr_id (n := 3 + 2 * (n : Int)) (by omega) (by omega), wr_id (n := (m : Int)) (by omega) (by omega), wr_id (n := 3 + 2 * (n : Int) + (m : Int)) (by omega) (by omega)]
            by_cases hlt : i < m
            · left
              have q1 := hr (3 + 2 * n + i) (by omega)
              rw [if_pos (dpos (by omega)), vw_idx (by omega : 3 + 2 * n + i < b.length)]
              simp only [Option.bind_some]
              rw [wr_id (n := vw b (3 + 2 * n + i)) (by omega) (by omega), if_pos (by simp; omega), wk1 (by omega)]
              refine ⟨_, rfl, ⟨i + 1, rfl, by omega, by simp [hdl], fun j hj => ?_⟩, by dsimp only; omega⟩
              dsimp only
              rw [vw_app]
              by_cases e : j = i
              · subst e; rw [if_neg (by omega), show j - d.length = 0 by omega]; rfl
              · rw [if_pos (by omega)]; exact hd j (by omega)
            · right
              rw [if_neg (dneg (by omega))]
              obtain rfl : i = m := by omega
              exact ⟨_, rfl, hdl, hd⟩) (([] : List Int), 3 + 2 * (n : Int)) ⟨0, by dsimp only; omega, by omega, rfl, fun j h => by omega⟩ (by dsimp only; omega)
          obtain rfl : c = c' := vw_ext (g8.trans f8.symm) fun j hj => by rw [g9 j (by omega), f9 j (by omega)]
          rw [g7, f7]
          simp only [Option.bind_some]
          have q0 := hr 0 (by omega)
          rw [wr_id (n := vw b 0) (by omega) (by omega)]
          have hD : Dec15 b (vw b 0) v c := ⟨by omega, rfl, by rw [hn, g2], fun j hj => g3 j (by omega), by rw [g2, hm, g8], fun j hj => by rw [g9 j (by omega), g2]⟩
          obtain ⟨e, k1, k2, k3⟩ := check15 (vw b 0) v c
          rw [k1, k2]
          simp only [Option.bind_some]
          by_cases e0 : e = 0
          · subst e0
            rw [if_neg (by decide)]
            exact ⟨_, _, _, _, rfl, rfl, by omega, by omega, fun _ => ⟨k3.1 rfl, hD⟩, fun _ => rfl⟩
          · rw [if_pos (by simpa using e0)]
            refine bad e e0 ?_
            rintro ⟨S, v2, c2, q1, q2⟩
            obtain ⟨rfl, rfl, rfl⟩ := q2.uniq hD
            exact e0 (k3.2 q1)
end Go.Proofs.Ytcignnfdpgeogaa
