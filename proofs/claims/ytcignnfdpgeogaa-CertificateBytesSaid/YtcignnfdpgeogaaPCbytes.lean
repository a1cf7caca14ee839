
/- Plain law of CertificateBytes: the bytes of any proof and the proof of any bytes are the reference's, and both are inverse to each other. Condition: the bytes that are given are bytes. -/
import Derived.Test.YtcignnfdpgeogaaPCbytes0
import Derived.Test.YtcignnfdpgeogaaPCmake
import Derived.Test.YtcignnfdpgeogaaPCsane
import Derived.Test.YtcignnfdpgeogaaGCertificateBytes
set_option linter.unusedVariables false
set_option linter.unusedSectionVars false
set_option linter.unusedSimpArgs false
set_option maxRecDepth 100000
namespace Go.Proofs.Ytcignnfdpgeogaa
open Go Go.V Go.Proofs

theorem ofB_len (d : List Int) : (ofB d).length = d.length := by simp [ofB]
theorem toB_len (s : List UInt8) : (toB s).length = s.length := by simp [toB]
theorem toB_by (s : List UInt8) : By (toB s) := fun x hx => by
  unfold toB at hx
  obtain ⟨b, _, rfl⟩ := List.mem_map.1 hx
  have := b.toNat_lt
  omega
theorem spoilS_ok (l : List Int) (k : Int) (s : List UInt8) (hk : 0 ≤ k) (hk2 : k < 1000000000) (hs : s.length ≤ 1000000) : ∃ t k', gen_Maker_Spoil l k s = some (t, k') ∧ k ≤ k' ∧ k' ≤ k + 3 ∧ t.length ≤ s.length + 1 := by
  unfold gen_Maker_Spoil
  by_cases he : s = []
  · subst he
    obtain ⟨v, e1, _, _⟩ := next_ok l k 256 hk (by omega) (by omega) (by omega)
    rw [if_pos (by rfl), e1]
    exact ⟨_, _, rfl, by simp only; omega, by simp only; omega, by rw [ofB_len]; simp⟩
  · have hp : 0 < s.length := List.length_pos_iff.2 he
    obtain ⟨i, e1, i1⟩ := next_nat l k (s.length : Int) hk (by omega) (by omega) (by omega)
    obtain ⟨c, e2, _, _⟩ := next_ok l (k + 1) 4 (by omega) (by omega) (by omega) (by omega)
    rw [if_neg (by simpa using he), e1]
    simp only [obind]
    rw [e2]
    simp only [obind]
    rw [wr_id (n := (i : Int) + 1) (by omega) (by omega)]
    have ht : ((s.drop (Int.toNat (0 : Int))).take (Int.toNat (i : Int) - Int.toNat (0 : Int))).length ≤ i := by rw [List.length_take]; simp; omega
    have hd : ((s.drop (Int.toNat ((i : Int) + 1))).take (Int.toNat (s.length : Int) - Int.toNat ((i : Int) + 1))).length ≤ s.length - (i + 1) := by rw [List.length_take, List.length_drop]; omega
    have hd0 : ((s.drop (Int.toNat (i : Int))).take (Int.toNat (s.length : Int) - Int.toNat (i : Int))).length ≤ s.length - i := by rw [List.length_take, List.length_drop]; omega
    have h1 : ∀ x : Int, (ofB [x]).length = 1 := fun x => by rw [ofB_len]; rfl
    by_cases c0 : (c == 0) = true
    · rw [if_pos c0, if_pos (by omega), if_pos (by omega), if_pos (by omega)]
      exact ⟨_, _, rfl, by omega, by omega, by rw [List.length_append]; omega⟩
    · rw [if_neg c0]
      by_cases c1 : (c == 1) = true
      · obtain ⟨v, e3, _, _⟩ := next_ok l (k + 1 + 1) 256 (by omega) (by omega) (by omega) (by omega)
        rw [if_pos c1, if_pos (by omega), if_pos (by omega), e3]
        simp only [obind]
        rw [if_pos (by rw [h1]; omega), if_pos (by rw [List.length_append, h1]; omega)]
        exact ⟨_, _, rfl, by omega, by omega, by rw [List.length_append, List.length_append, h1]; omega⟩
      · rw [if_neg c1]
        by_cases c2 : (c == 2) = true
        · obtain ⟨v, e3, _, _⟩ := next_ok l (k + 1 + 1) 10 (by omega) (by omega) (by omega) (by omega)
          rw [if_pos c2, if_pos (by omega), if_pos (by omega), e3]
          simp only [obind]
          rw [if_pos (by rw [h1]; omega), if_pos (by rw [List.length_append, h1]; omega)]
          exact ⟨_, _, rfl, by omega, by omega, by rw [List.length_append, List.length_append, h1]; omega⟩
        · obtain ⟨v, e3, _, _⟩ := next_ok l (k + 1 + 1) 256 (by omega) (by omega) (by omega) (by omega)
          rw [if_neg c2, if_pos (by omega), if_pos (by omega), e3]
          simp only [obind]
          rw [if_pos (by rw [h1]; omega), if_pos (by rw [List.length_append, h1]; omega)]
          exact ⟨_, _, rfl, by omega, by omega, by rw [List.length_append, List.length_append, h1]; omega⟩
theorem spoilB_ok (l : List Int) (k : Int) (b : List Int) (hk : 0 ≤ k) (hk2 : k < 1000000000) (hs : b.length ≤ 1000000) : ∃ t k', gen_Maker_SpoilBytes l k b = some (t, k') ∧ k ≤ k' ∧ k' ≤ k + 3 ∧ t.length ≤ b.length + 1 ∧ By t := by
  unfold gen_Maker_SpoilBytes
  obtain ⟨t, k', e1, e2, e3, e4⟩ := spoilS_ok l k (ofB b) hk hk2 (by rw [ofB_len]; exact hs)
  rw [ofB_len] at e4
  rw [e1]
  simp only [obind]
  rw [if_pos (by omega)]
  exact ⟨_, _, rfl, e2, e3, by rw [toB_len]; exact e4, toB_by t⟩
theorem bytes_same (a : List Int) (ha : a.length < 4611686018427387904) : gen_Bytes a a = some true := by
  have h : gen_Bytes a a = gen_Ints a a := rfl
  rw [h, ints_same a ha]
theorem proofs_same (S : Int) (v c : List Int) (h : v.length < 4611686018427387904) (h2 : c.length < 4611686018427387904) : gen_Proofs S v c S v c = some true := by
  unfold gen_Proofs gen_Plans
  rw [if_pos (by simp), ints_same v h]
  simp only [obind]
  rw [if_pos trivial, ints_same c h2]
  rfl

/-- One round over the lists of bytes. -/
theorem cb58_ok (b : List Int) (x y : (List Int) × Int) (hb : By b) (hx : By x.1) (hy : By y.1) : loop (law15_CertificateBytes_L58 b x y) 0 = some (.inr ()) := by
  obtain ⟨d, h1, rfl⟩ := loop_inv (step := law15_CertificateBytes_L58 b x y) (fun s => ∃ i : Nat, s = (i : Int) ∧ i ≤ 3) (fun s => 3 - s.toNat) (fun d => d = .inr ()) (by
    rintro _ ⟨i, rfl, hi⟩
    unfold law15_CertificateBytes_L58
    dsimp only
    by_cases hlt : i < 3
    · left
      obtain ⟨z, hz, hzb⟩ : ∃ z, idx ([b, x.1, y.1] : List (List Int)) (i : Int) = some z ∧ By z := by
        rcases (by omega : i = 0 ∨ i = 1 ∨ i = 2) with rfl | rfl | rfl
        · exact ⟨b, rfl, hb⟩
        · exact ⟨x.1, rfl, hx⟩
        · exact ⟨y.1, rfl, hy⟩
      rw [if_pos (dpos (by simp; omega)), hz]
      simp only [obind]
      rw [wr_id (n := (i : Int) + 1) (by omega) (by omega)]
      have nx : ∃ s', (some (Step.next ((i : Int) + 1)) : Option (Step Int (Unit ⊕ Unit))) = some (.next s') ∧ (∃ j : Nat, s' = (j : Int) ∧ j ≤ 3) ∧ 3 - s'.toNat < 3 - (i : Int).toNat := ⟨_, rfl, ⟨i + 1, by omega, by omega⟩, by omega⟩
      by_cases h6 : (z.length : Int) > 600
      · rw [if_pos (dpos h6)]; exact nx
      · rw [if_neg (dneg h6)]
        obtain ⟨S, v, c, e, e1, e2, e3, e4, e5, _⟩ := decode15 z hzb (by omega)
        rw [e1]
        simp only [obind]
        rw [e2]
        simp only [obind]
        rw [proofs_same S v c (by omega) (by omega)]
        simp only [obind, bne_self_eq_false, Bool.false_eq_true, if_false, Bool.not_true]
        by_cases h0 : e = 0
        · subst h0
          obtain ⟨hV, hD⟩ := e5 rfl
          rw [if_pos (by decide)]
          obtain ⟨d, e', f1, _, f3⟩ := encode15 S v c
          rcases f3 with ⟨rfl, _, f4⟩ | ⟨_, _, f4⟩
          · obtain rfl := f4.uniq (enc_of_dec hzb hD)
            rw [f1]
            simp only [obind]
            rw [if_neg (by decide), bytes_same d (by omega)]
            simp only [obind]
            rw [if_neg (by decide)]
            exact nx
          · exact absurd hV f4
        · rw [if_neg (by simpa using h0)]; exact nx
    · right
      rw [if_neg (dneg (by simp; omega))]
      exact ⟨_, rfl, rfl⟩) 0 ⟨0, rfl, by omega⟩ (by omega)
  exact h1
theorem cb43_ok (l b : List Int) (i : Nat) (k : Int) (x : (List Int) × Int) (hi : i ≤ 10) (hk : 0 ≤ k ∧ k ≤ 1000000) (hb : By b) (hx : By x.1) (hxl : x.1.length ≤ 100000) :
    ∃ k', law15_CertificateBytes_J43 b (l, 0) (i : Int) k x = some (.next (k', ((i + 1 : Nat) : Int))) ∧ k ≤ k' ∧ k' ≤ k + 10 := by
  unfold law15_CertificateBytes_J43
  obtain ⟨t, k', e1, e2, e3, e4, e5⟩ := spoilB_ok l k x.1 hk.1 (by omega) (by omega)
  rw [e1]
  simp only [obind]
  rw [cb58_ok b x (t, k') hb hx e5]
  simp only [obind]
  rw [wr_id (by omega) (by omega)]
  exact ⟨k', rfl, e2, by omega⟩
theorem cb23_ok (l b : List Int) (i : Nat) (k S : Int) (v c : List Int) (hi : i ≤ 10) (hk : 0 ≤ k ∧ k ≤ 1000000) (hb : By b) :
    ∃ k', law15_CertificateBytes_J23 b (l, 0) (i : Int) k S v c = some (.next (k', ((i + 1 : Nat) : Int))) ∧ k ≤ k' ∧ k' ≤ k + 10 := by
  unfold law15_CertificateBytes_J23
  obtain ⟨d, e, f1, f2, f3⟩ := encode15 S v c
  rw [f1]
  simp only [obind]
  rw [f2]
  simp only [obind]
  have hdl : d.length ≤ 1000 := by
    rcases f3 with ⟨_, hV, f4⟩ | ⟨_, rfl, _⟩
    · have := f4.len; have := hV.1; have := hV.2.1; omega
    · simp
  rw [bytes_same d (by omega)]
  simp only [obind, bne_self_eq_false, Bool.false_eq_true, if_false, Bool.not_true]
  rcases f3 with ⟨rfl, hV, f4⟩ | ⟨f3, rfl, _⟩
  · obtain ⟨hD, hby⟩ := dec_of_enc hV f4
    rw [if_pos (by decide)]
    obtain ⟨S', v', c', e', g1, _, _, _, g4, g5⟩ := decode15 d hby hdl
    have e0 := g5 ⟨S, v, c, hV, hD⟩
    subst e0
    obtain ⟨rfl, rfl, rfl⟩ := (g4 rfl).2.uniq hD
    rw [g1]
    simp only [obind]
    rw [if_neg (by decide), proofs_same _ _ _ (by have := hV.1; omega) (by have := hV.2.1; omega)]
    simp only [obind]
    rw [if_neg (by decide)]
    exact cb43_ok l b i k _ hi hk hb hby (by dsimp only; omega)
  · rw [if_neg (by simpa using f3)]
    exact cb43_ok l b i k _ hi hk hb (fun x h => by cases h) (by simp)
theorem certBytes_ok (l : List Int) (S : Int) (v c b : List Int) (hb : By b) : law15_CertificateBytes l S v c b = some true := by
  unfold law15_CertificateBytes gen_New
  simp only [obind]
  obtain ⟨d, h1, rfl⟩ := loop_inv (step := law15_CertificateBytes_L11 S v c b (l, 0)) (fun s => ∃ (k : Int) (i : Nat), s = (k, (i : Int)) ∧ i ≤ 3 ∧ 0 ≤ k ∧ k ≤ 10000 * i) (fun s => 3 - s.2.toNat) (fun d => d = .inr ()) (by
    rintro _ ⟨k, i, rfl, hi, hk0, hk⟩
    unfold law15_CertificateBytes_L11
    simp only
    by_cases h : i < 3
    · left
      obtain ⟨its, wt, k1, e1, q1, q2, q3, hg, _⟩ := job_ok l k 10 (by omega) (by omega)
      rw [if_pos (dpos (by omega)), e1]
      simp only [obind]
      obtain ⟨S1, v1, c1, e, m2, hv1, hw1, hS1, hvr⟩ : ∃ S v w e, r15_Make its wt = some (((S, v), w), e) ∧ v.length ≤ 1000 ∧ w.length ≤ 1000 ∧ (0 ≤ S ∧ S ≤ 12) ∧ ∀ y, 0 ≤ v.getD y 0 ∧ v.getD y 0 ≤ 4095 := by
        have mm := rMake_same hg
        rcases Make_ok0 hg with ⟨v, S, m, w, hv, hm, hS, hA, hwl, m1, _⟩ | m1
        · exact ⟨S, v, w, 0, by rw [mm, m1], by rw [hv.len]; omega, by omega, hA.1.st, hv.c12 hg⟩
        · exact ⟨0, [], [], 15, by rw [mm, m1], by simp, by simp, by omega, fun y => by simp⟩
      rw [m2]
      simp only [obind]
      have fin : ∀ (k2 S : Int) (v c : List Int), 0 ≤ k2 → k2 ≤ 10000 * i + 5000 → ∃ s', law15_CertificateBytes_J23 b (l, 0) (i : Int) k2 S v c = some (.next s') ∧ (∃ (k : Int) (i : Nat), s' = (k, (i : Int)) ∧ i ≤ 3 ∧ 0 ≤ k ∧ k ≤ 10000 * i) ∧ 3 - s'.2.toNat < 3 - (i : Int).toNat := fun k2 S v c g0 g1 => by
        obtain ⟨k', g2, g3, g4⟩ := cb23_ok l b i k2 S v c (by omega) (by omega) hb
        exact ⟨_, g2, ⟨k', i + 1, rfl, by omega, by omega, by omega⟩, by dsimp only; omega⟩
      by_cases h1 : i = 1
      · rw [if_pos (by rw [beq_iff_eq]; omega)]
        obtain ⟨S2, v2, w2, k2, s1, s2, s3, s4, s5, s6, s7, s8⟩ := spoil15_ok l k1 S1 v1 c1 (by omega) hv1 hw1 (by omega) 4095 (by omega) (fun y => by have := hvr y; omega)
        rw [s1]
        simp only [obind]
        obtain ⟨S3, v3, w3, k3, t1, t2, t3, t4, t5, _⟩ := spoil15_ok l k2 S2 v2 w2 (by omega) (by omega) (by omega) (by omega) 4099 (by omega) s8
        rw [t1]
        simp only [obind]
        exact fin k3 S3 v3 w3 (by omega) (by omega)
      · rw [if_neg (by rw [beq_iff_eq]; omega)]
        by_cases h2 : i = 2
        · rw [if_pos (by rw [beq_iff_eq]; omega)]
          by_cases h3 : (decide ((IntKind.i64.wrap (((v).length : Int) + ((c).length : Int))) ≤ 200)) = true
          · rw [if_pos h3]; exact fin k1 S v c (by omega) (by omega)
          · rw [if_neg h3]; exact fin k1 S1 v1 c1 (by omega) (by omega)
        · rw [if_neg (by rw [beq_iff_eq]; omega)]
          exact fin k1 S1 v1 c1 (by omega) (by omega)
    · right
      rw [if_neg (dneg (by omega))]
      exact ⟨_, rfl, rfl⟩) (0, 0) ⟨0, 0, rfl, by omega, by omega, by omega⟩ (by simp)
  rw [h1]
  simp only [obind]
  rw [sane15_ok]
  rfl

/-- In the form of the data's range. -/
theorem certBytes_rng (l : List Int) (S : Int) (v c b : List Int) (q0 : ∀ y ∈ l, (Lit.int .i64 y).wf = true) (q1 : (((Lit.int .i64 S).wf = true) ∧ (∀ y ∈ v, (Lit.int .i64 y).wf = true)) ∧ ∀ y ∈ c, (Lit.int .i64 y).wf = true) (q2 : ∀ y ∈ b, (Lit.int .u8 y).wf = true) : law15_CertificateBytes l S v c b = some true := by
  refine certBytes_ok l S v c b fun x hx => ?_
  have := q2 x hx
  have h' : (decide (IntKind.u8.min ≤ x) && decide (x ≤ IntKind.u8.max)) = true := this
  rw [Bool.and_eq_true, decide_eq_true_eq, decide_eq_true_eq] at h'
  have h1 : IntKind.u8.min = 0 := by decide
  have h2 : IntKind.u8.max = 255 := by decide
  omega
end Go.Proofs.Ytcignnfdpgeogaa
