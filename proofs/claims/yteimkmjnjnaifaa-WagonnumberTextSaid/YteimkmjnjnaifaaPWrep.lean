/- Plain laws: what Repairs returns, the program's and the reference's. No condition beyond those of each theorem. -/
import Derived.Test.YteimkmjnjnaifaaPWnum
set_option linter.unusedVariables false
set_option linter.unusedSectionVars false
set_option linter.unusedSimpArgs false
set_option maxRecDepth 100000
namespace Go.Proofs.Yteimkmjnjnaifaa
open Go Go.V Go.Proofs

theorem ext_gv {a b : List UInt8} (hl : a.length = b.length) (h : ∀ i, i < a.length → gv a i = gv b i) : a = b := by
  refine List.ext_getElem hl fun i h1 h2 => ?_
  have := h i h1
  unfold gv at this
  rw [List.getD_eq_getElem?_getD, List.getD_eq_getElem?_getD, List.getElem?_eq_getElem h1, List.getElem?_eq_getElem h2] at this
  simp only [Option.getD_some] at this
  exact UInt8.toNat_inj.1 (by omega)
theorem gv_app (a b : List UInt8) (j : Nat) : gv (a ++ b) j = if j < a.length then gv a j else gv b (j - a.length) := by
  unfold gv
  rw [List.getD_eq_getElem?_getD, List.getD_eq_getElem?_getD, List.getD_eq_getElem?_getD, List.getElem?_append]
  split <;> rfl
theorem gv_drop (s : List UInt8) (n j : Nat) : gv (s.drop n) j = gv s (n + j) := by
  unfold gv
  rw [List.getD_eq_getElem?_getD, List.getD_eq_getElem?_getD, List.getElem?_drop]
def cb (s : List UInt8) (i : Nat) : UInt8 := s.getD i 0
theorem cb_gv (s : List UInt8) (i : Nat) : ((cb s i).toNat : Int) = gv s i := rfl
theorem ofNat_gv (s : List UInt8) (i : Nat) : UInt8.ofNat (gv s i).toNat = cb s i := by
  unfold gv cb
  simp
def swp (s : List UInt8) (i : Nat) : List UInt8 := (s.set i (cb s (i + 1))).set (i + 1) (cb s i)
theorem gv_swp {s : List UInt8} {i : Nat} (hi : i + 1 < s.length) (j : Nat) : gv (swp s i) j = if j = i then gv s (i + 1) else if j = i + 1 then gv s i else gv s j := by
  unfold swp
  rw [gv_set (by rw [List.length_set]; exact hi), gv_set (by omega), cb_gv, cb_gv]
  by_cases h1 : i + 1 = j
  · subst h1; rw [if_pos rfl, if_neg (by omega), if_pos rfl]
  · rw [if_neg h1]
    by_cases h2 : i = j
    · subst h2; rw [if_pos rfl, if_pos rfl]
    · rw [if_neg h2, if_neg (by omega), if_neg (by omega)]
theorem swp_len (s : List UInt8) (i : Nat) : (swp s i).length = s.length := by unfold swp; rw [List.length_set, List.length_set]
theorem set_ne {s : List UInt8} {i : Nat} (hi : i < s.length) (c : UInt8) : s.set i c = s ↔ (c.toNat : Int) = gv s i := by
  constructor
  · intro h
    have := gv_set hi c i
    rw [if_pos rfl, h] at this
    exact this.symm
  · intro h
    refine ext_gv (by rw [List.length_set]) fun j hj => ?_
    rw [gv_set hi]
    split
    · rename_i e; subst e; exact h
    · rfl
theorem cut_set {s : List UInt8} {i : Nat} (hi : i < s.length) (c : UInt8) : s.take i ++ [c] ++ s.drop (i + 1) = s.set i c := by
  rw [List.set_eq_take_append_cons_drop, if_pos hi, List.append_assoc]; rfl
theorem cut_swp {s : List UInt8} {i : Nat} (hi : i + 1 < s.length) : s.take i ++ [cb s (i + 1), cb s i] ++ s.drop (i + 2) = swp s i := by
  have ht : (s.take i).length = i := by rw [List.length_take]; omega
  refine ext_gv ?_ fun j hj => ?_
  · rw [swp_len, List.length_append, List.length_append, ht, List.length_drop]; simp; omega
  · rw [gv_swp hi, gv_app, gv_app, List.length_append, ht, gv_drop]
    have hl : ([cb s (i + 1), cb s i] : List UInt8).length = 2 := rfl
    rw [hl]
    by_cases h1 : j < i
    · rw [if_pos (by omega), if_pos h1, if_neg (by omega), if_neg (by omega), gv_take s h1]
    · by_cases h2 : j = i
      · subst h2
        rw [if_pos (by omega), if_neg h1, if_pos rfl, show j - j = 0 by omega]
        rfl
      · by_cases h3 : j = i + 1
        · subst h3
          rw [if_pos (by omega), if_neg h1, if_neg h2, if_pos rfl, show i + 1 - i = 1 by omega]
          rfl
        · rw [if_neg (by omega), if_neg h2, if_neg h3, show i + 2 + (j - (i + 2)) = j by omega]
theorem gcut (s : List UInt8) (i : Nat) : (s.drop (Int.toNat (0 : Int))).take (Int.toNat (i : Int) - Int.toNat (0 : Int)) = s.take i := rfl
theorem gcut2 (s : List UInt8) (i : Nat) : (s.drop (Int.toNat (i : Int))).take (Int.toNat (s.length : Int) - Int.toNat (i : Int)) = s.drop i := by
  rw [List.take_of_length_le (by simp)]; rfl

/-! ### What is returned -/
def RA (s : List UInt8) (i : Nat) (c : UInt8) (x : List UInt8) : Prop := x = s.set i c ∧ x ≠ s ∧ Num x
def RB (s : List UInt8) (i : Nat) (x : List UInt8) : Prop := gv s i ≠ gv s (i + 1) ∧ x = swp s i ∧ Num x
def dgt (c : UInt8) : Prop := 48 ≤ c.toNat ∧ c.toNat ≤ 57
def RP (s : List UInt8) (n : Nat) (x : List UInt8) : Prop := (∃ i c, i < n ∧ dgt c ∧ RA s i c x) ∨ ∃ i, i < n ∧ i < 11 ∧ RB s i x
def RQ (s : List UInt8) (n : Nat) (d : Nat) (x : List UInt8) : Prop := RP s n x ∨ ∃ c : UInt8, 48 ≤ c.toNat ∧ c.toNat < d ∧ RA s n c x
theorem RQ_zero (s : List UInt8) (n : Nat) (x : List UInt8) : RQ s n 48 x ↔ RP s n x := by
  unfold RQ
  constructor
  · rintro (h | ⟨c, h1, h2, _⟩)
    · exact h
    · omega
  · exact .inl
theorem RQ_succ (s : List UInt8) (n : Nat) {d : Nat} (hd : 48 ≤ d ∧ d ≤ 57) (x : List UInt8) : RQ s n (d + 1) x ↔ RQ s n d x ∨ RA s n (UInt8.ofNat d) x := by
  have hn : (UInt8.ofNat d).toNat = d := by rw [UInt8.toNat_ofNat']; omega
  unfold RQ
  constructor
  · rintro (h | ⟨c, h1, h2, h3⟩)
    · exact .inl (.inl h)
    · by_cases e : c.toNat = d
      · right
        have : UInt8.ofNat d = c := UInt8.toNat_inj.1 (by rw [hn, e])
        rw [this]; exact h3
      · exact .inl (.inr ⟨c, h1, by omega, h3⟩)
  · rintro ((h | ⟨c, h1, h2, h3⟩) | h)
    · exact .inl h
    · exact .inr ⟨c, h1, by omega, h3⟩
    · exact .inr ⟨_, by omega, by omega, h⟩
theorem RP_succ (s : List UInt8) (n : Nat) (x : List UInt8) : RP s (n + 1) x ↔ RQ s n 58 x ∨ (n < 11 ∧ RB s n x) := by
  unfold RQ RP dgt
  constructor
  · rintro (⟨i, c, h1, h2, h3⟩ | ⟨i, h1, h2, h3⟩)
    · by_cases e : i = n
      · subst e; exact .inl (.inr ⟨c, by omega, by omega, h3⟩)
      · exact .inl (.inl (.inl ⟨i, c, by omega, h2, h3⟩))
    · by_cases e : i = n
      · subst e; exact .inr ⟨h2, h3⟩
      · exact .inl (.inl (.inr ⟨i, by omega, h2, h3⟩))
  · rintro (((⟨i, c, h1, h2, h3⟩ | ⟨i, h1, h2, h3⟩) | ⟨c, h1, h2, h3⟩) | ⟨h1, h2⟩)
    · exact .inl ⟨i, c, by omega, h2, h3⟩
    · exact .inr ⟨i, by omega, h2, h3⟩
    · exact .inl ⟨n, c, by omega, ⟨h1, by omega⟩, h3⟩
    · exact .inr ⟨n, by omega, h1, h2⟩

theorem wtry_ok (p : List Int) (out : List (List UInt8)) (hp : p.length ≤ 1000) (ho : out.length ≤ 1000) : wagonnumber_Repairs_1 p out = some (if Num (ofB p) then out ++ [ofB p] else out) := by
  unfold wagonnumber_Repairs_1
  rw [wValid_ok (ofB p) (by rw [ofB_len]; omega)]
  simp only [obind]
  by_cases h : Num (ofB p)
  · rw [if_pos (by rw [beq_iff_eq]; exact vcode_zero.2 h), if_pos h, if_pos (by simp; omega)]
  · rw [if_neg (by rw [beq_iff_eq]; exact fun q => h (vcode_zero.1 q)), if_neg h]

section
variable {s : List UInt8} (hd : Digs s) (hl : s.length = 12)
include hd hl

theorem wrep_in (i : Nat) (hi : i < 12) (out : List (List UInt8)) (ho : out.length ≤ 20 * i) (hm : ∀ x, x ∈ out ↔ RP s i x) :
    ∃ out', loop (wagonnumber_Repairs_L12 s (i : Int)) (out, 48) = some out' ∧ out'.length ≤ 20 * i + 10 ∧ ∀ x, x ∈ out' ↔ RQ s i 58 x := by
  obtain ⟨d, h1, h2⟩ := loop_inv (step := wagonnumber_Repairs_L12 s (i : Int)) (fun t => ∃ (d : Nat) (o : List (List UInt8)), t = (o, (d : Int)) ∧ 48 ≤ d ∧ d ≤ 58 ∧ o.length + 48 ≤ 20 * i + d ∧ ∀ x, x ∈ o ↔ RQ s i d x) (fun t => 58 - t.2.toNat)
    (fun o => o.length ≤ 20 * i + 10 ∧ ∀ x, x ∈ o ↔ RQ s i 58 x) (by
    rintro _ ⟨d, o, rfl, d0, d1, hlen, hx⟩
    unfold wagonnumber_Repairs_L12
    simp only
    by_cases h : d ≤ 57
    · have hn : (UInt8.ofNat d).toNat = d := by rw [UInt8.toNat_ofNat']; omega
      rw [if_pos (dpos (by omega)), sAt_ok (by omega)]
      simp only [obind]
      rw [u8wrap (n := (d : Int) + 1) (by omega) (by omega)]
      have fin : ∀ o' : List (List UInt8), o'.length ≤ o.length + 1 → (∀ x, x ∈ o' ↔ RQ s i d x ∨ RA s i (UInt8.ofNat d) x) → (∃ (d' : Nat) (o2 : List (List UInt8)), ((o', (d : Int) + 1) : List (List UInt8) × Int) = (o2, (d' : Int)) ∧ 48 ≤ d' ∧ d' ≤ 58 ∧ o2.length + 48 ≤ 20 * i + d' ∧ ∀ x, x ∈ o2 ↔ RQ s i d' x) ∧ 58 - ((o', (d : Int) + 1) : List (List UInt8) × Int).2.toNat < 58 - ((o, (d : Int)) : List (List UInt8) × Int).2.toNat := by
        intro o' q1 q2
        exact ⟨⟨d + 1, o', rfl, by omega, by omega, by omega, fun x => by rw [q2, RQ_succ s i ⟨d0, h⟩]⟩, by simp only; omega⟩
      by_cases he : (d : Int) = gv s i
      · rw [if_neg (by rw [he]; simp)]
        obtain ⟨f1, f2⟩ := fin o (by omega) (fun x => by
          rw [hx]
          constructor
          · exact .inl
          · rintro (q | ⟨q1, q2, _⟩)
            · exact q
            · exact absurd (q1.trans ((set_ne (by omega) _).2 (by rw [hn, he]))) q2)
        exact .inl ⟨_, rfl, f1, f2⟩
      · rw [if_pos (by simpa using he), if_pos (by omega), idx_I (by rw [toB_len]; omega)]
        simp only [obind]
        rw [wtry_ok _ _ (by rw [List.length_set, toB_len]; omega) (by omega)]
        simp only [obind]
        have hb : ofB ((toB s).set (Int.toNat (i : Int)) (d : Int)) = s.set i (UInt8.ofNat d) := by rw [ofB_set, ofB_toB]; rfl
        rw [hb]
        have hne : s.set i (UInt8.ofNat d) ≠ s := fun q => he (by have := (set_ne (by omega) _).1 q; rw [hn] at this; exact this)
        by_cases hN : Num (s.set i (UInt8.ofNat d))
        · rw [if_pos hN]
          obtain ⟨f1, f2⟩ := fin (o ++ [s.set i (UInt8.ofNat d)]) (by simp) (fun x => by
            rw [List.mem_append, List.mem_singleton, hx]
            constructor
            · rintro (q | q)
              · exact .inl q
              · exact .inr ⟨q, by rw [q]; exact hne, by rw [q]; exact hN⟩
            · rintro (q | ⟨q, _⟩)
              · exact .inl q
              · exact .inr q)
          exact .inl ⟨_, rfl, f1, f2⟩
        · rw [if_neg hN]
          obtain ⟨f1, f2⟩ := fin o (by omega) (fun x => by
            rw [hx]
            constructor
            · exact .inl
            · rintro (q | ⟨q1, _, q3⟩)
              · exact q
              · rw [q1] at q3; exact absurd q3 hN)
          exact .inl ⟨_, rfl, f1, f2⟩
    · rw [if_neg (dneg (by omega))]
      have : d = 58 := by omega
      subst this
      exact .inr ⟨_, rfl, by omega, hx⟩) (out, 48) ⟨48, out, rfl, by omega, by omega, by omega, fun x => by rw [hm, RQ_zero]⟩ (by simp)
  exact ⟨d, h1, h2⟩

theorem wrep_ok : ∃ l, wagonnumber_Repairs s = some (l, 0) ∧ l.Pairwise (fun x y => sLt x y = true) ∧ (∀ x, x ∈ l ↔ RP s 12 x) ∧ l.length ≤ 240 := by
  unfold wagonnumber_Repairs
  rw [wdigits_ok s 12 (by omega), dpos ⟨hd, by omega⟩]
  simp only [obind, Bool.not_true, Bool.false_eq_true, if_false]
  obtain ⟨d, h1, h2, h3⟩ := loop_inv (step := wagonnumber_Repairs_L7 s) (fun t => ∃ (i : Nat) (o : List (List UInt8)), t = (o, (i : Int)) ∧ i ≤ 12 ∧ o.length ≤ 20 * i ∧ ∀ x, x ∈ o ↔ RP s i x) (fun t => 12 - t.2.toNat)
    (fun o => o.length ≤ 240 ∧ ∀ x, x ∈ o ↔ RP s 12 x) (by
    rintro _ ⟨i, o, rfl, hi, hlen, hx⟩
    unfold wagonnumber_Repairs_L7
    simp only
    by_cases h : i < 12
    · rw [if_pos (dpos (by omega))]
      obtain ⟨o1, g1, g2, g3⟩ := wrep_in hd hl i h o hlen hx
      rw [g1]
      simp only [obind]
      have fin : ∀ o' : List (List UInt8), o'.length ≤ o1.length + 1 → (∀ x, x ∈ o' ↔ RQ s i 58 x ∨ (i < 11 ∧ RB s i x)) → (∃ (i' : Nat) (o2 : List (List UInt8)), ((o', (i : Int) + 1) : List (List UInt8) × Int) = (o2, (i' : Int)) ∧ i' ≤ 12 ∧ o2.length ≤ 20 * i' ∧ ∀ x, x ∈ o2 ↔ RP s i' x) ∧ 12 - ((o', (i : Int) + 1) : List (List UInt8) × Int).2.toNat < 12 - ((o, (i : Int)) : List (List UInt8) × Int).2.toNat := by
        intro o' q1 q2
        exact ⟨⟨i + 1, o', rfl, by omega, by omega, fun x => by rw [q2, RP_succ]⟩, by simp only; omega⟩
      by_cases h11 : i < 11
      · rw [if_pos (dpos (by omega)), sAt_ok (by omega)]
        simp only [obind]
        rw [wr_id (n := (i : Int) + 1) (by omega) (by omega), show (i : Int) + 1 = ((i + 1 : Nat) : Int) by omega, sAt_ok (by omega)]
        simp only [obind]
        unfold wagonnumber_Repairs_J25
        rw [wr_id (n := (i : Int) + 1) (by omega) (by omega)]
        by_cases he : gv s i = gv s (i + 1)
        · rw [if_neg (by rw [he]; simp)]
          obtain ⟨f1, f2⟩ := fin o1 (by omega) (fun x => by
            rw [g3]
            constructor
            · exact .inl
            · rintro (q | ⟨_, q, _⟩)
              · exact q
              · exact absurd he q)
          exact .inl ⟨_, rfl, f1, f2⟩
        · rw [if_pos (by simpa using he), if_pos (by omega), show (i : Int) + 1 = ((i + 1 : Nat) : Int) by omega, idx_I (by rw [toB_len]; omega)]
          simp only [obind]
          rw [idx_I (by rw [toB_len]; omega)]
          simp only [obind]
          rw [idx_I (by rw [List.length_set, toB_len]; omega)]
          simp only [obind]
          rw [toB_get, toB_get, wtry_ok _ _ (by rw [List.length_set, List.length_set, toB_len]; omega) (by omega)]
          simp only [obind]
          have hb : ofB (((toB s).set (Int.toNat (i : Int)) (gv s (i + 1))).set (Int.toNat ((i + 1 : Nat) : Int)) (gv s i)) = swp s i := by
            rw [ofB_set, ofB_set, ofB_toB, ofNat_gv, ofNat_gv]; rfl
          rw [hb, show ((i + 1 : Nat) : Int) = (i : Int) + 1 by omega]
          by_cases hN : Num (swp s i)
          · rw [if_pos hN]
            obtain ⟨f1, f2⟩ := fin (o1 ++ [swp s i]) (by simp) (fun x => by
              rw [List.mem_append, List.mem_singleton, g3]
              constructor
              · rintro (q | q)
                · exact .inl q
                · exact .inr ⟨h11, he, q, by rw [q]; exact hN⟩
              · rintro (q | ⟨_, _, q, _⟩)
                · exact .inl q
                · exact .inr q)
            exact .inl ⟨_, rfl, f1, f2⟩
          · rw [if_neg hN]
            obtain ⟨f1, f2⟩ := fin o1 (by omega) (fun x => by
              rw [g3]
              constructor
              · exact .inl
              · rintro (q | ⟨_, _, q1, q3⟩)
                · exact q
                · rw [q1] at q3; exact absurd q3 hN)
            exact .inl ⟨_, rfl, f1, f2⟩
      · rw [if_neg (dneg (by omega))]
        unfold wagonnumber_Repairs_J25
        rw [if_neg (by simp), wr_id (n := (i : Int) + 1) (by omega) (by omega)]
        obtain ⟨f1, f2⟩ := fin o1 (by omega) (fun x => by
          rw [g3]
          constructor
          · exact .inl
          · rintro (q | ⟨q, _⟩)
            · exact q
            · exact absurd q h11)
        exact .inl ⟨_, rfl, f1, f2⟩
    · rw [if_neg (dneg (by omega))]
      have : i = 12 := by omega
      subst this
      exact .inr ⟨_, rfl, hlen, hx⟩) (([] : List (List UInt8)), 0) ⟨0, [], rfl, by omega, by simp, fun x => by
        constructor
        · intro q; cases q
        · rintro (⟨i, c, q, _⟩ | ⟨i, q, _⟩) <;> omega⟩ (by simp)
  rw [h1]
  simp only [obind]
  rw [if_pos (by omega)]
  obtain ⟨p1, p2⟩ := sorted_compactS d
  refine ⟨_, rfl, p1, fun x => by rw [p2, h3], ?_⟩
  have e1 : (Go.Lib.compact (sortS d)).length ≤ (sortS d).length := by
    unfold Go.Lib.compact Go.Lib.compactUpTo
    rw [List.length_map]
    exact Nat.le_trans (List.length_filter_le _ _) (by simp)
  have e2 := (sortS_perm d).length_eq
  omega
end

/-! ### The reference -/
theorem getD_get {l : List (List UInt8)} {i : Nat} (h : i < l.length) : l[i]? = some (l.getD i []) := by
  rw [List.getElem?_eq_getElem h, List.getD_eq_getElem?_getD, List.getElem?_eq_getElem h]; rfl
theorem ascS_at {l : List (List UInt8)} (h : l.Pairwise (fun x y => sLt x y = true)) {i j : Nat} (hij : i < j) (hj : j < l.length) : sLt (l.getD i []) (l.getD j []) = true := by
  have := List.pairwise_iff_getElem.1 h i j (by omega) hj hij
  rw [List.getD_eq_getElem?_getD, List.getD_eq_getElem?_getD, List.getElem?_eq_getElem hj, List.getElem?_eq_getElem (by omega : i < l.length)]
  exact this
theorem insert_ok (l : List (List UInt8)) (t : List UInt8) (hl : l.length ≤ 1000000) (ha : l.Pairwise (fun x y => sLt x y = true)) :
    ∃ l', r02_insert l t = some l' ∧ l'.Pairwise (fun x y => sLt x y = true) ∧ (∀ x, x ∈ l' ↔ x ∈ l ∨ x = t) ∧ l'.length ≤ l.length + 1 := by
  unfold r02_insert
  obtain ⟨d, h1, k, rfl, hk, hlo, hhi⟩ := loop_inv (step := r02_insert_L3 l t) (fun s => ∃ k : Nat, s = (k : Int) ∧ k ≤ l.length ∧ ∀ j, j < k → sLt (l.getD j []) t = true) (fun s => l.length - s.toNat)
    (fun s => ∃ k : Nat, s = (k : Int) ∧ k ≤ l.length ∧ (∀ j, j < k → sLt (l.getD j []) t = true) ∧ (k < l.length → sLt (l.getD k []) t = false)) (by
    rintro _ ⟨k, rfl, hk, hj⟩
    unfold r02_insert_L3
    simp only
    by_cases h : k < l.length
    · rw [if_pos (dpos (by omega)), idx_nat, getD_get h]
      simp only [obind]
      by_cases hx : sLt (l.getD k []) t = true
      · rw [if_pos hx, wr_id (by omega) (by omega)]
        refine .inl ⟨_, rfl, ⟨k + 1, rfl, by omega, fun j hjk => ?_⟩, by omega⟩
        by_cases e : j = k
        · subst e; exact hx
        · exact hj j (by omega)
      · rw [if_neg hx]
        exact .inr ⟨_, rfl, k, rfl, hk, hj, fun _ => by simpa using hx⟩
    · rw [if_neg (dneg (by omega))]
      exact .inr ⟨_, rfl, k, rfl, hk, hj, fun q => absurd q h⟩) 0 ⟨0, rfl, by omega, fun j h => by omega⟩ (by simp; omega)
  rw [h1]
  simp only [obind]
  have hins : (∀ j, k ≤ j → j < l.length → sLt t (l.getD j []) = true) → ∃ l', r02_insert_J6 l t (k : Int) = some l' ∧ l'.Pairwise (fun x y => sLt x y = true) ∧ (∀ x, x ∈ l' ↔ x ∈ l ∨ x = t) ∧ l'.length ≤ l.length + 1 := by
    intro hup
    unfold r02_insert_J6
    have e1 : (l.drop (Int.toNat (0 : Int))).take (Int.toNat (k : Int) - Int.toNat (0 : Int)) = l.take k := rfl
    have e2 : (l.drop (Int.toNat (k : Int))).take (Int.toNat (l.length : Int) - Int.toNat (k : Int)) = l.drop k := by
      rw [List.take_of_length_le (by simp)]; rfl
    have t1 : (l.take k).length = k := by rw [List.length_take]; omega
    have t2 : (l.drop k).length = l.length - k := List.length_drop
    rw [e1, e2, if_pos (by omega), if_pos (by simp only [List.length_nil]; omega), if_pos (by simp only [List.nil_append, List.length_cons, List.length_nil]; omega), if_pos (by omega), if_pos (by simp only [List.nil_append, List.length_append, List.length_cons, List.length_nil]; omega)]
    obtain ⟨p1, p2⟩ := ascS_insert ha hk hlo hup
    refine ⟨_, rfl, ?_, fun x => ?_, by simp only [List.nil_append, List.length_append, List.length_cons, List.length_nil]; omega⟩
    · rw [List.nil_append, List.append_assoc]; exact p1
    · rw [List.nil_append, List.append_assoc]; exact p2 x
  unfold r02_insert_J2
  by_cases h : k < l.length
  · rw [if_pos (dpos (by omega)), idx_nat, getD_get h]
    simp only [obind]
    by_cases he : l.getD k [] = t
    · rw [if_pos (by rw [he]; simp)]
      refine ⟨_, rfl, ha, fun x => ⟨.inl, ?_⟩, by omega⟩
      rintro (q | q)
      · exact q
      · rw [q, ← he]
        rw [List.getD_eq_getElem?_getD, List.getElem?_eq_getElem h]; exact List.getElem_mem h
    · rw [if_neg (by simpa using he)]
      have hlt : sLt t (l.getD k []) = true := by
        rcases sLt_tri (l.getD k []) t with q | q | q
        · rw [hhi h] at q; cases q
        · exact absurd q he
        · exact q
      refine hins fun j hj hj2 => ?_
      by_cases e : j = k
      · subst e; exact hlt
      · exact sLt_trans _ _ _ hlt (ascS_at ha (by omega) hj2)
  · rw [if_neg (dneg (by omega))]
    exact hins fun j hj hj2 => by omega

section
variable {s : List UInt8} (hd : Digs s) (hl : s.length = 12)
include hd hl

theorem rrep_in (i : Nat) (hi : i < 12) (out : List (List UInt8)) (ho : out.length ≤ 20 * i) (ha : out.Pairwise (fun x y => sLt x y = true)) (hm : ∀ x, x ∈ out ↔ RP s i x) :
    ∃ out', loop (r02_Repairs_L8 s (i : Int)) (out, 0) = some out' ∧ out'.length ≤ 20 * i + 10 ∧ out'.Pairwise (fun x y => sLt x y = true) ∧ ∀ x, x ∈ out' ↔ RQ s i 58 x := by
  obtain ⟨d, h1, h2⟩ := loop_inv (step := r02_Repairs_L8 s (i : Int)) (fun t => ∃ (d : Nat) (o : List (List UInt8)), t = (o, (d : Int)) ∧ d ≤ 10 ∧ o.length ≤ 20 * i + d ∧ o.Pairwise (fun x y => sLt x y = true) ∧ ∀ x, x ∈ o ↔ RQ s i (48 + d) x) (fun t => 10 - t.2.toNat)
    (fun o => o.length ≤ 20 * i + 10 ∧ o.Pairwise (fun x y => sLt x y = true) ∧ ∀ x, x ∈ o ↔ RQ s i 58 x) (by
    rintro _ ⟨d, o, rfl, d1, hlen, hasc, hx⟩
    unfold r02_Repairs_L8
    simp only
    by_cases h : d < 10
    · have hn : (UInt8.ofNat (48 + d)).toNat = 48 + d := by rw [UInt8.toNat_ofNat']; omega
      rw [if_pos (dpos (by omega)), wr_id (n := (i : Int) + 1) (by omega) (by omega), wr_id (n := 48 + (d : Int)) (by omega) (by omega), u8wrap (by omega) (by omega), show (i : Int) + 1 = ((i + 1 : Nat) : Int) by omega]
      have hb : ofB [48 + (d : Int)] = [UInt8.ofNat (48 + d)] := by
        unfold ofB
        rw [List.map_cons, List.map_nil, show (48 + (d : Int)).toNat = 48 + d by omega]
      rw [hb, gcut, gcut2]
      have t1 : (s.take i).length = i := by rw [List.length_take]; omega
      have t2 : (s.drop (i + 1)).length = 12 - (i + 1) := by rw [List.length_drop, hl]
      rw [if_pos (by omega), if_pos (by omega), if_pos (by rw [t1]; simp; omega), if_pos (by rw [List.length_append, t1, t2]; simp; omega), cut_set (by omega)]
      have fin : ∀ o' : List (List UInt8), o'.length ≤ o.length + 1 → o'.Pairwise (fun x y => sLt x y = true) → (∀ x, x ∈ o' ↔ RQ s i (48 + d) x ∨ RA s i (UInt8.ofNat (48 + d)) x) → (∃ (d' : Nat) (o2 : List (List UInt8)), ((o', (d : Int) + 1) : List (List UInt8) × Int) = (o2, (d' : Int)) ∧ d' ≤ 10 ∧ o2.length ≤ 20 * i + d' ∧ o2.Pairwise (fun x y => sLt x y = true) ∧ ∀ x, x ∈ o2 ↔ RQ s i (48 + d') x) ∧ 10 - ((o', (d : Int) + 1) : List (List UInt8) × Int).2.toNat < 10 - ((o, (d : Int)) : List (List UInt8) × Int).2.toNat := by
        intro o' q1 q0 q2
        exact ⟨⟨d + 1, o', rfl, by omega, by omega, q0, fun x => by rw [q2, show 48 + (d + 1) = 48 + d + 1 by omega, RQ_succ s i ⟨by omega, by omega⟩]⟩, by simp only; omega⟩
      have hskip : (s.set i (UInt8.ofNat (48 + d)) = s ∨ ¬ Num (s.set i (UInt8.ofNat (48 + d)))) → ∀ x, x ∈ o ↔ RQ s i (48 + d) x ∨ RA s i (UInt8.ofNat (48 + d)) x := by
        intro hq x
        rw [hx]
        constructor
        · exact .inl
        · rintro (q | ⟨q1, q2, q3⟩)
          · exact q
          · rcases hq with hq | hq
            · rw [q1] at q2; exact absurd hq q2
            · rw [q1] at q3; exact absurd q3 hq
      have ew : IntKind.i64.wrap ((d : Int) + 1) = (d : Int) + 1 := wr_id (by omega) (by omega)
      by_cases he : s.set i (UInt8.ofNat (48 + d)) = s
      · rw [if_neg (by rw [he]; simp)]
        unfold r02_Repairs_J12
        rw [if_neg (by simp), ew]
        obtain ⟨f1, f2⟩ := fin o (by omega) hasc (hskip (.inl he))
        exact .inl ⟨_, rfl, f1, f2⟩
      · rw [if_pos (by simpa using he), rValid_ok _ (by rw [List.length_set]; omega)]
        simp only [obind]
        unfold r02_Repairs_J12
        rw [ew]
        by_cases hN : Num (s.set i (UInt8.ofNat (48 + d)))
        · have hb2 : ofB [IntKind.u8.wrap (IntKind.i64.wrap (48 + (d : Int)))] = [UInt8.ofNat (48 + d)] := by
            rw [wr_id (by omega) (by omega), u8wrap (by omega) (by omega), hb]
          rw [if_pos (by rw [beq_iff_eq]; exact vcode_zero.2 hN), hb2, wr_id (n := (i : Int) + 1) (by omega) (by omega), show (i : Int) + 1 = ((i + 1 : Nat) : Int) by omega, gcut, gcut2, cut_set (by omega)]
          obtain ⟨o', g1, g2, g3, g4⟩ := insert_ok o (s.set i (UInt8.ofNat (48 + d))) (by omega) hasc
          rw [g1]
          simp only [obind]
          obtain ⟨f1, f2⟩ := fin o' g4 g2 (fun x => by
            rw [g3, hx]
            constructor
            · rintro (q | q)
              · exact .inl q
              · exact .inr ⟨q, by rw [q]; exact he, by rw [q]; exact hN⟩
            · rintro (q | ⟨q, _⟩)
              · exact .inl q
              · exact .inr q)
          exact .inl ⟨_, rfl, f1, f2⟩
        · rw [if_neg (by rw [beq_iff_eq]; exact fun q => hN (vcode_zero.1 q))]
          obtain ⟨f1, f2⟩ := fin o (by omega) hasc (hskip (.inr hN))
          exact .inl ⟨_, rfl, f1, f2⟩
    · rw [if_neg (dneg (by omega))]
      have : d = 10 := by omega
      subst this
      exact .inr ⟨_, rfl, by omega, hasc, hx⟩) (out, 0) ⟨0, out, rfl, by omega, by omega, ha, fun x => by rw [hm, ← RQ_zero]⟩ (by simp)
  exact ⟨d, h1, h2⟩

theorem rrep_ok : ∃ l, r02_Repairs s = some (l, 0) ∧ l.Pairwise (fun x y => sLt x y = true) ∧ (∀ x, x ∈ l ↔ RP s 12 x) := by
  unfold r02_Repairs
  rw [rdigits_ok s 12 (by omega), dpos ⟨hd, by omega⟩]
  simp only [obind, Bool.not_true, Bool.false_eq_true, if_false]
  obtain ⟨d, h1, h2, h3⟩ := loop_inv (step := r02_Repairs_L4 s) (fun t => ∃ (i : Nat) (o : List (List UInt8)), t = (o, (i : Int)) ∧ i ≤ 12 ∧ o.length ≤ 20 * i ∧ o.Pairwise (fun x y => sLt x y = true) ∧ ∀ x, x ∈ o ↔ RP s i x) (fun t => 12 - t.2.toNat)
    (fun o => o.Pairwise (fun x y => sLt x y = true) ∧ ∀ x, x ∈ o ↔ RP s 12 x) (by
    rintro _ ⟨i, o, rfl, hi, hlen, hasc, hx⟩
    unfold r02_Repairs_L4
    simp only
    by_cases h : i < 12
    · rw [if_pos (dpos (by omega))]
      obtain ⟨o1, g1, g2, ga, g3⟩ := rrep_in hd hl i h o hlen hasc hx
      rw [g1]
      simp only [obind]
      have fin : ∀ o' : List (List UInt8), o'.length ≤ o1.length + 1 → o'.Pairwise (fun x y => sLt x y = true) → (∀ x, x ∈ o' ↔ RQ s i 58 x ∨ (i < 11 ∧ RB s i x)) → (∃ (i' : Nat) (o2 : List (List UInt8)), ((o', (i : Int) + 1) : List (List UInt8) × Int) = (o2, (i' : Int)) ∧ i' ≤ 12 ∧ o2.length ≤ 20 * i' ∧ o2.Pairwise (fun x y => sLt x y = true) ∧ ∀ x, x ∈ o2 ↔ RP s i' x) ∧ 12 - ((o', (i : Int) + 1) : List (List UInt8) × Int).2.toNat < 12 - ((o, (i : Int)) : List (List UInt8) × Int).2.toNat := by
        intro o' q1 q0 q2
        exact ⟨⟨i + 1, o', rfl, by omega, by omega, q0, fun x => by rw [q2, RP_succ]⟩, by simp only; omega⟩
      have ew : IntKind.i64.wrap ((i : Int) + 1) = (i : Int) + 1 := wr_id (by omega) (by omega)
      by_cases h11 : i < 11
      · rw [if_pos (dpos (by omega)), sAt_ok (by omega)]
        simp only [obind]
        rw [ew, show (i : Int) + 1 = ((i + 1 : Nat) : Int) by omega, sAt_ok (by omega)]
        simp only [obind]
        unfold r02_Repairs_J18
        rw [ew, wr_id (n := (i : Int) + 2) (by omega) (by omega)]
        by_cases he : gv s i = gv s (i + 1)
        · rw [if_neg (by rw [he]; simp)]
          obtain ⟨f1, f2⟩ := fin o1 (by omega) ga (fun x => by
            rw [g3]
            constructor
            · exact .inl
            · rintro (q | ⟨_, q, _⟩)
              · exact q
              · exact absurd he q)
          exact .inl ⟨_, rfl, f1, f2⟩
        · have t1 : (s.take i).length = i := by rw [List.length_take]; omega
          have t2 : (s.drop (i + 2)).length = 12 - (i + 2) := by rw [List.length_drop, hl]
          have hb : ofB [gv s (i + 1), gv s i] = [cb s (i + 1), cb s i] := by
            unfold ofB
            rw [List.map_cons, List.map_cons, List.map_nil, ofNat_gv, ofNat_gv]
          rw [if_pos (by simpa using he), if_pos (by omega), show (i : Int) + 1 = ((i + 1 : Nat) : Int) by omega, sAt_ok (by omega)]
          simp only [obind]
          rw [sAt_ok (by omega)]
          simp only [obind]
          rw [hb, show (i : Int) + 2 = ((i + 2 : Nat) : Int) by omega, gcut, gcut2, if_pos (by omega), if_pos (by rw [t1]; simp; omega), if_pos (by rw [List.length_append, t1, t2]; simp; omega), cut_swp (by omega), rValid_ok _ (by rw [swp_len]; omega)]
          simp only [obind]
          rw [show ((i + 1 : Nat) : Int) = (i : Int) + 1 by omega]
          by_cases hN : Num (swp s i)
          · rw [if_pos (by rw [beq_iff_eq]; exact vcode_zero.2 hN)]
            obtain ⟨o', k1, k2, k3, k4⟩ := insert_ok o1 (swp s i) (by omega) ga
            rw [k1]
            simp only [obind]
            obtain ⟨f1, f2⟩ := fin o' k4 k2 (fun x => by
              rw [k3, g3]
              constructor
              · rintro (q | q)
                · exact .inl q
                · exact .inr ⟨h11, he, q, by rw [q]; exact hN⟩
              · rintro (q | ⟨_, _, q, _⟩)
                · exact .inl q
                · exact .inr q)
            exact .inl ⟨_, rfl, f1, f2⟩
          · rw [if_neg (by rw [beq_iff_eq]; exact fun q => hN (vcode_zero.1 q))]
            obtain ⟨f1, f2⟩ := fin o1 (by omega) ga (fun x => by
              rw [g3]
              constructor
              · exact .inl
              · rintro (q | ⟨_, _, q1, q3⟩)
                · exact q
                · rw [q1] at q3; exact absurd q3 hN)
            exact .inl ⟨_, rfl, f1, f2⟩
      · rw [if_neg (dneg (by omega))]
        unfold r02_Repairs_J18
        rw [if_neg (by simp), ew]
        obtain ⟨f1, f2⟩ := fin o1 (by omega) ga (fun x => by
          rw [g3]
          constructor
          · exact .inl
          · rintro (q | ⟨q, _⟩)
            · exact q
            · exact absurd q h11)
        exact .inl ⟨_, rfl, f1, f2⟩
    · rw [if_neg (dneg (by omega))]
      have : i = 12 := by omega
      subst this
      exact .inr ⟨_, rfl, hasc, hx⟩) (([] : List (List UInt8)), 0) ⟨0, [], rfl, by omega, by simp, by simp, fun x => by
        constructor
        · intro q; cases q
        · rintro (⟨i, c, q, _⟩ | ⟨i, q, _⟩) <;> omega⟩ (by simp)
  rw [h1]
  exact ⟨_, rfl, h2, h3⟩
end
theorem repairs_eq (s : List UInt8) (hl : s.length < 4611686018427387904) : r02_Repairs s = wagonnumber_Repairs s ∧ ∃ l e, wagonnumber_Repairs s = some (l, e) ∧ l.length ≤ 240 := by
  by_cases h : Digs s ∧ s.length = 12
  · obtain ⟨l, h1, h2, h3, h4⟩ := wrep_ok h.1 h.2
    obtain ⟨k, h5, h6, h7⟩ := rrep_ok h.1 h.2
    rw [h1, h5, ascS_unique l k h2 h6 (fun x => by rw [h3, h7])]
    exact ⟨rfl, _, _, rfl, by rw [← ascS_unique l k h2 h6 (fun x => by rw [h3, h7])]; exact h4⟩
  · have h' : ¬ (Digs s ∧ (s.length : Int) = 12) := fun q => h ⟨q.1, by omega⟩
    unfold r02_Repairs wagonnumber_Repairs
    rw [rdigits_ok s 12 hl, wdigits_ok s 12 hl, decide_eq_false h']
    exact ⟨rfl, _, _, rfl, by simp⟩
end Go.Proofs.Yteimkmjnjnaifaa
