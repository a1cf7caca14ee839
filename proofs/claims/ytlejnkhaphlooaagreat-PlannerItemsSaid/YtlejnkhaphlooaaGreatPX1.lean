/- Plain laws of the functions that the statement reaches, text by text. Conditions: those of each theorem. -/
import Derived.Test.YtlejnkhaphlooaaGreatPX0
import Derived.Test.YtlejnkhaphlooaaGreatGassign
import Derived.Test.YtlejnkhaphlooaaGreatGlaw17sane
import Derived.Test.YtlejnkhaphlooaaGreatGlaw17orders
import Derived.Test.YtlejnkhaphlooaaGreatGPlannerItems
set_option linter.unusedVariables false
set_option linter.unusedSimpArgs false
namespace Go.Proofs.YtlejnkhaphlooaaGreat
open Go Go.V Go.Proofs
theorem vw_ext {l k : List Int} (h : l.length = k.length) (e : ∀ i, i < l.length → vw l i = vw k i) : l = k := by
  refine List.ext_getElem h fun i h1 h2 => ?_
  have := e i h1
  rw [vw_elem h1, vw_elem h2] at this
  exact this
theorem strict_of {l : List Int} (h : l.Pairwise (· ≤ ·)) (hn : l.Nodup) : l.Pairwise (· < ·) :=
  List.Pairwise.imp₂ (fun a b h1 h2 => by omega) h hn
theorem sortI_strict {p : List Int} (h : p.Nodup) : (sortI p).Pairwise (· < ·) := strict_of (sortI_sorted p) ((sortI_perm p).nodup_iff.2 h)
theorem Ord.nodup {a o : List Int} (h : Ord a o) : o.Nodup := by
  refine List.pairwise_iff_getElem.2 fun i j h1 h2 hij e => ?_
  have := h.srt i j (Nat.zero_le _) hij h2
  rw [vw_elem h1, vw_elem h2, e] at this
  exact ls_irr this
def neg1 (n : Nat) : List Int := List.replicate n (-1)
theorem fill_ok (a : List Int) (hl : a.length ≤ 32) : loop (assign_Match_L9 a) ((List.replicate (Int.toNat ((a).length : Int)) 0 : List Int), 0) = some (neg1 a.length) := by
  obtain ⟨d, h1, rfl⟩ := loop_inv (step := assign_Match_L9 a) (fun s => ∃ i : Nat, s.2 = (i : Int) ∧ i ≤ a.length ∧ s.1.length = a.length ∧ ∀ k, k < i → vw s.1 k = -1) (fun s => a.length - s.2.toNat) (fun d => d = neg1 a.length) (by
    rintro ⟨d, _⟩ ⟨i, rfl, hi, hdl, hk⟩
    dsimp only at hdl hk ⊢
    unfold assign_Match_L9
    dsimp only
    by_cases hlt : i < a.length
    · left
      rw [if_pos (dpos (by simp; omega)), vw_idx (by omega : i < d.length)]
      simp only [Option.bind_some, Int.toNat_natCast]
      rw [wk1 (by omega)]
      refine ⟨_, rfl, ⟨i + 1, rfl, by omega, by simp [hdl], fun k hk2 => ?_⟩, by dsimp only; omega⟩
      dsimp only
      rw [vw_set (by omega)]
      split
      · rfl
      · exact hk k (by omega)
    · right
      rw [if_neg (dneg (by simp; omega))]
      refine ⟨_, rfl, vw_ext (by simp [neg1, hdl]) fun k hk2 => ?_⟩
      rw [hk k (by omega), vw_elem (by simp [neg1]; omega)]
      simp [neg1]) (List.replicate (Int.toNat ((a).length : Int)) 0, 0) ⟨0, rfl, by omega, by simp, fun k hk => by omega⟩ (by dsimp only; omega)
  exact h1
def nofree (n : Nat) : List Bool := List.replicate n false
def res : Sum (List Int) (List Int) → (List Int) × (List Int) × Int
  | .inl p => ([], sortI p, 14)
  | .inr l => (l, [], 0)
theorem onl_onl {p q : List Int} {g : Sum (List Int) (List Int)} : onl p (onl q g) = onl (p ++ q) g := by
  cases g <;> simp [onl]
theorem gr_cons (a b : List Int) (i : Nat) (o l : List Int) (tk : List Bool) : gr a b ((i : Int) :: o) l tk = if bf b tk (vw a i) b.length < 0 then .inl [(i : Int)] else onl [(i : Int)] (gr a b o (l.set i (bf b tk (vw a i) b.length)) (tk.set (bf b tk (vw a i) b.length).toNat true)) := by
  conv => lhs; unfold gr
  rw [Int.toNat_natCast]
  split
  · rfl
  · cases gr a b o (l.set i (bf b tk (vw a i) b.length)) (tk.set (bf b tk (vw a i) b.length).toNat true) <;> rfl
theorem take_one {o : List Int} {t : Nat} (h : t < o.length) : o.take (t + 1) = o.take t ++ [vw o t] := by rw [List.take_succ_eq_append_getElem h, vw_elem h]
theorem drop_one {o : List Int} {t : Nat} (h : t < o.length) : o.drop t = vw o t :: o.drop (t + 1) := by rw [List.drop_eq_getElem_cons h, vw_elem h]
theorem match_ok {a b : List Int} (hV : Vd a b) (hN : a.length ≤ LN) : ∃ o, assign_order a = some o ∧ Ord a o ∧ o.length ≤ 32 ∧ assign_Match a b = some (res (gr a b o (neg1 a.length) (nofree b.length))) := by
  obtain ⟨ha, hb, hv, hw⟩ := hV
  obtain ⟨o, ho, hO, hol⟩ := aorder_ok hN hv
  refine ⟨o, ho, hO, hol, ?_⟩
  obtain ⟨c, hc, hc0⟩ := check_ok a b
  obtain rfl := hc0.2 ⟨ha, hb, hv, hw⟩
  unfold assign_Match
  rw [hc]
  simp only [Option.bind_some]
  rw [if_neg (by decide), if_pos (by omega), fill_ok a ha]
  simp only [Option.bind_some]
  rw [if_pos (by omega), ho]
  simp only [Option.bind_some]
  have hg : ∀ t, t < o.length → ∃ i : Nat, vw o t = i ∧ i < a.length ∧ 0 < vw a i := fun t ht => by
    obtain ⟨i, h1, h2, h3⟩ := (hO.mem _).1 (vw_mem ht)
    exact ⟨i, h2, h1, h3⟩
  obtain ⟨r, h1, h2⟩ := loop_inv (step := assign_Match_L18 a b o) (fun s => ∃ t : Nat, s.2.2 = (t : Int) ∧ t ≤ o.length ∧ s.1.length = a.length ∧ s.2.1.length = b.length ∧ gr a b o (neg1 a.length) (nofree b.length) = onl (o.take t) (gr a b (o.drop t) s.1 s.2.1)) (fun s => o.length - s.2.2.toNat)
    (fun r => match r with | .inl q => ∃ p, gr a b o (neg1 a.length) (nofree b.length) = .inl p ∧ q = sortI p | .inr l => gr a b o (neg1 a.length) (nofree b.length) = .inr l) (by
      rintro ⟨l, tk, _⟩ ⟨t, rfl, ht, hl, htl, hgr⟩
      dsimp only at hl htl hgr ⊢
      unfold assign_Match_L18
      dsimp only
      by_cases hlt : t < o.length
      · obtain ⟨i, e1, e2, e3⟩ := hg t hlt
        rw [if_pos (dpos (by omega)), vw_idx hlt]
        simp only [Option.bind_some]
        rw [e1, best_ok htl hb e2]
        simp only [Option.bind_some]
        rw [drop_one hlt, e1] at hgr
        rw [gr_cons] at hgr
        rcases bf_range b tk (vw a i) b.length with h5 | ⟨u, h5, h6⟩
        · right
          rw [h5] at hgr ⊢
          rw [if_pos (by omega)] at hgr
          rw [if_pos (dpos (by omega)), wk1 (by omega), if_pos (by omega)]
          have hcl : slices_Clone_int_int_ ((o.drop (Int.toNat (0 : Int))).take (Int.toNat ((t + 1 : Nat) : Int) - Int.toNat (0 : Int))) = some (o.take (t + 1)) := by
            unfold slices_Clone_int_int_
            simp only [Int.toNat_natCast, Int.toNat_zero, List.drop_zero, Nat.sub_zero, List.nil_append]
            rw [if_pos (by simp; omega)]
          rw [hcl]
          simp only [Option.bind_some]
          rw [if_pos ⟨by rw [take_one hlt]; simp, by simp; omega⟩]
          exact ⟨_, rfl, _, hgr, by rw [take_one hlt, e1]⟩
        · left
          rw [h6] at hgr ⊢
          rw [if_neg (by omega), Int.toNat_natCast, onl_onl] at hgr
          rw [if_neg (dneg (by omega)), bw_idx (by omega : u < tk.length)]
          simp only [Option.bind_some]
          rw [vw_idx (by omega : i < l.length)]
          simp only [Option.bind_some, Int.toNat_natCast]
          rw [wk1 (by omega)]
          exact ⟨_, rfl, ⟨t + 1, rfl, by omega, by simp [hl], by simp [htl], by rw [hgr, take_one hlt, e1]⟩, by dsimp only; omega⟩
      · right
        rw [if_neg (dneg (by omega))]
        obtain rfl : t = o.length := by omega
        rw [List.drop_length] at hgr
        exact ⟨_, rfl, hgr⟩) (neg1 a.length, List.replicate (Int.toNat ((b).length : Int)) false, 0) ⟨0, rfl, by omega, by simp [neg1], by simp, by
        dsimp only
        rw [List.drop_zero, List.take_zero]
        show _ = onl [] (gr a b o (neg1 a.length) (List.replicate (Int.toNat ((b).length : Int)) false))
        rw [Int.toNat_natCast]
        show gr a b o (neg1 a.length) (nofree b.length) = onl [] (gr a b o (neg1 a.length) (nofree b.length))
        cases gr a b o (neg1 a.length) (nofree b.length) <;> simp [onl]⟩ (by dsimp only; omega)
  rw [h1]
  cases r with
  | inl q => obtain ⟨p, h3, rfl⟩ := h2; rw [h3]; rfl
  | inr l =>
    have h2' : gr a b o (neg1 a.length) (nofree b.length) = .inr l := h2
    rw [h2']; rfl
theorem match_bad {a b : List Int} (hV : ¬ Vd a b) : ∃ c, assign_check a b = some c ∧ c ≠ 0 ∧ c ≠ 14 ∧ assign_Match a b = some ([], [], c) := by
  obtain ⟨c, hc, hc0⟩ := check_ok a b
  have hne : c ≠ 0 := fun e => hV (hc0.1 e)
  have h14 : c ≠ 14 := by
    intro e
    subst e
    unfold assign_check at hc
    split at hc
    · cases hc
    · split at hc
      · cases hc
      · rename_i q1 q2
        obtain ⟨d, e1, e2⟩ := chk_a a (by simp at q1; omega)
        obtain ⟨d', e3, e4⟩ := chk_b b (by simp at q2; omega)
        rw [e1] at hc
        simp only [Option.bind_some] at hc
        rw [e3] at hc
        rcases e2 with ⟨rfl, _⟩ | ⟨rfl, _⟩
        · cases hc
        · rcases e4 with ⟨rfl, _⟩ | ⟨rfl, _⟩ <;> cases hc
  refine ⟨c, hc, hne, h14, ?_⟩
  unfold assign_Match; rw [hc]; simp only [Option.bind_some]; rw [if_pos (by simpa using hne)]
theorem match_spec (a b : List Int) (hN : a.length ≤ LN) : ∃ r, assign_Match a b = some r ∧ (¬ Vd a b → r.1 = [] ∧ r.2.1 = [] ∧ r.2.2 ≠ 0 ∧ r.2.2 ≠ 14) := by
  by_cases hV : Vd a b
  · obtain ⟨o, _, hO, hol, h1⟩ := match_ok hV hN
    exact ⟨_, h1, fun h => absurd hV h⟩
  · obtain ⟨c, hc, hne, h14, h1⟩ := match_bad hV
    exact ⟨_, h1, fun _ => ⟨rfl, rfl, hne, h14⟩⟩
end Go.Proofs.YtlejnkhaphlooaaGreat
set_option linter.unusedVariables false
set_option linter.unusedSimpArgs false
namespace Go.Proofs.YtlejnkhaphlooaaGreat
open Go Go.V Go.Proofs
theorem len_le {α : Type} [DecidableEq α] : ∀ (l m : List α), l.Nodup → (∀ x, x ∈ l → x ∈ m) → l.length ≤ m.length
  | [], m, _, _ => Nat.zero_le _
  | x :: l, m, hn, hs => by
    have h := List.nodup_cons.1 hn
    have hx : x ∈ m := hs x List.mem_cons_self
    have := len_le l (m.erase x) h.2 fun y hy => by
      have hyx : y ≠ x := fun e => h.1 (e ▸ hy)
      exact (List.mem_erase_of_ne hyx).2 (hs y (List.mem_cons_of_mem _ hy))
    rw [List.length_erase_of_mem hx] at this
    have hp : 0 < m.length := List.length_pos_of_mem hx
    simp only [List.length_cons]
    omega
def tl (b : List Int) (n : Int) (k : Nat) : List Nat := (List.range k).filter fun t => decide (n ≤ vw b t)
theorem tl_mem {b : List Int} {n : Int} {k t : Nat} : t ∈ tl b n k ↔ t < k ∧ n ≤ vw b t := by unfold tl; simp
theorem tl_nodup (b : List Int) (n : Int) (k : Nat) : (tl b n k).Nodup := List.nodup_range.filter _
def Few (a b : List Int) : Prop := ∃ k, k < a.length ∧ 0 < vw a k ∧ (tl b (vw a k) b.length).length < (tl a (vw a k) a.length).length
structure Asg (a b l : List Int) : Prop where
  ll : l.length = a.length
  z : ∀ i, i < a.length → vw a i = 0 → vw l i = -1
  at_ : ∀ i, i < a.length → vw a i ≠ 0 → ∃ t : Nat, t < b.length ∧ vw l i = t ∧ vw a i ≤ vw b t
  inj : ∀ i j, i < a.length → j < a.length → vw a i ≠ 0 → vw a j ≠ 0 → vw l i = vw l j → i = j
theorem nofew_f {a b : List Int} (f : Nat → Nat) (hat : ∀ i, i < a.length → vw a i ≠ 0 → f i < b.length ∧ vw a i ≤ vw b (f i)) (hinj : ∀ i j, i < a.length → j < a.length → vw a i ≠ 0 → vw a j ≠ 0 → f i = f j → i = j) : ¬ Few a b := by
  rintro ⟨k, hk, h0, hlt⟩
  have hin : ∀ i, i ∈ tl a (vw a k) a.length → i < a.length ∧ vw a i ≠ 0 := fun i hi => by
    have := tl_mem.1 hi
    exact ⟨this.1, by omega⟩
  have h1 : ((tl a (vw a k) a.length).map f).Nodup := by
    refine List.pairwise_map.2 (List.Pairwise.imp_of_mem ?_ (tl_nodup a (vw a k) a.length))
    intro i j hi hj hne e
    exact hne (hinj i j (hin i hi).1 (hin j hj).1 (hin i hi).2 (hin j hj).2 e)
  have h2 := len_le _ (tl b (vw a k) b.length) h1 fun x hx => by
    obtain ⟨i, hi, rfl⟩ := List.mem_map.1 hx
    obtain ⟨ht, e2⟩ := hat i (hin i hi).1 (hin i hi).2
    have := tl_mem.1 hi
    exact tl_mem.2 ⟨ht, by omega⟩
  rw [List.length_map] at h2
  omega
structure Rfs (a b r : List Int) : Prop where
  asc : r.Pairwise (· < ·)
  mem : ∀ x ∈ r, ∃ i : Nat, x = i ∧ i < a.length ∧ 0 < vw a i
  least : ∃ i : Nat, (i : Int) ∈ r ∧ (∀ j : Nat, (j : Int) ∈ r → vw a i ≤ vw a j) ∧ (tl b (vw a i) b.length).length < r.length
theorem Rfs.few {a b r : List Int} (h : Rfs a b r) : Few a b := by
  obtain ⟨i, hi, hle, hlt⟩ := h.least
  obtain ⟨i', e, h1, h2⟩ := h.mem _ hi
  obtain rfl : i = i' := by omega
  refine ⟨i, h1, h2, Nat.lt_of_lt_of_le hlt ?_⟩
  have hnd : (r.map Int.toNat).Nodup := by
    refine List.pairwise_map.2 (List.Pairwise.imp_of_mem ?_ h.asc)
    intro x y hx hy hxy e
    obtain ⟨j, rfl, _, _⟩ := h.mem x hx
    obtain ⟨k, rfl, _, _⟩ := h.mem y hy
    omega
  have := len_le _ (tl a (vw a i) a.length) hnd fun x hx => by
    obtain ⟨y, hy, rfl⟩ := List.mem_map.1 hx
    obtain ⟨j, rfl, h3, h4⟩ := h.mem y hy
    rw [Int.toNat_natCast]
    exact tl_mem.2 ⟨h3, hle j hy⟩
  rwa [List.length_map] at this
theorem asd_nil (a b : List Int) : Asd a b [] (neg1 a.length) (nofree b.length) :=
  ⟨by simp [neg1], by simp [nofree], fun i h => (by cases h), fun x h => (by cases h), fun k hk _ => by
    rw [vw_elem (by simp [neg1]; omega)]; simp [neg1], fun t ht h => by
    have : bw (nofree b.length) t = false := by
      unfold bw nofree
      rw [List.getD_eq_getElem?_getD, List.getElem?_eq_getElem (by simp; omega)]
      simp
    rw [this] at h
    exact Bool.noConfusion h, fun i j h => (by cases h)⟩
theorem greedy {a b o : List Int} (hV : Vd a b) (hO : Ord a o) : (∃ l, gr a b o (neg1 a.length) (nofree b.length) = .inr l ∧ Asg a b l) ∨ ∃ p, gr a b o (neg1 a.length) (nofree b.length) = .inl p ∧ Rfs a b (sortI p) := by
  have hx : ∀ x ∈ o, ∃ i : Nat, x = i ∧ i < a.length ∧ 0 < vw a i := fun x hx => by
    obtain ⟨i, h1, h2, h3⟩ := (hO.mem x).1 hx
    exact ⟨i, h2, h1, h3⟩
  have h := gr_ok (b := b) o [] _ _ (asd_nil a b) hx hO.nodup (fun x _ h => by cases h)
  generalize gr a b o (neg1 a.length) (nofree b.length) = g at h
  cases g with
  | inr l =>
    left
    obtain ⟨tk, hA⟩ := h
    rw [List.nil_append] at hA
    have hpos : ∀ i, i < a.length → vw a i ≠ 0 → (i : Int) ∈ o := fun i hi h0 => (hO.mem _).2 ⟨i, hi, rfl, by have := hV.2.2.1 _ (vw_mem hi); omega⟩
    refine ⟨l, rfl, hA.ll, fun i hi h0 => hA.no i hi fun hm => ?_, fun i hi h0 => ?_, fun i j hi hj h1 h2 e => hA.inj i j (hpos i hi h1) (hpos j hj h2) e⟩
    · obtain ⟨j, _, e, h2⟩ := (hO.mem _).1 hm
      obtain rfl : i = j := by omega
      omega
    · obtain ⟨_, _, t, h3, h4, _, h5⟩ := hA.at_ i (hpos i hi h0)
      exact ⟨t, h3, h4, h5⟩
  | inl p =>
    right
    obtain ⟨q, r, i, l, tk, rfl, rfl, hA, hfree⟩ := h
    rw [List.nil_append] at hA
    refine ⟨_, rfl, ?_⟩
    have hnd := hO.nodup
    have hq : (q ++ [(i : Int)]).Nodup := by
      refine hnd.sublist ?_
      exact List.Sublist.append_left (by simp) q
    have hper := sortI_perm (q ++ [(i : Int)])
    obtain ⟨i', e, hi, h0⟩ := hx (i : Int) (by simp)
    obtain rfl : i = i' := by omega
    refine ⟨sortI_strict hq, fun x hx' => hx x ?_, i, hper.mem_iff.2 (by simp), fun j hj => ?_, ?_⟩
    · have := hper.mem_iff.1 hx'
      simp only [List.mem_append, List.mem_singleton] at this
      rcases this with h | h
      · simp [h]
      · simp [h]
    · have := hper.mem_iff.1 hj
      simp only [List.mem_append, List.mem_singleton] at this
      rcases this with h | h
      · obtain ⟨k, hk, e2⟩ := vw_of_mem h
        have hs := hO.srt k q.length (Nat.zero_le _) hk (by simp)
        have e3 : vw (q ++ (i : Int) :: r) k = j := by
          rw [vw_elem (by simp; omega), List.getElem_append_left hk, ← vw_elem hk]; exact e2
        have e4 : vw (q ++ (i : Int) :: r) q.length = i := by
          rw [vw_elem (by simp)]; simp
        rw [e3, e4] at hs
        have key : ∀ i : Nat, ky a (i : Int) = vw a i := fun i => by unfold ky vw; rw [Int.toNat_natCast]
        unfold ls at hs
        rw [key, key] at hs
        omega
      · obtain rfl : j = i := by omega
        exact Int.le_refl _
    · rw [hper.length_eq, List.length_append, List.length_singleton]
      have := len_le (tl b (vw a i) b.length) (q.map fun x => (vw l x.toNat).toNat) (tl_nodup _ _ _) fun t ht => by
        obtain ⟨h1, h2⟩ := tl_mem.1 ht
        cases hb : bw tk t with
        | false => have := hfree t h1 hb; omega
        | true =>
          obtain ⟨j, h3, h4⟩ := hA.tk t h1 hb
          exact List.mem_map.2 ⟨(j : Int), h3, by rw [Int.toNat_natCast, h4, Int.toNat_natCast]⟩
      rw [List.length_map] at this
      omega
theorem match_two {a b : List Int} (hV : Vd a b) (hN : a.length ≤ LN) : (∃ l, assign_Match a b = some (l, [], 0) ∧ Asg a b l) ∨ ∃ r, assign_Match a b = some ([], r, 14) ∧ Rfs a b r := by
  obtain ⟨o, _, hO, _, h1⟩ := match_ok hV hN
  rcases greedy hV hO with ⟨l, h2, h3⟩ | ⟨p, h2, h3⟩
  · exact Or.inl ⟨l, by rw [h1, h2]; rfl, h3⟩
  · exact Or.inr ⟨_, by rw [h1, h2]; rfl, h3⟩
end Go.Proofs.YtlejnkhaphlooaaGreat
set_option linter.unusedVariables false
set_option linter.unusedSimpArgs false
set_option linter.unusedSectionVars false
set_option maxRecDepth 100000
namespace Go.Proofs.YtlejnkhaphlooaaGreat
open Go Go.V Go.Proofs
def ldOf (its : List Item) (S : Int) (v : List Int) : List Int := lst (ld (yard its S v) (lens its) its.length) (S.toNat + trains its)
theorem make_plan {its : List Item} {w S : Int} {v : List Int} (hg : JobGood its w) (hl : leastcode_Least its w = some ((S, v), 0)) :
    ∃ c, certificate_Make its w = some (((S, v), c), 0) ∧ Accepts its w S v c ∧ c.length ≤ 41 := by
  rcases Make_ok0 hg with ⟨v', S', m, c, hv, hm, hS, hA, hcl, hM, hL⟩ | h
  · rw [hl] at hL
    cases hL
    exact ⟨c, hM, hA, hcl⟩
  · exfalso
    obtain ⟨p, e1, e2⟩ := Least_ok hg
    rw [hl] at e1
    cases e1
    rcases e2 with ⟨v', S', m, hv, e, hm, hS⟩ | ⟨e, _⟩
    · cases e
      obtain ⟨q, w1, w4⟩ := Witness_ok hg
      unfold certificate_Make at h
      rw [hl] at h
      simp only [obind] at h
      rw [w1] at h
      rcases w4 with ⟨v', hv', h0, h3⟩ | ⟨_, hs⟩
      · simp only [obind] at h
        rw [h0] at h
        simp at h
      · exact absurd hv (hs.none (fun i => (hg.b i).1) v)
    · cases e
theorem ldOf_len (its : List Item) (S : Int) (v : List Int) : (ldOf its S v).length = S.toNat + trains its := lst_len _ _
theorem ldOf_vd {its : List Item} {w S : Int} {v : List Int} (hG : Good its w S v) (tr : List Int) : Vd (ldOf its S v) tr ↔ (tr.length ≤ 32 ∧ ∀ x ∈ tr, 1 ≤ x ∧ x ≤ 38400) := by
  have h1 := hG.st
  have h2 : trains its ≤ 16 := trains_bound its 0 (by omega) fun x hx => by
    obtain ⟨i, hi⟩ := List.getElem?_of_mem hx
    exact (hG.job.it i x hi).1.2
  have h3 := hG.job.len
  unfold Vd
  rw [ldOf_len]
  constructor
  · rintro ⟨_, a, _, b⟩; exact ⟨a, b⟩
  · rintro ⟨a, b⟩
    refine ⟨by omega, a, fun x hx => ?_, b⟩
    obtain ⟨p, _, rfl⟩ := List.mem_map.1 hx
    have := ld_range (yard its S v) (lens its) (fun i => lens_range hG i) its.length p
    omega
theorem ldOf_N {its : List Item} {w S : Int} {v : List Int} (hG : Good its w S v) (hN : 12 + trains its ≤ LN) : (ldOf its S v).length ≤ LN := by
  have h1 := hG.st
  rw [ldOf_len]; omega
theorem sheet_ok {its : List Item} {w S : Int} {v : List Int} (hP : HasPlan its w S v) (hl : leastcode_Least its w = some ((S, v), 0)) (hN : 12 + trains its ≤ LN) (tr : List Int) :
    ∃ c r, certificate_Make its w = some (((S, v), c), 0) ∧ Accepts its w S v c ∧ c.length ≤ 41 ∧ assign_Match (ldOf its S v) tr = some r ∧
      (¬ (tr.length ≤ 32 ∧ ∀ x ∈ tr, 1 ≤ x ∧ x ≤ 38400) → r.1 = [] ∧ r.2.1 = [] ∧ r.2.2 ≠ 0 ∧ r.2.2 ≠ 14) ∧
      ((tr.length ≤ 32 ∧ ∀ x ∈ tr, 1 ≤ x ∧ x ≤ 38400) → (r.2.1 = [] ∧ r.2.2 = 0 ∧ Asg (ldOf its S v) tr r.1) ∨ (r.1 = [] ∧ r.2.2 = 14 ∧ Rfs (ldOf its S v) tr r.2.1)) ∧
      rollin_Loads its w S v = some (ldOf its S v, 0) ∧
      planner_sheet its w tr = some (if r.2.2 ≠ 0 then ((([], 0), ((0, []), []), []), r.2.1, r.2.2) else (((its, w), ((S, v), c), r.1), [], 0)) := by
  obtain ⟨m, hv, hm, hS, hG⟩ := hP
  have hg := hG.job
  obtain ⟨c, hM, hA, hcl⟩ := make_plan hg hl
  obtain ⟨r, r1, r3⟩ := match_spec (ldOf its S v) tr (ldOf_N hG hN)
  have hL := Loads_ok hG
  refine ⟨c, r, hM, hA, hcl, r1, fun h => r3 fun q => h ((ldOf_vd hG tr).1 q), fun h => ?_, hL, ?_⟩
  · rcases match_two ((ldOf_vd hG tr).2 h) (ldOf_N hG hN) with ⟨l, e, q⟩ | ⟨l, e, q⟩
    · rw [r1] at e; cases e; exact .inl ⟨rfl, rfl, q⟩
    · rw [r1] at e; cases e; exact .inr ⟨rfl, rfl, q⟩
  · unfold planner_sheet slices_Clone_humpyard_api_Item_humpyard_api_Item_
    have hlen := hg.len
    rw [if_pos (by simp only [List.length_nil]; omega)]
    simp only [obind, List.nil_append]
    rw [hM]
    simp only [obind, bne_self_eq_false, Bool.false_eq_true, if_false]
    rw [hL]
    simp only [obind, bne_self_eq_false, Bool.false_eq_true, if_false]
    show ((assign_Match (ldOf its S v) tr).bind _) = _
    rw [r1]
    simp only [obind]
    by_cases q : r.2.2 = 0
    · rw [if_neg (by simpa using q), if_neg (by simpa using q)]
    · rw [if_pos (by simpa using q), if_pos q]
end Go.Proofs.YtlejnkhaphlooaaGreat
set_option linter.unusedVariables false
set_option linter.unusedSimpArgs false
set_option linter.unusedSectionVars false
set_option maxRecDepth 100000
namespace Go.Proofs.YtlejnkhaphlooaaGreat
open Go Go.V Go.Proofs
theorem schR_mem {its : List Item} (h : JobGood its 0) {s : Sc} (hs : s ∈ insAll (schL its)) : ∃ w S v, w ∈ ws4 ∧ s = scOf its w S v ∧ HasPlan its w S v ∧ leastcode_Least its w = some ((S, v), 0) :=
  schL_mem h ((insAll_mem s _ _ rfl).1 hs)
end Go.Proofs.YtlejnkhaphlooaaGreat
set_option linter.unusedVariables false
set_option linter.unusedSimpArgs false
set_option linter.unusedSectionVars false
set_option maxRecDepth 100000
namespace Go.Proofs.YtlejnkhaphlooaaGreat
open Go Go.V Go.Proofs
abbrev Sh := ((List Item × Int) × ((Int × List Int) × List Int) × List Int)
def sh0 : Sh := (([], 0), ((0, []), []), [])
def TrOK (tr : List Int) : Prop := tr.length ≤ 32 ∧ ∀ x ∈ tr, 1 ≤ x ∧ x ≤ 38400
def NoFit (its : List Item) (tr : List Int) (s : Sc) : Prop := ∀ S v, leastcode_Least its s.1 = some ((S, v), 0) → ∃ r, Rfs (ldOf its S v) tr r
theorem pl_step {its : List Item} (h : JobGood its 0) (hN : 12 + trains its ≤ LN) {tr : List Int} (hT : TrOK tr) (e0 : Int) {i : Nat} (hi : i < (insAll (schL its)).length) :
    ∃ w S v c, (insAll (schL its))[i] = scOf its w S v ∧ HasPlan its w S v ∧ leastcode_Least its w = some ((S, v), 0) ∧ Accepts its w S v c ∧ c.length ≤ 41 ∧ certificate_Make its w = some (((S, v), c), 0) ∧
      ((∃ l, assign_Match (ldOf its S v) tr = some (l, [], 0) ∧ Asg (ldOf its S v) tr l ∧ ∀ d, planner_Plan_L10 its tr (insAll (schL its), e0) (d, (i : Int)) = some (.done (.inl (its, w, S, v, c, l, 0)))) ∨
       (∃ q r, assign_Match (ldOf its S v) tr = some (q, r, 14) ∧ Rfs (ldOf its S v) tr r ∧ ∀ d, planner_Plan_L10 its tr (insAll (schL its), e0) (d, (i : Int)) = some (.next (if i = 0 then r else d, ((i + 1 : Nat) : Int))))) := by
  obtain ⟨w, S, v, hw, hs, hP, hl⟩ := schR_mem h (List.getElem_mem hi)
  obtain ⟨c, r, q1, q3, q4, q5, q7, q8, q9, q11⟩ := sheet_ok hP hl hN tr
  have hlen : (insAll (schL its)).length ≤ 4 := by rw [insAll_len _ _ rfl]; exact schL_len its
  have hx : idx (insAll (schL its)) (i : Int) = some (scOf its w S v) := by rw [idx_nat, List.getElem?_eq_getElem hi, hs]
  refine ⟨w, S, v, c, hs, hP, hl, q3, q4, q1, ?_⟩
  rcases q8 hT with ⟨a1, a2, a3⟩ | ⟨a1, a2, a3⟩
  · refine .inl ⟨r.1, by rw [q5, ← a1, ← a2], a3, fun d => ?_⟩
    unfold planner_Plan_L10
    dsimp only
    rw [if_pos (dpos (by omega)), hx]
    simp only [obind]
    rw [show (scOf its w S v).1 = w from rfl, q11, if_neg (by simpa using a2)]
    rfl
  · refine .inr ⟨r.1, r.2.1, by rw [q5, ← a2], a3, fun d => ?_⟩
    unfold planner_Plan_L10
    dsimp only
    rw [if_pos (dpos (by omega)), hx]
    simp only [obind]
    rw [show (scOf its w S v).1 = w from rfl, q11, if_pos (by rw [a2]; decide)]
    simp only [obind]
    rw [a2, if_neg (by decide), if_pos (by decide), lk1 (by omega)]
    by_cases c0 : i = 0
    · subst c0; rfl
    · rw [if_neg (by simpa using c0), if_neg c0]
theorem pl_end {its : List Item} (tr : List Int) (e0 : Int) (d : List Int) : planner_Plan_L10 its tr (insAll (schL its), e0) (d, ((insAll (schL its)).length : Int)) = some (.done (.inr d)) := by
  unfold planner_Plan_L10
  dsimp only
  rw [if_neg (dneg (by omega))]
inductive Planned (its : List Item) (tr : List Int) : Sh → List Int → Int → Prop
  | fits {P : List Sc} {w S : Int} {v c l : List Int} {Q : List Sc} (hL : insAll (schL its) = P ++ scOf its w S v :: Q) (hP : HasPlan its w S v) (hl : leastcode_Least its w = some ((S, v), 0)) (hA : Accepts its w S v c) (hc : c.length ≤ 41)
      (ha : Asg (ldOf its S v) tr l) (hn : ∀ s ∈ P, NoFit its tr s) : Planned its tr (((its, w), ((S, v), c), l)) [] 0
  | room {w S : Int} {v c : List Int} {Q : List Sc} {r : List Int} (hL : insAll (schL its) = scOf its w S v :: Q) (hP : HasPlan its w S v) (hl : leastcode_Least its w = some ((S, v), 0)) (hM : certificate_Make its w = some (((S, v), c), 0))
      (hr : Rfs (ldOf its S v) tr r) (hn : ∀ s ∈ insAll (schL its), NoFit its tr s) : Planned its tr sh0 r 14
theorem nofit_of {its : List Item} {tr : List Int} {w S : Int} {v : List Int} (hl : leastcode_Least its w = some ((S, v), 0)) {r : List Int} (h : Rfs (ldOf its S v) tr r) : NoFit its tr (scOf its w S v) := by
  intro S' v' e
  change leastcode_Least its w = _ at e
  rw [hl] at e
  cases e
  exact ⟨r, h⟩
theorem pl_loop {its : List Item} (h : JobGood its 0) (hN : 12 + trains its ≤ LN) {tr : List Int} (hT : TrOK tr) (hne : schL its ≠ []) (e0 : Int) :
    ∃ d, loop (planner_Plan_L10 its tr (insAll (schL its), e0)) ([], 0) = some d ∧
      ((∃ w S v c l, d = .inl (its, w, S, v, c, l, 0) ∧ Planned its tr ((its, w), ((S, v), c), l) [] 0) ∨ ∃ r, d = .inr r ∧ Planned its tr sh0 r 14) := by
  have hp : 0 < (insAll (schL its)).length := by rw [insAll_len _ _ rfl]; exact List.length_pos_iff.2 hne
  have hlen : (insAll (schL its)).length ≤ 4 := by rw [insAll_len _ _ rfl]; exact schL_len its
  refine loop_inv (step := planner_Plan_L10 its tr (insAll (schL its), e0)) (fun s => ∃ i : Nat, s.2 = (i : Int) ∧ i ≤ (insAll (schL its)).length ∧ (∀ x ∈ (insAll (schL its)).take i, NoFit its tr x) ∧
      (0 < i → ∃ w S v c Q, insAll (schL its) = scOf its w S v :: Q ∧ HasPlan its w S v ∧ leastcode_Least its w = some ((S, v), 0) ∧ certificate_Make its w = some (((S, v), c), 0) ∧ Rfs (ldOf its S v) tr s.1)) (fun s => (insAll (schL its)).length - s.2.toNat) _ ?_ ([], 0) ⟨0, rfl, by omega, fun x hx => by simp at hx, fun q => by omega⟩ (by dsimp only; omega)
  rintro ⟨d, _⟩ ⟨i, rfl, hi, hn, hf⟩
  dsimp only at hf ⊢
  by_cases c : i < (insAll (schL its)).length
  · obtain ⟨w, S, v, cc, h1, h2, h3, h4, h5, h6, ⟨l, _, hl, q⟩ | ⟨_, r, _, hr, q⟩⟩ := pl_step h hN hT e0 c
    · refine .inr ⟨_, q d, .inl ⟨w, S, v, cc, l, rfl, ?_⟩⟩
      refine .fits (P := (insAll (schL its)).take i) (Q := (insAll (schL its)).drop (i + 1)) ?_ h2 h3 h4 h5 hl hn
      rw [← h1, ← List.drop_eq_getElem_cons c, List.take_append_drop]
    · refine .inl ⟨_, q d, ⟨i + 1, rfl, c, fun x hx => ?_, fun _ => ?_⟩, by dsimp only; omega⟩
      · rw [List.take_succ_eq_append_getElem c, List.mem_append] at hx
        rcases hx with hx | hx
        · exact hn x hx
        · rw [List.mem_singleton.1 hx, h1]
          exact nofit_of h3 hr
      · dsimp only
        by_cases c0 : i = 0
        · subst c0
          rw [if_pos rfl]
          refine ⟨w, S, v, cc, (insAll (schL its)).drop 1, ?_, h2, h3, h6, hr⟩
          rw [← h1, ← List.drop_eq_getElem_cons c, List.drop_zero]
        · rw [if_neg c0]
          exact hf (by omega)
  · obtain rfl : i = (insAll (schL its)).length := by omega
    refine .inr ⟨_, pl_end tr e0 d, .inr ⟨d, rfl, ?_⟩⟩
    obtain ⟨w, S, v, cc, Q, h1, h2, h3, h4, h5⟩ := hf hp
    exact .room h1 h2 h3 h4 h5 fun x hx => hn x (by rw [List.take_of_length_le (Nat.le_refl _)]; exact hx)
theorem Plan_ok {its : List Item} (h : JobGood its 0) (hN : 12 + trains its ≤ LN) {tr : List Int} (hT : TrOK tr) :
    ∃ s r e, planner_Plan its tr = some (s, r, e) ∧ ((schL its = [] ∧ s = sh0 ∧ r = [] ∧ e = 15) ∨ (schL its ≠ [] ∧ Planned its tr s r e)) := by
  unfold planner_Plan
  rw [Schemes_ok h]
  simp only [obind]
  unfold schR
  by_cases c : schL its = []
  · rw [if_pos c]
    exact ⟨_, _, _, rfl, .inl ⟨c, rfl, rfl, rfl⟩⟩
  · rw [if_neg c, if_neg (by simp)]
    obtain ⟨d, hd, hd2⟩ := pl_loop h hN hT c 0
    rw [hd]
    simp only [obind]
    rcases hd2 with ⟨w, S, v, cc, l, rfl, q⟩ | ⟨r, rfl, q⟩
    · exact ⟨_, _, _, rfl, .inr ⟨c, q⟩⟩
    · exact ⟨_, _, _, rfl, .inr ⟨c, q⟩⟩
end Go.Proofs.YtlejnkhaphlooaaGreat
set_option linter.unusedVariables false
set_option linter.unusedSimpArgs false
set_option linter.unusedSectionVars false
set_option maxRecDepth 100000
namespace Go.Proofs.YtlejnkhaphlooaaGreat
open Go Go.V Go.Proofs
theorem good_of {its : List Item} {wt : Int} (h : job_Valid its wt = some 0) : JobGood its wt := by
  obtain ⟨e, h1, h2⟩ := jobvalid_spec its wt
  rw [h] at h1
  cases h1
  rcases h2 with ⟨_, h2⟩ | ⟨h2, _⟩
  · exact h2
  · exact absurd rfl h2
theorem Least_none {its : List Item} {wt : Int} (hg : JobGood its wt) (h : ∀ v, ¬ IsLst its wt v) : leastcode_Least its wt = some ((0, []), 15) := by
  obtain ⟨p, h1, h2⟩ := Least_ok hg
  rcases h2 with ⟨v, S, m, hv, _⟩ | ⟨rfl, _⟩
  · exact absurd hv (h v)
  · exact h1
theorem Least_some {its : List Item} {wt : Int} (hg : JobGood its wt) {v : List Int} {m : Nat} {S : Int} (hv : IsLst its wt v) (hm : IsMx v m) (hS : LongSpec m S) : leastcode_Least its wt = some ((S, v), 0) := by
  obtain ⟨p, h1, h2⟩ := Least_ok hg
  rcases h2 with ⟨v', S', m', hv', rfl, hm', hS'⟩ | ⟨_, hs⟩
  · have e := lst_unique (fun i => (hg.b i).1) hv hv'
    subst e
    have e := hm.uniq hm'
    subst e
    rw [h1, long_unique hS hS']
  · exact absurd hv (hs.none (fun i => (hg.b i).1) v)
theorem mx_of {v : List Int} {m : Nat} (h : ∀ x ∈ v, x ≤ (m : Int)) (h2 : m = 0 ∨ (m : Int) ∈ v) : IsMx v m := by
  refine ⟨fun y => ?_, ?_⟩
  · by_cases hy : y < v.length
    · rw [List.getD_eq_getElem?_getD, List.getElem?_eq_getElem hy]
      exact h _ (List.getElem_mem hy)
    · rw [List.getD_eq_getElem?_getD, List.getElem?_eq_none (by omega)]
      show (0 : Int) ≤ m
      omega
  · rcases h2 with h2 | h2
    · exact .inl h2
    · obtain ⟨i, hi, e⟩ := List.getElem_of_mem h2
      exact .inr ⟨i, hi, by rw [List.getD_eq_getElem?_getD, List.getElem?_eq_getElem hi]; exact e⟩
theorem schO_of {its : List Item} {w S : Int} {v : List Int} (hg : JobGood its w) (hl : leastcode_Least its w = some ((S, v), 0)) : schO its w = some (scOf its w S v) := by
  rcases sch_cases hg with ⟨S', v', hP, q0, q⟩ | ⟨_, q0, q⟩
  · rw [hl] at q0
    cases q0
    exact schO_some q
  · rw [hl] at q0
    cases q0
theorem schO_no {its : List Item} {w : Int} (hg : JobGood its w) (hl : leastcode_Least its w = some ((0, []), 15)) : schO its w = none := by
  rcases sch_cases hg with ⟨S', v', hP, q0, q⟩ | ⟨_, q0, q⟩
  · rw [hl] at q0
    cases q0
  · exact schO_none q
def T3 : List Item := [(0, 0, 0, 100), (0, 0, 0, 100), (0, 1, 0, 100)]
theorem T3_good (w : Int) (h : w = 0 ∨ w = 1 ∨ w = 2 ∨ w = 12) : JobGood T3 w := by
  rcases h with rfl | rfl | rfl | rfl <;> exact good_of (by decide +kernel)
theorem T3_least (w : Int) (h : w = 0 ∨ w = 1 ∨ w = 2 ∨ w = 12) : leastcode_Least T3 w = some ((0, [0, 0, 0]), 0) := by
  refine Least_some (T3_good w h) ⟨rfl, ?_⟩ (mx_of (m := 0) (by decide) (.inl rfl)) ⟨0, rfl, by omega, by decide, .inl rfl⟩
  rcases h with rfl | rfl | rfl | rfl <;> decide +kernel
theorem T3_sc : Prod.snd (scOf T3 0 0 [0, 0, 0]) = (0, 3, 1) := by decide +kernel
theorem T3_sc' (w : Int) : scOf T3 w 0 [0, 0, 0] = (w, 0, 3, 1) := by
  have h := T3_sc
  unfold scOf at *
  rw [← h]
theorem T3_all : schL T3 = [(0, 0, 3, 1), (1, 0, 3, 1), (2, 0, 3, 1), (12, 0, 3, 1)] := by
  have h0 := schO_of (T3_good 0 (by simp)) (T3_least 0 (by simp))
  have h1 := schO_of (T3_good 1 (by simp)) (T3_least 1 (by simp))
  have h2 := schO_of (T3_good 2 (by simp)) (T3_least 2 (by simp))
  have h3 := schO_of (T3_good 12 (by simp)) (T3_least 12 (by simp))
  rw [T3_sc'] at h0 h1 h2 h3
  unfold schL ws4
  rw [List.filterMap_cons_some h0, List.filterMap_cons_some h1, List.filterMap_cons_some h2, List.filterMap_cons_some h3, List.filterMap_nil]
theorem T3_schemes : planner_Schemes T3 = some ([(0, 0, 3, 1), (1, 0, 3, 1), (2, 0, 3, 1), (12, 0, 3, 1)], 0) := by
  rw [Schemes_ok (T3_good 0 (.inl rfl))]
  unfold schR
  rw [T3_all, if_neg (by simp)]
  exact congrArg some (congrArg (fun x => (x, (0 : Int))) (by decide +kernel))
def T4 : List Item := [(0, 1, 0, 100), (0, 3, 0, 100), (0, 0, 0, 100), (0, 2, 0, 100)]
theorem T4_good (w : Int) (h : w = 0 ∨ w = 1 ∨ w = 2 ∨ w = 12) : JobGood T4 w := by
  rcases h with rfl | rfl | rfl | rfl <;> exact good_of (by decide +kernel)
theorem T4_least (w : Int) (h : w = 1 ∨ w = 2 ∨ w = 12) : leastcode_Least T4 w = some ((2, [1, 2, 0, 1]), 0) := by
  refine Least_some (T4_good w (.inr h)) ⟨rfl, ?_⟩ (mx_of (m := 2) (by decide) (.inr (by decide))) ⟨2, rfl, by omega, by decide, .inr (by decide)⟩
  rcases h with rfl | rfl | rfl <;> decide +kernel
theorem T4_none : leastcode_Least T4 0 = some ((0, []), 15) := by
  refine Least_none (T4_good 0 (.inl rfl)) fun v hv => ?_
  have e2 : need T4 v 2 = 0 := rfl
  have h2 := hv.eq 2 (by decide)
  rw [e2, show NX 0 (rOf T4 2) 0 = (0, 0) by decide +kernel] at h2
  have h2' : v.getD 2 0 = 0 := (congrArg Prod.fst h2).symm
  have e0 : need T4 v 0 = if v.getD 2 0 + 2 - 1 > 0 then v.getD 2 0 + 2 - 1 else 0 := rfl
  rw [h2'] at e0
  have h0 := hv.eq 0 (by decide)
  rw [e0, show NX (if (0 : Int) + 2 - 1 > 0 then 0 + 2 - 1 else 0) (rOf T4 0) 0 = (0, 15) by decide +kernel] at h0
  exact absurd (show (15 : Int) = 0 from congrArg Prod.snd h0) (by decide)
theorem T4_sc : Prod.snd (scOf T4 0 2 [1, 2, 0, 1]) = (2, 7, 3) := by decide +kernel
theorem T4_sc' (w : Int) : scOf T4 w 2 [1, 2, 0, 1] = (w, 2, 7, 3) := by
  have h := T4_sc
  unfold scOf at *
  rw [← h]
theorem T4_all : schL T4 = [(1, 2, 7, 3), (2, 2, 7, 3), (12, 2, 7, 3)] := by
  have h0 := schO_no (T4_good 0 (by simp)) T4_none
  have h1 := schO_of (T4_good 1 (by simp)) (T4_least 1 (by simp))
  have h2 := schO_of (T4_good 2 (by simp)) (T4_least 2 (by simp))
  have h3 := schO_of (T4_good 12 (by simp)) (T4_least 12 (by simp))
  rw [T4_sc'] at h1 h2 h3
  unfold schL ws4
  rw [List.filterMap_cons_none h0, List.filterMap_cons_some h1, List.filterMap_cons_some h2, List.filterMap_cons_some h3, List.filterMap_nil]
theorem T4_ins : insAll (schL T4) = [(1, 2, 7, 3), (2, 2, 7, 3), (12, 2, 7, 3)] := by rw [T4_all]; decide +kernel
theorem T4_ld : ldOf T4 2 [1, 2, 0, 1] = [200, 100, 400] := by decide +kernel
theorem T4_plan {tr : List Int} (hT : TrOK tr) (hl : 3 ≤ tr.length) (hx : ∀ x ∈ tr, 500 ≤ x) : ∃ c l, planner_Plan T4 tr = some (((T4, 1), ((2, [1, 2, 0, 1]), c), l), [], 0) ∧ Accepts T4 1 2 [1, 2, 0, 1] c ∧ Asg (ldOf T4 2 [1, 2, 0, 1]) tr l := by
  have hno : ¬ NoFit T4 tr (1, 2, 7, 3) := fun h => by
    obtain ⟨r, hr⟩ := h _ _ (T4_least 1 (.inl rfl))
    refine nofew_f (fun i => i) (fun i hi h0 => ?_) (fun i j _ _ _ _ e => e) hr.few
    rw [T4_ld] at hi ⊢
    have hi3 : i < 3 := hi
    have h1 : vw tr i ∈ tr := vw_mem (by omega)
    have h2 := hx _ h1
    refine ⟨by omega, ?_⟩
    have : ∀ i, i < 3 → vw [200, 100, 400] i ≤ 500 := by decide
    have := this i hi3
    omega
  obtain ⟨s, r, e, h1, ⟨h2, _⟩ | ⟨_, h2⟩⟩ := Plan_ok (T4_good 0 (.inl rfl)) (by decide) hT
  · rw [T4_all] at h2; cases h2
  · rw [h1]
    cases h2 with
    | @fits P w S v c l Q hL hP hl hA hc ha hn =>
      rw [T4_ins] at hL
      cases P with
      | nil =>
        have hs : (1, 2, 7, 3) = scOf T4 w S v := (List.cons.inj hL).1
        have hw : (1 : Int) = w := congrArg Prod.fst hs
        subst hw
        rw [T4_least 1 (.inl rfl)] at hl
        cases hl
        exact ⟨c, l, rfl, hA, ha⟩
      | cons p P =>
        have hs : (1, 2, 7, 3) = p := (List.cons.inj hL).1
        exact absurd (hs ▸ hn p List.mem_cons_self) hno
    | room hL hP hl hM hr hn =>
      exact absurd (hn _ (by rw [T4_ins]; exact List.mem_cons_self)) hno
theorem sane17 : law17_sane = some true := by
  have h1 : law17_items [0, 0, 1] = some T3 := by decide +kernel
  have h2 : law17_items [1, 3, 0, 2] = some T4 := by decide +kernel
  have h3 : ∃ l, planner_Items ([(([([98] : List UInt8)] : List (List UInt8)))] : List (List (List UInt8))) ([(([51, 49, 56, 48, 50, 55, 55, 51, 49, 50, 51, 55] : List UInt8), 100, 2, 100, 0, 0, false, ([97] : List UInt8))] : List ((List UInt8) × Int × Int × Int × Int × Int × Bool × (List UInt8))) = some (l, 13) := ⟨[], by decide +kernel⟩
  obtain ⟨c, l, h4, _⟩ := T4_plan (tr := [500, 500, 500]) ⟨by decide, by decide⟩ (by decide) (by decide)
  obtain ⟨k, h3⟩ := h3
  unfold law17_sane
  rw [h1]
  simp only [obind]
  rw [T3_schemes]
  simp only [obind]
  rw [h2]
  simp only [obind]
  rw [h4]
  simp only [obind]
  rw [h3]
  simp only [obind]
  rw [if_pos (by decide), if_pos (by decide), show (0 : Int) = ((0 : Nat) : Int) from rfl, idx_nat]
  rfl
end Go.Proofs.YtlejnkhaphlooaaGreat
set_option linter.unusedVariables false
set_option linter.unusedSimpArgs false
set_option maxRecDepth 100000
namespace Go.Proofs.YtlejnkhaphlooaaGreat
open Go Go.V Go.Proofs
theorem items_same (a : List Item) (h : a.length < 4611686018427387904) : gen_Items a a = some true := by
  unfold gen_Items
  rw [if_neg (by simp)]
  have h1 := loop_count (gen_Items_L4 a a) (.inr ()) 0 a.length (by omega) (by omega) (fun i _ hi => by
    unfold gen_Items_L4
    dsimp only
    rw [if_pos (dpos (by omega)), idx_nat, List.getElem?_eq_getElem hi]
    simp only [obind]
    rw [if_neg (by simp), wr_id (by omega) (by omega)]) (by
    unfold gen_Items_L4
    dsimp only
    rw [if_neg (dneg (by omega))])
  rw [show ((0 : Nat) : Int) = 0 from rfl] at h1
  rw [h1]
  rfl
end Go.Proofs.YtlejnkhaphlooaaGreat
set_option linter.unusedVariables false
set_option linter.unusedSectionVars false
set_option linter.unusedSimpArgs false
set_option maxRecDepth 100000
namespace Go.Proofs.YtlejnkhaphlooaaGreat
open Go Go.V Go.Proofs
theorem fromI (l : List Int) (k a b : Int) (hk : 0 ≤ k) (hk2 : k ≤ 100000000) (hab : a ≤ b) (ha : -1000000 ≤ a) (hb : b ≤ 1000000) : ∃ v, gen_Maker_From l k a b = some (v, k + 1) ∧ a ≤ v ∧ v ≤ b := by
  unfold gen_Maker_From
  rw [wr_id (n := b - a) (by omega) (by omega), wr_id (n := b - a + 1) (by omega) (by omega)]
  obtain ⟨v, e1, e2, e3⟩ := next_ok l k (b - a + 1) hk (by omega) (by omega) (by omega)
  rw [e1]
  simp only [obind]
  rw [wr_id (by omega) (by omega)]
  exact ⟨_, rfl, by omega, by omega⟩
theorem order_mk (l : List Int) (k n : Int) (hk : 0 ≤ k) (hk2 : k < 10000000) (hn : 0 ≤ n ∧ n ≤ 4) : ∃ d k', loop (law17_orders_L13 l) (k, ([] : List (List UInt8)), n) = some (k', d) ∧ k ≤ k' ∧ k' ≤ k + 4 := by
  obtain ⟨d, hd, h1, h2⟩ := loop_inv (step := law17_orders_L13 l) (fun s => 0 ≤ s.2.2 ∧ (s.2.1.length : Int) + s.2.2 = n ∧ s.1 = k + s.2.1.length) (fun s => s.2.2.toNat) (fun d => k ≤ d.1 ∧ d.1 ≤ k + 4) (by
    rintro ⟨e, d, i⟩ ⟨h0, h1, h2⟩
    dsimp only at h0 h1 h2 ⊢
    unfold law17_orders_L13
    dsimp only
    by_cases c : i > 0
    · obtain ⟨x, q1, _⟩ := name_mk l e (by omega) (by omega)
      rw [if_pos (dpos c), q1]
      simp only [obind]
      rw [if_pos (by simp only [List.length_singleton]; omega), wr_id (by omega) (by omega)]
      exact .inl ⟨_, rfl, ⟨by dsimp only; omega, by simp; omega, by simp; omega⟩, by dsimp only; omega⟩
    · rw [if_neg (dneg c)]
      exact .inr ⟨_, rfl, by dsimp only; omega, by dsimp only; omega⟩) (k, [], n) ⟨hn.1, by simp, by simp⟩ (by dsimp only; omega)
  exact ⟨d.2, d.1, hd, h1, h2⟩
theorem orders_mk (l : List Int) (k : Int) (hk : 0 ≤ k) (hk2 : k < 1000000) : ∃ o k', law17_orders l k = some (o, k') ∧ k ≤ k' ∧ k' ≤ k + 30 ∧ o.length ≤ 4 := by
  obtain ⟨n, e1, n1, n2⟩ := fromI l k 1 4 hk (by omega) (by omega) (by omega) (by omega)
  unfold law17_orders
  rw [e1]
  simp only [obind]
  obtain ⟨d, hd, h1, h2, h3⟩ := loop_inv (step := law17_orders_L5 l) (fun s => 0 ≤ s.2.2 ∧ (s.2.1.length : Int) + s.2.2 = n ∧ k + 1 ≤ s.1 ∧ s.1 ≤ k + 1 + 5 * s.2.1.length) (fun s => s.2.2.toNat) (fun d => k ≤ d.1 ∧ d.1 ≤ k + 30 ∧ d.2.length ≤ 4) (by
    rintro ⟨e, d, i⟩ ⟨h0, h1, h2, h3⟩
    dsimp only at h0 h1 h2 h3 ⊢
    unfold law17_orders_L5
    dsimp only
    by_cases c : i > 0
    · obtain ⟨m, q1, m0, m1⟩ := next_ok l e 5 (by omega) (by omega) (by omega) (by omega)
      obtain ⟨x, k', q2, q3, q4⟩ := order_mk l (e + 1) m (by omega) (by omega) (by omega)
      rw [if_pos (dpos c), q1]
      simp only [obind]
      rw [q2]
      simp only [obind]
      rw [if_pos (by simp only [List.length_singleton]; omega), wr_id (by omega) (by omega)]
      exact .inl ⟨_, rfl, ⟨by dsimp only; omega, by simp; omega, by dsimp only; omega, by simp; omega⟩, by dsimp only; omega⟩
    · rw [if_neg (dneg c)]
      exact .inr ⟨_, rfl, by dsimp only; omega, by dsimp only; omega, by dsimp only; omega⟩) (k + 1, [], n) ⟨by dsimp only; omega, by simp, by dsimp only; omega, by simp⟩ (by dsimp only; omega)
  rw [hd]
  exact ⟨_, _, rfl, h1, h2, h3⟩
theorem spoilw_mk (l : List Int) (k : Int) (w : Wg) (hk : 0 ≤ k) (hk2 : k < 10000000) (h1 : w.1.length ≤ 1000) (h2 : w.2.2.2.2.2.2.2.length ≤ 1000) :
    ∃ x k', gen_Maker_SpoilWagon l k w.1 w.2.1 w.2.2.1 w.2.2.2.1 w.2.2.2.2.1 w.2.2.2.2.2.1 w.2.2.2.2.2.2.1 w.2.2.2.2.2.2.2 = some (x, k') ∧ k ≤ k' ∧ k' ≤ k + 10 ∧ x.1.length ≤ 2000 ∧ x.2.2.2.2.2.2.2.length ≤ 2000 := by
  obtain ⟨c, e1, c0, c1⟩ := next_ok l k 8 hk (by omega) (by omega) (by omega)
  unfold gen_Maker_SpoilWagon
  rw [e1]
  simp only [obind]
  by_cases a0 : c = 0
  · obtain ⟨s, k', q1, q2, q3, q4⟩ := spoil_ok l (k + 1) w.1 (by omega) (by omega) (by omega)
    rw [if_pos (by simpa using a0), q1]
    exact ⟨_, _, rfl, by dsimp only; omega, by dsimp only; omega, by dsimp only; omega, by dsimp only; omega⟩
  · rw [if_neg (by simpa using a0)]
    by_cases a1 : c = 1
    · obtain ⟨v, q1, _⟩ := pick_ok l (k + 1) [0, 2, 4, 6, 8, (-1)] (by omega) (by omega) (by decide) (by decide)
      rw [if_pos (by simpa using a1), q1]
      exact ⟨_, _, rfl, by dsimp only; omega, by dsimp only; omega, by dsimp only; omega, by dsimp only; omega⟩
    · rw [if_neg (by simpa using a1)]
      by_cases a2 : c = 2
      · obtain ⟨v, q1, _⟩ := pick_ok l (k + 1) [79, 80, 119, 401, 0, (-5)] (by omega) (by omega) (by decide) (by decide)
        rw [if_pos (by simpa using a2), q1]
        exact ⟨_, _, rfl, by dsimp only; omega, by dsimp only; omega, by dsimp only; omega, by dsimp only; omega⟩
      · rw [if_neg (by simpa using a2)]
        by_cases a3 : c = 3
        · obtain ⟨v, q1, _⟩ := pick_ok l (k + 1) [49, 50, 2001, (-1)] (by omega) (by omega) (by decide) (by decide)
          rw [if_pos (by simpa using a3), q1]
          exact ⟨_, _, rfl, by dsimp only; omega, by dsimp only; omega, by dsimp only; omega, by dsimp only; omega⟩
        · rw [if_neg (by simpa using a3)]
          by_cases a4 : c = 4
          · obtain ⟨v, q1, _⟩ := pick_ok l (k + 1) [(-1), w.2.2.2.1, IntKind.i64.wrap (w.2.2.2.1 + 1)] (by omega) (by omega) (by simp) (by simp)
            rw [if_pos (by simpa using a4), q1]
            exact ⟨_, _, rfl, by dsimp only; omega, by dsimp only; omega, by dsimp only; omega, by dsimp only; omega⟩
          · rw [if_neg (by simpa using a4)]
            by_cases a5 : c = 5
            · obtain ⟨v, q1, _⟩ := pick_ok l (k + 1) [(-1), 9, 10] (by omega) (by omega) (by decide) (by decide)
              rw [if_pos (by simpa using a5), q1]
              exact ⟨_, _, rfl, by dsimp only; omega, by dsimp only; omega, by dsimp only; omega, by dsimp only; omega⟩
            · rw [if_neg (by simpa using a5)]
              by_cases a6 : c = 6
              · obtain ⟨j, q1, j1⟩ := next_nat l (k + 1) 5 (by omega) (by omega) (by omega) (by omega)
                rw [if_pos (by simpa using a6), q1]
                simp only [obind]
                have hall : ∀ y ∈ ([([] : List UInt8), ([65] : List UInt8), ([97, 32, 98] : List UInt8), ([97, 98, 99, 100, 101, 102, 103, 104, 105, 106, 107, 108, 109] : List UInt8), ([45] : List UInt8)] : List (List UInt8)), y.length ≤ 13 := by decide
                have hj : j < ([([] : List UInt8), ([65] : List UInt8), ([97, 32, 98] : List UInt8), ([97, 98, 99, 100, 101, 102, 103, 104, 105, 106, 107, 108, 109] : List UInt8), ([45] : List UInt8)] : List (List UInt8)).length := by show j < 5; omega
                rw [idx_nat, List.getElem?_eq_getElem hj]
                simp only [obind]
                have := hall _ (List.getElem_mem hj)
                exact ⟨_, _, rfl, by omega, by omega, by dsimp only; omega, by dsimp only; omega⟩
              · rw [if_neg (by simpa using a6)]
                exact ⟨_, _, rfl, by omega, by omega, by dsimp only; omega, by dsimp only; omega⟩
theorem J23_ok (i : Nat) (hi : i < 4) (o : List (List (List UInt8))) (k : Int) (ws : List Wg) (hs : WStr ws) : law17_PlannerItems_J23 (i : Int) o k ws = some (.next (k, ((i + 1 : Nat) : Int))) := by
  unfold law17_PlannerItems_J23
  obtain ⟨h1, r, h2, h3⟩ := items_eq o ws hs
  rw [h2]
  simp only [obind]
  rw [h1, h2]
  simp only [obind]
  rw [items_same r.1 (by omega)]
  simp only [obind]
  rw [if_neg (by decide), if_neg (by simp), wi1 (by omega)]
theorem J43_ok (o : List (List (List UInt8))) (l : List Wg) (hs : WStr l) (b : Bool) : law17_PlannerItems_J43 o l b = some true := by
  unfold law17_PlannerItems_J43
  cases b with
  | true => rw [if_pos rfl, sane17]; rfl
  | false =>
    rw [if_neg (by decide)]
    obtain ⟨h1, r, h2, h3⟩ := items_eq o l hs
    rw [h2]
    simp only [obind]
    rw [h1, h2]
    simp only [obind]
    rw [items_same r.1 (by omega)]
    simp only [obind]
    rw [if_pos trivial, if_pos (by simp), sane17]; rfl
theorem itlaw_ok (t : List Int) (o : List (List (List UInt8))) (l : List Wg) (ht : ∀ y ∈ t, (Lit.int .i64 y).wf = true) (ho : ∀ y ∈ o, ∀ z ∈ y, z.length ≤ maxLen)
    (hl : ∀ y ∈ l, y.1.length ≤ maxLen ∧ (Lit.int .i64 y.2.1).wf = true ∧ (Lit.int .i64 y.2.2.1).wf = true ∧ (Lit.int .i64 y.2.2.2.1).wf = true ∧ (Lit.int .i64 y.2.2.2.2.1).wf = true ∧ (Lit.int .i64 y.2.2.2.2.2.1).wf = true ∧ True ∧ y.2.2.2.2.2.2.2.length ≤ maxLen) : law17_PlannerItems t o l = some true := by
  have hs : WStr l := fun w hw => by
    obtain ⟨h1, _, _, _, _, _, _, h2⟩ := hl w hw
    unfold maxLen at h1 h2
    omega
  unfold law17_PlannerItems gen_New
  simp only [obind]
  obtain ⟨d, hd, rfl⟩ := loop_inv (step := law17_PlannerItems_L9 (t, 0)) (fun s => ∃ i : Nat, s.2 = (i : Int) ∧ i ≤ 4 ∧ 0 ≤ s.1 ∧ s.1 ≤ 3000 * i) (fun s => 4 - s.2.toNat) (fun d => d = .inr ()) (by
    rintro ⟨k, _⟩ ⟨i, rfl, hi, k0, k1⟩
    dsimp only at k0 k1 ⊢
    unfold law17_PlannerItems_L9
    dsimp only
    by_cases c : i < 4
    · left
      obtain ⟨ws, k2, e1, e2, e3, e4, e5⟩ := wagons_mk t k 6 k0 (by omega) (by omega)
      obtain ⟨x, k3, f1, f2, f3, f4⟩ := orders_mk t k2 (by omega) (by omega)
      have hws : WStr ws := MadeW.wstr e5
      have key : ∀ o : List (List (List UInt8)), ∃ k4, law17_PlannerItems_J17 (t, 0) (i : Int) (ws, k2) (x, k3) o = some (.next (k4, ((i + 1 : Nat) : Int))) ∧ k3 ≤ k4 ∧ k4 ≤ k3 + 20 := by
        intro o
        unfold law17_PlannerItems_J17
        have key2 : ∀ b : Bool, (b = true → 0 < ws.length) → ∃ k4, law17_PlannerItems_J24 (t, 0) (i : Int) (ws, k2) (x, k3) o b = some (.next (k4, ((i + 1 : Nat) : Int))) ∧ k3 ≤ k4 ∧ k4 ≤ k3 + 20 := by
          intro b hb
          unfold law17_PlannerItems_J24
          cases b with
          | false =>
            rw [if_neg (by decide), J23_ok i c o _ ws hws]
            exact ⟨_, rfl, Int.le_refl _, by dsimp only; omega⟩
          | true =>
            have hp := hb rfl
            rw [if_pos rfl]
            dsimp only
            obtain ⟨j, g1, g2⟩ := next_nat t k3 (ws.length : Int) (by omega) (by omega) (by omega) (by omega)
            rw [g1]
            simp only [obind]
            have hj : j < ws.length := by omega
            rw [idx_nat, List.getElem?_eq_getElem hj]
            simp only [obind]
            have hm := (e5 _ (List.getElem_mem hj)).str
            obtain ⟨y, k5, q1, q2, q3, q4, q5⟩ := spoilw_mk t (k3 + 1) ws[j] (by omega) (by omega) (by omega) (by omega)
            rw [q1]
            simp only [obind]
            rw [J23_ok i c o _ _ (fun w hw => by
              rcases List.mem_or_eq_of_mem_set hw with hw | rfl
              · exact hws w hw
              · dsimp only; omega)]
            exact ⟨_, rfl, by omega, by omega⟩
        by_cases a3 : i = 3
        · rw [if_pos (by subst a3; decide)]
          exact key2 _ (fun q => by have := of_decide_eq_true q; simp only at this; omega)
        · rw [if_neg (by simp; omega)]
          exact key2 false (fun q => by cases q)
      rw [if_pos (dpos (by omega)), show (6 : Int) = ((6 : Nat) : Int) from rfl, e1]
      simp only [obind]
      rw [f1]
      simp only [obind]
      by_cases c1 : (i : Int) > 1
      · rw [if_pos (dpos c1), if_pos (by simp only [List.length_singleton]; omega)]
        obtain ⟨k4, g1, g2, g3⟩ := key _
        rw [g1]
        exact ⟨_, rfl, ⟨i + 1, rfl, by omega, by dsimp only; omega, by dsimp only; omega⟩, by dsimp only; omega⟩
      · rw [if_neg (dneg c1)]
        obtain ⟨k4, g1, g2, g3⟩ := key x
        rw [g1]
        exact ⟨_, rfl, ⟨i + 1, rfl, by omega, by dsimp only; omega, by dsimp only; omega⟩, by dsimp only; omega⟩
    · right
      rw [if_neg (dneg (by omega))]
      exact ⟨_, rfl, rfl⟩) (0, 0) ⟨0, rfl, by omega, by decide, by decide⟩ (by decide)
  rw [hd]
  simp only [obind]
  split
  · exact J43_ok o l hs _
  · exact J43_ok o l hs _
end Go.Proofs.YtlejnkhaphlooaaGreat
