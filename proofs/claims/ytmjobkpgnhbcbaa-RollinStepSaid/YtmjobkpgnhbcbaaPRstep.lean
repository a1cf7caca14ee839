/- Plain law of RollinStep: the tracks behind a step follow from those before it. No condition. -/
import Derived.Test.YtmjobkpgnhbcbaaPRloads
import Derived.Test.YtmjobkpgnhbcbaaGRollinStep
set_option linter.unusedVariables false
set_option linter.unusedSectionVars false
set_option maxRecDepth 100000
namespace Go.Proofs.Ytmjobkpgnhbcbaa
open Go Go.V Go.Proofs

theorem lists_same (a : List (List Int)) (ha : a.length < 4611686018427387904) (hr : ∀ x ∈ a, x.length < 4611686018427387904) : gen_Lists a a = some true := by
  unfold gen_Lists
  rw [if_neg (by simp)]
  have := loop_count (gen_Lists_L4 a a) (.inr ()) 0 a.length (by omega) ha
    (fun x _ hx => by
      have hy : a[x]? = some a[x] := List.getElem?_eq_getElem hx
      unfold gen_Lists_L4
      simp only
      rw [if_pos (dpos (by omega)), idx_nat, hy]
      simp only [Option.bind_some]
      rw [ints_ok _ _ (hr _ (List.getElem_mem hx))]
      simp only [Option.bind_some, decide_true, Bool.not_true, Bool.false_eq_true, if_false]
      rw [wr_id (by omega) (by omega)])
    (by
      unfold gen_Lists_L4
      simp only
      rw [if_neg (dneg (by omega))])
  rw [show (0 : Int) = ((0 : Nat) : Int) from rfl, this]
  rfl

theorem nb_none {c S : Nat} : ∀ {t : Nat}, nb c S t = none → ∀ j, t ≤ j → j < S → c.testBit j = false := by
  intro t
  induction h : S - t generalizing t with
  | zero => intro _ j h1 h2; omega
  | succ m ih =>
    intro hn j hj1 hj2
    rw [nb, if_pos (by omega)] at hn
    split at hn
    · cases hn
    · rename_i hc
      by_cases hjt : j = t
      · subst hjt; simpa using hc
      · exact ih (t := t + 1) (by omega) hn j (by omega) hj2

/-- The track that an item goes to, as the law finds it. -/
def dest (o : Option Nat) : Int := match o with | some b => (b : Int) | none => -1

theorem ST68_ok (p1 S : Int) (cs : List Int) (k e : Int) (c r s τ : Nat) (hτ : IntKind.i64.wrap (1 + (Int.tmod (IntKind.i64.wrap ((Int.tmod p1 S) + S)) S)) = (τ : Int)) (hc : c < 2 ^ s) (hs : s ≤ 12) (hr : r ≤ τ) :
    loop (law14_RollinStep_L68 p1 ((S, cs), k) (castL (bitsL c r 12), e)) ((-1), IntKind.i64.wrap (((castL (bitsL c r 12)).length : Int) - 1)) = some (dest (nb c s τ)) := by
  have hbl := bitsL_len c r 12
  have hmem : ∀ y, y ∈ bitsL c r 12 ↔ y < 12 ∧ r ≤ y ∧ c.testBit y = true := by
    intro y
    simp only [bitsL, List.mem_filter, List.mem_range, Bool.and_eq_true, decide_eq_true_eq]
  have hsort : (bitsL c r 12).Pairwise (· < ·) := List.Pairwise.sublist List.filter_sublist List.pairwise_lt_range
  have hbs : ∀ y, c.testBit y = true → y < s := by
    intro y hy
    rcases Nat.lt_or_ge y s with h | h
    · exact h
    · rw [Nat.testBit_lt_two_pow (Nat.lt_of_lt_of_le hc (Nat.pow_le_pow_right (by omega) h))] at hy; cases hy
  generalize bitsL c r 12 = bs at *
  have hasc : ∀ i j (hi : i < bs.length) (hj : j < bs.length), bs[i] < bs[j] → i < j := by
    intro i j hi hj h
    rcases Nat.lt_or_ge i j with h1 | h1
    · exact h1
    · rcases Nat.eq_or_lt_of_le h1 with h2 | h2
      · subst h2; omega
      · have := List.pairwise_iff_getElem.1 hsort j i hj hi h2; omega
  rw [castL_len, wr_id (by omega) (by omega)]
  obtain ⟨d, h1, h2⟩ := loop_inv (step := law14_RollinStep_L68 p1 ((S, cs), k) (castL bs, e))
    (fun st => ∃ n : Nat, n ≤ bs.length ∧ st.2 = (n : Int) - 1 ∧ ((st.1 = -1 ∧ ∀ j (hj : j < bs.length), n ≤ j → bs[j] < τ) ∨ (∃ j, ∃ hj : j < bs.length, n ≤ j ∧ st.1 = (bs[j] : Int) ∧ τ ≤ bs[j] ∧ ∀ i (hi : i < bs.length), n ≤ i → i < j → bs[i] < τ)))
    (fun st => (st.2 + 1).toNat) (fun d => d = dest (nb c s τ)) (by
    rintro ⟨to, i⟩ ⟨n, hn, hi, hP⟩
    simp only at hi hP
    subst hi
    unfold law14_RollinStep_L68
    simp only
    by_cases hn0 : 0 < n
    · have hlt : n - 1 < bs.length := by omega
      have hb : bs[n - 1]? = some bs[n - 1] := List.getElem?_eq_getElem hlt
      rw [if_pos (dpos (by omega)), show (n : Int) - 1 = ((n - 1 : Nat) : Int) by omega, idx_nat, castL_get, hb]
      simp only [Option.map_some, Option.bind_some]
      rw [hτ, wr_id (n := ((n - 1 : Nat) : Int) - 1) (by omega) (by omega)]
      by_cases hge : (bs[n - 1] : Int) ≥ (τ : Int)
      · rw [if_pos (dpos hge)]
        refine .inl ⟨_, rfl, ⟨n - 1, by omega, rfl, .inr ⟨n - 1, hlt, Nat.le_refl _, rfl, by omega, fun i hi h1 h2 => by omega⟩⟩, by simp only; omega⟩
      · rw [if_neg (dneg hge)]
        refine .inl ⟨_, rfl, ⟨n - 1, by omega, rfl, ?_⟩, by simp only; omega⟩
        rcases hP with ⟨p1, p2⟩ | ⟨j, hj, p1, p2, p3, p4⟩
        · refine .inl ⟨p1, fun j hj h => ?_⟩
          by_cases hjn : j = n - 1
          · subst hjn; omega
          · exact p2 j hj (by omega)
        · refine .inr ⟨j, hj, by omega, p2, p3, fun i hi h1 h2 => ?_⟩
          by_cases hjn : i = n - 1
          · subst hjn; omega
          · exact p4 i hi (by omega) h2
    · rw [if_neg (dneg (by omega))]
      refine .inr ⟨_, rfl, ?_⟩
      have hn' : n = 0 := by omega
      subst hn'
      rcases hP with ⟨p1, p2⟩ | ⟨j, hj, p1, p2, p3, p4⟩
      · cases hnb : nb c s τ with
        | none => exact p1
        | some b =>
          obtain ⟨q1, q2, q3, q4⟩ := nb_some hnb
          obtain ⟨i, hi, he⟩ := List.getElem_of_mem ((hmem b).2 ⟨by omega, by omega, q3⟩)
          have := p2 i hi (Nat.zero_le _)
          omega
      · have hm := (hmem bs[j]).1 (List.getElem_mem hj)
        cases hnb : nb c s τ with
        | none =>
          have := nb_none hnb bs[j] p3 (hbs _ hm.2.2)
          rw [this] at hm
          exact absurd hm.2.2 (by decide)
        | some b =>
          obtain ⟨q1, q2, q3, q4⟩ := nb_some hnb
          obtain ⟨i, hi, he⟩ := List.getElem_of_mem ((hmem b).2 ⟨by omega, by omega, q3⟩)
          have hbj : b = bs[j] := by
            rcases Nat.lt_trichotomy b bs[j] with h | h | h
            · have h5 := hasc i j hi hj (by omega)
              have := p4 i hi (Nat.zero_le _) h5
              omega
            · exact h
            · have := q4 bs[j] p3 h
              rw [this] at hm
              exact absurd hm.2.2 (by decide)
          rw [p2, hbj]; rfl) ((-1), (bs.length : Int) - 1) ⟨bs.length, Nat.le_refl _, rfl, .inl ⟨rfl, fun j hj h => by omega⟩⟩ (by simp only; omega)
  rw [h1, h2]

section
variable {items : List Item} {wt S : Int} {codes : List Int} (hg : Good items wt S codes)
include hg

theorem ST36_ok (p1 k1 k2 : Int) (τ : Nat) (hτ : IntKind.i64.wrap (1 + (Int.tmod (IntKind.i64.wrap ((Int.tmod p1 S) + S)) S)) = (τ : Int)) (P : List Nat) (hP : P.length ≤ 1000) :
    loop (law14_RollinStep_L36 p1 ((items, wt), k1) ((S, codes), k2)) (castL P, 0) = some (castL (P ++ (yard items S codes).new τ)) := by
  have hl := hg.job.len
  let nw (i : Nat) : List Nat := (List.range i).filter fun x => (yard items S codes).rd x == τ
  have hnl : ∀ i, (nw i).length ≤ i := fun i => by
    have := List.length_filter_le (fun x => (yard items S codes).rd x == τ) (List.range i)
    simpa using this
  obtain ⟨d, h1, h2⟩ := loop_inv (step := law14_RollinStep_L36 p1 ((items, wt), k1) ((S, codes), k2)) (fun s => ∃ i : Nat, i ≤ items.length ∧ s = (castL (P ++ nw i), (i : Int))) (fun s => items.length - s.2.toNat) (fun d => d = castL (P ++ nw items.length)) (by
    rintro _ ⟨i, hi, rfl⟩
    unfold law14_RollinStep_L36
    simp only
    by_cases hil : i < items.length
    · obtain ⟨x, c, hx, hc, hgd, ec, hcl, er, et, htr, _⟩ := item_at hg hil
      have h3 := hnl i
      have hns : nw (i + 1) = nw i ++ [i].filter (fun x => (yard items S codes).rd x == τ) := by simp only [nw, List.range_succ, List.filter_append]
      rw [if_pos (dpos (by omega)), idx_nat, hx]
      simp only [Option.bind_some]
      rw [hτ, er, wr_id (n := (i : Int) + 1) (by omega) (by omega)]
      by_cases hr : (yard items S codes).rd i = τ
      · have hns' : nw (i + 1) = nw i ++ [i] := by rw [hns]; simp [hr]
        rw [if_pos (by simp [hr]), if_pos (by rw [castL_len, List.length_append]; simp only [List.length_cons, List.length_nil]; omega)]
        refine .inl ⟨_, rfl, ⟨i + 1, by omega, ?_⟩, by simp only; omega⟩
        rw [hns', ← List.append_assoc, castL_app (P ++ nw i)]
        rfl
      · have hns' : nw (i + 1) = nw i := by rw [hns]; simp [hr]
        rw [if_neg (by simpa using (by omega : ¬ ((yard items S codes).rd i : Int) = (τ : Int)))]
        exact .inl ⟨_, rfl, ⟨i + 1, by omega, by rw [hns']; rfl⟩, by simp only; omega⟩
    · rw [if_neg (dneg (by omega))]
      exact .inr ⟨_, rfl, by rw [show i = items.length by omega]⟩) (castL P, 0) ⟨0, by omega, by simp [nw]⟩ (by simp; omega)
  rw [h1, h2]
  rfl

theorem ST52_ok (p1 k1 k2 : Int) (τ : Nat) (hτ : IntKind.i64.wrap (1 + (Int.tmod (IntKind.i64.wrap ((Int.tmod p1 S) + S)) S)) = (τ : Int)) (f g : Nat → List Nat) (xs : List Nat)
    (hxs : ∀ x ∈ xs, x < items.length ∧ (yard items S codes).rd x ≤ τ) (hxl : xs.length ≤ 1000) (hf : ∀ b, (f b).length ≤ 1000) (hgl : ∀ b, (g b).length ≤ 1000) :
    loop (law14_RollinStep_L52 p1 ((items, wt), k1) ((S, codes), k2) (castL xs)) (rows f S.toNat, rows g (trains items), 0) =
      some (.inr (rows (upA (yard items S codes) f τ xs) S.toNat, rows (upB (yard items S codes) g τ xs) (trains items))) := by
  have hl := hg.job.len
  obtain ⟨hS0, hS1⟩ := hg.st
  have hp12 := pow_le S.toNat (by omega)
  obtain ⟨d, h1, h2⟩ := loop_inv (step := law14_RollinStep_L52 p1 ((items, wt), k1) ((S, codes), k2) (castL xs))
    (fun s => ∃ i : Nat, i ≤ xs.length ∧ s = (rows (upA (yard items S codes) f τ (xs.take i)) S.toNat, rows (upB (yard items S codes) g τ (xs.take i)) (trains items), (i : Int)))
    (fun s => xs.length - s.2.2.toNat) (fun d => d = .inr (rows (upA (yard items S codes) f τ xs) S.toNat, rows (upB (yard items S codes) g τ xs) (trains items))) (by
    rintro _ ⟨i, hi, rfl⟩
    unfold law14_RollinStep_L52
    simp only
    by_cases hil : i < xs.length
    · have hxi : xs[i]? = some xs[i] := List.getElem?_eq_getElem hil
      obtain ⟨hxn, hxr⟩ := hxs _ (List.getElem_mem hil)
      have hta : xs.take (i + 1) = xs.take i ++ [xs[i]] := List.take_succ_eq_append_getElem hil
      have htl : (xs.take i).length = i := by rw [List.length_take]; omega
      have uA : ∀ b, (upA (yard items S codes) f τ (xs.take i) b).length ≤ 2000 := fun b => by
        have := upA_len (yard items S codes) f τ (xs.take i) b
        have := hf b; omega
      have uB : ∀ b, (upB (yard items S codes) g τ (xs.take i) b).length ≤ 2000 := fun b => by
        have := upB_len (yard items S codes) g τ (xs.take i) b
        have := hgl b; omega
      have sA : ∀ b, upA (yard items S codes) f τ (xs.take (i + 1)) b = upA (yard items S codes) f τ (xs.take i) b ++ [xs[i]].filter (fun x => nb ((yard items S codes).c x) (yard items S codes).S τ == some b) := fun b => by rw [hta, upA_app]
      have sB : ∀ b, upB (yard items S codes) g τ (xs.take (i + 1)) b = upB (yard items S codes) g τ (xs.take i) b ++ [xs[i]].filter (fun x => nb ((yard items S codes).c x) (yard items S codes).S τ == none && (yard items S codes).tr x == b) := fun b => by rw [hta, upB_app]
      have hYS : (yard items S codes).S = S.toNat := rfl
      rw [hYS] at sA sB
      generalize xs[i] = x at *
      obtain ⟨it, c, hit, hc, hgd, ec, hcl, er, et, htr, hn⟩ := item_at hg hxn
      have hr12 : (yard items S codes).rd x ≤ 12 := by have := hgd.2.2.1; omega
      rw [if_pos (dpos (by rw [castL_len]; omega)), idx_nat, castL_get, hxi]
      simp only [Option.map_some, Option.bind_some]
      rw [if_neg (dneg (by omega)), if_neg (dneg (by omega)), idx_nat (xs := items), hit]
      simp only [Option.bind_some]
      rw [if_neg (dneg (by rw [rows_len]; omega)), idx_nat, hc]
      simp only [Option.bind_some]
      rw [ec, er, Real_ok _ _ wt.toNat hr12 (by omega) hn]
      simp only [Option.bind_some, bne_self_eq_false, Bool.false_eq_true, if_false]
      rw [ST68_ok p1 S codes k2 0 _ _ S.toNat τ hτ hcl (by omega) hxr]
      simp only [Option.bind_some]
      rw [wr_id (n := (i : Int) + 1) (by omega) (by omega)]
      generalize hcc : (yard items S codes).c x = cx at *
      generalize htt : (yard items S codes).tr x = tx at *
      have ca : ∀ (l : List Nat), ([] : List Int) ++ castL l ++ [(x : Int)] = castL (l ++ [x]) := fun l => by rw [castL_app]; rfl
      cases hnb : nb cx S.toNat τ with
      | none =>
        rw [if_pos (dpos (show dest none < 0 by decide)), et, idx_nat, rows_get _ htr]
        simp only [Option.bind_some]
        rw [if_pos (by rw [castL_len]; have := uB tx; simp only [List.length_nil]; omega), if_pos (by rw [List.length_append, castL_len]; have := uB tx; simp only [List.length_cons, List.length_nil]; omega), ca]
        refine .inl ⟨_, rfl, ⟨i + 1, by omega, ?_⟩, by simp only; omega⟩
        rw [Int.toNat_natCast]
        congr 1
        · exact rows_congr fun b _ => by rw [sA]; simp [hcc, hnb]
        · congr 1
          refine rows_set _ _ _ htr ?_ (fun j hj => ?_)
          · rw [sB]; simp [hcc, hnb, htt]
          · rw [sB]; simp [hcc, hnb, htt, Ne.symm hj]
      | some b =>
        have hbS := (nb_some hnb).2.1
        rw [if_neg (dneg (show ¬ dest (some b) < 0 by show ¬ (b : Int) < 0; omega)), if_neg (dneg (show ¬ dest (some b) ≥ _ by show ¬ (b : Int) ≥ _; rw [rows_len]; omega)), show dest (some b) = (b : Int) from rfl, idx_nat, rows_get _ hbS]
        simp only [Option.bind_some]
        rw [if_pos (by rw [castL_len]; have := uA b; simp only [List.length_nil]; omega), if_pos (by rw [List.length_append, castL_len]; have := uA b; simp only [List.length_cons, List.length_nil]; omega), ca]
        refine .inl ⟨_, rfl, ⟨i + 1, by omega, ?_⟩, by simp only; omega⟩
        rw [Int.toNat_natCast]
        congr 1
        · refine rows_set _ _ _ hbS ?_ (fun j hj => ?_)
          · rw [sA]; simp [hcc, hnb]
          · rw [sA]; simp [hcc, hnb, Ne.symm hj]
        · congr 1
          exact rows_congr fun u _ => by rw [sB]; simp [hcc, hnb]
    · rw [if_neg (dneg (by rw [castL_len]; omega))]
      exact .inr ⟨_, rfl, by rw [List.take_of_length_le (by omega)]⟩) (rows f S.toNat, rows g (trains items), 0) ⟨0, by omega, by rw [rows_congr (f := upA _ _ _ _) (f' := f) (fun b _ => by simp [upA]), rows_congr (f := upB _ _ _ _) (f' := g) (fun b _ => by simp [upB])]; rfl⟩ (by simp; omega)
  rw [h1, h2]
end

theorem RollinStep_ok (l : List Int) (p1 : Int) : law14_RollinStep l p1 = some true := by
  obtain ⟨its, wt, k1, e1, q1, q2, q3, hj, h4⟩ := job_ok l 0 14 (by omega) (by omega)
  obtain ⟨S, codes, k2, e2, q4, q5, hg⟩ := plan_ok l k1 its wt (by omega) hj h4
  obtain ⟨hS0, hS1⟩ := hg.st
  have hl := hj.len
  have hT := T_le hg
  unfold law14_RollinStep gen_New
  simp only [Option.bind_some]
  rw [e1]
  simp only [Option.bind_some]
  rw [e2]
  simp only [Option.bind_some]
  by_cases h0 : S = 0
  · rw [if_pos (by simp [h0]), sane14_ok]; rfl
  · rw [if_neg (by simpa using h0), if_pos h0, if_pos h0]
    obtain ⟨t1, t2⟩ := tmod_range p1 S (by omega)
    obtain ⟨τ, hτ, hτ1, hτ2⟩ : ∃ τ : Nat, IntKind.i64.wrap (1 + (Int.tmod (IntKind.i64.wrap ((Int.tmod p1 S) + S)) S)) = (τ : Int) ∧ 1 ≤ τ ∧ τ ≤ S.toNat := by
      rw [wr_id (n := Int.tmod p1 S + S) (by omega) (by omega)]
      have h3 := Int.tmod_lt_of_pos (Int.tmod p1 S + S) (by omega : 0 < S)
      have h4 : 0 ≤ Int.tmod (Int.tmod p1 S + S) S := Int.tmod_nonneg _ (by omega)
      rw [wr_id (by omega) (by omega)]
      exact ⟨(1 + Int.tmod (Int.tmod p1 S + S) S).toNat, by omega, by omega, by omega⟩
    have hi := (yard its S codes).inv (τ - 1) (by show τ - 1 ≤ S.toNat; omega)
    have hia : ∀ b x, x ∈ (yard its S codes).A τ b ↔ x < its.length ∧ (yard its S codes).rd x ≤ τ - 1 ∧ nb ((yard its S codes).c x) (yard its S codes).S (τ - 1) = some b := fun b x => by
      have := hi.a b x
      rwa [show τ - 1 + 1 = τ by omega] at this
    have c1 := Contents_ok hg (τ - 1) (by omega)
    have c2 := Contents_ok hg τ hτ2
    rw [show τ - 1 + 1 = τ by omega] at c1
    have hAl : ∀ k b, k ≤ S.toNat + 1 → ((yard its S codes).A k b).length ≤ its.length := fun k b hk => (yard its S codes).A_len (k := k) hk b
    have hBl : ∀ k b, k ≤ S.toNat + 1 → ((yard its S codes).B k b).length ≤ its.length := fun k b hk => (yard its S codes).B_len (k := k) hk b
    have hpull : (yard its S codes).pull τ = (yard its S codes).A τ (τ - 1) := by simp only [Yard.pull]; rw [if_neg (by omega)]
    simp only [hτ]
    rw [wr_id (n := (τ : Int) - 1) (by omega) (by omega), show (τ : Int) - 1 = ((τ - 1 : Nat) : Int) by omega, c1]
    simp only [Option.bind_some]
    rw [c2]
    simp only [Option.bind_some, bne_self_eq_false, Bool.false_eq_true, if_false]
    rw [if_neg (by rw [rows_len, Int.toNat_of_nonneg hS0]; simp), if_neg (by rw [rows_len, rows_len]; simp), idx_nat, rows_get _ (by omega)]
    simp only [Option.bind_some]
    rw [if_pos (by rw [castL_len]; have := hAl τ (τ - 1) (by omega); simp only [List.length_nil]; omega), List.nil_append, ST36_ok hg p1 k1 k2 τ hτ _ (by have := hAl τ (τ - 1) (by omega); omega)]
    simp only [Option.bind_some]
    have hset : (rows ((yard its S codes).A τ) S.toNat).set (τ - 1) ([] : List Int) = rows (fun b => if b + 1 = τ then [] else (yard its S codes).A τ b) S.toNat :=
      rows_set ((yard its S codes).A τ) _ [] (by omega) (if_pos (by omega)) (fun j hj => if_neg (by omega))
    rw [Int.toNat_natCast, hset]
    rw [ST52_ok hg p1 k1 k2 τ hτ (fun b => if b + 1 = τ then [] else (yard its S codes).A τ b) ((yard its S codes).B τ) _ (fun x hx => by
        rcases List.mem_append.1 hx with h | h
        · have := (hia (τ - 1) x).1 h
          exact ⟨this.1, by omega⟩
        · have := (yard its S codes).mem_new.1 h
          exact ⟨this.1, by omega⟩) (by
        have h5 := hAl τ (τ - 1) (by omega)
        have h6 := (yard its S codes).new_len τ
        have h7 : (yard its S codes).n = its.length := rfl
        rw [List.length_append]; omega) (fun b => by
        show (if b + 1 = τ then [] else (yard its S codes).A τ b).length ≤ 1000
        split
        · simp
        · have := hAl τ b (by omega); omega) (fun b => by have := hBl τ b (by omega); omega)]
    simp only [Option.bind_some]
    have eA : rows (upA (yard its S codes) (fun b => if b + 1 = τ then [] else (yard its S codes).A τ b) τ ((yard its S codes).A τ (τ - 1) ++ (yard its S codes).new τ)) S.toNat = rows ((yard its S codes).A (τ + 1)) S.toNat :=
      rows_congr fun b _ => by rw [Yard.A_succ, hpull]; rfl
    have eB : rows (upB (yard its S codes) ((yard its S codes).B τ) τ ((yard its S codes).A τ (τ - 1) ++ (yard its S codes).new τ)) (trains its) = rows ((yard its S codes).B (τ + 1)) (trains its) :=
      rows_congr fun b _ => by rw [Yard.B_succ, hpull]; rfl
    rw [eA, eB, lists_same _ (by rw [rows_len]; omega) (fun x hx => by
      obtain ⟨b, hb, rfl⟩ := List.mem_map.1 hx
      rw [castL_len]; have := hAl (τ + 1) b (by omega); omega)]
    simp only [Option.bind_some, if_true]
    rw [lists_same _ (by rw [rows_len]; omega) (fun x hx => by
      obtain ⟨b, hb, rfl⟩ := List.mem_map.1 hx
      rw [castL_len]; have := hBl (τ + 1) b (by omega); omega)]
    simp only [Option.bind_some, if_true]
    rw [sane14_ok]
    rfl

end Go.Proofs.Ytmjobkpgnhbcbaa
