/- Plain laws: the program and the reference compute what the spec says. No condition beyond those of each theorem. -/
import Derived.Test.YtcignnfdpgeogaaPMspec
set_option linter.unusedVariables false
set_option linter.unusedSectionVars false
set_option maxRecDepth 100000
namespace Go.Proofs.Ytcignnfdpgeogaa
open Go Go.V Go.Proofs

def rows (f : Nat → List Nat) (m : Nat) : List (List Int) := (List.range m).map fun b => castL (f b)
theorem rows_len (f : Nat → List Nat) (m : Nat) : (rows f m).length = m := by simp [rows]
theorem rows_get (f : Nat → List Nat) {m b : Nat} (h : b < m) : (rows f m)[b]? = some (castL (f b)) := by simp [rows, h]
theorem rows_set (f f' : Nat → List Nat) {m b : Nat} (l : List Nat) (h : b < m) (h1 : f' b = l) (h2 : ∀ j, j ≠ b → f' j = f j) : (rows f m).set b (castL l) = rows f' m := by
  apply List.ext_getElem?
  intro i
  rw [List.getElem?_set]
  by_cases hi : b = i
  · subst hi
    rw [if_pos rfl, if_pos (by rw [rows_len]; exact h), rows_get f' h, h1]
  · rw [if_neg hi]
    by_cases him : i < m
    · rw [rows_get f him, rows_get f' him, h2 i (Ne.symm hi)]
    · rw [List.getElem?_eq_none (by rw [rows_len]; omega), List.getElem?_eq_none (by rw [rows_len]; omega)]
theorem rows_congr {f f' : Nat → List Nat} {m : Nat} (h : ∀ b, b < m → f b = f' b) : rows f m = rows f' m := by
  apply List.ext_getElem?
  intro i
  by_cases him : i < m
  · rw [rows_get f him, rows_get f' him, h i him]
  · rw [List.getElem?_eq_none (by rw [rows_len]; omega), List.getElem?_eq_none (by rw [rows_len]; omega)]
theorem rows_nil (f : Nat → List Nat) (m : Nat) (h : ∀ b, b < m → f b = []) : List.replicate m ([] : List Int) = rows f m := by
  apply List.ext_getElem?
  intro i
  by_cases him : i < m
  · rw [rows_get f him, h i him, List.getElem?_replicate, if_pos him]; rfl
  · rw [List.getElem?_eq_none (by simp; omega), List.getElem?_eq_none (by rw [rows_len]; omega)]

def trains (items : List Item) : Nat := items.foldl (fun m x => max m (x.1.toNat + 1)) 0
theorem trains_app (l : List Item) (x : Item) : trains (l ++ [x]) = max (trains l) (x.1.toNat + 1) := by simp [trains]

def yard (items : List Item) (S : Int) (codes : List Int) : Yard where
  n := items.length
  S := S.toNat
  T := trains items
  c := fun i => (codes.getD i 0).toNat
  rd := fun i => (items.getD i (0, 0, 0, 0)).2.2.1.toNat
  tr := fun i => (items.getD i (0, 0, 0, 0)).1.toNat

theorem trains_le : ∀ (l : List Item) (m : Nat), m ≤ l.foldl (fun m x => max m (x.1.toNat + 1)) m ∧ ∀ x ∈ l, x.1.toNat + 1 ≤ l.foldl (fun m x => max m (x.1.toNat + 1)) m
  | [], m => ⟨Nat.le_refl _, fun x h => by cases h⟩
  | y :: l, m => by
    obtain ⟨h1, h2⟩ := trains_le l (max m (y.1.toNat + 1))
    refine ⟨by simp only [List.foldl_cons]; omega, fun x hx => ?_⟩
    simp only [List.foldl_cons]
    cases hx with
    | head => omega
    | tail _ hx => exact h2 x hx
theorem trains_bound : ∀ (l : List Item) (m : Nat), m ≤ 16 → (∀ x ∈ l, x.1 ≤ 15) → l.foldl (fun m x => max m (x.1.toNat + 1)) m ≤ 16
  | [], m, h, _ => h
  | y :: l, m, h, h2 => by
    simp only [List.foldl_cons]
    refine trains_bound l _ ?_ (fun x hx => h2 x (List.mem_cons_of_mem _ hx))
    have := h2 y List.mem_cons_self
    omega

section
variable {items : List Item} {wt S : Int} {codes : List Int} (hg : Good items wt S codes)
include hg

theorem item_at {i : Nat} (hi : i < items.length) : ∃ x c, items[i]? = some x ∧ codes[i]? = some c ∧ good1 x ∧ c = (((yard items S codes).c i : Nat) : Int) ∧ (yard items S codes).c i < 2 ^ S.toNat ∧
    x.2.2.1 = (((yard items S codes).rd i : Nat) : Int) ∧ x.1 = (((yard items S codes).tr i : Nat) : Int) ∧ (yard items S codes).tr i < trains items ∧ isN ((yard items S codes).rd i) wt.toNat ((yard items S codes).c i) = true := by
  have hx : items[i]? = some items[i] := List.getElem?_eq_getElem hi
  have hil : i < codes.length := by rw [hg.cl]; exact hi
  have hc : codes[i]? = some codes[i] := List.getElem?_eq_getElem hil
  obtain ⟨c1, c2, c3⟩ := hg.code i _ _ hx hc
  have q := hg.job.it i _ hx
  have e1 : codes.getD i 0 = codes[i] := by simp [List.getD, hc]
  have e2 : items.getD i (0, 0, 0, 0) = items[i] := by simp [List.getD, hx]
  refine ⟨items[i], codes[i], hx, hc, q, ?_, ?_, ?_, ?_, ?_, ?_⟩
  · simp only [yard, e1]; omega
  · simp only [yard, e1]; omega
  · simp only [yard, e2]; have := q.2.2.1; omega
  · simp only [yard, e2]; have := q.1; omega
  · simp only [yard, e2]
    have := (trains_le items 0).2 items[i] (List.getElem_mem hi)
    simp only [trains]
    omega
  · simp only [yard, e1, e2]; exact c3

theorem T_le : trains items ≤ 16 := trains_bound items 0 (by omega) (fun x hx => by
  obtain ⟨i, hi, rfl⟩ := List.getElem_of_mem hx
  exact (hg.job.it i _ (List.getElem?_eq_getElem hi)).1.2)

omit hg in
theorem bit_if (c b : Nat) (hc : c < 4096) (hb : b ≤ 12) : ((IntKind.i64.wrap ↑(BitVec.ofInt IntKind.i64.bits (Int.fdiv (c : Int) (2 ^ (min (Int.toNat (b : Int)) IntKind.i64.bits))) &&& BitVec.ofInt IntKind.i64.bits 1).toNat) == 1) = c.testBit b := by
  rw [pow_nat b hb, fdiv_nat]
  have h1 : c / 2 ^ b ≤ c := Nat.div_le_self _ _
  have h2 := and_nat (c / 2 ^ b) 1 (by omega) (by omega)
  rw [show ((1 : Nat) : Int) = 1 from rfl] at h2
  rw [h2, Nat.and_one_is_mod, Nat.testBit_eq_decide_div_mod_eq]
  by_cases h : c / 2 ^ b % 2 = 1
  · rw [h]; rfl
  · rw [decide_eq_false h]
    have : c / 2 ^ b % 2 = 0 := by omega
    rw [this]; rfl

/-- What a push adds. -/
theorem push_ok (f g : Nat → List Nat) (m pu : Int) (x t : Nat) (hx : x < items.length) (hf : ∀ b, (f b).length ≤ 1000000) (hgl : ∀ b, (g b).length ≤ 1000000) (f' g' : Nat → List Nat)
    (hf' : ∀ b, f' b = f b ++ [x].filter (fun x => nb ((yard items S codes).c x) S.toNat t == some b))
    (hg' : ∀ u, g' u = g u ++ [x].filter (fun x => nb ((yard items S codes).c x) S.toNat t == none && (yard items S codes).tr x == u)) :
    rollin_machine_push items wt S codes (rows f S.toNat) (rows g (trains items)) m pu (x : Int) (t : Int) = some (IntKind.i64.wrap (m + 1), rows f' S.toNat, rows g' (trains items)) := by
  obtain ⟨it, c, hit, hc, hgd, ec, hcl, er, et, htr, _⟩ := item_at hg hx
  obtain ⟨hS0, hS1⟩ := hg.st
  have hp := pow_le S.toNat (by omega)
  generalize hcc : (yard items S codes).c x = cx at *
  generalize htt : (yard items S codes).tr x = tx at *
  unfold rollin_machine_push
  obtain ⟨d, h1, h2⟩ := loop_inv (step := rollin_machine_push_L8 S codes (rows f S.toNat) (x : Int)) (fun s => ∃ b : Nat, s = (b : Int) ∧ t ≤ b ∧ nb cx S.toNat b = nb cx S.toNat t) (fun s => S.toNat - s.toNat)
    (fun d => (∃ b, nb cx S.toNat t = some b ∧ b < S.toNat ∧ d = .inl ((rows f S.toNat).set b (castL (f b ++ [x])))) ∨ (nb cx S.toNat t = none ∧ d = .inr ())) (by
    rintro _ ⟨b, rfl, hb, hn⟩
    unfold rollin_machine_push_L8
    simp only
    by_cases hbS : b < S.toNat
    · rw [if_pos (dpos (by omega)), idx_nat, hc]
      simp only [Option.bind_some]
      rw [if_pos (by omega), ec, bit_if cx b (by omega) (by omega)]
      cases htb : cx.testBit b with
      | true =>
        rw [if_pos rfl, idx_nat, rows_get f hbS]
        simp only [Option.bind_some]
        rw [if_pos (by rw [castL_len]; have := hf b; simp only [List.length_cons, List.length_nil]; omega)]
        refine .inr ⟨_, rfl, .inl ⟨b, by rw [← hn]; exact nb_here htb hbS, hbS, ?_⟩⟩
        rw [Int.toNat_natCast, castL_app]; rfl
      | false =>
        rw [if_neg (by decide), wr_id (by omega) (by omega)]
        exact .inl ⟨_, rfl, ⟨b + 1, by simp, by omega, by rw [← nb_step htb]; exact hn⟩, by omega⟩
    · rw [if_neg (dneg (by omega))]
      refine .inr ⟨_, rfl, .inr ⟨?_, rfl⟩⟩
      rw [← hn, nb, if_neg hbS]) (t : Int) ⟨t, rfl, Nat.le_refl _, rfl⟩ (by omega)
  rw [h1]
  simp only [Option.bind_some]
  rcases h2 with ⟨b, hb, hbS, rfl⟩ | ⟨hb, rfl⟩
  · simp only
    congr 2
    · congr 1
      · refine rows_set f f' _ hbS ?_ (fun j hj => ?_)
        · rw [hf']; simp [hcc, hb]
        · rw [hf']; simp [hcc, hb, Ne.symm hj]
      · refine rows_congr fun u _ => ?_
        rw [hg']; simp [hcc, hb]
  · simp only
    rw [idx_nat, hit]
    simp only [Option.bind_some]
    rw [et, idx_nat, rows_get g htr]
    simp only [Option.bind_some]
    rw [if_pos (by rw [castL_len]; have := hgl tx; simp only [List.length_cons, List.length_nil]; omega)]
    congr 2
    · congr 1
      · refine rows_congr fun u _ => ?_
        rw [hf']; simp [hcc, hb]
      · rw [Int.toNat_natCast, show castL (g tx) ++ [(x : Int)] = castL (g tx ++ [x]) by rw [castL_app]; rfl]
        refine rows_set g g' _ htr ?_ (fun j hj => ?_)
        · rw [hg']; simp [hcc, hb, htt]
        · rw [hg']; simp [hcc, hb, htt, Ne.symm hj]

/-- What is on the tracks behind some more pushes. -/
def upA (Y : Yard) (f : Nat → List Nat) (t : Nat) (xs : List Nat) (b : Nat) : List Nat := f b ++ xs.filter (fun x => nb (Y.c x) Y.S t == some b)
def upB (Y : Yard) (g : Nat → List Nat) (t : Nat) (xs : List Nat) (u : Nat) : List Nat := g u ++ xs.filter (fun x => nb (Y.c x) Y.S t == none && Y.tr x == u)
omit hg in
theorem upA_app (Y : Yard) (f : Nat → List Nat) (t : Nat) (xs ys : List Nat) (b : Nat) : upA Y f t (xs ++ ys) b = upA Y f t xs b ++ ys.filter (fun x => nb (Y.c x) Y.S t == some b) := by simp [upA]
omit hg in
theorem upB_app (Y : Yard) (g : Nat → List Nat) (t : Nat) (xs ys : List Nat) (b : Nat) : upB Y g t (xs ++ ys) b = upB Y g t xs b ++ ys.filter (fun x => nb (Y.c x) Y.S t == none && Y.tr x == b) := by simp [upB]
omit hg in
theorem upA_len (Y : Yard) (f : Nat → List Nat) (t : Nat) (xs : List Nat) (b : Nat) : (upA Y f t xs b).length ≤ (f b).length + xs.length := by
  simp only [upA, List.length_append]
  have := List.length_filter_le (fun x => nb (Y.c x) Y.S t == some b) xs
  omega
omit hg in
theorem upB_len (Y : Yard) (f : Nat → List Nat) (t : Nat) (xs : List Nat) (b : Nat) : (upB Y f t xs b).length ≤ (f b).length + xs.length := by
  simp only [upB, List.length_append]
  have := List.length_filter_le (fun x => nb (Y.c x) Y.S t == none && Y.tr x == b) xs
  omega

/-- The items of a list are pushed. -/
theorem L14_ok (f g : Nat → List Nat) (m : Nat) (pu : Int) (t : Nat) (xs : List Nat) (hxs : ∀ x ∈ xs, x < items.length) (hxl : xs.length ≤ 1000) (hf : ∀ b, (f b).length ≤ 1000) (hgl : ∀ b, (g b).length ≤ 1000) (hm : m ≤ 1000000) :
    loop (rollin_machine_at_L14 items wt S codes pu (t : Int) (castL xs)) (rows f S.toNat, rows g (trains items), (m : Int), 0) =
      some (rows (upA (yard items S codes) f t xs) S.toNat, rows (upB (yard items S codes) g t xs) (trains items), ((m + xs.length : Nat) : Int)) := by
  obtain ⟨d, h1, h2⟩ := loop_inv (step := rollin_machine_at_L14 items wt S codes pu (t : Int) (castL xs))
    (fun s => ∃ i : Nat, i ≤ xs.length ∧ s = (rows (upA (yard items S codes) f t (xs.take i)) S.toNat, rows (upB (yard items S codes) g t (xs.take i)) (trains items), ((m + i : Nat) : Int), (i : Int)))
    (fun s => xs.length - s.2.2.2.toNat) (fun d => d = (rows (upA (yard items S codes) f t xs) S.toNat, rows (upB (yard items S codes) g t xs) (trains items), ((m + xs.length : Nat) : Int))) (by
    rintro _ ⟨i, hi, rfl⟩
    unfold rollin_machine_at_L14
    simp only
    by_cases hil : i < xs.length
    · rw [if_pos (dpos (by rw [castL_len]; omega)), idx_nat, castL_get, List.getElem?_eq_getElem hil]
      simp only [Option.map_some, Option.bind_some]
      have hta : xs.take (i + 1) = xs.take i ++ [xs[i]] := List.take_succ_eq_append_getElem hil
      have htl : (xs.take i).length = i := by rw [List.length_take]; omega
      rw [push_ok hg _ _ _ pu xs[i] t (hxs _ (List.getElem_mem hil)) (fun b => by have := upA_len (yard items S codes) f t (xs.take i) b; have := hf b; omega) (fun b => by have := upB_len (yard items S codes) g t (xs.take i) b; have := hgl b; omega)
        (upA (yard items S codes) f t (xs.take (i + 1))) (upB (yard items S codes) g t (xs.take (i + 1))) (fun b => by rw [hta, upA_app]; rfl) (fun b => by rw [hta, upB_app]; rfl)]
      simp only [Option.bind_some]
      refine .inl ⟨_, rfl, ⟨i + 1, by omega, ?_⟩, ?_⟩
      · rw [wr_id (by omega) (by omega), wr_id (by omega) (by omega)]
        rfl
      · simp only
        rw [wr_id (n := (i : Int) + 1) (by omega) (by omega)]
        omega
    · rw [if_neg (dneg (by rw [castL_len]; omega))]
      refine .inr ⟨_, rfl, ?_⟩
      have e : i = xs.length := by omega
      subst e
      rw [List.take_length]) _ ⟨0, by omega, by rw [rows_congr (f' := f) (fun b _ => by simp [upA]), rows_congr (f := upB _ _ _ _) (f' := g) (fun b _ => by simp [upB])]⟩ (by simp; omega)
  have e : ((m + 0 : Nat) : Int) = (m : Int) := rfl
  exact h1.trans (by rw [h2])

/-- The items of a round are pushed. -/
theorem L21_ok (f g : Nat → List Nat) (m : Nat) (pu : Int) (t : Nat) (hf : ∀ b, (f b).length ≤ 1000) (hgl : ∀ b, (g b).length ≤ 1000) (hm : m ≤ 1000000) :
    loop (rollin_machine_at_L21 items wt S codes pu (t : Int)) (rows f S.toNat, rows g (trains items), (m : Int), 0) =
      some (rows (upA (yard items S codes) f t ((yard items S codes).new t)) S.toNat, rows (upB (yard items S codes) g t ((yard items S codes).new t)) (trains items), ((m + ((yard items S codes).new t).length : Nat) : Int)) := by
  have hl := hg.job.len
  let nw (i : Nat) : List Nat := (List.range i).filter fun x => (yard items S codes).rd x == t
  have hnl : ∀ i, (nw i).length ≤ i := fun i => by
    have := List.length_filter_le (fun x => (yard items S codes).rd x == t) (List.range i)
    simpa using this
  obtain ⟨d, h1, h2⟩ := loop_inv (step := rollin_machine_at_L21 items wt S codes pu (t : Int))
    (fun s => ∃ i : Nat, i ≤ items.length ∧ s = (rows (upA (yard items S codes) f t (nw i)) S.toNat, rows (upB (yard items S codes) g t (nw i)) (trains items), ((m + (nw i).length : Nat) : Int), (i : Int)))
    (fun s => items.length - s.2.2.2.toNat) (fun d => d = (rows (upA (yard items S codes) f t (nw items.length)) S.toNat, rows (upB (yard items S codes) g t (nw items.length)) (trains items), ((m + (nw items.length).length : Nat) : Int))) (by
    rintro _ ⟨i, hi, rfl⟩
    unfold rollin_machine_at_L21
    simp only
    by_cases hil : i < items.length
    · obtain ⟨it, c, hit, hc, hgd, ec, hcl, er, et, htr, _⟩ := item_at hg hil
      have h3 := hnl i
      have hns : nw (i + 1) = nw i ++ [i].filter (fun x => (yard items S codes).rd x == t) := by simp only [nw, List.range_succ, List.filter_append]
      rw [if_pos (dpos (by omega)), idx_nat, hit]
      simp only [Option.bind_some]
      rw [er]
      by_cases hr : (yard items S codes).rd i = t
      · have hns' : nw (i + 1) = nw i ++ [i] := by rw [hns]; simp [hr]
        rw [if_pos (by simp [hr]), push_ok hg _ _ _ pu i t hil (fun b => by have := upA_len (yard items S codes) f t (nw i) b; have := hf b; omega) (fun b => by have := upB_len (yard items S codes) g t (nw i) b; have := hgl b; omega)
          (upA (yard items S codes) f t (nw (i + 1))) (upB (yard items S codes) g t (nw (i + 1))) (fun b => by rw [hns', upA_app]; rfl) (fun b => by rw [hns', upB_app]; rfl)]
        simp only [Option.bind_some]
        refine .inl ⟨_, rfl, ⟨i + 1, by omega, ?_⟩, ?_⟩
        · rw [wr_id (by omega) (by omega), wr_id (by omega) (by omega), hns']
          simp
          omega
        · simp only
          rw [wr_id (n := (i : Int) + 1) (by omega) (by omega)]
          omega
      · have hns' : nw (i + 1) = nw i := by rw [hns]; simp [hr]
        rw [if_neg (by simpa using (by omega : ¬ ((yard items S codes).rd i : Int) = (t : Int)))]
        refine .inl ⟨_, rfl, ⟨i + 1, by omega, ?_⟩, ?_⟩
        · rw [wr_id (by omega) (by omega), hns']; rfl
        · simp only
          rw [wr_id (n := (i : Int) + 1) (by omega) (by omega)]
          omega
    · rw [if_neg (dneg (by omega))]
      refine .inr ⟨_, rfl, ?_⟩
      have e : i = items.length := by omega
      subst e
      rfl) _ ⟨0, by omega, by rw [rows_congr (f' := f) (fun b _ => by simp [upA, nw]), rows_congr (f := upB _ _ _ _) (f' := g) (fun b _ => by simp [upB, nw])]⟩ (by simp; omega)
  exact h1.trans (by rw [h2]; rfl)


/-- All pushes of a time. -/
theorem at_ok (k : Nat) (hk : k ≤ S.toNat) :
    rollin_machine_at items wt S codes (rows ((yard items S codes).A k) S.toNat) (rows ((yard items S codes).B k) (trains items)) ((yard items S codes).moves k) ((yard items S codes).pushes k) (k : Int) =
      some ((((yard items S codes).moves (k + 1) : Nat) : Int), (((yard items S codes).pushes (k + 1) : Nat) : Int), rows ((yard items S codes).A (k + 1)) S.toNat, rows ((yard items S codes).B (k + 1)) (trains items)) := by
  have hl := hg.job.len
  obtain ⟨hS0, hS1⟩ := hg.st
  generalize hY : yard items S codes = Y
  have hn : Y.n = items.length := by rw [← hY]; rfl
  have hYS : Y.S = S.toNat := by rw [← hY]; rfl
  have ha := fun b => Y.A_len (k := k) (by omega) b
  have hb := fun b => Y.B_len (k := k) (by omega) b
  have hmv := Y.moves_le (k := k) (by omega)
  have hpl := Y.pull_len (k := k) (by omega)
  have hnl := Y.new_len k
  have hpu := Y.pushes_le k
  have hmv2 : 2 * Y.n * k ≤ 2 * 96 * 12 := Nat.mul_le_mul (by omega) (by omega)
  -- the items of the round, then the end
  have tail : ∀ (f g : Nat → List Nat) (m : Nat), (∀ b, (f b).length ≤ 1000) → (∀ b, (g b).length ≤ 1000) → m = Y.moves k + (Y.pull k).length →
      (∀ b, b < S.toNat → upA Y f k (Y.new k) b = Y.A (k + 1) b) → (∀ b, upB Y g k (Y.new k) b = Y.B (k + 1) b) →
      rollin_machine_at_J6 items wt S codes (Y.moves k) (Y.pushes k) (k : Int) (rows f S.toNat) (rows g (trains items)) (m : Int) =
        some (((Y.moves (k + 1) : Nat) : Int), ((Y.pushes (k + 1) : Nat) : Int), rows (Y.A (k + 1)) S.toNat, rows (Y.B (k + 1)) (trains items)) := by
    intro f g m hf hgl hm hA hB
    have h21 := L21_ok hg f g m (Y.pushes k) k hf hgl (by omega)
    rw [hY] at h21
    unfold rollin_machine_at_J6
    rw [h21]
    simp only [Option.bind_some]
    rw [rows_congr hA, rows_congr (fun b _ => hB b)]
    have e1 : m + (Y.new k).length = Y.moves (k + 1) := by simp only [Yard.moves]; omega
    rw [e1]
    have e2 : Y.pushes (k + 1) = Y.pushes k + (if 0 < (Y.pull k).length + (Y.new k).length then 1 else 0) := rfl
    have e3 : Y.moves (k + 1) = Y.moves k + ((Y.pull k).length + (Y.new k).length) := rfl
    by_cases h : 0 < (Y.pull k).length + (Y.new k).length
    · rw [if_pos (dpos (by omega)), wr_id (by omega) (by omega), e2, if_pos h]; rfl
    · rw [if_neg (dneg (by omega)), e2, if_neg h]; rfl
  unfold rollin_machine_at
  by_cases h0 : 0 < k
  · rw [if_pos (dpos (by omega)), wr_id (by omega) (by omega), show (k : Int) - 1 = ((k - 1 : Nat) : Int) by omega, idx_nat, rows_get _ (by omega)]
    simp only [Option.bind_some, Int.toNat_natCast]
    have hpull : Y.pull k = Y.A k (k - 1) := by simp only [Yard.pull]; rw [if_neg (by omega)]
    have hset : (rows (Y.A k) S.toNat).set (k - 1) ([] : List Int) = rows (fun b => if b + 1 = k then [] else Y.A k b) S.toNat :=
      rows_set (Y.A k) _ [] (by omega) (if_pos (by omega)) (fun j hj => if_neg (by omega))
    rw [hset]
    have hmem : ∀ x ∈ Y.A k (k - 1), x < items.length := by
      intro x hx
      have hi := Y.inv (k - 1) (by omega)
      have := (hi.a (k - 1) x).1 (by rw [show k - 1 + 1 = k by omega]; exact hx)
      omega
    have hfb : ∀ b, ((fun b => if b + 1 = k then [] else Y.A k b) b).length ≤ 1000 := by
      intro b
      simp only
      split
      · simp
      · have := ha b; omega
    have h14 := L14_ok hg (fun b => if b + 1 = k then [] else Y.A k b) (Y.B k) (Y.moves k) (Y.pushes k) k (Y.A k (k - 1)) hmem (by have := ha (k - 1); omega) hfb (fun b => by have := hb b; omega) (by omega)
    rw [hY] at h14
    rw [h14]
    simp only [Option.bind_some]
    refine tail _ _ _ (fun b => ?_) (fun b => ?_) (by rw [hpull]) (fun b _ => ?_) (fun b => ?_)
    · have := upA_len Y (fun b => if b + 1 = k then [] else Y.A k b) k (Y.A k (k - 1)) b
      have h2 := ha (k - 1)
      have h3 : (if b + 1 = k then [] else Y.A k b).length ≤ 96 := by
        split
        · simp
        · have := ha b; omega
      have h4 : (upA Y (fun b => if b + 1 = k then [] else Y.A k b) k (Y.A k (k - 1)) b).length ≤ (if b + 1 = k then [] else Y.A k b).length + (Y.A k (k - 1)).length := this
      omega
    · have := upB_len Y (Y.B k) k (Y.A k (k - 1)) b
      have h2 := ha (k - 1)
      have h3 := hb b
      omega
    · rw [Yard.A_succ, hpull]; simp [upA]
    · rw [Yard.B_succ, hpull]; simp [upB]
  · have hk0 : k = 0 := by omega
    subst hk0
    rw [if_neg (by decide)]
    have hp0 : Y.pull 0 = [] := rfl
    refine tail _ _ _ (fun b => by have := ha b; omega) (fun b => by have := hb b; omega) (by rw [hp0]; rfl) (fun b _ => ?_) (fun b => ?_)
    · rw [Yard.A_succ, hp0]; simp [upA]
    · rw [Yard.B_succ, hp0]; simp [upB]

/-- The machine at the start. -/
theorem start_ok : rollin_start items wt S codes = some ((items, wt), (S, codes), rows ((yard items S codes).A 0) S.toNat, rows ((yard items S codes).B 0) (trains items), 0, 0) := by
  have hl := hg.job.len
  obtain ⟨hS0, hS1⟩ := hg.st
  have h20 : ∀ (k : Nat) (x : Item), k ≤ 20 → 0 ≤ x.1 → x.1 ≤ 15 → loop (rollin_start_L20 x) (List.replicate k ([] : List Int)) = some (List.replicate (max k (x.1.toNat + 1)) ([] : List Int)) := by
    intro k x hk hx0 hx1
    obtain ⟨d, h1, h2⟩ := loop_inv (step := rollin_start_L20 x) (fun s => ∃ i : Nat, k ≤ i ∧ i ≤ max k (x.1.toNat + 1) ∧ s = List.replicate i ([] : List Int)) (fun s => 40 - s.length) (fun d => d = List.replicate (max k (x.1.toNat + 1)) ([] : List Int)) (by
      rintro _ ⟨i, hi1, hi2, rfl⟩
      unfold rollin_start_L20
      simp only [List.length_replicate]
      by_cases h : (i : Int) ≤ x.1
      · rw [if_pos (dpos h), if_pos (by omega)]
        refine .inl ⟨_, rfl, ⟨i + 1, by omega, by omega, ?_⟩, by simp; omega⟩
        rw [← List.replicate_succ']
      · rw [if_neg (dneg h)]
        exact .inr ⟨_, rfl, by rw [show i = max k (x.1.toNat + 1) by omega]⟩) _ ⟨k, Nat.le_refl _, by omega, rfl⟩ (by simp; omega)
    rw [h1, h2]
  obtain ⟨d, h1, h2⟩ := loop_inv (step := rollin_start_L11 items) (fun s => ∃ i : Nat, i ≤ items.length ∧ s = (List.replicate (trains (items.take i)) ([] : List Int), (i : Int))) (fun s => items.length - s.2.toNat)
    (fun d => d = List.replicate (trains items) ([] : List Int)) (by
    rintro _ ⟨i, hi, rfl⟩
    unfold rollin_start_L11
    simp only
    by_cases hil : i < items.length
    · obtain ⟨it, c, hit, hc, hgd, _⟩ := item_at hg hil
      have hb : trains (items.take i) ≤ 16 := trains_bound _ 0 (by omega) (fun x hx => by
        obtain ⟨j, hj, rfl⟩ := List.getElem_of_mem (List.mem_of_mem_take hx)
        exact (hg.job.it j _ (List.getElem?_eq_getElem hj)).1.2)
      rw [if_pos (dpos (by omega)), idx_nat, hit]
      simp only [Option.bind_some]
      rw [h20 _ it (by omega) hgd.1.1 hgd.1.2]
      simp only [Option.bind_some]
      have e : items.take (i + 1) = items.take i ++ [it] := by
        rw [List.take_add_one, hit]; rfl
      refine .inl ⟨_, rfl, ⟨i + 1, by omega, ?_⟩, ?_⟩
      · rw [wr_id (by omega) (by omega), e, trains_app]; rfl
      · simp only
        rw [wr_id (n := (i : Int) + 1) (by omega) (by omega)]
        omega
    · rw [if_neg (dneg (by omega))]
      exact .inr ⟨_, rfl, by rw [List.take_of_length_le (by omega)]⟩) ([], 0) ⟨0, by omega, by simp [trains]⟩ (by simp; omega)
  unfold rollin_start
  rw [if_pos (by omega), h1]
  simp only [Option.bind_some]
  rw [h2, ← rows_nil ((yard items S codes).A 0) S.toNat (fun _ _ => rfl), ← rows_nil ((yard items S codes).B 0) (trains items) (fun _ _ => rfl)]

/-- All pushes up to a time. -/
theorem run_ok (t : Nat) (ht : t ≤ S.toNat) : rollin_run items wt S codes (t : Int) = some ((items, wt), (S, codes), rows ((yard items S codes).A (t + 1)) S.toNat, rows ((yard items S codes).B (t + 1)) (trains items), (((yard items S codes).moves (t + 1) : Nat) : Int), (((yard items S codes).pushes (t + 1) : Nat) : Int)) := by
  obtain ⟨hS0, hS1⟩ := hg.st
  unfold rollin_run
  rw [start_ok hg]
  simp only [Option.bind_some]
  obtain ⟨d, h1, h2⟩ := loop_inv (step := rollin_run_L14 (t : Int) ((items, wt), (S, codes), rows ((yard items S codes).A 0) S.toNat, rows ((yard items S codes).B 0) (trains items), 0, 0))
    (fun s => ∃ k : Nat, k ≤ t + 1 ∧ s = (rows ((yard items S codes).A k) S.toNat, rows ((yard items S codes).B k) (trains items), (((yard items S codes).moves k : Nat) : Int), (((yard items S codes).pushes k : Nat) : Int), (k : Int)))
    (fun s => t + 1 - s.2.2.2.2.toNat) (fun d => d = (rows ((yard items S codes).A (t + 1)) S.toNat, rows ((yard items S codes).B (t + 1)) (trains items), (((yard items S codes).moves (t + 1) : Nat) : Int), (((yard items S codes).pushes (t + 1) : Nat) : Int))) (by
    rintro _ ⟨k, hk, rfl⟩
    unfold rollin_run_L14
    simp only
    by_cases h : k ≤ t
    · rw [if_pos (dpos (by omega)), at_ok hg k (by omega)]
      simp only [Option.bind_some]
      refine .inl ⟨_, rfl, ⟨k + 1, by omega, ?_⟩, ?_⟩
      · rw [wr_id (by omega) (by omega)]; rfl
      · simp only
        rw [wr_id (n := (k : Int) + 1) (by omega) (by omega)]
        omega
    · rw [if_neg (dneg (by omega))]
      exact .inr ⟨_, rfl, by rw [show k = t + 1 by omega]⟩) _ ⟨0, by omega, rfl⟩ (by simp; omega)
  have h3 : loop (rollin_run_L14 (t : Int) ((items, wt), (S, codes), rows ((yard items S codes).A 0) S.toNat, rows ((yard items S codes).B 0) (trains items), 0, 0)) (rows ((yard items S codes).A 0) S.toNat, rows ((yard items S codes).B 0) (trains items), 0, 0, 0) = some d := h1
  rw [h3, h2]
  rfl
end

end Go.Proofs.Ytcignnfdpgeogaa
