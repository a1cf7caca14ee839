
/- Plain laws: the relations, the least numbers and their bases. No condition beyond those of each theorem. -/
import Derived.Test.YtcignnfdpgeogaaPJgood
import Derived.Test.YtcignnfdpgeogaaPKcode
import Derived.Test.YtcignnfdpgeogaaGleastcode
set_option linter.unusedVariables false
set_option linter.unusedSectionVars false
set_option linter.unusedSimpArgs false
set_option maxRecDepth 100000
namespace Go.Proofs.Ytcignnfdpgeogaa
open Go Go.V Go.Proofs

/-! ### The matrix of the relations -/
def relRow (its : List Item) (x : Nat) : List Int := (List.range its.length).map fun y => rel its x y
def relM (its : List Item) : List (List Int) := (List.range its.length).map fun x => relRow its x

/-- Row x when the first m entries have been written. -/
def relPart (its : List Item) (x m : Nat) : List Int := (List.range its.length).map fun y => if y < m then rel its x y else 0
theorem relRow_get {its : List Item} {x y : Nat} (hy : y < its.length) : idx (relRow its x) (y : Int) = some (rel its x y) := by
  rw [idx_nat]; unfold relRow; rw [List.getElem?_map, List.getElem?_range hy]; rfl
theorem relM_get {its : List Item} {x : Nat} (hx : x < its.length) : idx (relM its) (x : Int) = some (relRow its x) := by
  rw [idx_nat]; unfold relM; rw [List.getElem?_map, List.getElem?_range hx]; rfl
theorem relPart_len (its : List Item) (x m : Nat) : (relPart its x m).length = its.length := by simp [relPart]
theorem relPart_get {its : List Item} {x m y : Nat} (hy : y < its.length) : (relPart its x m)[y]? = some (if y < m then rel its x y else 0) := by
  unfold relPart; rw [List.getElem?_map, List.getElem?_range hy]; rfl
theorem relPart_zero (its : List Item) (x : Nat) : relPart its x 0 = List.replicate its.length 0 := by
  unfold relPart
  apply List.ext_getElem (by simp)
  intro i h1 h2
  simp
theorem relPart_all (its : List Item) (x : Nat) : relPart its x its.length = relRow its x := by
  unfold relPart relRow
  apply List.ext_getElem (by simp)
  intro i h1 h2
  simp at h1
  simp [h1]
theorem relPart_set {its : List Item} {x m : Nat} (hm : m < its.length) : (relPart its x m).set m (rel its x m) = relPart its x (m + 1) := by
  apply List.ext_getElem? 
  intro j
  rw [List.getElem?_set, relPart_len]
  by_cases hj : j < its.length
  · rw [relPart_get hj, relPart_get hj]
    by_cases e : m = j
    · subst e; rw [if_pos rfl, if_pos hm, if_pos (by omega)]
    · rw [if_neg e]
      by_cases h : j < m
      · rw [if_pos h, if_pos (by omega)]
      · rw [if_neg h, if_neg (by omega)]
  · rw [List.getElem?_eq_none (by rw [relPart_len]; omega), List.getElem?_eq_none (by rw [relPart_len]; omega), if_neg (by omega)]
theorem relPart_skip {its : List Item} {x m : Nat} (hm : m < its.length) (h : rel its x m = 0) : relPart its x (m + 1) = relPart its x m := by
  rw [← relPart_set hm]
  apply List.ext_getElem? 
  intro j
  rw [List.getElem?_set, relPart_len]
  by_cases e : m = j
  · subst e; rw [if_pos rfl, if_pos hm, relPart_get hm, if_neg (by omega), h]
  · rw [if_neg e]

theorem RL17_ok {its : List Item} (hl : its.length ≤ 1000) (x : Nat) (hx : x < its.length) (d : List (List Int)) (hd : d.length = its.length) (r0 : List Int) (hr0 : r0.length = its.length) :
    loop (leastcode_relations_L17 its (x : Int) r0) (d.set x (relPart its x 0), 0) = some (d.set x (relRow its x)) := by
  obtain ⟨d', h1, h2⟩ := loop_inv (step := leastcode_relations_L17 its (x : Int) r0) (fun s => ∃ m : Nat, s = (d.set x (relPart its x m), (m : Int)) ∧ m ≤ its.length) (fun s => its.length - s.2.toNat)
    (fun d' => d' = d.set x (relRow its x)) (by
    rintro _ ⟨m, rfl, hm⟩
    unfold leastcode_relations_L17
    simp only [hr0]
    by_cases h : m < its.length
    · obtain ⟨a, ha⟩ : ∃ a, its[x]? = some a := ⟨_, List.getElem?_eq_getElem hx⟩
      obtain ⟨b, hb⟩ : ∃ b, its[m]? = some b := ⟨_, List.getElem?_eq_getElem h⟩
      have hrel : rel its x m = relI a b x m := by unfold rel; rw [ha, hb]
      have hix : idx (d.set x (relPart its x m)) (x : Int) = some (relPart its x m) := by rw [idx_nat, List.getElem?_set_self (by omega)]
      have him : ∃ z, idx (relPart its x m) (m : Int) = some z := ⟨_, by rw [idx_nat]; exact List.getElem?_eq_getElem (by rw [relPart_len]; exact h)⟩
      obtain ⟨z, hz⟩ := him
      rw [if_pos (dpos (by omega)), idx_nat, idx_nat, ha, hb]
      simp only [obind]
      have hskip : rel its x m = 0 → leastcode_relations_J24 (x : Int) (d.set x (relPart its x m)) (m : Int) true = some (.next (d.set x (relPart its x (m + 1)), ((m + 1 : Nat) : Int))) := fun h0 => by
        unfold leastcode_relations_J24
        rw [if_pos rfl, wr_id (by omega) (by omega), relPart_skip h h0]
        rfl
      have hgo : rel its x m ≠ 0 → leastcode_relations_J24 (x : Int) (d.set x (relPart its x m)) (m : Int) false = some (.next (d.set x (relPart its x (m + 1)), ((m + 1 : Nat) : Int))) := fun h0 => by
        have hv : rel its x m = if m < x then 2 else 1 := by
          rcases rel_cases its x m with e | ⟨_, _, _, _, _, _, e⟩
          · exact absurd e h0
          · exact e
        unfold leastcode_relations_J24
        rw [if_neg (by decide), wr_id (by omega) (by omega)]
        by_cases hmx : m < x
        · rw [if_pos hmx] at hv
          have e := relPart_set (its := its) (x := x) h
          rw [hv] at e
          rw [if_pos (dpos (by omega)), hix]
          simp only [obind]
          rw [hz]
          simp only [obind, Int.toNat_natCast]
          rw [List.set_set, e]
          rfl
        · rw [if_neg hmx] at hv
          have e := relPart_set (its := its) (x := x) h
          rw [hv] at e
          rw [if_neg (dneg (by omega)), hix]
          simp only [obind]
          rw [hz]
          simp only [obind, Int.toNat_natCast]
          rw [List.set_set, e]
          rfl
      have hstep : leastcode_relations_J19 (x : Int) (d.set x (relPart its x m)) (m : Int) a.1 a.2.1 a.2.2.1 a.2.2.2 b.1 b.2.1 b.2.2.1 b.2.2.2 = some (.next (d.set x (relPart its x (m + 1)), ((m + 1 : Nat) : Int))) := by
        unfold leastcode_relations_J19
        by_cases h1 : a.1 = b.1
        · rw [if_neg (by simp [h1])]
          by_cases h2 : a.2.1 ≥ b.2.1
          · rw [dpos h2]
            exact hskip (by rw [hrel]; unfold relI; rw [if_pos (.inr h2)])
          · rw [decide_eq_false h2]
            refine hgo ?_
            rw [hrel]
            unfold relI
            rw [if_neg (by rintro (q | q); exact q h1; exact h2 q)]
            split <;> omega
        · rw [if_pos (by simpa using h1)]
          exact hskip (by rw [hrel]; unfold relI; rw [if_pos (.inl h1)])
      rw [hstep]
      exact .inl ⟨_, rfl, ⟨m + 1, rfl, by omega⟩, by simp only; omega⟩
    · rw [if_neg (dneg (by omega))]
      have : m = its.length := by omega
      subst this
      rw [relPart_all]
      exact .inr ⟨_, rfl, rfl⟩) (d.set x (relPart its x 0), 0) ⟨0, rfl, by omega⟩ (by simp; omega)
  rw [h1, h2]

theorem relations_ok (its : List Item) (wt : Int) (hl : its.length ≤ 1000) : leastcode_relations its wt = some (relM its) := by
  unfold leastcode_relations
  rw [if_pos (by omega)]
  obtain ⟨d, h1, h2⟩ := loop_inv (step := leastcode_relations_L6 its) (fun s => ∃ (d : List (List Int)) (x : Nat), s = (d, (x : Int)) ∧ x ≤ its.length ∧ d.length = its.length ∧ ∀ j, j < x → d[j]? = some (relRow its j)) (fun s => its.length - s.2.toNat)
    (fun d => d = relM its) (by
    rintro _ ⟨d, x, rfl, hx, hd, hj⟩
    unfold leastcode_relations_L6
    simp only [List.length_replicate, Int.toNat_natCast]
    by_cases h : x < its.length
    · obtain ⟨r, hr⟩ : ∃ r, idx d (x : Int) = some r := ⟨_, by rw [idx_nat]; exact List.getElem?_eq_getElem (by omega)⟩
      rw [if_pos (dpos (by omega)), if_pos (by omega), hr]
      simp only [obind]
      rw [idx_nat, List.getElem?_set_self (by omega)]
      simp only [obind]
      rw [← relPart_zero its x, RL17_ok hl x h d hd _ (by rw [relPart_len])]
      simp only [obind]
      rw [wr_id (by omega) (by omega)]
      refine .inl ⟨_, rfl, ⟨_, x + 1, rfl, by omega, by rw [List.length_set]; exact hd, fun j hjx => ?_⟩, by simp only; omega⟩
      rw [List.getElem?_set]
      by_cases e : x = j
      · subst e; rw [if_pos rfl, if_pos (by omega)]
      · rw [if_neg e]; exact hj j (by omega)
    · rw [if_neg (dneg (by omega))]
      refine .inr ⟨_, rfl, ?_⟩
      have hx' : x = its.length := by omega
      subst hx'
      apply List.ext_getElem? 
      intro j
      by_cases hjl : j < its.length
      · rw [hj j hjl]; unfold relM; rw [List.getElem?_map, List.getElem?_range hjl]; rfl
      · rw [List.getElem?_eq_none (by omega), List.getElem?_eq_none (by simp [relM]; omega)]) ((List.replicate (Int.toNat ((its.length : Nat) : Int)) ([] : List Int)), 0) ⟨_, 0, rfl, by omega, by simp, fun j h => by omega⟩ (by simp; omega)
  rw [h1, h2]
  rfl

/-! ### The next code -/

/-- The round of an item. -/
def rOf (its : List Item) (x : Nat) : Int := match its[x]? with
  | some a => a.2.2.1
  | none => 0

/-- What Next answers. -/
def NX (n r w : Int) : Int × Int := (code_Next n r w).getD (0, 0)
theorem nx_ok {n r w : Int} (hn : 0 ≤ n) (hr : 0 ≤ r ∧ r ≤ 12) (hw : 0 ≤ w ∧ w ≤ 12) : code_Next n r w = some (NX n r w) ∧ r12_Next n r w = some (NX n r w) ∧ NextSpec n.toNat r.toNat w.toNat (NX n r w) := by
  obtain ⟨p, h1, h2⟩ := next_ok' n.toNat r.toNat w.toNat (by omega) (by omega)
  obtain ⟨q, h3, h4⟩ := rnext_ok n.toNat r.toNat w.toNat (by omega) (by omega)
  rw [show ((n.toNat : Nat) : Int) = n by omega, show ((r.toNat : Nat) : Int) = r by omega, show ((w.toNat : Nat) : Int) = w by omega] at h1 h3
  have e : NX n r w = p := by unfold NX; rw [h1]; rfl
  rw [e]
  exact ⟨h1, by rw [h3, next_unique h2 h4], h2⟩
theorem nx_cases {n r w : Int} (hn : 0 ≤ n) (hr : 0 ≤ r ∧ r ≤ 12) (hw : 0 ≤ w ∧ w ≤ 12) : ((NX n r w).2 = 0 ∧ n ≤ (NX n r w).1 ∧ (NX n r w).1 ≤ 4095) ∨ NX n r w = (0, 15) := by
  rcases (nx_ok hn hr hw).2.2 with ⟨k, e, h1, h2, _⟩ | ⟨e, _⟩
  · rw [e]; exact .inl ⟨rfl, by simp only; omega, by simp only; omega⟩
  · exact .inr e

/-! ### Least numbers -/
structure IsLst (its : List Item) (wt : Int) (v : List Int) : Prop where
  len : v.length = its.length
  eq : ∀ y, y < its.length → NX (need its v y) (rOf its y) wt = (v.getD y 0, 0)

theorem JobGood.r {its : List Item} {wt : Int} (hg : JobGood its wt) (y : Nat) : 0 ≤ rOf its y ∧ rOf its y ≤ 12 := by
  unfold rOf
  cases h : its[y]? with
  | none => simp
  | some a => exact (hg.it y a h).2.2.1
theorem needU_nn (its : List Item) (v : List Int) (y : Nat) : 0 ≤ need its v y := needU_nonneg its v y _


/-- Numbers that are right on a set that is closed downwards are those of any solution. -/
theorem lst_agree {its : List Item} {wt : Int} (hb : ∀ i, 0 ≤ bOf its i) {v d : List Int} (hv : IsLst its wt v) (S : Nat → Prop) (hS : ∀ y, S y → y < its.length) (hdown : ∀ x y, S y → rel its x y > 0 → S x)
    (hd : ∀ y, S y → NX (need its d y) (rOf its y) wt = (d.getD y 0, 0)) : ∀ y, S y → v.getD y 0 = d.getD y 0 := by
  have key : ∀ n y, (bOf its y).toNat < n → S y → v.getD y 0 = d.getD y 0 := by
    intro n
    induction n with
    | zero => intro y hy; omega
    | succ n ih =>
      intro y hy hs
      have e1 := hv.eq y (hS y hs)
      have e2 := hd y hs
      have e3 : need its v y = need its d y := need_congr fun x hr => by
        have h1 := (rel_blk hr).1
        have := hb x
        exact ih x (by omega) (hdown x y hs hr)
      rw [e3, e2] at e1
      exact (congrArg Prod.fst e1).symm
  exact fun y hs => key _ y (Nat.lt_succ_self _) hs
theorem lst_unique {its : List Item} {wt : Int} (hb : ∀ i, 0 ≤ bOf its i) {v d : List Int} (hv : IsLst its wt v) (hd : IsLst its wt d) : v = d := by
  apply List.ext_getElem (by rw [hv.len, hd.len])
  intro i h1 h2
  have := lst_agree hb hv (fun y => y < its.length) (fun y h => h) (fun x y _ hr => (rel_blk hr).2.1) hd.eq i (by rw [← hv.len]; exact h1)
  rw [List.getD_eq_getElem?_getD, List.getD_eq_getElem?_getD, List.getElem?_eq_getElem h1, List.getElem?_eq_getElem h2] at this
  exact this

/-- Where the next number of an item does not exist, there is no solution. -/
theorem lst_none {its : List Item} {wt : Int} (hb : ∀ i, 0 ≤ bOf its i) {d : List Int} (S : Nat → Prop) (hS : ∀ y, S y → y < its.length) (hdown : ∀ x y, S y → rel its x y > 0 → S x)
    (hd : ∀ y, S y → NX (need its d y) (rOf its y) wt = (d.getD y 0, 0)) (y : Nat) (hy : y < its.length) (hyS : ∀ x, rel its x y > 0 → S x) (hn : NX (need its d y) (rOf its y) wt = (0, 15)) : ∀ v, ¬ IsLst its wt v := by
  intro v hv
  have e := hv.eq y hy
  have e3 : need its v y = need its d y := need_congr fun x hr => lst_agree hb hv S hS hdown hd x (hyS x hr)
  rw [e3, hn] at e
  have := congrArg Prod.snd e
  simp at this

/-- The numbers that were found as far as an item that has none. -/
def Stuck (its : List Item) (wt : Int) : Prop := ∃ (d : List Int) (S : Nat → Prop) (y : Nat), (∀ y, S y → y < its.length) ∧ (∀ x y, S y → rel its x y > 0 → S x) ∧
  (∀ y, S y → NX (need its d y) (rOf its y) wt = (d.getD y 0, 0)) ∧ y < its.length ∧ (∀ x, rel its x y > 0 → S x) ∧ NX (need its d y) (rOf its y) wt = (0, 15)
theorem Stuck.none {its : List Item} {wt : Int} (hb : ∀ i, 0 ≤ bOf its i) (h : Stuck its wt) : ∀ v, ¬ IsLst its wt v := by
  obtain ⟨d, S, y, h1, h2, h3, h4, h5, h6⟩ := h
  exact lst_none hb S h1 h2 h3 y h4 h5 h6

/-- Codes of twelve bits. -/
def C12 (v : List Int) : Prop := ∀ y, 0 ≤ v.getD y 0 ∧ v.getD y 0 ≤ 4095
theorem C12.need {its : List Item} {v : List Int} (h : C12 v) (y m : Nat) : 0 ≤ needU its v y m ∧ needU its v y m ≤ 4096 := by
  refine ⟨needU_nonneg its v y m, ?_⟩
  rcases needU_at its v y m with h0 | ⟨x, h1, h2, h3⟩
  · omega
  · have := h x
    rcases rel_range its x y with e | e | e <;> omega
theorem IsLst.c12 {its : List Item} {wt : Int} (hg : JobGood its wt) {v : List Int} (h : IsLst its wt v) : C12 v := fun y => by
  by_cases hy : y < its.length
  · have e := h.eq y hy
    rcases nx_cases (needU_nn its v y) (hg.r y) hg.w with ⟨_, h2, h3⟩ | h2
    · rw [e] at h2 h3
      have := needU_nn its v y
      simp only at h2 h3
      omega
    · rw [e] at h2
      have := congrArg Prod.snd h2
      simp at this
  · rw [List.getD_eq_getElem?_getD, List.getElem?_eq_none (by rw [h.len]; omega)]
    decide

/-! ### The items in the order of their blocks -/
theorem order_ok (its : List Item) (wt : Int) (hl : its.length ≤ 1000) (hb : ∀ i, 0 ≤ bOf its i ∧ bOf its i ≤ 31) :
    ∃ d ys : List Int, loop (leastcode_solve_L8 its) ((List.replicate (Int.toNat ((its.length : Nat) : Int)) 0 : List Int), 0) = some d ∧ sortF (fun sx sy => leastcode_solve_1 sx sy its wt) d = some ys ∧
      ys.Perm ((List.range its.length).map fun (x : Nat) => (x : Int)) ∧ ys.Pairwise (fun a b => bOf its a.toNat ≤ bOf its b.toNat) := by
  obtain ⟨d, h1, h2⟩ := loop_inv (step := leastcode_solve_L8 its) (fun s => ∃ (i : Nat) (d : List Int), s = (d, (i : Int)) ∧ i ≤ its.length ∧ d.length = its.length ∧ ∀ j : Nat, j < i → d[j]? = some (j : Int)) (fun s => its.length - s.2.toNat)
    (fun d => d = (List.range its.length).map fun (x : Nat) => (x : Int)) (by
    rintro _ ⟨i, d, rfl, hi, hd, hj⟩
    unfold leastcode_solve_L8
    simp only [List.length_replicate, Int.toNat_natCast]
    by_cases h : i < its.length
    · rw [if_pos (dpos (by omega)), idx_nat, List.getElem?_eq_getElem (by omega)]
      simp only [Option.bind_some]
      rw [wr_id (by omega) (by omega)]
      refine .inl ⟨_, rfl, ⟨i + 1, _, rfl, by omega, by simp [hd], fun j hji => ?_⟩, by simp only; omega⟩
      rw [List.getElem?_set]
      by_cases e : i = j
      · subst e; rw [if_pos rfl, if_pos (by omega)]
      · rw [if_neg e]; exact hj j (by omega)
    · rw [if_neg (dneg (by omega))]
      refine .inr ⟨_, rfl, ?_⟩
      have hi' : i = its.length := by omega
      subst hi'
      apply List.ext_getElem? 
      intro j
      by_cases hjl : j < its.length
      · rw [hj j hjl]; simp [hjl]
      · rw [List.getElem?_eq_none (by omega), List.getElem?_eq_none (by simp; omega)]) ((List.replicate (Int.toNat ((its.length : Nat) : Int)) 0 : List Int), 0) ⟨0, _, rfl, by omega, by simp, fun j h => by omega⟩ (by simp; omega)
  subst h2
  obtain ⟨ys, h3, h4, h5⟩ := sortF_spec (cmp := fun sx sy => leastcode_solve_1 sx sy its wt) (xs := (List.range its.length).map fun (x : Nat) => (x : Int)) (fun a => bOf its a.toNat) (by simp; omega) (by
    intro x hx y hy
    simp only [List.mem_map, List.mem_range] at hx hy
    obtain ⟨x, hx, rfl⟩ := hx
    obtain ⟨y, hy, rfl⟩ := hy
    unfold leastcode_solve_1
    have hbx := hb x
    have hby := hb y
    rw [idx_nat, idx_nat, List.getElem?_eq_getElem hx, List.getElem?_eq_getElem hy]
    simp only [Option.bind_some, Int.toNat_natCast]
    simp only [bOf, List.getElem?_eq_getElem hx, List.getElem?_eq_getElem hy] at hbx hby ⊢
    rw [wr_id (by omega) (by omega)])
  exact ⟨_, ys, h1, h3, h4, h5⟩


theorem SL23_ok {its : List Item} (hl : its.length ≤ 1000) (base least : List Int) (hb : base.length = its.length) (hle : least.length = its.length) (hc : C12 least) (y : Nat) (hy : y < its.length) (h0 : base.getD y 0 = 0) :
    loop (leastcode_solve_L23 its (relM its) least (y : Int)) (base, 0) = some (base.set y (need its least y)) := by
  obtain ⟨d', g1, g2⟩ := loop_inv (step := leastcode_solve_L23 its (relM its) least (y : Int)) (fun s => ∃ k : Nat, s = (base.set y (needU its least y k), (k : Int)) ∧ k ≤ its.length) (fun s => its.length - s.2.toNat)
    (fun d' => d' = base.set y (need its least y)) (by
    rintro _ ⟨k, rfl, hk⟩
    unfold leastcode_solve_L23
    simp only
    by_cases hkl : k < its.length
    · rw [if_pos (dpos (by omega)), relM_get hkl]
      simp only [obind]
      rw [relRow_get hy]
      simp only [obind]
      have hnb := hc.need (its := its) y k
      by_cases hr : rel its k y > 0
      · have hlen2 : (base.set y (needU its least y k)).length = its.length := by simp [hb]
        have q1 : idx (base.set y (needU its least y k)) (y : Int) = some (needU its least y k) := by
          rw [idx_getD (by omega), getD_set, if_pos ⟨rfl, by omega⟩]
        have hdk := hc k
        have hrr := rel_range its k y
        rw [if_pos (dpos hr), q1, idx_getD (l := least) (i := k) (by omega)]
        simp only [obind]
        rw [wr_id (n := least.getD k 0 + rel its k y) (by omega) (by omega), wr_id (n := least.getD k 0 + rel its k y - 1) (by omega) (by omega), wr_id (n := (k : Int) + 1) (by omega) (by omega), Int.toNat_natCast, List.set_set]
        refine .inl ⟨_, rfl, ⟨k + 1, ?_, by omega⟩, by simp only; omega⟩
        simp only [needU, if_pos hr]
        rfl
      · rw [if_neg (dneg hr), wr_id (by omega) (by omega)]
        refine .inl ⟨_, rfl, ⟨k + 1, ?_, by omega⟩, by simp only; omega⟩
        simp only [needU, if_neg hr]
        rfl
    · rw [if_neg (dneg (by omega))]
      have : k = its.length := by omega
      subst this
      exact .inr ⟨_, rfl, rfl⟩) (base, 0) ⟨0, by
        have : base.set y 0 = base := by
          apply List.ext_getElem? 
          intro j
          rw [List.getElem?_set]
          by_cases e : y = j
          · subst e
            rw [if_pos rfl, if_pos (by omega)]
            rw [List.getD_eq_getElem?_getD, List.getElem?_eq_getElem (by omega)] at h0
            rw [List.getElem?_eq_getElem (by omega)]
            simp only [Option.getD_some] at h0
            rw [h0]
          · rw [if_neg e]
        simp only [needU, this]; rfl, by omega⟩ (by simp; omega)
  rw [g1, g2]


/-- What Solve answers. -/
def SolveSpec (its : List Item) (wt : Int) (p : List Int × List Int × Int) : Prop :=
  (p.2.2 = 0 ∧ IsLst its wt p.2.1 ∧ p.1.length = its.length ∧ ∀ y, y < its.length → p.1.getD y 0 = need its p.2.1 y) ∨ (p = ([], [], 15) ∧ Stuck its wt)

theorem solve_ok {its : List Item} {wt : Int} (hg : JobGood its wt) : ∃ p, leastcode_solve its wt (relM its) = some p ∧ SolveSpec its wt p := by
  have hl := hg.len
  have hb := hg.b
  obtain ⟨d0, ys, e0, e1, hp, hs⟩ := order_ok its wt (by omega) hb
  have hys : ∀ y ∈ ys, ∃ n : Nat, y = (n : Int) ∧ n < its.length := by
    intro y hy
    have := hp.mem_iff.1 hy
    simp only [List.mem_map, List.mem_range] at this
    obtain ⟨n, h1, rfl⟩ := this
    exact ⟨n, rfl, h1⟩
  have hlen : ys.length = its.length := by rw [hp.length_eq]; simp
  have hall : ∀ n, n < its.length → (n : Int) ∈ ys := fun n hn => hp.mem_iff.2 (by simp only [List.mem_map, List.mem_range]; exact ⟨n, hn, rfl⟩)
  have hnd : ys.Nodup := by
    refine hp.symm.nodup ?_
    rw [List.nodup_iff_pairwise_ne, List.pairwise_map]
    exact List.Pairwise.imp (fun h => by omega) (List.nodup_iff_pairwise_ne.1 List.nodup_range)
  have hinj : ∀ (i j y : Nat), ys[i]? = some (y : Int) → ys[j]? = some (y : Int) → i = j := by
    intro i j y h1 h2
    obtain ⟨hi, e1⟩ := List.getElem?_eq_some_iff.1 h1
    obtain ⟨hj, e2⟩ := List.getElem?_eq_some_iff.1 h2
    have hpw := List.nodup_iff_pairwise_ne.1 hnd
    rcases Nat.lt_trichotomy i j with h | h | h
    · exact absurd (by rw [e1, e2]) (List.pairwise_iff_getElem.1 hpw i j hi hj h)
    · exact h
    · exact absurd (by rw [e1, e2]) (List.pairwise_iff_getElem.1 hpw j i hj hi h)
  -- an item that comes before the one at place i stands at a lower place
  have hlow : ∀ (i y x : Nat), ys[i]? = some (y : Int) → rel its x y > 0 → ∃ j, j < i ∧ ys[j]? = some (x : Int) := by
    intro i y x hi hr
    obtain ⟨hblk, hx, _⟩ := rel_blk hr
    obtain ⟨j, hj, hjx⟩ := List.getElem_of_mem (hall x hx)
    obtain ⟨hil, hiy⟩ := List.getElem?_eq_some_iff.1 hi
    refine ⟨j, ?_, by rw [List.getElem?_eq_getElem hj, hjx]⟩
    rcases Nat.lt_or_ge j i with h | h
    · exact h
    · by_cases e : i = j
      · subst e; rw [hjx] at hiy; have : x = y := by omega
        subst this; omega
      · have := List.pairwise_iff_getElem.1 hs i j hil hj (by omega)
        rw [hiy, hjx] at this
        simp only [Int.toNat_natCast] at this
        omega
  unfold leastcode_solve
  rw [if_pos (by omega), e0]
  simp only [obind]
  rw [e1]
  simp only [obind, hlen]
  rw [if_pos (by omega), if_pos (by omega)]
  obtain ⟨r, h1, h2⟩ := loop_inv (step := leastcode_solve_L18 its wt (relM its) ys) (fun s => ∃ (i : Nat) (base d : List Int), s = (base, d, (i : Int)) ∧ i ≤ its.length ∧ base.length = its.length ∧ d.length = its.length ∧ C12 d ∧
      (∀ (j y : Nat), j < i → ys[j]? = some (y : Int) → base.getD y 0 = need its d y ∧ NX (need its d y) (rOf its y) wt = (d.getD y 0, 0)) ∧ (∀ (j y : Nat), i ≤ j → ys[j]? = some (y : Int) → base.getD y 0 = 0)) (fun s => its.length - s.2.2.toNat)
    (fun r => (∃ base d, r = .inr (base, d) ∧ IsLst its wt d ∧ base.length = its.length ∧ ∀ y, y < its.length → base.getD y 0 = need its d y) ∨ (r = .inl 15 ∧ Stuck its wt)) (by
    rintro _ ⟨i, base, d, rfl, hi, hbl, hd, hB, hdone, hzero⟩
    unfold leastcode_solve_L18
    simp only [hlen]
    by_cases h : i < its.length
    · have hyi : ys[i]? = some ys[i] := List.getElem?_eq_getElem (by omega)
      obtain ⟨y, hy, hyl⟩ := hys ys[i] (List.getElem_mem _)
      rw [hy] at hyi
      obtain ⟨a, ha⟩ : ∃ a, its[y]? = some a := ⟨_, List.getElem?_eq_getElem hyl⟩
      have har : rOf its y = a.2.2.1 := by unfold rOf; rw [ha]
      rw [if_pos (dpos (by omega)), idx_nat, hyi]
      simp only [obind]
      rw [SL23_ok (by omega) base d hbl hd hB y hyl (hzero i y (Nat.le_refl _) hyi)]
      simp only [obind]
      rw [idx_getD (by rw [List.length_set]; omega), getD_set, if_pos ⟨rfl, by omega⟩, idx_nat, ha]
      simp only [obind]
      have hne := needU_nn its d y
      have hrr := hg.r y
      rw [← har, (nx_ok hne hrr hg.w).1]
      simp only [obind]
      rcases nx_cases hne hrr hg.w with ⟨c0, c1, c2⟩ | c0
      · rw [if_neg (by simp [c0]), idx_getD (by omega)]
        simp only [obind, Int.toNat_natCast]
        rw [wr_id (by omega) (by omega)]
        have hpair : NX (need its d y) (rOf its y) wt = ((NX (need its d y) (rOf its y) wt).1, 0) := Prod.ext rfl c0
        have hother : ∀ j z : Nat, j ≤ i → ys[j]? = some (z : Int) → need its (d.set y (NX (need its d y) (rOf its y) wt).1) z = need its d z := by
          intro j z hj hz
          refine need_congr fun x hr => ?_
          obtain ⟨j', hj', hx⟩ := hlow j z x hz hr
          rw [getD_set, if_neg (fun q => by
            have e : y = x := q.1
            subst e
            have := hinj _ _ _ hyi hx
            omega)]
        refine .inl ⟨_, rfl, ⟨i + 1, _, _, rfl, by omega, by rw [List.length_set]; exact hbl, by rw [List.length_set]; exact hd, fun z => ?_, fun j z hj hz => ?_, fun j z hj hz => ?_⟩, by simp only; omega⟩
        · rw [getD_set]
          split
          · omega
          · exact hB z
        · rw [hother j z (by omega) hz]
          by_cases e : y = z
          · subst e
            rw [getD_set, if_pos ⟨rfl, by omega⟩, getD_set, if_pos ⟨rfl, by omega⟩]
            exact ⟨rfl, hpair⟩
          · have hji : j ≠ i := fun q => by
              subst q
              rw [hyi] at hz
              have := Option.some.inj hz
              omega
            rw [getD_set, if_neg (fun q => e q.1), getD_set, if_neg (fun q => e q.1)]
            exact hdone j z (by omega) hz
        · have hne2 : y ≠ z := fun e => by
            subst e
            have := hinj _ _ _ hyi hz
            omega
          rw [getD_set, if_neg (fun q => hne2 q.1)]
          exact hzero j z (by omega) hz
      · rw [if_pos (by rw [c0]; rfl), c0]
        refine .inr ⟨_, rfl, .inr ⟨rfl, ?_⟩⟩
        refine ⟨d, fun z => ∃ j, j < i ∧ ys[j]? = some (z : Int), y, ?_, ?_, ?_, hyl, fun x hr => hlow i y x hyi hr, c0⟩
        · rintro z ⟨j, hj, hz⟩
          obtain ⟨n, e, hn⟩ := hys _ (List.mem_of_getElem? hz)
          omega
        · rintro x z ⟨j, hj, hz⟩ hr
          obtain ⟨j', h3, h4⟩ := hlow j z x hz hr
          exact ⟨j', by omega, h4⟩
        · rintro z ⟨j, hj, hz⟩
          exact (hdone j z hj hz).2
    · rw [if_neg (dneg (by omega))]
      refine .inr ⟨_, rfl, .inl ⟨base, d, rfl, ⟨hd, fun y hy => ?_⟩, hbl, fun y hy => ?_⟩⟩
      · obtain ⟨j, hj, hjy⟩ := List.getElem_of_mem (hall y hy)
        exact (hdone j y (by omega) (by rw [List.getElem?_eq_getElem hj, hjy])).2
      · obtain ⟨j, hj, hjy⟩ := List.getElem_of_mem (hall y hy)
        exact (hdone j y (by omega) (by rw [List.getElem?_eq_getElem hj, hjy])).1) ((List.replicate (Int.toNat ((its.length : Nat) : Int)) 0 : List Int), (List.replicate (Int.toNat ((its.length : Nat) : Int)) 0 : List Int), 0)
      ⟨0, _, _, rfl, by omega, by simp, by simp, fun y => by
        rw [List.getD_eq_getElem?_getD, List.getElem?_replicate]; split <;> decide, fun j y h => by omega, fun j y _ _ => by
        rw [List.getD_eq_getElem?_getD, List.getElem?_replicate]; split <;> rfl⟩ (by simp; omega)
  rw [h1]
  rcases h2 with ⟨base, d, rfl, g1, g2, g3⟩ | ⟨rfl, g1⟩
  · exact ⟨_, rfl, .inl ⟨rfl, g1, g2, g3⟩⟩
  · exact ⟨_, rfl, .inr ⟨rfl, g1⟩⟩
end Go.Proofs.Ytcignnfdpgeogaa
