/- Memory laws for exchanges of elements, whole elements that are written, and slices that are compared with nil. Conditions: those of each theorem. -/
import Derived.Test.YtdbomhhcebmkpaaH
set_option linter.unusedSimpArgs false
set_option linter.unusedVariables false
namespace Go.V
open Go

theorem idx_set_any {α : Type} {xs : List α} {i : Int} {x : α} (h : idx xs i = some x) (j : Nat) (z : α) : ∃ y, idx (xs.set j z) i = some y := by
  obtain ⟨h0, h1, h2⟩ := idx_some h
  unfold idx
  rw [if_pos h0]
  exact ⟨_, List.getElem?_eq_getElem (by rw [List.length_set]; omega)⟩

theorem sa_size {cur : Array Value} {vs : List Value} {k : Nat} (h : k + vs.length ≤ cur.size) : (cur.toList.take k ++ vs ++ cur.toList.drop (k + vs.length)).toArray.size = cur.size := by
  simp only [List.size_toArray, List.length_append, List.length_take, List.length_drop, Array.length_toList]
  omega
theorem sa_in {cur : Array Value} {vs : List Value} {k : Nat} (h : k + vs.length ≤ cur.size) {j : Nat} {u : Value} (hu : vs[j]? = some u) : (cur.toList.take k ++ vs ++ cur.toList.drop (k + vs.length)).toArray[k + j]? = some u := by
  have hj := (List.getElem?_eq_some_iff.1 hu).1
  have hl : (cur.toList.take k).length = k := by simp only [List.length_take, Array.length_toList]; omega
  rw [List.getElem?_toArray, List.getElem?_append_left (by rw [List.length_append, hl]; omega), List.getElem?_append_right (by omega), hl, Nat.add_sub_cancel_left]
  exact hu
theorem sa_out {cur : Array Value} {vs : List Value} {k : Nat} (h : k + vs.length ≤ cur.size) {j : Nat} (hj : j < k ∨ k + vs.length ≤ j) : (cur.toList.take k ++ vs ++ cur.toList.drop (k + vs.length)).toArray[j]? = cur[j]? := by
  have hl : (cur.toList.take k).length = k := by simp only [List.length_take, Array.length_toList]; omega
  rw [List.getElem?_toArray, ← Array.getElem?_toList]
  rcases hj with hj | hj
  · rw [List.getElem?_append_left (by rw [List.length_append, hl]; omega), List.getElem?_append_left (by omega), List.getElem?_take, if_pos hj]
  · rw [List.getElem?_append_right (by rw [List.length_append, hl]; omega), List.length_append, hl, List.getElem?_drop]
    congr 1; omega
/-- A whole element of an own slice is written. -/
theorem own_storeA {P : Program} {M : List Nat} {α : Type} {e : Enc α} {te T : Nat} {w : World} {g : Nat} {c : Nat} {xs : List α} {i : Int} {x y : α} (vs : List Value) (ht : IsAgg P te vs.length) (h : OwnS e T w M (some ⟨g, 0, none⟩) c xs) (hsub : g ∈ M) (hx : idx xs i = some x)
    (h1 : vs.all (fun v => v.oneCell') = true) (hn : vs.length = e.n) (hy : ∀ w M, e.R w M vs y) :
    ∃ w', (Instr.storeAt te (.pointer (some ⟨g, i.toNat * e.n, none⟩)) (.agg vs.toArray)).run P w = .ok () w' ∧ Ev [g] w w' ∧ OwnS e T w' M (some ⟨g, 0, none⟩) c (xs.set i.toNat y) := by
  obtain ⟨h0, hl, h2⟩ := idx_some hx
  rcases h with ⟨hh, _, _⟩ | ⟨g', cur, hg', hg, h3, h4, h5, h6⟩
  · cases hh
  · cases hg'
    have hil : i.toNat < xs.length := by omega
    have hfit : i.toNat * e.n + vs.length ≤ cur.size := by
      rw [h5, hn]
      have : (i.toNat + 1) * e.n ≤ c * e.n := Nat.mul_le_mul_right _ (by omega)
      rw [Nat.add_mul] at this; omega
    obtain ⟨w', hr, hb, hev⟩ := store_boxagg (P := P) (i.toNat * e.n) vs _ ht hg (Nat.ble_eq ▸ hfit) h1 rfl
    refine ⟨w', hr, hev, .inr ⟨g, _, rfl, hb, by rw [List.length_set]; exact h3, h4, ?_, fun j z hz => ?_⟩⟩
    · rw [sa_size hfit]; exact h5
    have hst : Stp M w M w' := Stp.same hev (fun b hb => by simp only [List.mem_singleton] at hb; subst hb; exact hsub)
    rw [List.getElem?_set] at hz
    split at hz
    · rename_i hij
      cases hz
      subst hij
      refine ⟨vs, hy _ _, fun k u hu => ?_⟩
      exact sa_in hfit hu
    · rename_i hij
      obtain ⟨cs, h7, h8⟩ := h6 _ _ hz
      refine ⟨cs, e.step h7 hst, fun k u hu => ?_⟩
      have hk : k < e.n := by rw [← e.len h7]; exact (List.getElem?_eq_some_iff.1 hu).1
      refine (sa_out hfit ?_).trans (h8 k u hu)
      rcases Nat.lt_or_gt_of_ne hij with hlt | hgt
      · right
        have : (i.toNat + 1) * e.n ≤ j * e.n := Nat.mul_le_mul_right _ hlt
        rw [Nat.add_mul] at this; omega
      · left
        have : (j + 1) * e.n ≤ i.toNat * e.n := Nat.mul_le_mul_right _ hgt
        rw [Nat.add_mul] at this; omega
theorem blk_mem {a : Option Addr} {g o : Nat} (ha : a = some ⟨g, o, none⟩) : g ∈ blk a := by subst ha; simp [blk]
theorem own_storeE {P : Program} {M : List Nat} {α : Type} {e : Enc α} {te T : Nat} {w : World} {g : Nat} {a : Option Addr} {c : Nat} {xs : List α} {i : Int} {x y : α} (ha : a = some ⟨g, 0, none⟩) (o : Nat) (v : Value) (ht : IsCell P te) (h : OwnS e T w M a c xs) (hsub : ∀ b ∈ blk a, b ∈ M) (hx : idx xs i = some x)
    (h1 : v.oneCell' = true) (ho : Nat.blt o e.n = true) (hy : ∀ w M cs, e.R w M cs x → e.R w M (cs.set o v) y) :
    ∃ w', (Instr.storeAt te (.pointer (some ⟨g, i.toNat * e.n + o, none⟩)) v).run P w = .ok () w' ∧ Ev (blk a) w w' ∧ OwnS e T w' M a c (xs.set i.toNat y) := by
  subst ha
  exact own_store o v ht h (hsub g (by simp [blk])) hx h1 ho hy
theorem own_storeAE {P : Program} {M : List Nat} {α : Type} {e : Enc α} {te T : Nat} {w : World} {g : Nat} {a : Option Addr} {c : Nat} {xs : List α} {i : Int} {x y : α} (ha : a = some ⟨g, 0, none⟩) (vs : List Value) (ht : IsAgg P te vs.length) (h : OwnS e T w M a c xs) (hsub : ∀ b ∈ blk a, b ∈ M) (hx : idx xs i = some x)
    (h1 : vs.all (fun v => v.oneCell') = true) (hn : vs.length = e.n) (hy : ∀ w M, e.R w M vs y) :
    ∃ w', (Instr.storeAt te (.pointer (some ⟨g, i.toNat * e.n, none⟩)) (.agg vs.toArray)).run P w = .ok () w' ∧ Ev (blk a) w w' ∧ OwnS e T w' M a c (xs.set i.toNat y) := by
  subst ha
  exact own_storeA vs ht h (hsub g (by simp [blk])) hx h1 hn hy
theorem own_cellE {α : Type} {e : Enc α} {T : Nat} {w : World} {M : List Nat} {g : Nat} {a : Option Addr} {c : Nat} {xs : List α} {i : Int} {x : α} (ha : a = some ⟨g, 0, none⟩) (h : OwnS e T w M a c xs) (hx : idx xs i = some x) :
    ∃ cs, CellsAt w [] ⟨g, i.toNat * e.n, none⟩ cs ∧ e.R w M cs x := by
  subst ha; exact own_cell h hx
/-- A slice that is compared with nil. -/
theorem vb_slnil {P : Program} {t el : TypeId} {xo yo : Operand} (ht : P.underlying t = some (.slice el)) (a : Option Addr) (l c : Nat) : ∀ K : Value → Prop, K (.bool a.isNone) → vcBin P .eql t xo yo (.slice a l c) (.slice none 0 0) K := by
  intro K hK
  refine ⟨_, fun w => ?_, hK⟩
  show Sem.run P (binOp .eql t (.slice a l c) (.slice none 0 0)) w = _
  show Sem.run P (do pure (.bool (← Op.equal t (.slice a l c) (.slice none 0 0))) : Sem Value) w = _
  have h : (Op.equal t (.slice a l c) (.slice none 0 0)).run P w = .ok a.isNone w := by
    unfold Op.equal Op.maxDepth Op.equalIn
    rw [run_bind, run_underlying ht]
    cases a <;> rfl
  rw [run_bind, h]
  rfl
theorem SlR.nil_of {α : Type} {e : Enc α} {w : World} {M : List Nat} {a : Option Addr} {c : Nat} {xs : List α} (h : SlR e w M a c xs) (ha : a.isNone = true) : xs = [] := h.nil (by cases a <;> first | rfl | cases ha)
end Go.V
