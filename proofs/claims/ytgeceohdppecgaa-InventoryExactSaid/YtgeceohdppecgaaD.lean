
/- slices.Delete and slices.Insert at []int, as contracts on slices that are owned. Conditions: those of each theorem. -/
import Derived.Test.YtgeceohdppecgaaS
import Derived.Shelf.Slices.Delete
import Derived.Shelf.Spec.SlicesInsert
import Derived.Shelf.Spec.SlicesInsertGrow
set_option linter.unusedSimpArgs false
set_option linter.unusedVariables false
namespace Go.V
open Go Go.Sort Go.Proofs

theorem own_cap {T : TypeId} {w : World} {M : List Nat} {a : Option Addr} {c : Nat} {xs : List Int} (h : OwnS (eInt .i64) T w M a c xs) : c ≤ 9223372036854775807 := by
  rcases h with ⟨_, h, _⟩ | ⟨g, _, h, _, h1, h2, _⟩
  · omega
  · unfold maxLen at h2; omega

/-- slices.Delete. -/
theorem delI_w {P : Program} {ρ : Go.Shelf.Ren} (L : Lays2.n23 P ρ) {f : Nat} (hf : ρ.f 23 = f) (hcal : ∃ fn, P.funcs[f]? = some fn ∧ (fn.name == "runtime.NumGoroutine") = false ∧ fn.body.isNone = false)
    {T : TypeId} {w : World} {M : List Nat} {a : Option Addr} {c : Nat} {xs : List Int} (h : OwnS (eInt .i64) T w M a c xs) {i j : Int} (hg : xs ≠ [] ∧ 0 ≤ i ∧ i ≤ j ∧ j ≤ xs.length) :
    CallVC P f [.slice a xs.length c, .int .i64 i, .int .i64 j] w fun v w' => v = .slice a (xs.take i.toNat ++ xs.drop j.toNat).length c ∧ Ev (blk a) w w' ∧ ∀ M', OwnS (eInt .i64) T w' M' a c (xs.take i.toNat ++ xs.drop j.toNat) := by
  refine ⟨?_, hcal⟩
  subst hf
  obtain ⟨hne, h0, hij, hj⟩ := hg
  rcases own_cases h with hx | ⟨g, ha⟩
  · exact absurd hx hne
  · have key := Any.slices_Delete_int L g 0 c i.toNat j.toNat xs w (own_Holds h ha) h.le (own_cap h) (by omega) (by omega)
    rw [← ha, Int.toNat_of_nonneg h0, Int.toNat_of_nonneg (by omega : 0 ≤ j)] at key
    refine key.mono fun e w' ⟨he, n, hw⟩ => ⟨_, he, ?_, ?_, fun M' => ?_⟩
    · congr 1; simp; omega
    · rw [hw]
      have := (own_put (n := n) (os := #[]) (d := (xs.take i.toNat ++ xs.drop j.toNat ++ List.replicate (j.toNat - i.toNat) 0).toArray) id h ha (by have := h.le; simp; omega)).1
      rw [grow_empty] at this
      exact this
    · rw [hw]
      have := (own_put (n := n) (os := #[]) (d := (xs.take i.toNat ++ xs.drop j.toNat ++ List.replicate (j.toNat - i.toNat) 0).toArray) id h ha (by have := h.le; simp; omega)).2 M'
      rw [grow_empty] at this
      have h2 := this.trunc (xs.take i.toNat ++ xs.drop j.toNat).length
      rw [List.map_id, List.take_left] at h2
      exact h2

theorem heap_setCell {w : World} {g o : Nat} {v : Value} {cur : Array Value} {T : TypeId} (h : w.heap[g]? = some (.cells cur T (0, 0))) : (w.setCell ⟨g, o, none⟩ v).heap[g]? = some (.cells (cur.setIfInBounds o v) T (0, 0)) ∧ Ev [g] w (w.setCell ⟨g, o, none⟩ v) := by
  refine ⟨?_, ⟨rfl, rfl, rfl, by simp [World.setCell], fun k hk hm => ?_⟩⟩
  · simp [World.setCell, Array.getElem?_modify, h]
  · have : g ≠ k := fun e => hm (by simp [e])
    simp [World.setCell, Array.getElem?_modify, this]
theorem heap_setCells {g : Nat} {T : TypeId} : ∀ (vs : List Value) (o : Nat) (w : World) (cur : Array Value), w.heap[g]? = some (.cells cur T (0, 0)) → o + vs.length ≤ cur.size →
    ∃ cur', (w.setCells g o vs).heap[g]? = some (.cells cur' T (0, 0)) ∧ cur'.size = cur.size ∧ (∀ j, j < vs.length → cur'[o + j]? = vs[j]?) ∧ (∀ j, (j < o ∨ o + vs.length ≤ j) → cur'[j]? = cur[j]?) ∧ Ev [g] w (w.setCells g o vs)
  | [], o, w, cur, h, _ => ⟨cur, h, rfl, fun j hj => (by cases hj), fun _ _ => rfl, Ev.refl _ _⟩
  | v :: vs, o, w, cur, h, hl => by
    obtain ⟨h1, h2⟩ := heap_setCell (o := o) (v := v) h
    obtain ⟨cur', h3, h4, h5, h6, h7⟩ := heap_setCells vs (o + 1) _ _ h1 (by simp at hl ⊢; omega)
    refine ⟨cur', h3, by rw [h4]; simp, fun j hj => ?_, fun j hj => ?_, h2.then h7 (fun b hb => .inl hb)⟩
    · cases j with
      | zero =>
        rw [Nat.add_zero, h6 o (.inl (by omega)), Array.getElem?_setIfInBounds]
        simp at hl
        simp; omega
      | succ j =>
        have := h5 j (by simp at hj; omega)
        rw [show o + (j + 1) = o + 1 + j by omega, this]; simp
    · simp at hj
      rw [h6 j (by omega), Array.getElem?_setIfInBounds_ne (by omega)]
theorem int_cells {T : TypeId} {w : World} {M : List Nat} {a : Option Addr} {c : Nat} {xs : List Int} {g : Nat} (h : OwnS (eInt .i64) T w M a c xs) (ha : a = some ⟨g, 0, none⟩) :
    ∃ cur, w.heap[g]? = some (.cells cur T (0, 0)) ∧ xs.length ≤ c ∧ c ≤ maxLen ∧ cur.size = c ∧ ∀ (i : Nat) (x : Int), xs[i]? = some x → cur[i]? = some (.int .i64 x) := by
  rcases h with ⟨h, _, _⟩ | ⟨g', cur, hg', hg, h1, h2, h3, h4⟩
  · rw [h] at ha; cases ha
  rw [ha] at hg'
  cases hg'
  refine ⟨cur, hg, h1, h2, by rw [h3]; exact Nat.mul_one c, fun i x hx => ?_⟩
  obtain ⟨cs, h5, h6⟩ := h4 i x hx
  have h5' : cs = [.int .i64 x] := h5
  have := h6 0 _ (by rw [h5']; rfl)
  have e : (eInt .i64).n = 1 := rfl
  rw [e, Nat.mul_one, Nat.add_zero] at this
  exact this
theorem int_own {T : TypeId} {w : World} (M : List Nat) {c : Nat} {xs : List Int} {g : Nat} {cur : Array Value} (h : w.heap[g]? = some (.cells cur T (0, 0))) (h1 : xs.length ≤ c) (h2 : c ≤ maxLen) (h3 : cur.size = c) (h4 : ∀ (i : Nat) (x : Int), xs[i]? = some x → cur[i]? = some (.int .i64 x)) :
    OwnS (eInt .i64) T w M (some ⟨g, 0, none⟩) c xs :=
  .inr ⟨g, cur, rfl, h, h1, h2, by rw [h3]; exact (Nat.mul_one c).symm, fun i x hx => ⟨[.int .i64 x], rfl, fun k v hv => by
    cases k with
    | succ k => simp at hv
    | zero =>
      simp only [List.getElem?_cons_zero, Option.some.injEq] at hv
      subst hv
      have e : (eInt .i64).n = 1 := rfl
      rw [e, Nat.mul_one, Nat.add_zero]
      exact h4 i x hx⟩⟩
theorem ev_alloc {M : List Nat} {w : World} (o : Obj) : Ev M w (w.alloc o) := (Ev.alloc w o).nil
theorem heap_alloc {w : World} (o : Obj) : (w.alloc o).heap[w.heap.size]? = some o := heap_push_new w o

/-- What an insertion at the front gives. -/
def InsR (T : TypeId) (w : World) (a : Option Addr) (xs : List Int) (x : Int) (v : Value) (w' : World) : Prop :=
  ∃ a' c', v = .slice a' (x :: xs).length c' ∧ Ev (blk a) w w' ∧ (∀ b ∈ blk a', (b ∈ blk a ∨ w.heap.size ≤ b) ∧ b < w'.heap.size) ∧ (∀ b ∈ blk a', b ∈ blk a ∨ b = w.heap.size) ∧ ∀ M', OwnS (eInt .i64) T w' M' a' c' (x :: xs)

/-- slices.Insert of one number at the front. -/
theorem insI_w {P : Program} {ρ : Go.Shelf.Ren} (L : Lays2.n21 P ρ) {f : Nat} (hf : ρ.f 21 = f) (hcal : ∃ fn, P.funcs[f]? = some fn ∧ (fn.name == "runtime.NumGoroutine") = false ∧ fn.body.isNone = false)
    {T T2 : TypeId} (hT : ρ.t 3 = T) {w : World} {M M2 : List Nat} {a av : Option Addr} {c cv : Nat} {xs : List Int} {x : Int} (h : OwnS (eInt .i64) T w M a c xs) (hv : OwnS (eInt .i64) T2 w M2 av cv [x]) (hd : ∀ b ∈ blk av, b ∉ blk a) (hl : xs.length ≤ 4294967294) :
    CallVC P f [.slice a xs.length c, .int .i64 0, .slice av [x].length cv] w (InsR T w a xs x) := by
  refine ⟨?_, hcal⟩
  subst hf
  obtain ⟨gv, hav⟩ : ∃ g, av = some ⟨g, 0, none⟩ := by
    rcases own_cases hv with e | e
    · cases e
    · exact e
  obtain ⟨curv, v1, v2, v3, v4, v5⟩ := int_cells hv hav
  have hvs : ∀ j v, [Value.int .i64 x][j]? = some v → w.cell? ⟨gv, 0 + j, none⟩ = some v := fun j v hj => by
    cases j with
    | succ j => simp at hj
    | zero =>
      simp only [List.getElem?_cons_zero, Option.some.injEq] at hj
      subst hj
      rw [Nat.zero_add, box_cell v1]; exact v5 0 x rfl
  have h1v : ∀ v ∈ [Value.int .i64 x], v.oneCell' = true := fun v hv => by simp only [List.mem_singleton] at hv; subst hv; rfl
  have hsize : (Value.int .i64 0).cells.size = 1 := rfl
  by_cases hx : xs = []
  · subst hx
    by_cases hc : 1 ≤ c
    · obtain ⟨g, ha⟩ : ∃ g, a = some ⟨g, 0, none⟩ := by
        rcases h with ⟨_, e, _⟩ | ⟨g, _, e, _⟩
        · omega
        · exact ⟨g, e⟩
      obtain ⟨cur, h1, h2, h3, h4, h5⟩ := int_cells h ha
      have key := Any2.slices_Insert_int_end_room L g 0 0 c gv 0 1 cv [.int .i64 x] w (by omega) (by omega) (by unfold maxLen at h3; omega) rfl
        (fun j hj => by rw [box_cell h1, Array.getElem?_eq_getElem (by omega)]; rfl) (fun j hj => by simp [World.frozen?, h1]) hvs h1v
      rw [← ha, ← hav] at key
      refine key.mono fun e w' ⟨he, hw⟩ => ⟨_, he, a, c, rfl, ?_, ?_, fun b hb => .inl hb, fun M' => ?_⟩
      all_goals obtain ⟨cur', k1, k2, k3, k4, k5⟩ := heap_setCells (g := g) [.int .i64 x] (0 + 0) w cur h1 (by simp; omega)
      all_goals subst hw
      · rw [ha]; exact k5
      · intro b hb; exact ⟨.inl hb, by rw [ha] at hb; simp only [blk, List.mem_singleton] at hb; subst hb; exact lt_of_heap k1⟩
      · rw [ha]
        refine int_own M' k1 (by simpa using hc) h3 (by omega) fun i y hy => ?_
        cases i with
        | succ i => simp at hy
        | zero =>
          simp only [List.getElem?_cons_zero, Option.some.injEq] at hy
          subst hy
          have := k3 0 (by simp)
          simpa using this
    · have hc0 : c = 0 := by omega
      subst hc0
      have key := Any2.slices_Insert_int_end_grow L a 0 0 gv 0 1 cv [] [.int .i64 x] w (by omega) (by omega) (by omega) (by omega) rfl rfl (fun _ => rfl) (fun _ _ j v hj => by simp at hj) hvs h1v
      rw [← hav] at key
      generalize hG : grownCap w (0 + 1) 0 (ρ.t 3) = G at key
      have hG1 : 0 + 1 ≤ G := hG ▸ grownCap_ge w (0 + 1) 0 (ρ.t 3)
      have hG2 : G ≤ maxLen := hG ▸ grownCap_le_maxLen w (0 + 1) 0 (ρ.t 3) (by unfold maxLen; omega)
      refine key.mono fun e w' ⟨he, hw⟩ => ⟨_, he, some ⟨w.heap.size, 0, none⟩, G, rfl, ?_, ?_, fun b hb => ?_, fun M' => ?_⟩
      all_goals subst hw
      · exact (Ev.drew w).nil.trans (ev_alloc _)
      · intro b hb
        simp only [blk, List.mem_singleton] at hb
        subst hb
        exact ⟨.inr (Nat.le_refl _), lt_of_heap (heap_alloc (w := w.drew) _)⟩
      · simp only [blk, List.mem_singleton] at hb
        exact .inr hb
      · have k1 := heap_alloc (w := w.drew) (.cells (([] ++ [Value.int .i64 x]).toArray ++ Builtin.zeroCells (Value.int .i64 0).cells (G - (0 + 1))) (ρ.t 3))
        rw [hT] at k1 ⊢
        refine int_own M' k1 (by simpa using hG1) hG2 (by rw [Array.size_append, size_zeroCells, hsize]; simp; omega) fun i y hy => ?_
        cases i with
        | succ i => simp at hy
        | zero =>
          simp only [List.getElem?_cons_zero, Option.some.injEq] at hy
          subst hy
          rw [Array.getElem?_append_left (by simp)]
          rfl
  · obtain ⟨g, ha⟩ : ∃ g, a = some ⟨g, 0, none⟩ := (own_cases h).resolve_left hx
    obtain ⟨cur, h1, h2, h3, h4, h5⟩ := int_cells h ha
    have hn : 0 < xs.length := List.length_pos_iff.2 hx
    have hcs : ∀ j v, (xs.map (Value.int .i64))[j]? = some v → w.cell? ⟨g, 0 + j, none⟩ = some v := fun j v hj => by
      rw [List.getElem?_map, Option.map_eq_some_iff] at hj
      obtain ⟨y, hy, rfl⟩ := hj
      rw [Nat.zero_add, box_cell h1]; exact h5 j y hy
    have h1c : ∀ v ∈ xs.map (Value.int .i64), v.oneCell' = true := fun v hv => by
      obtain ⟨y, _, rfl⟩ := List.mem_map.1 hv
      rfl
    by_cases hc : xs.length + 1 ≤ c
    · have hne : gv ≠ g := fun e => hd gv (by rw [hav]; simp [blk]) (by rw [ha, e]; simp [blk])
      have key := Any2.slices_Insert_int_shift L g 0 xs.length c 0 gv 0 1 cv (xs.map (Value.int .i64)) [.int .i64 x] w hn (by omega) hc (by unfold maxLen at h3; omega) hne (by simp) rfl hcs
        (fun j hj => by rw [box_cell h1, Array.getElem?_eq_getElem (by omega)]; rfl) (fun j hj => by simp [World.frozen?, h1]) hvs h1c h1v T2 T curv.size cur.size (by simp [World.shape?, v1]) (by simp [World.shape?, h1]) (by omega) (by simp [World.frozen?, v1]) (by simp [World.frozen?, v1])
      rw [← ha, ← hav] at key
      refine key.mono fun e w' ⟨he, hw⟩ => ⟨_, he, a, c, rfl, ?_, ?_, fun b hb => .inl hb, fun M' => ?_⟩
      all_goals obtain ⟨cur1, k1, k2, k3, k4, k5⟩ := heap_setCells (g := g) ((xs.map (Value.int .i64)).drop 0) (0 + (0 + 1)) w.drew cur h1 (by simp; omega)
      all_goals obtain ⟨cur2, m1, m2, m3, m4, m5⟩ := heap_setCells (g := g) [.int .i64 x] (0 + 0) _ cur1 k1 (by simp; omega)
      all_goals subst hw
      · rw [ha]; exact ((Ev.drew w).nil.trans k5).trans m5
      · intro b hb; exact ⟨.inl hb, by rw [ha] at hb; simp only [blk, List.mem_singleton] at hb; subst hb; exact lt_of_heap m1⟩
      · rw [ha]
        refine int_own M' m1 (by simpa using hc) h3 (by omega) fun i y hy => ?_
        cases i with
        | zero =>
          simp only [List.getElem?_cons_zero, Option.some.injEq] at hy
          subst hy
          have := m3 0 (by simp)
          simpa using this
        | succ i =>
          simp only [List.getElem?_cons_succ] at hy
          have hil := (List.getElem?_eq_some_iff.1 hy).1
          rw [m4 (i + 1) (by simp)]
          have := k3 i (by simpa using hil)
          rw [show 0 + (0 + 1) + i = i + 1 by omega] at this
          rw [this]
          simp [hy]
    · have key := Any2.slices_Insert_int_grow L g 0 xs.length c 0 gv 0 1 cv (xs.map (Value.int .i64)) [.int .i64 x] w hn (by omega) h2 (by omega) (by omega) (by simp) rfl hcs hvs h1c h1v
      rw [← ha, ← hav] at key
      generalize hG : grownCap w (xs.length + 1) c (ρ.t 3) = G at key
      have hG1 : xs.length + 1 ≤ G := hG ▸ grownCap_ge w (xs.length + 1) c (ρ.t 3)
      have hG2 : G ≤ maxLen := hG ▸ grownCap_le_maxLen w (xs.length + 1) c (ρ.t 3) (by unfold maxLen; omega)
      refine key.mono fun e w' ⟨he, hw⟩ => ⟨_, he, some ⟨w.heap.size, 0, none⟩, G, rfl, ?_, ?_, fun b hb => ?_, fun M' => ?_⟩
      all_goals obtain ⟨base, hbase⟩ : ∃ base, base = (((xs.map (Value.int .i64)).take 0).toArray ++ Builtin.zeroCells (Value.int .i64 0).cells (xs.length + 1 - 0) ++ Builtin.zeroCells (Value.int .i64 0).cells (G - (xs.length + 1))) := ⟨_, rfl⟩
      all_goals have hbs : base.size = G := by rw [hbase, Array.size_append, Array.size_append, size_zeroCells, size_zeroCells, hsize]; simp; omega
      all_goals rw [← hbase] at hw
      all_goals have k0 : (w.alloc (.cells base (ρ.t 3))).drew.heap[w.heap.size]? = some (.cells base (ρ.t 3) (0, 0)) := heap_alloc _
      all_goals obtain ⟨cur1, k1, k2, k3, k4, k5⟩ := heap_setCells (g := w.heap.size) [.int .i64 x] 0 _ base k0 (by simp; omega)
      all_goals obtain ⟨cur2, m1, m2, m3, m4, m5⟩ := heap_setCells (g := w.heap.size) ((xs.map (Value.int .i64)).drop 0) (0 + 1) (((w.alloc (.cells base (ρ.t 3))).drew.setCells w.heap.size 0 [.int .i64 x]).drew) cur1 k1 (by simp; omega)
      all_goals subst hw
      · have e1 : Ev (blk a) w (w.alloc (.cells base (ρ.t 3))) := ev_alloc _
        have e2 : Ev (blk a) w (w.alloc (.cells base (ρ.t 3))).drew := e1.trans (Ev.drew _).nil
        have e3 := e2.then k5 (fun b hb => .inr (by simp only [List.mem_singleton] at hb; omega))
        have e4 := e3.trans (Ev.drew _).nil
        exact e4.then m5 (fun b hb => .inr (by simp only [List.mem_singleton] at hb; omega))
      · intro b hb
        simp only [blk, List.mem_singleton] at hb
        subst hb
        exact ⟨.inr (Nat.le_refl _), lt_of_heap m1⟩
      · simp only [blk, List.mem_singleton] at hb
        exact .inr hb
      · rw [hT] at m1 ⊢
        refine int_own M' m1 (by simpa using hG1) hG2 (by omega) fun i y hy => ?_
        cases i with
        | zero =>
          simp only [List.getElem?_cons_zero, Option.some.injEq] at hy
          subst hy
          rw [m4 0 (by omega)]
          have := k3 0 (by simp)
          simpa using this
        | succ i =>
          simp only [List.getElem?_cons_succ] at hy
          have hil := (List.getElem?_eq_some_iff.1 hy).1
          have := m3 i (by simpa using hil)
          rw [show 0 + 1 + i = i + 1 by omega] at this
          rw [this]
          simp [hy]
end Go.V
