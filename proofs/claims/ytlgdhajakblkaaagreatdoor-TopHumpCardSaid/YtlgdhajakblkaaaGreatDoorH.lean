
/- How data lie in memory: encodings, slices that are read, boxes, slices that are owned; and what the operations do to them. No condition. -/
import Derived.Test.YtlgdhajakblkaaaGreatDoorV
import Derived.Deep.AppendLies
import Derived.Laws.OwnMore
import Derived.Laws.MakeOwn
set_option linter.unusedSimpArgs false
set_option linter.unusedVariables false
namespace Go.V
open Go
theorem nn {b : Nat} : b ∉ ([] : List Nat) := fun h => by cases h
theorem nn2 {A : List Nat} : ∀ x ∈ A, x ∉ ([] : List Nat) := fun _ _ h => by cases h
theorem Ev.lt {M : List Nat} {w w' : World} (h : Ev M w w') {b : Nat} (hb : b < w.heap.size) : b < w'.heap.size := Nat.lt_of_lt_of_le hb h.size
theorem Ev.sub {M M' : List Nat} {w w' : World} (h : Ev M w w') (hs : ∀ b ∈ M, b ∈ M') : Ev M' w w' :=
  ⟨h.os, h.tape, h.output, h.size, fun k hk hm => h.block k hk fun hk2 => hm (hs k hk2)⟩
theorem Ev.nil {M : List Nat} {w w' : World} (h : Ev [] w w') : Ev M w w' := h.sub (fun _ h => by cases h)
theorem Ev.cell {M : List Nat} {w w' : World} (h : Ev M w w') {a : Addr} (hb : a.block < w.heap.size) (hm : a.block ∉ M) : w'.cell? a = w.cell? a := by
  simp only [World.cell?, h.block a.block hb hm]
theorem lt_of_heap {w : World} {b : Nat} {o : Obj} (h : w.heap[b]? = some o) : b < w.heap.size := (Array.getElem?_eq_some_iff.1 h).1
theorem Ev.box {M : List Nat} {w w' : World} (h : Ev M w w') {b : Nat} {o : Obj} (hb : w.heap[b]? = some o) (hm : b ∉ M) : w'.heap[b]? = some o := by
  rw [h.block b (lt_of_heap hb) hm]; exact hb
structure Stp (M : List Nat) (w : World) (M' : List Nat) (w' : World) : Prop where
  ev : Ev M w w'
  new : ∀ b ∈ M', b ∈ M ∨ w.heap.size ≤ b
theorem Stp.of {Mo M M' : List Nat} {w w' : World} (h : Ev Mo w w') (hs : ∀ b ∈ Mo, b ∈ M) (hn : ∀ b ∈ M', b ∈ M ∨ w.heap.size ≤ b) : Stp M w M' w' := ⟨h.sub hs, hn⟩
theorem Stp.same {Mo M : List Nat} {w w' : World} (h : Ev Mo w w') (hs : ∀ b ∈ Mo, b ∈ M) : Stp M w M w' := ⟨h.sub hs, fun _ h => .inl h⟩
theorem Stp.sub {M M' : List Nat} (w : World) (hs : ∀ b ∈ M', b ∈ M) : Stp M w M' w := ⟨Ev.refl _ _, fun b h => .inl (hs b h)⟩
structure Enc (α : Type) where
  n : Nat
  R : World → List Nat → List Value → α → Prop
  len : ∀ {w : World} {M : List Nat} {cs : List Value} {x : α}, R w M cs x → cs.length = n
  step : ∀ {w w' : World} {M M' : List Nat} {cs : List Value} {x : α}, R w M cs x → Stp M w M' w' → R w' M' cs x
  one : ∀ {w : World} {M : List Nat} {cs : List Value} {x : α}, R w M cs x → ∀ v ∈ cs, v.oneCell' = true
def eInt (k : IntKind) : Enc Int := ⟨1, fun _ _ cs x => cs = [.int k x], fun h => by rw [h]; rfl, fun h _ => h, fun h v hv => by rw [h] at hv; simp at hv; subst hv; rfl⟩
def eBool : Enc Bool := ⟨1, fun _ _ cs x => cs = [.bool x], fun h => by rw [h]; rfl, fun h _ => h, fun h v hv => by rw [h] at hv; simp at hv; subst hv; rfl⟩
abbrev Vs (l : List UInt8) : Value := .string ⟨⟨l⟩⟩
def eStr : Enc (List UInt8) := ⟨1, fun _ _ cs x => cs = [Vs x], fun h => by rw [h]; rfl, fun h _ => h, fun h v hv => by rw [h] at hv; simp at hv; subst hv; rfl⟩
def eUnit : Enc Unit := ⟨0, fun _ _ cs _ => cs = [], fun h => by rw [h]; rfl, fun h _ => h, fun h v hv => by rw [h] at hv; cases hv⟩
def eProd {α β : Type} (e : Enc α) (f : Enc β) : Enc (α × β) :=
  ⟨e.n + f.n, fun w M cs x => ∃ c1 c2, cs = c1 ++ c2 ∧ e.R w M c1 x.1 ∧ f.R w M c2 x.2,
    fun ⟨c1, c2, h, h1, h2⟩ => by rw [h, List.length_append, e.len h1, f.len h2],
    fun ⟨c1, c2, h, h1, h2⟩ he => ⟨c1, c2, h, e.step h1 he, f.step h2 he⟩,
    fun ⟨c1, c2, h, h1, h2⟩ v hv => by rw [h] at hv; rcases List.mem_append.1 hv with hv | hv; exact e.one h1 v hv; exact f.one h2 v hv⟩
structure SlR {α : Type} (e : Enc α) (w : World) (M : List Nat) (a : Option Addr) (c : Nat) (xs : List α) : Prop where
  le : xs.length ≤ c
  cap : c ≤ maxLen
  nil : a = none → xs = []
  at_ : ∀ ad, a = some ad → 0 < xs.length → ad.spot = none ∧ ad.block ∉ M ∧ ad.block < w.heap.size ∧
    ∀ (i : Nat) (x : α), xs[i]? = some x → ∃ cs, e.R w M cs x ∧ ∀ (k : Nat) (v : Value), cs[k]? = some v → w.cell? ⟨ad.block, ad.off + (i * e.n + k), none⟩ = some v
theorem SlR.step {α : Type} {e : Enc α} {w w' : World} {M M' : List Nat} {a : Option Addr} {c : Nat} {xs : List α} (h : SlR e w M a c xs) (hs : Stp M w M' w') : SlR e w' M' a c xs := by
  refine ⟨h.le, h.cap, h.nil, fun ad ha hp => ?_⟩
  obtain ⟨h1, h2, h3, h4⟩ := h.at_ ad ha hp
  refine ⟨h1, fun hm => ?_, hs.ev.lt h3, fun i x hx => ?_⟩
  · rcases hs.new _ hm with h | h
    · exact h2 h
    · omega
  · obtain ⟨cs, h5, h6⟩ := h4 i x hx
    exact ⟨cs, e.step h5 hs, fun k v hv => by rw [hs.ev.cell (a := ⟨ad.block, _, none⟩) h3 h2]; exact h6 k v hv⟩
theorem SlR.empty {α : Type} (e : Enc α) (w : World) (M : List Nat) : SlR e w M none 0 [] :=
  ⟨Nat.le_refl _, Nat.zero_le _, fun _ => rfl, fun ad h => by cases h⟩
def eSl {α : Type} (e : Enc α) : Enc (List α) :=
  ⟨1, fun w M cs xs => ∃ a c, cs = [.slice a xs.length c] ∧ SlR e w M a c xs, fun ⟨a, c, h, _⟩ => by rw [h]; rfl, fun ⟨a, c, h, h1⟩ hs => ⟨a, c, h, h1.step hs⟩,
    fun ⟨a, c, h, _⟩ v hv => by rw [h] at hv; simp at hv; subst hv; rfl⟩
def idx {α : Type} (xs : List α) (i : Int) : Option α := if 0 ≤ i then xs[i.toNat]? else none
theorem idx_some {α : Type} {xs : List α} {i : Int} {x : α} (h : idx xs i = some x) : 0 ≤ i ∧ i < xs.length ∧ xs[i.toNat]? = some x := by
  unfold idx at h
  split at h
  · rename_i h0
    have := (List.getElem?_eq_some_iff.1 h).1
    exact ⟨h0, by omega, h⟩
  · cases h
structure CellsAt (w : World) (M : List Nat) (ad : Addr) (cs : List Value) : Prop where
  spot : ad.spot = none
  out : ad.block ∉ M
  lt : ad.block < w.heap.size
  at_ : ∀ (k : Nat) (v : Value), cs[k]? = some v → w.cell? ⟨ad.block, ad.off + k, none⟩ = some v
theorem CellsAt.step {w w' : World} {M M' : List Nat} {ad : Addr} {cs : List Value} (h : CellsAt w M ad cs) (hs : Stp M w M' w') : CellsAt w' M' ad cs :=
  ⟨h.spot, fun hm => by rcases hs.new _ hm with h1 | h1; exact h.out h1; exact absurd h.lt (by omega), hs.ev.lt h.lt,
    fun k v hv => by rw [hs.ev.cell (a := ⟨ad.block, _, none⟩) h.lt h.out]; exact h.at_ k v hv⟩
def IsCell (P : Program) (t : TypeId) : Prop := ∀ w, (isAgg t).run P w = .ok false w ∧ (sizeOf t).run P w = .ok 1 w
def IsAgg (P : Program) (t : TypeId) (n : Nat) : Prop := ∀ w, (isAgg t).run P w = .ok true w ∧ (sizeOf t).run P w = .ok n w
def IsSlice (P : Program) (t : TypeId) (e : TypeId) (n : Nat) : Prop := P.underlying t = some (.slice e) ∧ ∀ w, (sizeOf e).run P w = .ok n w
theorem addr_eta {ad : Addr} (h : ad.spot = none) : ad = ⟨ad.block, ad.off, none⟩ := by cases ad; simp_all
theorem addr_add {ad : Addr} (h : ad.spot = none) (n : Nat) : ad.add n = ⟨ad.block, ad.off + n, none⟩ := by
  unfold Addr.add
  split
  · rename_i h0; subst h0; exact addr_eta h
  · rfl
theorem reads_len {P : Program} {M : List Nat} {t e n : Nat} (ht : IsSlice P t e n) (ty : TypeId) (a : Option Addr) (l c : Nat) (w : World) : Reads P M (Builtin.len_ #[t] ty [.slice a l c].toArray) w (.int .i64 l) := by
  intro w' _
  simp only [Builtin.len_]
  show Sem.run P (underlying t >>= _) w' = _
  rw [run_bind, run_underlying ht.1]
  rfl
theorem reads_index {P : Program} {Mo M : List Nat} {α : Type} {e : Enc α} {t el : Nat} {w : World} {a : Option Addr} {c : Nat} {xs : List α} {i : Int} {x : α} (ht : IsSlice P t el e.n) (hs : SlR e w M a c xs) (hx : idx xs i = some x) :
    ∃ ad cs, Reads P Mo (Instr.indexAt t (.slice a xs.length c) (.int .i64 i)) w (.pointer (some ad)) ∧ CellsAt w M ad cs ∧ e.R w M cs x := by
  obtain ⟨h0, h1, h2⟩ := idx_some hx
  cases a with
  | none => rw [hs.nil rfl] at h2; simp at h2
  | some ad =>
    obtain ⟨h3, h4, h5, h6⟩ := hs.at_ ad rfl (by omega)
    obtain ⟨cs, h7, h8⟩ := h6 _ _ h2
    refine ⟨ad.add (i.toNat * e.n), cs, fun w' _ => ?_, ⟨?_, ?_, ?_, fun k v hv => ?_⟩, h7⟩
    · have hz := ht.2 w'
      simp only [Instr.indexAt, asIntOf, Sem.run_bind, Sem.run_pure, Result.andThen_ok, run_underlying ht.1, h0, h1, and_self, if_true, hz]
    · rw [addr_add h3]
    · rw [addr_add h3]; exact h4
    · rw [addr_add h3]; exact h5
    · rw [addr_add h3]
      show w.cell? ⟨ad.block, ad.off + i.toNat * e.n + k, none⟩ = some v
      rw [Nat.add_assoc]; exact h8 k v hv
theorem reads_cell {P : Program} {Mo M : List Nat} {t : TypeId} {w : World} {ad : Addr} {cs : List Value} (ht : IsCell P t) (h : CellsAt w M ad cs) (hm : ∀ b ∈ Mo, b ∈ M) (k : Nat) (v : Value) (hv : cs[k]? = some v) :
    Reads P Mo (Instr.loadAt t (.pointer (some (ad.add k)))) w v := by
  intro w' he
  simp only [Instr.loadAt, Instr.sureAddr]
  show (loadVar t (ad.add k)).run P w' = _
  unfold loadVar
  rw [run_bind, (ht w').1]
  show (load (ad.add k)).run P w' = _
  have h1 := h.at_ k v hv
  rw [← he.cell (a := ⟨ad.block, ad.off + k, none⟩) h.lt (fun hb => h.out (hm _ hb))] at h1
  rw [addr_add h.spot]
  simp only [load, Sem.run, h1]
theorem reads_cell0 {P : Program} {Mo M : List Nat} {t : TypeId} {w : World} {ad : Addr} {v : Value} {cs : List Value} (ht : IsCell P t) (h : CellsAt w M ad (v :: cs)) (hm : ∀ b ∈ Mo, b ∈ M) :
    Reads P Mo (Instr.loadAt t (.pointer (some ad))) w v := by
  have := reads_cell ht h hm 0 v rfl
  rwa [Addr.add, if_pos rfl] at this
theorem reads_agg {P : Program} {Mo M : List Nat} {t : TypeId} {w : World} {ad : Addr} {cs : List Value} (ht : IsAgg P t cs.length) (h : CellsAt w M ad cs) (hm : ∀ b ∈ Mo, b ∈ M) :
    Reads P Mo (Instr.loadAt t (.pointer (some ad))) w (.agg cs.toArray) := by
  intro w' he
  simp only [Instr.loadAt, Instr.sureAddr]
  show (loadVar t ad).run P w' = _
  unfold loadVar
  rw [run_bind, (ht w').1]
  show ((do pure (.agg (← loadCells ad (← sizeOf t))) : Sem Value)).run P w' = _
  rw [run_bind, (ht w').2]
  simp only
  have hl : (loadCells ad cs.length).run P w' = .ok cs.toArray w' := run_loadCells_list (P := P) w' ad cs (fun j v hv => by
    rw [addr_add h.spot, he.cell (a := ⟨ad.block, ad.off + j, none⟩) h.lt (fun hb => h.out (hm _ hb))]
    exact h.at_ j v hv)
  rw [run_bind, hl]
  rfl
def IsField (P : Program) (s : TypeId) (f : Nat) (off : Nat) : Prop := ∀ (ad : Addr) (w : World), (Instr.fieldAt s (.pointer (some ad)) f).run P w = .ok (.pointer (some (ad.add off))) w
theorem reads_field {P : Program} {s f off : Nat} (h : IsField P s f off) (ad : Addr) : Alw P (Instr.fieldAt s (.pointer (some ad)) f) (.pointer (some (ad.add off))) :=
  fun w' => h ad w'
theorem loadVar_of_reads {P : Program} {Mo : List Nat} {t : TypeId} {p : Addr} {w : World} {v : Value} (h : Reads P Mo (Instr.loadAt t (.pointer (some p))) w v) : (loadVar t p).run P w = .ok v w := by
  have h1 := h w (Ev.refl _ _)
  simp only [Instr.loadAt, Instr.sureAddr] at h1
  exact h1
theorem box_cell {w : World} {b : Nat} {cs : Array Value} {t : TypeId} {fz : Nat × Nat} (h : w.heap[b]? = some (.cells cs t fz)) (k : Nat) : w.cell? ⟨b, k, none⟩ = cs[k]? := by
  simp [World.cell?, h]
theorem reads_box {P : Program} {Mo : List Nat} {t T : TypeId} {w : World} {b : Nat} {cs : Array Value} {fz : Nat × Nat} (ht : IsCell P t) (h : w.heap[b]? = some (.cells cs T fz)) (hm : b ∉ Mo) (k : Nat) (v : Value) (hv : cs[k]? = some v) :
    Reads P Mo (Instr.loadAt t (.pointer (some ⟨b, k, none⟩))) w v := by
  intro w' he
  simp only [Instr.loadAt, Instr.sureAddr]
  show (loadVar t ⟨b, k, none⟩).run P w' = _
  unfold loadVar
  rw [run_bind, (ht w').1]
  show (load ⟨b, k, none⟩).run P w' = _
  have h1 : w'.cell? ⟨b, k, none⟩ = some v := by rw [box_cell (he.box h hm)]; exact hv
  simp only [load, Sem.run, h1]
theorem reads_boxagg {P : Program} {Mo : List Nat} {t T : TypeId} {w : World} {b : Nat} {cs : Array Value} {fz : Nat × Nat} (k : Nat) (vs : List Value) (ht : IsAgg P t vs.length) (h : w.heap[b]? = some (.cells cs T fz)) (hm : b ∉ Mo) (hv : (cs.toList.drop k).take vs.length = vs) :
    Reads P Mo (Instr.loadAt t (.pointer (some ⟨b, k, none⟩))) w (.agg vs.toArray) := by
  refine reads_agg (M := Mo) (cs := vs) ht ⟨rfl, hm, lt_of_heap h, fun j v hj => ?_⟩ (fun _ h => h)
  rw [box_cell h]
  rw [← hv, List.getElem?_take] at hj
  split at hj
  · rw [List.getElem?_drop] at hj; simpa using hj
  · cases hj
theorem Ev.setRow {w : World} (b : Nat) (cs : Array Value) : Ev [b] w (w.setRow b cs) := by
  refine ⟨rfl, rfl, rfl, ?_, fun k hk hm => setRow_other w b k cs (by simpa using hm)⟩
  simp [World.setRow]
theorem store_box {P : Program} {t T : TypeId} {w : World} {b : Nat} {cs : Array Value} (k : Nat) (v : Value) (cs' : Array Value) (ht : IsCell P t) (h : w.heap[b]? = some (.cells cs T (0, 0))) (hk : Nat.blt k cs.size = true) (h1 : v.oneCell' = true)
    (hcs : cs.setIfInBounds k v = cs') :
    ∃ w', (Instr.storeAt t (.pointer (some ⟨b, k, none⟩)) v).run P w = .ok () w' ∧ w'.heap[b]? = some (.cells cs' T (0, 0)) ∧ Ev [b] w w' := by
  have hk := Nat.le_of_ble_eq_true hk
  refine ⟨w.setRow b cs', ?_, setRow_heap w b cs cs' T (0, 0) h, Ev.setRow b cs'⟩
  have hc : v.cells = #[v] := by cases v <;> first | rfl | cases h1
  simp only [Instr.storeAt, Instr.sureAddr]
  show (storeVar t ⟨b, k, none⟩ v).run P w = _
  unfold storeVar
  rw [run_bind, (ht w).2]
  simp only [hc]
  rw [if_neg (by simp)]
  have := run_storeCells_at P b k T [v] 0 cs w h (by simp only [List.length_cons, List.length_nil]; omega) (by simpa using h1)
  show (storeCells ⟨b, k, none⟩ [v] 0).run P w = _
  rw [this]
  congr 2
  rw [← hcs]
  apply Array.ext'
  simp only [Nat.add_zero, List.length_cons, List.length_nil, Nat.zero_add, Array.toList_setIfInBounds]
  rw [List.set_eq_take_append_cons_drop, if_pos (by rw [Array.length_toList]; omega)]
  simp
theorem store_boxagg {P : Program} {t T : TypeId} {w : World} {b : Nat} {cs : Array Value} (k : Nat) (vs : List Value) (cs' : Array Value) (ht : IsAgg P t vs.length) (h : w.heap[b]? = some (.cells cs T (0, 0))) (hk : Nat.ble (k + vs.length) cs.size = true) (h1 : vs.all (fun v => v.oneCell') = true)
    (hcs : (cs.toList.take k ++ vs ++ cs.toList.drop (k + vs.length)).toArray = cs') :
    ∃ w', (Instr.storeAt t (.pointer (some ⟨b, k, none⟩)) (.agg vs.toArray)).run P w = .ok () w' ∧ w'.heap[b]? = some (.cells cs' T (0, 0)) ∧ Ev [b] w w' := by
  have hk := Nat.le_of_ble_eq_true hk
  refine ⟨w.setRow b cs', ?_, setRow_heap w b cs cs' T (0, 0) h, Ev.setRow b cs'⟩
  simp only [Instr.storeAt, Instr.sureAddr]
  show (storeVar t ⟨b, k, none⟩ (.agg vs.toArray)).run P w = _
  unfold storeVar
  rw [run_bind, (ht w).2]
  have hcl : (Value.agg vs.toArray).cells = vs.toArray := rfl
  rw [hcl]
  simp only []
  rw [if_neg (by simp)]
  have := run_storeCells_at P b k T vs 0 cs w h (by simpa using hk) (by simpa using h1)
  show (storeCells ⟨b, k, none⟩ vs 0).run P w = _
  rw [this]
  simp only [Nat.add_zero]
  rw [hcs]
theorem beq_ne {i j : Nat} (h : i ≠ j) : Nat.beq i j = false := by
  cases hb : Nat.beq i j with
  | false => rfl
  | true => exact absurd (Nat.eq_of_beq_eq_true hb) h
def fl : List (List Nat) → List Nat
  | [] => []
  | [l] => l
  | l :: l' :: ls => l ++ fl (l' :: ls)
theorem mem_fl : ∀ (ls : List (List Nat)) (x : Nat), x ∈ fl ls ↔ ∃ l ∈ ls, x ∈ l
  | [], x => by simp [fl]
  | [l], x => by simp [fl]
  | l :: l' :: ls, x => by
    rw [fl, List.mem_append, mem_fl (l' :: ls) x]
    simp
structure MS (w : World) (ls : List (List Nat)) : Prop where
  pd : ls.Pairwise fun a b => ∀ x ∈ a, x ∉ b
  lt : ∀ l ∈ ls, ∀ b ∈ l, b < w.heap.size
theorem MS.lt' {w : World} {ls : List (List Nat)} (h : MS w ls) {b : Nat} (hb : b ∈ fl ls) : b < w.heap.size := by
  obtain ⟨l, hl, hbl⟩ := (mem_fl _ _).1 hb
  exact h.lt l hl b hbl
theorem MS.ev {w w' : World} {ls : List (List Nat)} {M : List Nat} (h : MS w ls) (he : Ev M w w') : MS w' ls := ⟨h.pd, fun l hl b hb => he.lt (h.lt l hl b hb)⟩
theorem MS.apart {w : World} {ls : List (List Nat)} (h : MS w ls) (i j : Nat) {A B : List Nat} (hi : ls[i]? = some A) (hj : ls[j]? = some B) (hij : Nat.beq i j = false) : ∀ x ∈ A, x ∉ B := by
  have hne : i ≠ j := fun e => by subst e; simp at hij
  have hlt := (List.getElem?_eq_some_iff.1 hi)
  have hlt2 := (List.getElem?_eq_some_iff.1 hj)
  obtain ⟨h1, rfl⟩ := hlt
  obtain ⟨h2, rfl⟩ := hlt2
  have hp := List.pairwise_iff_getElem.1 h.pd
  rcases Nat.lt_or_gt_of_ne hne with h3 | h3
  · exact hp i j h1 h2 h3
  · exact fun x hx hx2 => hp j i h2 h1 h3 x hx2 hx
theorem MS.push {w w' : World} {ls : List (List Nat)} (h : MS w ls) {M l : List Nat} (he : Ev M w w') (hn : ∀ b ∈ l, w.heap.size ≤ b ∧ b < w'.heap.size) : MS w' (l :: ls) := by
  refine ⟨List.pairwise_cons.2 ⟨fun l' hl' x hx hx2 => ?_, h.pd⟩, fun l' hl' b hb => ?_⟩
  · have := h.lt l' hl' x hx2
    have := (hn x hx).1
    omega
  · cases hl' with
    | head => exact (hn b hb).2
    | tail _ hl' => exact he.lt (h.lt l' hl' b hb)
theorem MS.box {w w' : World} {ls : List (List Nat)} (h : MS w ls) {M : List Nat} {b : Nat} {o : Obj} (he : Ev M w w') (hb : b = w.heap.size) (ho : w'.heap[b]? = some o) : MS w' ([b] :: ls) :=
  h.push he fun x hx => by
    simp only [List.mem_singleton] at hx
    subst hx
    exact ⟨by omega, lt_of_heap ho⟩
theorem MS.upd {w w' : World} {ls : List (List Nat)} (h : MS w ls) {M A B : List Nat} (i : Nat) (he : Ev M w w') (hi : ls[i]? = some A) (hn : ∀ b ∈ B, (b ∈ A ∨ w.heap.size ≤ b) ∧ b < w'.heap.size) : MS w' (ls.set i B) := by
  have hia := List.getElem?_eq_some_iff.1 hi
  obtain ⟨hil, hiA⟩ := hia
  refine ⟨List.pairwise_iff_getElem.2 fun j k hj hk hjk => ?_, fun l' hl' b hb => ?_⟩
  · have hp := List.pairwise_iff_getElem.1 h.pd
    simp only [List.length_set] at hj hk
    simp only [List.getElem_set]
    intro x hx hx2
    split at hx
    · rename_i hij
      subst hij
      rw [if_neg (by omega)] at hx2
      rcases (hn x hx).1 with h1 | h1
      · rw [← hiA] at h1; exact hp i k hj hk hjk x h1 hx2
      · have := h.lt _ (List.getElem_mem hk) x hx2; omega
    · split at hx2
      · rename_i hik
        subst hik
        rcases (hn x hx2).1 with h1 | h1
        · rw [← hiA] at h1; exact hp j i hj hil hjk x hx h1
        · have := h.lt _ (List.getElem_mem hj) x hx; omega
      · exact hp j k hj hk hjk x hx hx2
  · rcases List.mem_or_eq_of_mem_set hl' with h1 | h1
    · exact he.lt (h.lt l' h1 b hb)
    · subst h1; exact (hn b hb).2
theorem MS.join {w w' : World} {ls res cp : List (List Nat)} {M : List Nat} (h : MS w ls) (he : Ev M w w') (h2 : MS w' (res ++ cp)) (fr : ∀ l ∈ res, ∀ b ∈ l, w.heap.size ≤ b) : MS w' (res ++ ls) := by
  refine ⟨List.pairwise_append.2 ⟨(List.pairwise_append.1 h2.pd).1, h.pd, fun a ha b hb x hx hx2 => ?_⟩, fun l hl b hb => ?_⟩
  · have := fr a ha x hx
    have := h.lt b hb x hx2
    omega
  · rcases List.mem_append.1 hl with hl | hl
    · exact h2.lt l (List.mem_append_left _ hl) b hb
    · exact he.lt (h.lt l hl b hb)
theorem MS.all {w : World} {ls : List (List Nat)} (h : MS w ls) : MS w [fl ls] :=
  ⟨List.pairwise_cons.2 ⟨fun _ h => (by cases h), List.Pairwise.nil⟩, fun l hl b hb => by
    simp only [List.mem_singleton] at hl
    subst hl; exact h.lt' hb⟩
theorem MS.focus {w : World} {ls : List (List Nat)} (h : MS w ls) (i : Nat) {A : List Nat} (hi : ls[i]? = some A) : MS w [A, fl (ls.eraseIdx i)] := by
  refine ⟨List.pairwise_cons.2 ⟨fun l hl x hx hx2 => ?_, List.pairwise_cons.2 ⟨fun _ h => (by cases h), List.Pairwise.nil⟩⟩, fun l hl b hb => ?_⟩
  · simp only [List.mem_singleton] at hl
    subst hl
    obtain ⟨l, hl, hxl⟩ := (mem_fl _ _).1 hx2
    obtain ⟨j, hj⟩ := List.getElem?_of_mem hl
    obtain ⟨k, hk, hki⟩ : ∃ k, ls[k]? = some l ∧ Nat.beq i k = false := by
      rw [List.getElem?_eraseIdx] at hj
      split at hj
      · exact ⟨j, hj, beq_ne (by omega)⟩
      · exact ⟨j + 1, hj, beq_ne (by omega)⟩
    exact h.apart i k hi hk hki x hx hxl
  · simp only [List.mem_cons, List.not_mem_nil, or_false] at hl
    rcases hl with rfl | rfl
    · exact h.lt _ (List.mem_of_getElem? hi) b hb
    · obtain ⟨l, hl, hbl⟩ := (mem_fl _ _).1 hb
      exact h.lt l (List.mem_of_mem_eraseIdx hl) b hbl
theorem Stp.ev' {w w' : World} {ls : List (List Nat)} {M : List Nat} (he : Ev M w w') (hs : ∀ b ∈ M, b ∈ fl ls) : Stp (fl ls) w (fl ls) w' := Stp.same he hs
theorem Stp.ext {w w' : World} {ls : List (List Nat)} (he : Ev [] w w') : Stp (fl ls) w (fl ls) w' := Stp.same he (fun _ h => by cases h)
theorem Stp.push {w w' : World} {ls : List (List Nat)} {M l : List Nat} (he : Ev M w w') (hs : ∀ b ∈ M, b ∈ fl ls) (hn : ∀ b ∈ l, w.heap.size ≤ b) : Stp (fl ls) w (fl (l :: ls)) w' :=
  ⟨he.sub hs, fun b hb => by
    obtain ⟨l', hl', hb'⟩ := (mem_fl _ _).1 hb
    cases hl' with
    | head => exact .inr (hn b hb')
    | tail _ hl' => exact .inl ((mem_fl _ _).2 ⟨l', hl', hb'⟩)⟩
theorem Stp.box {w w' : World} {ls : List (List Nat)} {b : Nat} (he : Ev [] w w') (hb : b = w.heap.size) : Stp (fl ls) w (fl ([b] :: ls)) w' :=
  Stp.push he (fun _ h => by cases h) (fun x hx => by simp only [List.mem_singleton] at hx; omega)
theorem Stp.join {w w' : World} {ls res : List (List Nat)} {M : List Nat} (he : Ev M w w') (hs : ∀ b ∈ M, b ∈ fl ls) (fr : ∀ l ∈ res, ∀ b ∈ l, w.heap.size ≤ b) : Stp (fl ls) w (fl (res ++ ls)) w' :=
  ⟨he.sub hs, fun b hb => by
    obtain ⟨l', hl', hb'⟩ := (mem_fl _ _).1 hb
    rcases List.mem_append.1 hl' with hl' | hl'
    · exact .inr (fr l' hl' b hb')
    · exact .inl ((mem_fl _ _).2 ⟨l', hl', hb'⟩)⟩
theorem Stp.upd {w w' : World} {ls : List (List Nat)} {A B : List Nat} (i : Nat) (he : Ev A w w') (hi : ls[i]? = some A) (hn : ∀ b ∈ B, b ∈ A ∨ w.heap.size ≤ b) : Stp (fl ls) w (fl (ls.set i B)) w' :=
  ⟨he.sub fun b hb => (mem_fl _ _).2 ⟨A, List.mem_of_getElem? hi, hb⟩, fun b hb => by
    obtain ⟨l, hl, hbl⟩ := (mem_fl _ _).1 hb
    rcases List.mem_or_eq_of_mem_set hl with h1 | h1
    · exact .inl ((mem_fl _ _).2 ⟨l, h1, hbl⟩)
    · subst h1
      rcases hn b hbl with h2 | h2
      · exact .inl ((mem_fl _ _).2 ⟨A, List.mem_of_getElem? hi, h2⟩)
      · exact .inr h2⟩
theorem mem_flat {ls : List (List Nat)} (i : Nat) {A : List Nat} (hi : ls[i]? = some A) : ∀ b ∈ A, b ∈ fl ls := fun b hb => (mem_fl _ _).2 ⟨A, List.mem_of_getElem? hi, hb⟩
def FR (B : Nat) (ls : List (List Nat)) : Prop := ∀ l ∈ ls, ∀ b ∈ l, B ≤ b
theorem FR.nil (B : Nat) : FR B [] := fun _ h => by cases h
theorem FR.push {B : Nat} {ls : List (List Nat)} {l : List Nat} (h : FR B ls) (hn : ∀ b ∈ l, B ≤ b) : FR B (l :: ls) := fun l' hl' b hb => by
  cases hl' with
  | head => exact hn b hb
  | tail _ hl' => exact h l' hl' b hb
theorem FR.box {B : Nat} {ls : List (List Nat)} {b : Nat} {w : World} (h : FR B ls) (hB : B ≤ w.heap.size) (hb : b = w.heap.size) : FR B ([b] :: ls) := h.push fun x hx => by simp only [List.mem_singleton] at hx; omega
theorem FR.upd {B C : Nat} {ls : List (List Nat)} {A l : List Nat} (h : FR B ls) (i : Nat) (hi : ls[i]? = some A) (hC : B ≤ C) (hn : ∀ b ∈ l, b ∈ A ∨ C ≤ b) : FR B (ls.set i l) := fun l' hl' b hb => by
  rcases List.mem_or_eq_of_mem_set hl' with h1 | h1
  · exact h l' h1 b hb
  · subst h1
    rcases hn b hb with h2 | h2
    · exact h A (List.mem_of_getElem? hi) b h2
    · omega
theorem FR.join {B C : Nat} {ls res : List (List Nat)} (h : FR B ls) (h2 : FR C res) (hB : B ≤ C) : FR B (res ++ ls) := fun l hl b hb => by
  rcases List.mem_append.1 hl with hl | hl
  · exact Nat.le_trans hB (h2 l hl b hb)
  · exact h l hl b hb
theorem FR.at {B : Nat} {ls : List (List Nat)} (h : FR B ls) (i : Nat) {A : List Nat} (hi : ls[i]? = some A) : ∀ b ∈ A, B ≤ b := h A (List.mem_of_getElem? hi)
theorem Ev.then {M Mo : List Nat} {w v u : World} (h : Ev M w v) (k : Ev Mo v u) (hm : ∀ b ∈ Mo, b ∈ M ∨ w.heap.size ≤ b) : Ev M w u :=
  ⟨k.os.trans h.os, k.tape.trans h.tape, k.output.trans h.output, Nat.le_trans h.size k.size, fun i hi hi2 =>
    (k.block i (Nat.lt_of_lt_of_le hi h.size) (fun hm2 => by rcases hm i hm2 with h3 | h3; exact hi2 h3; omega)).trans (h.block i hi hi2)⟩
theorem Ev.ext {M : List Nat} {w v u : World} (h : Ev M w v) (k : Ev [] v u) : Ev M w u := h.then k (fun _ h => by cases h)
theorem SlR.sub {α : Type} {e : Enc α} {w : World} {M M' : List Nat} {a : Option Addr} {c : Nat} {xs : List α} (h : SlR e w M a c xs) (hs : ∀ b ∈ M', b ∈ M) : SlR e w M' a c xs := h.step (Stp.sub w hs)
theorem CellsAt.sub {w : World} {M M' : List Nat} {ad : Addr} {cs : List Value} (h : CellsAt w M ad cs) (hs : ∀ b ∈ M', b ∈ M) : CellsAt w M' ad cs := h.step (Stp.sub w hs)
theorem ro_of_box {α : Type} {e : Enc α} {T : TypeId} {w w' : World} {ls : List (List Nat)} {b n : Nat} {cs : Array Value} {xs : List α} (hms : MS w ls) (hb : b = w.heap.size) (h : w'.heap[b]? = some (.cells cs T (0, 0))) (hn : Nat.ble n 4294967296 = true) (hx : xs.length = n)
    (hr : ∀ (i : Nat) (x : α), xs[i]? = some x → ∃ c, e.R w' (fl ls) c x ∧ ∀ (k : Nat) (v : Value), c[k]? = some v → cs[i * e.n + k]? = some v) : SlR e w' (fl ls) (some ⟨b, 0, none⟩) n xs := by
  have hn := Nat.le_of_ble_eq_true hn
  refine ⟨by omega, by unfold maxLen; omega, fun h => (by cases h), fun ad ha _ => ?_⟩
  cases ha
  refine ⟨rfl, fun hm => ?_, lt_of_heap h, fun i x hx => ?_⟩
  · have := hms.lt' hm
    simp only at this
    omega
  · obtain ⟨c, h1, h2⟩ := hr i x hx
    refine ⟨c, h1, fun k v hv => ?_⟩
    simp only [Nat.zero_add]
    rw [box_cell h]; exact h2 k v hv
def blk (a : Option Addr) : List Nat := match a with | some ad => [ad.block] | none => []
def OwnS {α : Type} (e : Enc α) (T : TypeId) (w : World) (M : List Nat) (a : Option Addr) (c : Nat) (xs : List α) : Prop :=
  (a = none ∧ c = 0 ∧ xs = []) ∨
  ∃ g cur, a = some ⟨g, 0, none⟩ ∧ w.heap[g]? = some (.cells cur T (0, 0)) ∧ xs.length ≤ c ∧ c ≤ maxLen ∧ cur.size = c * e.n ∧
    ∀ (i : Nat) (x : α), xs[i]? = some x → ∃ cs, e.R w M cs x ∧ ∀ (k : Nat) (v : Value), cs[k]? = some v → cur[i * e.n + k]? = some v
theorem OwnS.nil {α : Type} (e : Enc α) (T : TypeId) (w : World) (M : List Nat) : OwnS e T w M none 0 [] := .inl ⟨rfl, rfl, rfl⟩
theorem OwnS.lt {α : Type} {e : Enc α} {T : TypeId} {w : World} {M : List Nat} {a : Option Addr} {c : Nat} {xs : List α} (h : OwnS e T w M a c xs) : ∀ b ∈ blk a, b < w.heap.size := by
  rcases h with ⟨rfl, _, _⟩ | ⟨g, cur, rfl, hg, _⟩
  · intro b hb; cases hb
  · intro b hb
    simp only [blk, List.mem_singleton] at hb
    subst hb; exact lt_of_heap hg
theorem OwnS.step {α : Type} {e : Enc α} {T : TypeId} {w w' : World} {M M' Mo : List Nat} {a : Option Addr} {c : Nat} {xs : List α} (h : OwnS e T w M a c xs) (hs : Stp M w M' w') (he : Ev Mo w w') (hm : ∀ b ∈ blk a, b ∉ Mo) : OwnS e T w' M' a c xs := by
  rcases h with h | ⟨g, cur, rfl, hg, h1, h2, h3, h4⟩
  · exact .inl h
  · refine .inr ⟨g, cur, rfl, he.box hg (hm g (by simp [blk])), h1, h2, h3, fun i x hx => ?_⟩
    obtain ⟨cs, h5, h6⟩ := h4 i x hx
    exact ⟨cs, e.step h5 hs, h6⟩
theorem OwnS.ro {α : Type} {e : Enc α} {T : TypeId} {w : World} {M M' : List Nat} {a : Option Addr} {c : Nat} {xs : List α} (h : OwnS e T w M a c xs) (hM : ∀ b ∈ M', b ∈ M) (hm : ∀ b ∈ blk a, b ∉ M') : SlR e w M' a c xs := by
  rcases h with ⟨rfl, rfl, rfl⟩ | ⟨g, cur, rfl, hg, h1, h2, h3, h4⟩
  · exact SlR.empty e w M'
  · refine ⟨h1, h2, fun h => (by cases h), fun ad ha _ => ?_⟩
    cases ha
    refine ⟨rfl, hm g (by simp [blk]), lt_of_heap hg, fun i x hx => ?_⟩
    obtain ⟨cs, h5, h6⟩ := h4 i x hx
    refine ⟨cs, e.step h5 (Stp.sub w hM), fun k v hv => ?_⟩
    simp only [Nat.zero_add]
    rw [box_cell hg]; exact h6 k v hv
theorem own_of_box {α : Type} {e : Enc α} {T : TypeId} {w : World} {M : List Nat} {b n : Nat} {cs : Array Value} {xs : List α} (h : w.heap[b]? = some (.cells cs T (0, 0))) (hn : n ≤ maxLen) (hx : xs.length = n) (hs : cs.size = n * e.n)
    (hr : ∀ (i : Nat) (x : α), xs[i]? = some x → ∃ c, e.R w M c x ∧ ∀ (k : Nat) (v : Value), c[k]? = some v → cs[i * e.n + k]? = some v) : OwnS e T w M (some ⟨b, 0, none⟩) n xs :=
  .inr ⟨b, cs, rfl, h, by omega, hn, hs, hr⟩
theorem OwnS.sub {α : Type} {e : Enc α} {T : TypeId} {w : World} {M M' : List Nat} {a : Option Addr} {c : Nat} {xs : List α} (h : OwnS e T w M a c xs) (hs : ∀ b ∈ M', b ∈ M) : OwnS e T w M' a c xs :=
  h.step (Stp.sub w hs) (Ev.refl [] w) (fun _ _ h => by cases h)
structure IsElem (P : Program) (t T n bytes : Nat) (z : Value) : Prop where
  und : P.underlying t = some (.slice T)
  info : ∃ i, P.info? T = some i ∧ i.zero = some z ∧ i.size = n ∧ i.bytes = bytes
  zs : z.cells.size = n
  pos : Nat.blt 0 n = true
  small : Nat.ble bytes 4096 = true
theorem IsElem.slice {P : Program} {t T n bytes : Nat} {z : Value} (h : IsElem P t T n bytes z) : IsSlice P t T n := by
  obtain ⟨i, hi, _, hn, _⟩ := h.info
  refine ⟨h.und, fun w => ?_⟩
  simp [sizeOf, typeInfo, hi, hn]
theorem grown_ev {w w' : World} {a : Option Addr} {n c : Nat} (h : w.grownBy w' (Value.ownBlock (.slice a n c))) : Ev (blk a) w w' :=
  ⟨h.os, h.tape, h.output, h.size, fun k hk hm => h.block k hk fun e => by
    cases a with
    | none => cases e
    | some ad => simp only [Value.ownBlock, Option.some.injEq] at e; subst e; exact hm (by simp [blk])⟩
theorem SlR.cells {α : Type} {e : Enc α} {w : World} {M : List Nat} {ad : Addr} {c : Nat} {ys : List α} (h : SlR e w M (some ad) c ys) (hn : 0 < e.n) (hp : 0 < ys.length) :
    ∃ news : List Value, news.length = ys.length * e.n ∧ (∀ j u, news[j]? = some u → w.cell? (ad.add j) = some u) ∧ (∀ u ∈ news, u.oneCell' = true) ∧
      ∀ (i : Nat) (y : α), ys[i]? = some y → ∃ cs, e.R w M cs y ∧ ∀ (k : Nat) (v : Value), cs[k]? = some v → news[i * e.n + k]? = some v := by
  obtain ⟨h1, h2, h3, h4⟩ := h.at_ ad rfl hp
  have cell : ∀ j, j < ys.length * e.n → ∃ u, w.cell? (ad.add j) = some u ∧ u.oneCell' = true := by
    intro j hj
    have hi : j / e.n < ys.length := Nat.div_lt_of_lt_mul (by rw [Nat.mul_comm]; exact hj)
    obtain ⟨cs, h5, h6⟩ := h4 (j / e.n) _ (List.getElem?_eq_getElem hi)
    have hk : j % e.n < cs.length := by rw [e.len h5]; exact Nat.mod_lt _ hn
    refine ⟨cs[j % e.n], ?_, e.one h5 _ (List.getElem_mem hk)⟩
    rw [addr_add h1]
    have := h6 _ _ (List.getElem?_eq_getElem hk)
    rwa [Nat.mul_comm, Nat.div_add_mod] at this
  refine ⟨(List.range (ys.length * e.n)).map fun j => (w.cell? (ad.add j)).getD undef, by simp, fun j u hu => ?_, fun u hu => ?_, fun i y hy => ?_⟩
  · rw [List.getElem?_map] at hu
    by_cases hj : j < ys.length * e.n
    · obtain ⟨u', hu', _⟩ := cell j hj
      rw [List.getElem?_range hj] at hu
      simp only [Option.map_some, hu', Option.getD_some, Option.some.injEq] at hu
      rw [hu', hu]
    · rw [List.getElem?_eq_none (by simpa using hj)] at hu; cases hu
  · obtain ⟨j, hj, rfl⟩ := List.mem_map.1 hu
    obtain ⟨u', hu', ho⟩ := cell j (List.mem_range.1 hj)
    rw [hu']; exact ho
  · obtain ⟨cs, h5, h6⟩ := h4 i y hy
    refine ⟨cs, h5, fun k v hv => ?_⟩
    have hi : i < ys.length := (List.getElem?_eq_some_iff.1 hy).1
    have hk : k < e.n := by rw [← e.len h5]; exact (List.getElem?_eq_some_iff.1 hv).1
    have hj : i * e.n + k < ys.length * e.n := by
      have : (i + 1) * e.n ≤ ys.length * e.n := Nat.mul_le_mul_right _ hi
      rw [Nat.add_mul] at this; omega
    rw [List.getElem?_map, List.getElem?_range hj]
    simp only [Option.map_some]
    rw [addr_add h1, h6 k v hv]; rfl
theorem own_appendG {P : Program} {α : Type} {e : Enc α} {t T bytes : Nat} {z : Value} (ht : IsElem P t T e.n bytes z) (ty : TypeId) {w : World} {M M2 : List Nat} {a b : Option Addr} {c d : Nat} {xs ys : List α}
    (h : OwnS e T w M a c xs) (hsub : ∀ x ∈ blk a, x ∈ M) (hy : SlR e w M2 b d ys) (hR : ∀ cs y, e.R w M2 cs y → e.R w M cs y) (hl : xs.length + ys.length ≤ 4294967296) :
    ∃ a' c' w', (Builtin.append_ #[t, t] ty [.slice a xs.length c, .slice b ys.length d].toArray).run P w = .ok (.slice a' (xs ++ ys).length c') w' ∧ Ev (blk a) w w' ∧
      (∀ x ∈ blk a', (x ∈ blk a ∨ w.heap.size ≤ x) ∧ x < w'.heap.size) ∧ (∀ x ∈ blk a', x ∈ blk a ∨ x = w.heap.size) ∧ (∀ M', (∀ x ∈ M', x ∈ M ∨ w.heap.size ≤ x) → OwnS e T w' M' a' c' (xs ++ ys)) := by
  obtain ⟨i, hi, hz, hn, hby⟩ := ht.info
  have hpos : 0 < e.n := Nat.le_of_ble_eq_true ht.pos
  have hsm : bytes ≤ 4096 := Nat.le_of_ble_eq_true ht.small
  have hle : xs.length ≤ c := by
    rcases h with ⟨_, _, rfl⟩ | ⟨g, cur, _, _, h1, _⟩
    · simp
    · exact h1
  by_cases hm : ys = []
  · subst hm
    refine ⟨a, c, w, ?_, Ev.refl _ _, fun x hx => ⟨.inl hx, h.lt x hx⟩, fun x hx => .inl hx, fun M' hM' => ?_⟩
    · cases a <;> cases b <;> simp [Builtin.append_, run_underlying ht.und, sizeOf, typeInfo, hi, Builtin.lenOf, Builtin.firstCells, hle, storeCells, loadCells, loadCellsFrom]
    · rw [List.append_nil]
      rcases h with h | ⟨g, cur, rfl, hg, h1, h2, h3, h4⟩
      · exact .inl h
      · refine .inr ⟨g, cur, rfl, hg, h1, h2, h3, fun i x hx => ?_⟩
        obtain ⟨cs, h5, h6⟩ := h4 i x hx
        exact ⟨cs, e.step h5 ⟨Ev.refl _ _, hM'⟩, h6⟩
  · have hyl : 0 < ys.length := List.length_pos_iff.2 hm
    cases b with
    | none => exact absurd (hy.nil rfl) hm
    | some ad =>
      obtain ⟨news, hnl, hnc, hn1, hnr⟩ := hy.cells hpos hyl
      have hrow : ∃ xc, w.ownsRow 0 T e.n (.slice a xs.length c) xs.length xc ∧ ∀ (i : Nat) (x : α), xs[i]? = some x → ∃ cs, e.R w M cs x ∧ ∀ (k : Nat) (v : Value), cs[k]? = some v → xc[i * e.n + k]? = some v := by
        rcases h with ⟨rfl, rfl, rfl⟩ | ⟨g, cur, rfl, hg, h1, h2, h3, h4⟩
        · exact ⟨[], World.ownsRow_nil w 0 T e.n, fun i x hx => by simp at hx⟩
        · have hfit : xs.length * e.n ≤ cur.size := by rw [h3]; exact Nat.mul_le_mul_right _ h1
          refine ⟨cur.toList.take (xs.length * e.n), ⟨by simp; omega, .inr ⟨g, c, cur, rfl, Nat.zero_le _, hg, h1, h2, h3, rfl⟩⟩, fun i x hx => ?_⟩
          obtain ⟨cs, h5, h6⟩ := h4 i x hx
          refine ⟨cs, h5, fun k v hv => ?_⟩
          have hix : i < xs.length := (List.getElem?_eq_some_iff.1 hx).1
          have hk : k < e.n := by rw [← e.len h5]; exact (List.getElem?_eq_some_iff.1 hv).1
          have hj : i * e.n + k < xs.length * e.n := by
            have : (i + 1) * e.n ≤ xs.length * e.n := Nat.mul_le_mul_right _ hix
            rw [Nat.add_mul] at this; omega
          rw [List.getElem?_take, if_pos hj]
          simpa using h6 k v hv
      obtain ⟨xc, hown, hxr⟩ := hrow
      have hbytes : (xs.length + ys.length) * bytes ≤ 140737488355328 := by
        have := Nat.mul_le_mul hl hsm
        omega
      obtain ⟨g, cap, w', hr, hown', hgr, hat, hlt⟩ := run_append_lies (P := P) w t ty 0 T i z e.n bytes ht.und hi hz hn hby ht.zs hpos _ _ _ hown ad ys.length d news hnl hnc hn1 hyl (by unfold maxLen; omega) hbytes (Nat.zero_le _) _ rfl
      have hev := grown_ev hgr
      refine ⟨some ⟨g, 0, none⟩, cap, w', by rw [List.length_append]; exact hr, hev, fun x hx => ?_, fun x hx => ?_, fun M' hM' => ?_⟩
      · simp only [blk, List.mem_singleton] at hx
        subst hx
        refine ⟨?_, hlt⟩
        rcases hat with hat | hat
        · left
          cases a with
          | none => cases hat
          | some ad' => simp only [Value.ownBlock, Option.some.injEq] at hat; simp [blk, hat]
        · right; omega
      · simp only [blk, List.mem_singleton] at hx
        subst hx
        rcases hat with hat | hat
        · left
          cases a with
          | none => cases hat
          | some ad' => simp only [Value.ownBlock, Option.some.injEq] at hat; simp [blk, hat]
        · exact .inr hat
      · have hst : Stp M w M' w' := ⟨hev.sub hsub, hM'⟩
        rcases hown'.2 with ⟨h0, _⟩ | ⟨g', cap', cur, heq, _, hg', h1, h2, h3, h4⟩
        · cases h0
        · cases heq
          refine .inr ⟨g, cur, rfl, hg', by rw [List.length_append]; exact h1, h2, h3, fun i x hx => ?_⟩
          have hxl : xc.length = xs.length * e.n := hown.1
          have fin : ∀ (j : Nat) (v : Value), (xc ++ news)[j]? = some v → cur[j]? = some v := by
            intro j v hv
            rw [← h4, List.getElem?_take] at hv
            split at hv
            · simpa using hv
            · cases hv
          by_cases hix : i < xs.length
          · rw [List.getElem?_append_left hix] at hx
            obtain ⟨cs, h5, h6⟩ := hxr i x hx
            refine ⟨cs, e.step h5 hst, fun k v hv => fin _ _ ?_⟩
            have h7 := h6 k v hv
            rw [List.getElem?_append_left (List.getElem?_eq_some_iff.1 h7).1]; exact h7
          · rw [List.getElem?_append_right (by omega)] at hx
            obtain ⟨cs, h5, h6⟩ := hnr _ x hx
            refine ⟨cs, e.step (hR _ _ h5) hst, fun k v hv => fin _ _ ?_⟩
            have h7 := h6 k v hv
            have hle2 : xs.length * e.n ≤ i * e.n := Nat.mul_le_mul_right _ (by omega)
            rw [List.getElem?_append_right (by omega), hxl]
            rw [show i * e.n + k - xs.length * e.n = (i - xs.length) * e.n + k by rw [Nat.sub_mul]; omega]
            exact h7
theorem own_appendN {P : Program} {α : Type} {e : Enc α} {t T bytes : Nat} {z : Value} (ht : IsElem P t T e.n bytes z) (ty : TypeId) {w : World} {M : List Nat} {a b : Option Addr} {c d : Nat} {xs ys : List α}
    (h : OwnS e T w M a c xs) (hsub : ∀ x ∈ blk a, x ∈ M) (hy : SlR e w M b d ys) (hl : xs.length + ys.length ≤ 4294967296) :
    ∃ a' c' w', (Builtin.append_ #[t, t] ty [.slice a xs.length c, .slice b ys.length d].toArray).run P w = .ok (.slice a' (xs ++ ys).length c') w' ∧ Ev (blk a) w w' ∧
      (∀ x ∈ blk a', (x ∈ blk a ∨ w.heap.size ≤ x) ∧ x < w'.heap.size) ∧ (∀ x ∈ blk a', x ∈ blk a ∨ x = w.heap.size) ∧ (∀ M', (∀ x ∈ M', x ∈ M ∨ w.heap.size ≤ x) → OwnS e T w' M' a' c' (xs ++ ys)) := by
  exact own_appendG ht ty h hsub hy (fun _ _ h => h) hl
theorem own_append {P : Program} {α : Type} {e : Enc α} {t T bytes : Nat} {z : Value} (ht : IsElem P t T e.n bytes z) (ty : TypeId) {w : World} {M : List Nat} {a b : Option Addr} {c d : Nat} {xs ys : List α}
    (h : OwnS e T w M a c xs) (hsub : ∀ x ∈ blk a, x ∈ M) (hy : SlR e w M b d ys) (hl : xs.length + ys.length ≤ 4294967296) :
    ∃ a' c' w', (Builtin.append_ #[t, t] ty [.slice a xs.length c, .slice b ys.length d].toArray).run P w = .ok (.slice a' (xs ++ ys).length c') w' ∧ Ev (blk a) w w' ∧
      (∀ x ∈ blk a', (x ∈ blk a ∨ w.heap.size ≤ x) ∧ x < w'.heap.size) ∧ (∀ M', (∀ x ∈ M', x ∈ M ∨ w.heap.size ≤ x) → OwnS e T w' M' a' c' (xs ++ ys)) := by
  obtain ⟨a', c', w', h1, h2, h3, _, h4⟩ := own_appendN (P := P) ht ty h hsub hy hl
  exact ⟨a', c', w', h1, h2, h3, h4⟩
theorem own_make {P : Program} {α : Type} {e : Enc α} {t T bytes : Nat} {z : Value} (ht : IsElem P t T e.n bytes z) (w : World) (n : Int) (h0 : 0 ≤ n) (hn : n ≤ 4294967296) (x0 : α) (hz : ∀ w M, e.R w M z.cells.toList x0) :
    ∃ a' c' w', (Instr.makeSlice t (.int .i64 n) (.int .i64 n)).run P w = .ok (.slice a' (List.replicate n.toNat x0).length c') w' ∧ Ev [] w w' ∧
      (∀ x ∈ blk a', w.heap.size ≤ x ∧ x < w'.heap.size) ∧ (∀ M', OwnS e T w' M' a' c' (List.replicate n.toNat x0)) := by
  obtain ⟨i, hi, hzz, hsz, hby⟩ := ht.info
  have hpos : 0 < e.n := Nat.le_of_ble_eq_true ht.pos
  have hsm : bytes ≤ 4096 := Nat.le_of_ble_eq_true ht.small
  obtain ⟨m, rfl⟩ := Int.eq_ofNat_of_zero_le h0
  have hm : m ≤ 4294967296 := by omega
  obtain ⟨w', hr, hown, hg⟩ := run_make_full (P := P) w 0 t T i z e.n ht.und hi hzz hsz .i64 .i64 m (by rw [hby]; have := Nat.mul_le_mul hsm hm; omega) (by unfold maxLen; omega) (Nat.zero_le _)
  have hlen : (List.replicate (Int.toNat (m : Int)) x0).length = m := by simp
  have hev : Ev [] w w' := ⟨hg.os, hg.tape, hg.output, hg.size, fun k hk _ => hg.block k hk (by simp)⟩
  refine ⟨_, m, w', by rw [hlen]; exact hr, hev, fun x hx => ?_, fun M' => ?_⟩
  · simp only [blk, List.mem_singleton] at hx
    subst hx
    rcases hown.2 with ⟨h1, _⟩ | ⟨g, cap, cur, h1, _, h2, _⟩
    · cases h1
    · cases h1; exact ⟨Nat.le_refl _, lt_of_heap h2⟩
  · rcases hown.2 with ⟨h1, _⟩ | ⟨g, cap, cur, h1, _, h2, h3, h4, h5, h6⟩
    · cases h1
    · cases h1
      refine .inr ⟨_, cur, rfl, h2, by rw [hlen]; exact h3, h4, h5, fun i x hx => ⟨z.cells.toList, ?_, fun k v hv => ?_⟩⟩
      · have := List.mem_of_getElem? hx
        rw [List.eq_of_mem_replicate this]; exact hz _ _
      · have hix : i < m := by have := (List.getElem?_eq_some_iff.1 hx).1; rwa [hlen] at this
        have hk : k < e.n := by
          have := (List.getElem?_eq_some_iff.1 hv).1
          rw [Array.length_toList, ht.zs] at this; exact this
        have hj : i * e.n + k < m * e.n := by
          have : (i + 1) * e.n ≤ m * e.n := Nat.mul_le_mul_right _ hix
          rw [Nat.add_mul] at this; omega
        have hj2 : (madeCells z.cells (m * e.n)).toList[i * e.n + k]? = some v := by
          have hmod : (i * e.n + k) % z.cells.size = k := by rw [ht.zs, Nat.mul_comm, Nat.mul_add_mod, Nat.mod_eq_of_lt hk]
          have hkz : k < z.cells.size := by rw [ht.zs]; exact hk
          have hv' : z.cells[k]? = some v := by simpa using hv
          simp only [madeCells, Array.toList_map, Array.toList_range, List.getElem?_map, List.getElem?_range hj, Option.map_some, hmod]
          rw [getElem!_pos z.cells k hkz]
          rw [Array.getElem?_eq_getElem hkz] at hv'
          exact hv'
        rw [← h6, List.getElem?_take, if_pos hj] at hj2
        simpa using hj2
theorem own_index {P : Program} {Mo M : List Nat} {α : Type} {e : Enc α} {t T : Nat} {w : World} {a : Option Addr} {c : Nat} {xs : List α} {i : Int} {x : α} (ht : IsSlice P t T e.n) (h : OwnS e T w M a c xs) (hx : idx xs i = some x) :
    ∃ g cs, a = some ⟨g, 0, none⟩ ∧ Reads P Mo (Instr.indexAt t (.slice a xs.length c) (.int .i64 i)) w (.pointer (some ⟨g, i.toNat * e.n, none⟩)) ∧ CellsAt w [] ⟨g, i.toNat * e.n, none⟩ cs ∧ e.R w M cs x := by
  obtain ⟨h0, h1, h2⟩ := idx_some hx
  rcases h with ⟨_, _, rfl⟩ | ⟨g, cur, rfl, hg, h3, h4, h5, h6⟩
  · simp at h2
  · obtain ⟨cs, h7, h8⟩ := h6 _ _ h2
    refine ⟨g, cs, rfl, fun w' _ => ?_, ⟨rfl, by simp, lt_of_heap hg, fun k v hv => ?_⟩, h7⟩
    · have hz := ht.2 w'
      simp only [Instr.indexAt, asIntOf, Sem.run_bind, Sem.run_pure, Result.andThen_ok, run_underlying ht.1, h0, h1, and_self, if_true, hz]
      rw [addr_add rfl]
      simp
    · rw [box_cell hg]; exact h8 k v hv
theorem own_store {P : Program} {M : List Nat} {α : Type} {e : Enc α} {te T : Nat} {w : World} {g : Nat} {c : Nat} {xs : List α} {i : Int} {x y : α} (o : Nat) (v : Value) (ht : IsCell P te) (h : OwnS e T w M (some ⟨g, 0, none⟩) c xs) (hsub : g ∈ M) (hx : idx xs i = some x)
    (h1 : v.oneCell' = true) (ho : Nat.blt o e.n = true) (hy : ∀ w M cs, e.R w M cs x → e.R w M (cs.set o v) y) :
    ∃ w', (Instr.storeAt te (.pointer (some ⟨g, i.toNat * e.n + o, none⟩)) v).run P w = .ok () w' ∧ Ev [g] w w' ∧ OwnS e T w' M (some ⟨g, 0, none⟩) c (xs.set i.toNat y) := by
  obtain ⟨h0, hl, h2⟩ := idx_some hx
  have ho := Nat.le_of_ble_eq_true ho
  rcases h with ⟨hh, _, _⟩ | ⟨g', cur, hg', hg, h3, h4, h5, h6⟩
  · cases hh
  · cases hg'
    have hil : i.toNat < xs.length := by omega
    have hfit : i.toNat * e.n + o < cur.size := by
      rw [h5]
      have : (i.toNat + 1) * e.n ≤ c * e.n := Nat.mul_le_mul_right _ (by omega)
      rw [Nat.add_mul] at this; omega
    obtain ⟨w', hr, hb, hev⟩ := store_box (P := P) (i.toNat * e.n + o) v (cur.setIfInBounds (i.toNat * e.n + o) v) ht hg (Nat.ble_eq ▸ hfit) h1 rfl
    refine ⟨w', hr, hev, .inr ⟨g, _, rfl, hb, by rw [List.length_set]; exact h3, h4, by rw [Array.size_setIfInBounds]; exact h5, fun j z hz => ?_⟩⟩
    have hst : Stp M w M w' := Stp.same hev (fun b hb => by simp only [List.mem_singleton] at hb; subst hb; exact hsub)
    rw [List.getElem?_set] at hz
    split at hz
    · rename_i hij
      · cases hz
        subst hij
        obtain ⟨cs, h7, h8⟩ := h6 _ _ h2
        refine ⟨cs.set o v, e.step (hy _ _ _ h7) hst, fun k u hu => ?_⟩
        rw [List.getElem?_set] at hu
        rw [Array.getElem?_setIfInBounds]
        split at hu
        · rename_i hok
          subst hok
          split at hu
          · cases hu; rw [if_pos (by omega), if_pos (by omega)]
          · cases hu
        · rename_i hok
          rw [if_neg (by omega)]
          exact h8 k u hu
    · rename_i hij
      obtain ⟨cs, h7, h8⟩ := h6 _ _ hz
      refine ⟨cs, e.step h7 hst, fun k u hu => ?_⟩
      have hk : k < e.n := by rw [← e.len h7]; exact (List.getElem?_eq_some_iff.1 hu).1
      rw [Array.getElem?_setIfInBounds_ne]
      · exact h8 k u hu
      · intro heq
        rcases Nat.lt_or_gt_of_ne hij with hlt | hgt
        · have : (i.toNat + 1) * e.n ≤ j * e.n := Nat.mul_le_mul_right _ hlt
          rw [Nat.add_mul] at this; omega
        · have : (j + 1) * e.n ≤ i.toNat * e.n := Nat.mul_le_mul_right _ hgt
          rw [Nat.add_mul] at this; omega
theorem MS.out {w : World} {ls : List (List Nat)} (h : MS w ls) (i : Nat) {A : List Nat} (hi : ls[i]? = some A) : ∀ x ∈ A, x ∉ fl (ls.eraseIdx i) := fun x hx hx2 => by
  have := (h.focus i hi).apart 0 1 rfl rfl rfl
  exact this x hx hx2
def Enc.Plain {α : Type} (e : Enc α) : Prop := ∀ (w w' : World) (M M' : List Nat) (cs : List Value) (x : α), e.R w M cs x → e.R w' M' cs x
abbrev eIt4 : Enc (Int × Int × Int × Int) := eProd (eInt .i64) (eProd (eInt .i64) (eProd (eInt .i64) (eInt .i64)))
theorem plain_int (k : IntKind) : (eInt k).Plain := fun _ _ _ _ _ _ h => h
theorem plain_str : eStr.Plain := fun _ _ _ _ _ _ h => h
theorem plain_prod {α β : Type} {e : Enc α} {f : Enc β} (he : e.Plain) (hf : f.Plain) : (eProd e f).Plain := fun w w' M M' cs x ⟨c1, c2, h, h1, h2⟩ => ⟨c1, c2, h, he w w' M M' c1 _ h1, hf w w' M M' c2 _ h2⟩
theorem OwnS.plain {α : Type} {e : Enc α} (hp : e.Plain) {T : TypeId} {w : World} {M M' : List Nat} {a : Option Addr} {c : Nat} {xs : List α} (h : OwnS e T w M a c xs) : OwnS e T w M' a c xs := by
  rcases h with h | ⟨g, cur, ha, hg, h1, h2, h3, h4⟩
  · exact .inl h
  · refine .inr ⟨g, cur, ha, hg, h1, h2, h3, fun i x hx => ?_⟩
    obtain ⟨cs, h5, h6⟩ := h4 i x hx
    exact ⟨cs, hp _ _ _ _ _ _ h5, h6⟩
def picks (ls : List (List Nat)) : List (Option Nat) → Option (List (List Nat))
  | [] => some []
  | none :: l => (picks ls l).map (blk none :: ·)
  | some i :: l => match ls[i]? with
    | none => none
    | some A => (picks ls l).map (A :: ·)
def distinct : List (Option Nat) → Bool
  | [] => true
  | none :: l => distinct l
  | some i :: l => l.all (fun o => match o with | none => true | some j => !(Nat.beq i j)) && distinct l
theorem picks_mem {ls : List (List Nat)} : ∀ (l : List (Option Nat)) (r : List (List Nat)), picks ls l = some r → ∀ B ∈ r, B = [] ∨ ∃ j, some j ∈ l ∧ ls[j]? = some B
  | [], r, h, B, hB => by cases h; cases hB
  | none :: l, r, h, B, hB => by
    unfold picks at h
    cases hp : picks ls l with
    | none => rw [hp] at h; cases h
    | some r' =>
      rw [hp] at h; cases h
      cases hB with
      | head => exact .inl rfl
      | tail _ hB =>
        rcases picks_mem l r' hp B hB with h | ⟨j, h1, h2⟩
        · exact .inl h
        · exact .inr ⟨j, List.mem_cons_of_mem _ h1, h2⟩
  | some i :: l, r, h, B, hB => by
    unfold picks at h
    cases hi : ls[i]? with
    | none => rw [hi] at h; cases h
    | some A =>
      rw [hi] at h
      simp only at h
      cases hp : picks ls l with
      | none => rw [hp] at h; cases h
      | some r' =>
        rw [hp] at h; cases h
        cases hB with
        | head => exact .inr ⟨i, List.mem_cons_self, hi⟩
        | tail _ hB =>
          rcases picks_mem l r' hp B hB with h | ⟨j, h1, h2⟩
          · exact .inl h
          · exact .inr ⟨j, List.mem_cons_of_mem _ h1, h2⟩
theorem picks_pd {w : World} {ls : List (List Nat)} (h : MS w ls) : ∀ (l : List (Option Nat)) (r : List (List Nat)), picks ls l = some r → distinct l = true → r.Pairwise fun a b => ∀ x ∈ a, x ∉ b
  | [], r, hp, _ => by cases hp; exact List.Pairwise.nil
  | none :: l, r, hp, hd => by
    unfold picks at hp
    cases hq : picks ls l with
    | none => rw [hq] at hp; cases hp
    | some r' =>
      rw [hq] at hp; cases hp
      exact List.pairwise_cons.2 ⟨fun B _ x hx => (by cases hx), picks_pd h l r' hq hd⟩
  | some i :: l, r, hp, hd => by
    unfold picks at hp
    cases hi : ls[i]? with
    | none => rw [hi] at hp; cases hp
    | some A =>
      rw [hi] at hp
      simp only at hp
      cases hq : picks ls l with
      | none => rw [hq] at hp; cases hp
      | some r' =>
        rw [hq] at hp; cases hp
        unfold distinct at hd
        simp only [Bool.and_eq_true] at hd
        refine List.pairwise_cons.2 ⟨fun B hB x hx hx2 => ?_, picks_pd h l r' hq hd.2⟩
        rcases picks_mem l r' hq B hB with rfl | ⟨j, h1, h2⟩
        · cases hx2
        · have := List.all_eq_true.1 hd.1 _ h1
          simp only [Bool.not_eq_true'] at this
          exact h.apart i j hi h2 this x hx hx2
theorem MS.pick {w : World} {ls : List (List Nat)} (h : MS w ls) (l : List (Option Nat)) (r : List (List Nat)) (hp : (distinct l, picks ls l) = (true, some r)) : MS w r := by
  have h1 : distinct l = true := congrArg Prod.fst hp
  have h2 : picks ls l = some r := congrArg Prod.snd hp
  refine ⟨picks_pd h l r h2 h1, fun B hB b hb => ?_⟩
  rcases picks_mem l r h2 B hB with rfl | ⟨j, _, h4⟩
  · cases hb
  · exact h.lt B (List.mem_of_getElem? h4) b hb
theorem FR.pick {C : Nat} {ls : List (List Nat)} (h : FR C ls) (l : List (Option Nat)) (r : List (List Nat)) (hp : picks ls l = some r) : FR C r := by
  intro B hB b hb
  rcases picks_mem l r hp B hB with rfl | ⟨j, _, h4⟩
  · cases hb
  · exact h B (List.mem_of_getElem? h4) b hb
theorem pick_sub {ls : List (List Nat)} (l : List (Option Nat)) (r : List (List Nat)) (hp : picks ls l = some r) : ∀ x ∈ fl r, x ∈ fl ls := by
  intro x hx
  obtain ⟨B, hB, hxB⟩ := (mem_fl _ _).1 hx
  rcases picks_mem l r hp B hB with rfl | ⟨j, _, h4⟩
  · cases hxB
  · exact (mem_fl _ _).2 ⟨B, List.mem_of_getElem? h4, hxB⟩
theorem run_eql_bool {P : Program} {t : TypeId} (ht : P.underlying t = some .bool) (a b : Bool) (w : World) : (Op.equal t (.bool a) (.bool b)).run P w = .ok (a == b) w := by
  unfold Op.equal Op.maxDepth
  show Sem.run P (Op.equalIn (9999 + 1) t (.bool a) (.bool b)) w = _
  unfold Op.equalIn
  rw [run_bind, run_underlying ht]
  rfl
theorem vb_booleql {P : Program} {t : TypeId} {xo yo : Operand} {a b : Bool} (ht : P.underlying t = some .bool) (K : Value → Prop) (h : K (.bool (a == b))) : vcBin P .eql t xo yo (.bool a) (.bool b) K := by
  refine ⟨_, fun w => ?_, h⟩
  show Sem.run P (binOp .eql t (.bool a) (.bool b)) w = _
  show Sem.run P (do pure (.bool (← Op.equal t (.bool a) (.bool b))) : Sem Value) w = _
  rw [run_bind, run_eql_bool ht]
  rfl
theorem vb_boolneq {P : Program} {t : TypeId} {xo yo : Operand} {a b : Bool} (ht : P.underlying t = some .bool) (K : Value → Prop) (h : K (.bool (a != b))) : vcBin P .neq t xo yo (.bool a) (.bool b) K := by
  refine ⟨_, fun w => ?_, h⟩
  show Sem.run P (binOp .neq t (.bool a) (.bool b)) w = _
  show Sem.run P (do pure (.bool (!(← Op.equal t (.bool a) (.bool b)))) : Sem Value) w = _
  rw [run_bind, run_eql_bool ht]
  rfl
theorem pick_out {w : World} {ls : List (List Nat)} (h : MS w ls) (i : Nat) {A : List Nat} (hi : ls[i]? = some A) (l : List (Option Nat)) (r : List (List Nat)) (hp : picks ls l = some r)
    (hni : l.all (fun o => match o with | none => true | some j => !(Nat.beq i j)) = true) : ∀ x ∈ A, x ∉ fl r := by
  intro x hx hx2
  obtain ⟨B, hB, hxB⟩ := (mem_fl _ _).1 hx2
  rcases picks_mem l r hp B hB with rfl | ⟨j, h1, h2⟩
  · cases hxB
  · have := List.all_eq_true.1 hni _ h1
    simp only [Bool.not_eq_true'] at this
    exact h.apart i j hi h2 this x hx hxB
theorem below_of_ev {w w' : World} (h : Ev [] w w') : Go.RowKit.Below w.heap.size w w' := ⟨h.os, h.tape, h.output, h.size, fun k hk => h.block k hk (fun h => by cases h)⟩
theorem ms_nil (w : World) : MS w [[]] := ⟨List.pairwise_singleton _ _, fun l hl b hb => by simp only [List.mem_singleton] at hl; subst hl; cases hb⟩
def eHdr : Enc (Option Addr × Nat × Nat) := ⟨1, fun _ _ cs h => cs = [.slice h.1 h.2.1 h.2.2], fun h => by rw [h]; rfl, fun h _ => h, fun h v hv => by rw [h] at hv; simp at hv; subst hv; rfl⟩
theorem plain_hdr : eHdr.Plain := fun _ _ _ _ _ _ h => h
theorem OwnS.evp {α : Type} {e : Enc α} (hp : e.Plain) {T : TypeId} {w w' : World} {M M' Mo : List Nat} {a : Option Addr} {c : Nat} {xs : List α} (h : OwnS e T w M a c xs) (he : Ev Mo w w') (hm : ∀ b ∈ blk a, b ∉ Mo) : OwnS e T w' M' a c xs := by
  rcases h with h | ⟨g, cur, rfl, hg, h1, h2, h3, h4⟩
  · exact .inl h
  · refine .inr ⟨g, cur, rfl, he.box hg (hm g (by simp [blk])), h1, h2, h3, fun i x hx => ?_⟩
    obtain ⟨cs, h5, h6⟩ := h4 i x hx
    exact ⟨cs, hp _ _ _ _ _ _ h5, h6⟩
def OwnR {α : Type} (e : Enc α) (T Tr : TypeId) (w : World) (B : List Nat) (a : Option Addr) (c : Nat) (xss : List (List α)) (skip : Option Nat) : Prop :=
  ∃ hs : List (Option Addr × Nat × Nat), OwnS eHdr Tr w [] a c hs ∧ hs.length = xss.length ∧ (∀ x ∈ blk a, x ∈ B) ∧
    (∀ (i : Nat) (h : Option Addr × Nat × Nat) (xs : List α), hs[i]? = some h → xss[i]? = some xs → skip ≠ some i → OwnS e T w [] h.1 h.2.2 xs ∧ h.2.1 = xs.length ∧ ∀ x ∈ blk h.1, x ∈ B ∧ x ∉ blk a) ∧
    (∀ (i j : Nat) (h k : Option Addr × Nat × Nat), hs[i]? = some h → hs[j]? = some k → i ≠ j → skip ≠ some i → skip ≠ some j → ∀ x ∈ blk h.1, x ∉ blk k.1)
theorem OwnR.nil {α : Type} (e : Enc α) (T Tr : TypeId) (w : World) (B : List Nat) : OwnR e T Tr w B none 0 [] none :=
  ⟨[], OwnS.nil _ _ _ _, rfl, (fun x hx => by cases hx), (fun i h xs h1 => by cases h1), (fun i j h k h1 => by cases h1)⟩
theorem OwnR.step {α : Type} {e : Enc α} (hp : e.Plain) {T Tr : TypeId} {w w' : World} {B Mo : List Nat} {a : Option Addr} {c : Nat} {xss : List (List α)} {skip : Option Nat} (h : OwnR e T Tr w B a c xss skip) (he : Ev Mo w w') (hm : ∀ b ∈ B, b ∉ Mo) : OwnR e T Tr w' B a c xss skip := by
  obtain ⟨hs, h1, h2, h3, h4, h5⟩ := h
  refine ⟨hs, h1.evp plain_hdr he (fun b hb => hm b (h3 b hb)), h2, h3, fun i h xs hi hx hk => ?_, h5⟩
  obtain ⟨h6, h7, h8⟩ := h4 i h xs hi hx hk
  exact ⟨h6.evp hp he (fun b hb => hm b (h8 b hb).1), h7, h8⟩
theorem OwnR.more {α : Type} {e : Enc α} {T Tr : TypeId} {w : World} {B B' : List Nat} {a : Option Addr} {c : Nat} {xss : List (List α)} {skip : Option Nat} (h : OwnR e T Tr w B a c xss skip) (hb : ∀ b ∈ B, b ∈ B') : OwnR e T Tr w B' a c xss skip := by
  obtain ⟨hs, h1, h2, h3, h4, h5⟩ := h
  refine ⟨hs, h1, h2, fun x hx => hb x (h3 x hx), fun i h xs hi hx hk => ?_, h5⟩
  obtain ⟨h6, h7, h8⟩ := h4 i h xs hi hx hk
  exact ⟨h6, h7, fun x hx => ⟨hb x (h8 x hx).1, (h8 x hx).2⟩⟩
theorem eHdr_n : eHdr.n = 1 := rfl
theorem OwnR.index {P : Program} {Mo : List Nat} {α : Type} {e : Enc α} {t T Tr : Nat} {w : World} {B : List Nat} {a : Option Addr} {c : Nat} {xss : List (List α)} {i : Int} {xs : List α} (ht : IsSlice P t Tr 1) (h : OwnR e T Tr w B a c xss none) (hx : idx xss i = some xs) :
    ∃ g ai ci, a = some ⟨g, 0, none⟩ ∧ Reads P Mo (Instr.indexAt t (.slice a xss.length c) (.int .i64 i)) w (.pointer (some ⟨g, i.toNat, none⟩)) ∧ CellsAt w [] ⟨g, i.toNat, none⟩ [.slice ai xs.length ci] ∧
      OwnS e T w [] ai ci xs ∧ (∀ x ∈ blk ai, x ∈ B) := by
  obtain ⟨hs, h1, h2, h3, h4, h5⟩ := h
  obtain ⟨h0, hl, hxx⟩ := idx_some hx
  have hil : i.toNat < hs.length := by omega
  have hh : idx hs i = some hs[i.toNat] := by
    unfold idx; rw [if_pos h0]; exact List.getElem?_eq_getElem hil
  obtain ⟨g, cs, ha, hr, hc, hR⟩ := own_index (P := P) (Mo := Mo) (e := eHdr) (t := t) ht h1 hh
  obtain ⟨h6, h7, h8⟩ := h4 i.toNat hs[i.toNat] xs (List.getElem?_eq_getElem hil) hxx (by simp)
  rw [eHdr_n, Nat.mul_one] at hr hc
  refine ⟨g, hs[i.toNat].1, hs[i.toNat].2.2, ha, by rw [← h2]; exact hr, ?_, h6, fun x hx => (h8 x hx).1⟩
  have hR' : cs = [.slice hs[i.toNat].1 hs[i.toNat].2.1 hs[i.toNat].2.2] := hR
  rw [hR', h7] at hc
  exact hc
theorem OwnR.make {P : Program} {α : Type} (e : Enc α) {t T Tr bytes : Nat} (ht : IsElem P t Tr 1 bytes (.slice none 0 0)) (w : World) (n : Int) (h0 : 0 ≤ n) (hn : n ≤ 4294967296) :
    ∃ a' c' w', (Instr.makeSlice t (.int .i64 n) (.int .i64 n)).run P w = .ok (.slice a' (List.replicate n.toNat ([] : List α)).length c') w' ∧ Ev [] w w' ∧
      (∀ x ∈ blk a', w.heap.size ≤ x ∧ x < w'.heap.size) ∧ OwnR e T Tr w' (blk a') a' c' (List.replicate n.toNat ([] : List α)) none := by
  obtain ⟨a', c', w', h1, h2, h3, h4⟩ := own_make (P := P) (e := eHdr) ht w n h0 hn (none, 0, 0) (fun _ _ => rfl)
  refine ⟨a', c', w', by simpa using h1, h2, h3, List.replicate n.toNat (none, 0, 0), h4 [], by simp, fun x hx => hx, fun i h xs hi hx _ => ?_, fun i j h k hi hj _ _ _ x hx => ?_⟩
  · have e1 : h = (none, 0, 0) := by
      have := List.mem_of_getElem? hi
      exact List.eq_of_mem_replicate this
    have e2 : xs = [] := List.eq_of_mem_replicate (List.mem_of_getElem? hx)
    subst e1; subst e2
    exact ⟨OwnS.nil _ _ _ _, rfl, fun x hx => by cases hx⟩
  · have e1 : h = (none, 0, 0) := List.eq_of_mem_replicate (List.mem_of_getElem? hi)
    subst e1
    cases hx
theorem OwnR.ro {α : Type} {e : Enc α} (hp : e.Plain) {T Tr : TypeId} {w : World} {B M' : List Nat} {a : Option Addr} {c : Nat} {xss : List (List α)} (h : OwnR e T Tr w B a c xss none) (hm : ∀ b ∈ B, b ∉ M') : SlR (eSl e) w M' a c xss := by
  obtain ⟨hs, h1, h2, h3, h4, h5⟩ := h
  rcases h1 with ⟨rfl, rfl, rfl⟩ | ⟨g, cur, rfl, hg, h6, h7, h8, h9⟩
  · have : xss = [] := List.eq_nil_of_length_eq_zero (by simpa using h2.symm)
    subst this
    exact SlR.empty _ _ _
  · refine ⟨by omega, h7, fun h => (by cases h), fun ad ha _ => ?_⟩
    cases ha
    refine ⟨rfl, hm g (h3 g (by simp [blk])), lt_of_heap hg, fun i x hx => ?_⟩
    have hil : i < hs.length := by have := (List.getElem?_eq_some_iff.1 hx).1; omega
    obtain ⟨a1, a2, a3⟩ := h4 i hs[i] x (List.getElem?_eq_getElem hil) hx (by simp)
    obtain ⟨cs, h10, h11⟩ := h9 i hs[i] (List.getElem?_eq_getElem hil)
    have h10' : cs = [.slice hs[i].1 hs[i].2.1 hs[i].2.2] := h10
    refine ⟨cs, ⟨hs[i].1, hs[i].2.2, by rw [h10', a2], (OwnS.plain (M' := M') hp a1).ro (fun _ h => h) (fun b hb => hm b (a3 b hb).1)⟩, fun k v hv => ?_⟩
    show w.cell? ⟨g, 0 + (i * 1 + k), none⟩ = some v
    rw [Nat.zero_add, box_cell hg]
    exact h11 k v hv
theorem OwnR.append {P : Program} {α : Type} {e : Enc α} (hp : e.Plain) {t T Tr bytes : Nat} {z : Value} (ht : IsElem P t Tr 1 bytes z) (ty : TypeId) {w : World} {B B2 : List Nat} {a b a' : Option Addr} {c d c' : Nat} {xss : List (List α)} {ys : List α}
    (h : OwnR e T Tr w B a c xss none) (hs : SlR eHdr w B b d [(a', ys.length, c')]) (hy : OwnS e T w B2 a' c' ys) (hd : ∀ x ∈ blk a', x ∉ B) (hlt : ∀ x ∈ B, x < w.heap.size) (hl : xss.length + 1 ≤ 4294967296) :
    ∃ a2 c2 w', (Builtin.append_ #[t, t] ty [.slice a xss.length c, .slice b 1 d].toArray).run P w = .ok (.slice a2 (xss ++ [ys]).length c2) w' ∧ Ev (blk a) w w' ∧ (∀ x ∈ blk a, x ∈ B) ∧
      (∀ x ∈ blk a2, (x ∈ B ∨ w.heap.size ≤ x) ∧ x < w'.heap.size) ∧ OwnR e T Tr w' (blk a2 ++ (blk a' ++ B)) a2 c2 (xss ++ [ys]) none := by
  obtain ⟨hs', h1, h2, h3, h4, h5⟩ := h
  have hlta' : ∀ x ∈ blk a', x < w.heap.size := hy.lt
  obtain ⟨a2, c2, w', hr, he, hn, ho⟩ := own_append (P := P) (e := eHdr) (M := B) ht ty (h1.plain plain_hdr) h3 hs (by simpa [h2] using hl)
  simp only [List.length_append, List.length_cons, List.length_nil, Nat.zero_add, h2] at hr
  refine ⟨a2, c2, w', by simpa using hr, he, h3, fun x hx => ⟨(hn x hx).1.imp (fun h => h3 x h) id, (hn x hx).2⟩, hs' ++ [(a', ys.length, c')], (ho [] (fun _ h => by cases h)), by simp [h2],
    fun x hx => List.mem_append_left _ hx, fun i k zs hi hz _ => ?_, fun i j k l hi hj hne _ _ x hx hx2 => ?_⟩
  · have hout : ∀ x, x < w.heap.size → x ∉ blk a → x ∉ blk a2 := fun x h6 h7 h8 => by
      rcases (hn x h8).1 with h9 | h9
      · exact h7 h9
      · omega
    rcases Nat.lt_or_ge i hs'.length with hil | hil
    · rw [List.getElem?_append_left hil] at hi
      rw [List.getElem?_append_left (by omega)] at hz
      obtain ⟨a1, a3, a4⟩ := h4 i k zs hi hz (by simp)
      refine ⟨a1.evp hp he (fun b hb => (a4 b hb).2), a3, fun x hx => ⟨List.mem_append_right _ (List.mem_append_right _ (a4 x hx).1), hout x (hlt x (a4 x hx).1) (a4 x hx).2⟩⟩
    · rw [List.getElem?_append_right hil] at hi
      rw [List.getElem?_append_right (by omega)] at hz
      have e0 : i - hs'.length = 0 := by
        rcases Nat.eq_zero_or_pos (i - hs'.length) with h | h
        · exact h
        · rw [List.getElem?_eq_none (by simp; omega)] at hi; cases hi
      rw [e0] at hi
      rw [show i - xss.length = 0 by omega] at hz
      cases hi; cases hz
      refine ⟨hy.evp hp he (fun b hb hb2 => hd b hb (h3 b hb2)), rfl, fun x hx => ⟨List.mem_append_right _ (List.mem_append_left _ hx), hout x (hlta' x hx) (fun h => hd x hx (h3 x h))⟩⟩
  · have old : ∀ {i : Nat} {k : Option Addr × Nat × Nat}, (hs' ++ [(a', ys.length, c')])[i]? = some k → (i < hs'.length ∧ hs'[i]? = some k) ∨ (i = hs'.length ∧ k = (a', ys.length, c')) := by
      intro i k hi
      rcases Nat.lt_or_ge i hs'.length with hil | hil
      · rw [List.getElem?_append_left hil] at hi
        exact .inl ⟨hil, hi⟩
      · rw [List.getElem?_append_right hil] at hi
        have e0 : i - hs'.length = 0 := by
          rcases Nat.eq_zero_or_pos (i - hs'.length) with h | h
          · exact h
          · rw [List.getElem?_eq_none (by simp; omega)] at hi; cases hi
        rw [e0] at hi
        cases hi
        exact .inr ⟨by omega, rfl⟩
    have inB : ∀ {i : Nat} {k : Option Addr × Nat × Nat}, hs'[i]? = some k → ∀ x ∈ blk k.1, x ∈ B := by
      intro i k hi x hx
      have hil := (List.getElem?_eq_some_iff.1 hi).1
      obtain ⟨zs, hz⟩ : ∃ zs, xss[i]? = some zs := ⟨xss[i]'(by omega), List.getElem?_eq_getElem _⟩
      exact ((h4 i k zs hi hz (by simp)).2.2 x hx).1
    rcases old hi with ⟨_, hi'⟩ | ⟨hi', rfl⟩ <;> rcases old hj with ⟨_, hj'⟩ | ⟨hj', rfl⟩
    · exact h5 i j k l hi' hj' hne (by simp) (by simp) x hx hx2
    · exact hd x hx2 (inB hi' x hx)
    · exact hd x hx (inB hj' x hx2)
    · omega
theorem MS.split {w : World} {ls : List (List Nat)} (h : MS w ls) (i : Nat) {A A1 A2 : List Nat} (hi : ls[i]? = some A) (h1 : ∀ x ∈ A1, x ∈ A) (h2 : ∀ x ∈ A2, x ∈ A) (hd : ∀ x ∈ A1, x ∉ A2) : MS w (A1 :: ls.set i A2) := by
  have hil : i < ls.length := (List.getElem?_eq_some_iff.1 hi).1
  have hu : MS w (ls.set i A2) := h.upd i (Ev.refl [] w) hi (fun b hb => ⟨.inl (h2 b hb), h.lt A (List.mem_of_getElem? hi) b (h2 b hb)⟩)
  refine ⟨List.pairwise_cons.2 ⟨fun l hl x hx hx2 => ?_, hu.pd⟩, fun l hl b hb => ?_⟩
  · obtain ⟨j, hj, rfl⟩ := List.getElem_of_mem hl
    rw [List.length_set] at hj
    rw [List.getElem_set] at hx2
    split at hx2
    · exact hd x hx hx2
    · rename_i hij
      exact h.apart i j hi (List.getElem?_eq_getElem hj) (beq_ne hij) x (h1 x hx) hx2
  · cases hl with
    | head => exact h.lt A (List.mem_of_getElem? hi) b (h1 b hb)
    | tail _ hl => exact hu.lt l hl b hb
inductive CellsOf {α : Type} (e : Enc α) (w : World) (M : List Nat) : List α → List Value → Prop where
  | nil : CellsOf e w M [] []
  | cons {x : α} {xs : List α} {c cs : List Value} (h : e.R w M c x) (t : CellsOf e w M xs cs) : CellsOf e w M (x :: xs) (c ++ cs)
theorem cells_at {α : Type} {e : Enc α} {w : World} {M : List Nat} {xs : List α} {cs : List Value} (h : CellsOf e w M xs cs) :
    ∀ (i : Nat) (x : α), xs[i]? = some x → ∃ c, e.R w M c x ∧ ∀ (k : Nat) (v : Value), c[k]? = some v → cs.toArray[i * e.n + k]? = some v := by
  induction h with
  | nil => intro i x hx; simp at hx
  | @cons y ys c cs h t ih =>
    intro i x hx
    cases i with
    | zero =>
      simp only [List.getElem?_cons_zero, Option.some.injEq] at hx
      subst hx
      refine ⟨c, h, fun k v hv => ?_⟩
      have hk := (List.getElem?_eq_some_iff.1 hv).1
      simp only [Nat.zero_mul, Nat.zero_add, List.getElem?_toArray]
      rw [List.getElem?_append_left hk]
      exact hv
    | succ i =>
      rw [List.getElem?_cons_succ] at hx
      obtain ⟨c2, h2, h3⟩ := ih i x hx
      refine ⟨c2, h2, fun k v hv => ?_⟩
      have hl := e.len h
      have := h3 k v hv
      simp only [List.getElem?_toArray] at this ⊢
      rw [List.getElem?_append_right (by rw [hl, Nat.add_mul]; omega), hl, ← this]
      congr 1
      rw [Nat.add_mul]
      omega
structure RView {α : Type} (e : Enc α) (T : TypeId) (w : World) (B : List Nat) (a : Option Addr) (d : List (List α)) (g i : Nat) (ai : Option Addr) (ci : Nat) (xs : List α) : Prop where
  eq : a = some ⟨g, 0, none⟩
  gB : g ∈ B
  row : OwnS e T w [] ai ci xs
  cell : CellsAt w [] ⟨g, i, none⟩ [.slice ai xs.length ci]
  sub : ∀ x ∈ blk ai, x ∈ B
  at_ : d[i]? = some xs
theorem CellsAt.evp {w w' : World} {Mo : List Nat} {ad : Addr} {cs : List Value} (h : CellsAt w [] ad cs) (he : Ev Mo w w') (hm : ad.block ∉ Mo) : CellsAt w' [] ad cs :=
  ⟨h.spot, fun h => (by cases h), he.lt h.lt, fun k v hv => by rw [he.cell (a := ⟨ad.block, _, none⟩) h.lt hm]; exact h.at_ k v hv⟩
theorem RView.step {α : Type} {e : Enc α} (hp : e.Plain) {T : TypeId} {w w' : World} {B Mo : List Nat} {a : Option Addr} {d : List (List α)} {g i : Nat} {ai : Option Addr} {ci : Nat} {xs : List α} (h : RView e T w B a d g i ai ci xs) (he : Ev Mo w w') (hm : ∀ b ∈ B, b ∉ Mo) : RView e T w' B a d g i ai ci xs :=
  ⟨h.eq, h.gB, h.row.evp hp he (fun b hb => hm b (h.sub b hb)), h.cell.evp he (hm g h.gB), h.sub, h.at_⟩
theorem RView.load {P : Program} {α : Type} {e : Enc α} {T te : TypeId} {w : World} {B : List Nat} {a : Option Addr} {d : List (List α)} {g i : Nat} {ai : Option Addr} {ci : Nat} {xs : List α} (ht : IsCell P te) (h : RView e T w B a d g i ai ci xs) :
    Reads P [] (Instr.loadAt te (.pointer (some ⟨g, i, none⟩))) w (.slice ai xs.length ci) := reads_cell0 ht h.cell (fun b hb => by cases hb)
theorem CellsAt.away {w : World} {Mo : List Nat} {ad : Addr} {cs : List Value} (h : CellsAt w [] ad cs) (hm : ad.block ∉ Mo) : CellsAt w Mo ad cs := ⟨h.spot, hm, h.lt, h.at_⟩
theorem RView.elem {P : Program} {Mo : List Nat} {α : Type} {e : Enc α} {t T : Nat} {w : World} {B : List Nat} {a : Option Addr} {d : List (List α)} {g i : Nat} {ai : Option Addr} {ci : Nat} {xs : List α} {j : Int} {x : α} (ht : IsSlice P t T e.n) (h : RView e T w B a d g i ai ci xs) (hx : idx xs j = some x) :
    ∃ ad cs, Reads P Mo (Instr.indexAt t (.slice ai xs.length ci) (.int .i64 j)) w (.pointer (some ad)) ∧ CellsAt w [] ad cs ∧ e.R w [] cs x ∧ ad.block ∈ B ∧ (∀ k, ai = some ⟨k, 0, none⟩ → ad = ⟨k, j.toNat * e.n, none⟩) := by
  obtain ⟨g', cs, ha, hr, hc, hR⟩ := own_index (P := P) (Mo := Mo) ht h.row hx
  exact ⟨_, cs, hr, hc, hR, h.sub _ (by rw [ha]; simp [blk]), fun k hk => by rw [ha] at hk; cases hk; rfl⟩
theorem RView.ro {α : Type} {e : Enc α} (hp : e.Plain) {T : TypeId} {w : World} {B M : List Nat} {a : Option Addr} {d : List (List α)} {g i : Nat} {ai : Option Addr} {ci : Nat} {xs : List α} (h : RView e T w B a d g i ai ci xs) (hm : ∀ b ∈ B, b ∉ M) : SlR e w M ai ci xs :=
  (OwnS.plain (M' := M) hp h.row).ro (fun _ h => h) (fun b hb => hm b (h.sub b hb))
theorem OwnR.app {P : Program} {α : Type} {e : Enc α} (hp : e.Plain) {t T Tr bytes : Nat} {z : Value} (ht : IsElem P t Tr 1 bytes z) (ty : TypeId) {w : World} {B M M' : List Nat} {a b a' : Option Addr} {c d c' : Nat} {xss : List (List α)} {ys : List α}
    (h : OwnR e T Tr w B a c xss none) (hs : SlR eHdr w M b d [(a', ys.length, c')]) (hM : ∀ x ∈ B, x ∈ M) (hy : OwnS e T w M' a' c' ys) (hd : ∀ x ∈ blk a', x ∉ B) (hlt : ∀ x ∈ B, x < w.heap.size) (hl : xss.length + 1 ≤ 4294967296) :
    ∃ a2 c2 w' B', (Builtin.append_ #[t, t] ty [.slice a xss.length c, .slice b 1 d].toArray).run P w = .ok (.slice a2 (xss ++ [ys]).length c2) w' ∧ Ev (blk a' ++ B) w w' ∧ Ev B w w' ∧
      (∀ x ∈ B', (x ∈ blk a' ++ B ∨ w.heap.size ≤ x) ∧ x < w'.heap.size) ∧ OwnR e T Tr w' B' a2 c2 (xss ++ [ys]) none := by
  obtain ⟨a2, c2, w', hr, he, h1, h2, ho⟩ := OwnR.append (P := P) hp ht ty h (hs.sub hM) hy hd hlt hl
  refine ⟨a2, c2, w', _, hr, he.sub (fun x hx => List.mem_append_right _ (h1 x hx)), he.sub h1, fun x hx => ?_, ho⟩
  rcases List.mem_append.1 hx with h3 | h3
  · exact ⟨(h2 x h3).1.imp (fun h => List.mem_append_right _ h) id, (h2 x h3).2⟩
  · refine ⟨.inl h3, ?_⟩
    rcases List.mem_append.1 h3 with h4 | h4
    · exact he.lt (hy.lt x h4)
    · exact he.lt (hlt x h4)
theorem OwnR.mk {P : Program} {α : Type} (e : Enc α) {t T Tr bytes : Nat} (ht : IsElem P t Tr 1 bytes (.slice none 0 0)) (w : World) (n : Int) (h0 : 0 ≤ n) (hn : n ≤ 4294967296) :
    ∃ a' c' w' B', (Instr.makeSlice t (.int .i64 n) (.int .i64 n)).run P w = .ok (.slice a' (List.replicate n.toNat ([] : List α)).length c') w' ∧ Ev [] w w' ∧
      (∀ x ∈ B', w.heap.size ≤ x ∧ x < w'.heap.size) ∧ OwnR e T Tr w' B' a' c' (List.replicate n.toNat ([] : List α)) none := by
  obtain ⟨a', c', w', h1, h2, h3, h4⟩ := OwnR.make (P := P) (T := T) e ht w n h0 hn
  exact ⟨a', c', w', _, h1, h2, h3, h4⟩
def NP (Mp : List Nat) (N : Nat) (ls : List (List Nat)) : Prop := ∀ l ∈ ls, ∀ b ∈ l, b ∈ Mp ∨ N ≤ b
theorem NP.nil (Mp : List Nat) (N : Nat) : NP Mp N [] := fun _ h => by cases h
theorem NP.cons {Mp : List Nat} {N : Nat} {l : List Nat} {ls : List (List Nat)} (h1 : ∀ b ∈ l, b ∈ Mp ∨ N ≤ b) (h2 : NP Mp N ls) : NP Mp N (l :: ls) := fun l' hl' b hb => by
  cases hl' with
  | head => exact h1 b hb
  | tail _ hl' => exact h2 l' hl' b hb
theorem NP.at {Mp : List Nat} {N : Nat} {ls : List (List Nat)} (h : NP Mp N ls) (i : Nat) {A : List Nat} (hi : ls[i]? = some A) : ∀ b ∈ A, b ∈ Mp ∨ N ≤ b := h A (List.mem_of_getElem? hi)
theorem NP.mem {Mp : List Nat} {N : Nat} {ls : List (List Nat)} (h : NP Mp N ls) : ∀ b ∈ fl ls, b ∈ Mp ∨ N ≤ b := fun b hb => by
  obtain ⟨l, hl, hbl⟩ := (mem_fl _ _).1 hb
  exact h l hl b hbl
theorem FR.mem {N : Nat} {ls : List (List Nat)} (h : FR N ls) : ∀ b ∈ fl ls, N ≤ b := fun b hb => by
  obtain ⟨l, hl, hbl⟩ := (mem_fl _ _).1 hb
  exact h l hl b hbl
theorem MS.fold {w : World} {P R : List (List Nat)} (h : MS w (P ++ R)) : MS w (P ++ [fl R]) := by
  have hp := List.pairwise_append.1 h.pd
  refine ⟨List.pairwise_append.2 ⟨hp.1, List.pairwise_singleton _ _, fun A hA B hB x hx hx2 => ?_⟩, fun l hl b hb => ?_⟩
  · simp only [List.mem_singleton] at hB
    subst hB
    obtain ⟨l, hl, hxl⟩ := (mem_fl _ _).1 hx2
    exact hp.2.2 A hA l hl x hx hxl
  · rcases List.mem_append.1 hl with h1 | h1
    · exact h.lt l (List.mem_append_left _ h1) b hb
    · simp only [List.mem_singleton] at h1
      subst h1
      obtain ⟨l', hl', hxl⟩ := (mem_fl _ _).1 hb
      exact h.lt l' (List.mem_append_right _ hl') b hxl
theorem MS.right {w : World} {P R : List (List Nat)} (h : MS w (P ++ R)) : MS w R := ⟨(List.pairwise_append.1 h.pd).2.1, fun l hl b hb => h.lt l (List.mem_append_right _ hl) b hb⟩
theorem Stp.call {w w' : World} {LS res par R : List (List Nat)} {Mo : List Nat} (he : Ev Mo w w') (hMo : ∀ b ∈ Mo, b ∈ fl LS) (hfn : FR w.heap.size res) (hnp : NP Mo w.heap.size par) (hR : ∀ x ∈ fl R, x ∈ fl LS) : Stp (fl LS) w (fl (res ++ (par ++ R))) w' :=
  ⟨he.sub hMo, fun b hb => by
    obtain ⟨l, hl, hbl⟩ := (mem_fl _ _).1 hb
    rcases List.mem_append.1 hl with h1 | h1
    · exact .inr (hfn l h1 b hbl)
    · rcases List.mem_append.1 h1 with h2 | h2
      · exact (hnp l h2 b hbl).imp (hMo b) id
      · exact .inl (hR b ((mem_fl _ _).2 ⟨l, h2, hbl⟩))⟩
theorem fl_unfold {P R : List (List Nat)} : ∀ x ∈ fl (P ++ [fl R]), x ∈ fl (P ++ R) := fun x hx => by
  obtain ⟨l, hl, hxl⟩ := (mem_fl _ _).1 hx
  rcases List.mem_append.1 hl with h | h
  · exact (mem_fl _ _).2 ⟨l, List.mem_append_left _ h, hxl⟩
  · simp only [List.mem_singleton] at h
    subst h
    obtain ⟨l', hl', hxl'⟩ := (mem_fl _ _).1 hxl
    exact (mem_fl _ _).2 ⟨l', List.mem_append_right _ hl', hxl'⟩
theorem FR.cons {N : Nat} {l : List Nat} {ls : List (List Nat)} (h1 : ∀ b ∈ l, N ≤ b) (h2 : FR N ls) : FR N (l :: ls) := h2.push h1
theorem NP.pick {Mp : List Nat} {N : Nat} {ls : List (List Nat)} (h : NP Mp N ls) (l : List (Option Nat)) (r : List (List Nat)) (hp : picks ls l = some r) : NP Mp N r := by
  intro B hB b hb
  rcases picks_mem l r hp B hB with rfl | ⟨j, _, h4⟩
  · cases hb
  · exact h B (List.mem_of_getElem? h4) b hb
theorem Stp.res {M M' M'' : List Nat} {w w' : World} (h : Stp M w M' w') (hs : ∀ x ∈ M'', x ∈ M') : Stp M w M'' w' := ⟨h.ev, fun b hb => h.new b (hs b hb)⟩
theorem MS.call {w w' : World} {P R res par : List (List Nat)} {M : List Nat} (h : MS w (P ++ R)) (he : Ev (fl P) w w') (h2 : MS w' (res ++ (par ++ [M]))) (hfn : FR w.heap.size res) (hnp : NP (fl P) w.heap.size par) : MS w' (res ++ (par ++ R)) := by
  have q := List.pairwise_append.1 h2.pd
  have q2 := List.pairwise_append.1 q.2.1
  have p := List.pairwise_append.1 h.pd
  refine ⟨List.pairwise_append.2 ⟨q.1, List.pairwise_append.2 ⟨q2.1, p.2.1, fun A hA B hB x hx hx2 => ?_⟩, fun A hA B hB x hx hx2 => ?_⟩, fun l hl b hb => ?_⟩
  · rcases hnp A hA x hx with h1 | h1
    · obtain ⟨l, hl, hxl⟩ := (mem_fl _ _).1 h1
      exact p.2.2 l hl B hB x hxl hx2
    · have := h.lt B (List.mem_append_right _ hB) x hx2
      omega
  · rcases List.mem_append.1 hB with h1 | h1
    · exact q.2.2 A hA B (List.mem_append_left _ h1) x hx hx2
    · have := hfn A hA x hx
      have := h.lt B (List.mem_append_right _ h1) x hx2
      omega
  · rcases List.mem_append.1 hl with h1 | h1
    · exact h2.lt l (List.mem_append_left _ h1) b hb
    · rcases List.mem_append.1 h1 with h3 | h3
      · exact h2.lt l (List.mem_append_right _ (List.mem_append_left _ h3)) b hb
      · exact he.lt (h.lt l (List.mem_append_right _ h3) b hb)
theorem RView.hdr {α : Type} {e : Enc α} {T Tr : TypeId} {w : World} {B : List Nat} {a : Option Addr} {c : Nat} {d : List (List α)} {g i : Nat} {ai : Option Addr} {ci : Nat} {xs : List α} (hv : RView e T w B a d g i ai ci xs) {hs : List (Option Addr × Nat × Nat)} (h1 : OwnS eHdr Tr w [] a c hs) {q : Option Addr × Nat × Nat} (hil : hs[i]? = some q) :
    q = (ai, xs.length, ci) := by
  rcases h1 with ⟨hn, _, _⟩ | ⟨g', cur, hg', hg, h9, h10, h11, h12⟩
  · rw [hv.eq] at hn; cases hn
  · have hgg : g = g' := by rw [hv.eq] at hg'; cases hg'; rfl
    subst hgg
    obtain ⟨cs, h13, h14⟩ := h12 i _ hil
    have h13' : cs = [.slice q.1 q.2.1 q.2.2] := h13
    have e1 := hv.cell.at_ 0 _ rfl
    have e2 := h14 0 (.slice q.1 q.2.1 q.2.2) (by rw [h13']; rfl)
    rw [box_cell hg] at e1
    rw [eHdr_n, Nat.mul_one] at e2
    rw [e2] at e1
    simp only [Option.some.injEq, Value.slice.injEq] at e1
    obtain ⟨e1, e2, e3⟩ := e1
    rcases q with ⟨q1, q2, q3⟩
    simp_all
theorem RView.store {P : Program} {α : Type} {e : Enc α} {te T Tr : TypeId} {w : World} {B : List Nat} {a : Option Addr} {c : Nat} {d : List (List α)} {g i : Nat} {ai : Option Addr} {ci : Nat} {xs : List α} {j : Int} {x y : α} {ad : Addr} (v : Value) (hp : e.Plain) (ht : IsCell P te)
    (h : OwnR e T Tr w B a c d none) (hv : RView e T w B a d g i ai ci xs) (hx : idx xs j = some x) (hae : ∀ k, ai = some ⟨k, 0, none⟩ → ad = ⟨k, j.toNat * e.n, none⟩)
    (h1 : v.oneCell' = true) (hn : Nat.blt 0 e.n = true) (hy : ∀ w M cs, e.R w M cs x → e.R w M (cs.set 0 v) y) :
    ∃ w', (Instr.storeAt te (.pointer (some ad)) v).run P w = .ok () w' ∧ Ev B w w' ∧ RView e T w' B a (d.set i (xs.set j.toNat y)) g i ai ci (xs.set j.toNat y) ∧ OwnR e T Tr w' B a c (d.set i (xs.set j.toNat y)) none := by
  obtain ⟨k, ha⟩ : ∃ k, ai = some ⟨k, 0, none⟩ := by
    rcases hv.row with ⟨_, _, h⟩ | ⟨k, _, h, _⟩
    · obtain ⟨h0, h2, _⟩ := idx_some hx
      rw [h] at h2
      exact absurd h2 (by simp; omega)
    · exact ⟨k, h⟩
  have hrow := hv.row
  rw [ha] at hrow
  obtain ⟨w', hr, hev, ho⟩ := own_store (P := P) (M := [k]) (y := y) 0 v ht (OwnS.plain (M' := [k]) hp hrow) (by simp) hx h1 hn hy
  rw [Nat.add_zero] at hr
  have hkB : k ∈ B := hv.sub k (by rw [ha]; simp [blk])
  obtain ⟨hs, o1, o2, o3, o4, o5⟩ := h
  have hid : i < d.length := (List.getElem?_eq_some_iff.1 hv.at_).1
  have hil : i < hs.length := by omega
  have hq := hv.hdr o1 (List.getElem?_eq_getElem hil)
  obtain ⟨q1, q2, q3⟩ := o4 i hs[i] xs (List.getElem?_eq_getElem hil) hv.at_ (by simp)
  have hka : k ∉ blk a := (q3 k (by rw [hq, ha]; simp [blk])).2
  have hout : ∀ b ∈ blk a, b ∉ [k] := fun b hb hb2 => by simp only [List.mem_singleton] at hb2; subst hb2; exact hka hb
  have hle : (xs.set j.toNat y).length = xs.length := by simp
  refine ⟨w', by rw [hae k ha]; exact hr, hev.sub (fun b hb => by simp only [List.mem_singleton] at hb; subst hb; exact hkB), ⟨hv.eq, hv.gB, by rw [ha]; exact OwnS.plain (M' := []) hp ho, ?_, hv.sub, by rw [List.getElem?_set]; simp [hid]⟩, hs, OwnS.evp plain_hdr o1 hev hout, by rw [List.length_set]; exact o2, o3, fun n q zs hq2 hz hsk => ?_, o5⟩
  · rw [hle]; exact hv.cell.evp hev (hout g (by rw [hv.eq]; simp [blk]))
  · by_cases hni : n = i
    · subst hni
      rw [List.getElem?_set] at hz
      simp [hid] at hz
      subst hz
      rw [List.getElem?_eq_getElem hil] at hq2
      cases hq2
      rw [hq]
      refine ⟨by rw [ha]; exact OwnS.plain (M' := []) hp ho, by rw [hle], fun b hb => ?_⟩
      have := q3 b (by rw [hq]; exact hb)
      exact this
    · rw [List.getElem?_set, if_neg (Ne.symm hni)] at hz
      obtain ⟨r1, r2, r3⟩ := o4 n q zs hq2 hz hsk
      refine ⟨OwnS.evp hp r1 hev (fun b hb hb2 => ?_), r2, r3⟩
      simp only [List.mem_singleton] at hb2
      subst hb2
      exact o5 n i q hs[i] hq2 (List.getElem?_eq_getElem hil) hni (by simp) (by simp) b hb (by rw [hq, ha]; simp [blk])
theorem set_int {k : IntKind} {w : World} {M : List Nat} {cs : List Value} {x y : Int} (h : (eInt k).R w M cs x) : (eInt k).R w M (cs.set 0 (.int k y)) y := by
  have h' : cs = [.int k x] := h
  subst h'; rfl
theorem set_bool {w : World} {M : List Nat} {cs : List Value} {x y : Bool} (h : eBool.R w M cs x) : eBool.R w M (cs.set 0 (.bool y)) y := by
  have h' : cs = [.bool x] := h
  subst h'; rfl
theorem run_bound {P : Program} {w : World} (k : IntKind) (i : Int) (y : Nat) (c : BoundsCode) (h0 : 0 ≤ i) (h1 : i ≤ y) : (Instr.sliceBound (.int k i) y c).run P w = .ok i.toNat w := by
  simp only [Instr.sliceBound, asIntOf, Sem.run_bind, Sem.run_pure, Result.andThen_ok, h0, h1, and_self, if_true]
def bound (o : Option Int) (d : Nat) : Int := match o with | some i => i | none => d
theorem run_bounds {P : Program} {w : World} (len cap : Nat) (lo hi mx : Option Int) (hmh : mx.isSome = true → hi.isSome = true) (h1 : 0 ≤ bound lo 0) (h2 : bound lo 0 ≤ bound hi len) (h3 : bound hi len ≤ bound mx cap) (h4 : bound mx cap ≤ cap) :
    (Instr.sliceBounds true len cap (lo.map (.int .i64 ·)) (hi.map (.int .i64 ·)) (mx.map (.int .i64 ·))).run P w = .ok ((bound lo 0).toNat, (bound hi len).toNat, (bound mx cap).toNat) w := by
  unfold Instr.sliceBounds
  cases mx with
  | none =>
    simp only [bound] at *
    cases hi with
    | none =>
      cases lo with
      | none => simp [Sem.run_bind, Sem.run_pure, bound]
      | some l => simp only [Option.map, Sem.run_bind, Sem.run_pure, Result.andThen_ok]; rw [run_bound _ _ _ _ h1 (by simpa [bound] using h2)]; simp [Sem.run_bind, Sem.run_pure, bound]
    | some hh =>
      simp only [bound] at *
      simp only [Option.map, Sem.run_bind, Sem.run_pure, Result.andThen_ok]
      rw [run_bound _ _ _ _ (by cases lo <;> simp_all <;> omega) h3]
      cases lo with
      | none => simp [Sem.run_bind, Sem.run_pure, bound]
      | some l => simp only [Result.andThen_ok, Option.map]; simp only [Sem.run_bind]; rw [run_bound _ _ _ _ h1 (show l ≤ _ by have : l ≤ hh := h2; omega)]; simp [Sem.run_bind, Sem.run_pure, bound]
  | some m =>
    cases hi with
    | none => simp at hmh
    | some hh =>
      simp only [bound] at *
      have hh0 : 0 ≤ hh := by cases lo <;> simp_all <;> omega
      simp only [Option.map, Sem.run_bind, Sem.run_pure, Result.andThen_ok]
      rw [run_bound _ _ _ _ (by omega) h4]
      simp only [Result.andThen_ok, Sem.run_bind]
      rw [run_bound _ _ _ _ hh0 (by omega)]
      cases lo with
      | none => simp [Sem.run_bind, Sem.run_pure, bound]
      | some l => simp only [Result.andThen_ok, Option.map]; simp only [Sem.run_bind]; rw [run_bound _ _ _ _ h1 (show l ≤ _ by have : l ≤ hh := h2; omega)]; simp [Sem.run_bind, Sem.run_pure, bound]
theorem reads_slice {P : Program} {Mo : List Nat} {t el n : Nat} {w : World} (ht : IsSlice P t el n) (a : Option Addr) (len c : Nat) (lo hi mx : Option Int) (hmh : mx.isSome = true → hi.isSome = true) (h1 : 0 ≤ bound lo 0) (h2 : bound lo 0 ≤ bound hi len) (h3 : bound hi len ≤ bound mx c) (h4 : bound mx c ≤ c) :
    Reads P Mo (Instr.sliceAt t (.slice a len c) (lo.map (.int .i64 ·)) (hi.map (.int .i64 ·)) (mx.map (.int .i64 ·))) w
      (.slice (if (bound mx c).toNat = (bound lo 0).toNat then a else a.map (·.add ((bound lo 0).toNat * n))) ((bound hi len).toNat - (bound lo 0).toNat) ((bound mx c).toNat - (bound lo 0).toNat)) := by
  intro w' _
  simp only [Instr.sliceAt, Instr.slice, Sem.run_bind, run_underlying ht.1, Result.andThen_ok]
  rw [run_bounds len c lo hi mx hmh h1 h2 h3 h4]
  simp only [Result.andThen_ok, ht.2 w', Sem.run_pure]
theorem SlR.cut {α : Type} {e : Enc α} {w : World} {M : List Nat} {a : Option Addr} {c : Nat} {xs : List α} (h : SlR e w M a c xs) (l hi m : Nat) (h1 : l ≤ hi) (h2 : hi ≤ xs.length) (h3 : hi ≤ m) (h4 : m ≤ c) :
    SlR e w M (if m = l then a else a.map (·.add (l * e.n))) (m - l) ((xs.drop l).take (hi - l)) := by
  have hlen : ((xs.drop l).take (hi - l)).length = hi - l := by rw [List.length_take, List.length_drop]; omega
  refine ⟨by rw [hlen]; omega, Nat.le_trans (by omega) h.cap, fun hn => ?_, fun ad ha hp => ?_⟩
  · have ha : a = none := by
      by_cases hm : m = l
      · rw [if_pos hm] at hn; exact hn
      · rw [if_neg hm] at hn; simpa using hn
    rw [h.nil ha]; simp
  · rw [hlen] at hp
    have hm : m ≠ l := by omega
    rw [if_neg hm] at ha
    cases a with
    | none => simp at ha
    | some b =>
      simp only [Option.map_some, Option.some.injEq] at ha
      obtain ⟨q1, q2, q3, q4⟩ := h.at_ b rfl (by omega)
      subst ha
      rw [addr_add q1]
      refine ⟨rfl, q2, q3, fun i x hx => ?_⟩
      have hil : i < hi - l := by
        have := (List.getElem?_eq_some_iff.1 hx).1
        rwa [hlen] at this
      rw [List.getElem?_take, if_pos hil, List.getElem?_drop] at hx
      obtain ⟨cs, q5, q6⟩ := q4 _ _ hx
      refine ⟨cs, q5, fun k v hv => ?_⟩
      have := q6 k v hv
      show w.cell? ⟨b.block, b.off + l * e.n + (i * e.n + k), none⟩ = some v
      rw [show b.off + l * e.n + (i * e.n + k) = b.off + ((l + i) * e.n + k) by rw [Nat.add_mul]; omega]
      exact this
theorem cut_len {α : Type} {xs : List α} {l hi : Int} (h0 : 0 ≤ l) (h1 : l ≤ hi) (h2 : hi ≤ xs.length) : ((xs.drop l.toNat).take (hi.toNat - l.toNat)).length = hi.toNat - l.toNat := by
  rw [List.length_take, List.length_drop]; omega
theorem OwnS.trunc {α : Type} {e : Enc α} {T : TypeId} {w : World} {M : List Nat} {a : Option Addr} {c : Nat} {xs : List α} (h : OwnS e T w M a c xs) (n : Nat) : OwnS e T w M a c (xs.take n) := by
  rcases h with ⟨ha, hc, rfl⟩ | ⟨g, cur, ha, hg, h1, h2, h3, h4⟩
  · exact .inl ⟨ha, hc, by simp⟩
  · refine .inr ⟨g, cur, ha, hg, Nat.le_trans (by rw [List.length_take]; omega) h1, h2, h3, fun i x hx => h4 i x ?_⟩
    rw [List.getElem?_take] at hx
    split at hx
    · exact hx
    · cases hx
theorem OwnS.le {α : Type} {e : Enc α} {T : TypeId} {w : World} {M : List Nat} {a : Option Addr} {c : Nat} {xs : List α} (h : OwnS e T w M a c xs) : xs.length ≤ c := by
  rcases h with ⟨_, _, rfl⟩ | ⟨g, cur, _, _, h1, _⟩
  · simp
  · exact h1
theorem own_cell {α : Type} {e : Enc α} {T : Nat} {w : World} {M : List Nat} {g c : Nat} {xs : List α} {i : Int} {x : α} (h : OwnS e T w M (some ⟨g, 0, none⟩) c xs) (hx : idx xs i = some x) :
    ∃ cs, CellsAt w [] ⟨g, i.toNat * e.n, none⟩ cs ∧ e.R w M cs x := by
  obtain ⟨h0, h1, h2⟩ := idx_some hx
  rcases h with ⟨hn, _, _⟩ | ⟨g', cur, hg', hg, h3, h4, h5, h6⟩
  · cases hn
  · cases hg'
    obtain ⟨cs, h7, h8⟩ := h6 _ _ h2
    exact ⟨cs, ⟨rfl, by simp, lt_of_heap hg, fun k v hv => by rw [box_cell hg]; exact h8 k v hv⟩, h7⟩
theorem SlR.sliced {P : Program} {Mo : List Nat} {α : Type} {e : Enc α} {t el : Nat} {w : World} {M : List Nat} {a : Option Addr} {c : Nat} {xs : List α} (ht : IsSlice P t el e.n) (h : SlR e w M a c xs) (lo hi : Option Int) (h1 : 0 ≤ bound lo 0 ∧ bound lo 0 ≤ bound hi xs.length ∧ bound hi xs.length ≤ xs.length) :
    ∃ a' c', Reads P Mo (Instr.sliceAt t (.slice a xs.length c) (lo.map (.int .i64 ·)) (hi.map (.int .i64 ·)) none) w (.slice a' ((xs.drop (bound lo 0).toNat).take ((bound hi xs.length).toNat - (bound lo 0).toNat)).length c') ∧
      SlR e w M a' c' ((xs.drop (bound lo 0).toNat).take ((bound hi xs.length).toNat - (bound lo 0).toNat)) := by
  obtain ⟨q1, q2, q3⟩ := h1
  have hle := h.le
  have b1 : (bound none c).toNat = c := by simp [bound]
  have hr := reads_slice (P := P) (Mo := Mo) (w := w) ht a xs.length c lo hi none (by simp) q1 q2 (show bound hi xs.length ≤ (c : Int) by omega) (Int.le_refl _)
  have hs := h.cut (bound lo 0).toNat (bound hi xs.length).toNat (bound none c).toNat (by omega) (by omega) (by rw [b1]; omega) (by rw [b1]; omega)
  refine ⟨_, _, ?_, hs⟩
  rw [cut_len q1 q2 q3]
  exact hr
theorem fl_tot {res par R : List (List Nat)} : ∀ x ∈ fl (res ++ (par ++ R)), x ∈ fl (res ++ (par ++ [fl R])) := fun x hx => by
  obtain ⟨l, hl, hxl⟩ := (mem_fl _ _).1 hx
  rcases List.mem_append.1 hl with h2 | h2
  · exact (mem_fl _ _).2 ⟨l, List.mem_append_left _ h2, hxl⟩
  · rcases List.mem_append.1 h2 with h3 | h3
    · exact (mem_fl _ _).2 ⟨l, List.mem_append_right _ (List.mem_append_left _ h3), hxl⟩
    · exact (mem_fl _ _).2 ⟨_, List.mem_append_right _ (List.mem_append_right _ (List.mem_singleton.2 rfl)), (mem_fl _ _).2 ⟨l, h3, hxl⟩⟩
end Go.V
