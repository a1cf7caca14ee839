
/- What the run by values gives, the model gives: memory. No condition. -/
import Derived.Test.YtlgdhajakblkaaaGreatDoorF
set_option linter.unusedVariables false
set_option linter.unusedSimpArgs false
namespace Go.E
open Go Go.V
def RM (p : Ren) : List (GV × GV) → List MapEntry → Prop
  | [], [] => True
  | (k, v) :: l, e :: es => (RV p k e.key ∧ RV p v e.val) ∧ RM p l es
  | [], _ :: _ => False
  | _ :: _, [] => False
theorem RM.mono {p q : Ren} (h : Le p q) : ∀ {l : List (GV × GV)} {es : List MapEntry}, RM p l es → RM q l es
  | [], [], _ => trivial
  | (k, v) :: l, e :: es, ⟨⟨h1, h2⟩, h3⟩ => ⟨⟨h1.mono h, h2.mono h⟩, RM.mono h h3⟩
  | [], _ :: _, h => h.elim
  | _ :: _, [], h => h.elim
def RB (p : Ren) (w : World) (r base n : Nat) : GB → Prop
  | .cells l => ∃ (cs : Array Value) (ty : TypeId) (fz : Nat × Nat), w.heap[r]? = some (.cells cs ty fz) ∧ cs.size = base + n ∧ (fz.1 = fz.2 ∨ cs.size ≤ fz.1) ∧ ∃ vs, RVs p l vs ∧ vs <+: cs.toList.drop base
  | .map es => ∃ (ents : Array MapEntry) (clock : Nat), w.heap[r]? = some (.map ents clock) ∧ RM p es ents.toList
theorem RB.mono {p q : Ren} (h : Le p q) {w w' : World} {r base n : Nat} (hw : w'.heap[r]? = w.heap[r]?) : ∀ {g : GB}, RB p w r base n g → RB q w' r base n g
  | .cells l, ⟨cs, ty, fz, h1, h2, h3, vs, h4, h5⟩ => ⟨cs, ty, fz, hw.trans h1, h2, h3, vs, h4.mono h, h5⟩
  | .map es, ⟨ents, c, h1, h2⟩ => ⟨ents, c, hw.trans h1, h2.mono h⟩
def Bk (p : Ren) (k : Nat) : Prop := (∃ b x, p b = some x ∧ x.1 = k) ∨ ∃ b y, p.ov b = some y ∧ k ∈ blk y.1
def Liv (p : Ren) (k : Nat) : Prop := k ∈ p.zM ∨ p.zw.heap.size ≤ k
def Free (p : Ren) (b : Nat) : Prop := p b = none ∧ p.ov b = none
def eZ (p : Ren) (t : Ty) : Enc t.den := ⟨(eT t).n, fun _ _ cs x => (eT t).R p.zw p.zM cs x, fun h => (eT t).len h, fun h _ => h, fun h => (eT t).one h⟩
structure RW (p : Ren) (S : St) (w : World) : Prop where
  zev : Ev p.zM p.zw w
  zl : ∀ b x, p b = some x → S.h.get b ≠ none → Liv p x.1
  mu : ∀ b o a n c, S.ow.get b = some o → o.mu = true → p.ov b = some (a, n, c) → n = o.xs.length ∧ OwnS (eZ p o.t) o.T w [] a c o.xs ∧ ∀ g ∈ blk a, Liv p g
  ro : ∀ b o a n c, S.ow.get b = some o → o.mu = false → p.ov b = some (a, n, c) → n = o.xs.length ∧ SlR (eT o.t) p.zw p.zM a c o.xs
  inj : ∀ b b' o o' y y', S.ow.get b = some o → S.ow.get b' = some o' → o.mu = true → o'.mu = true → p.ov b = some y → p.ov b' = some y' → ∀ g ∈ blk y.1, g ∈ blk y'.1 → b = b'
  sep : ∀ b o y b' x, S.ow.get b = some o → o.mu = true → p.ov b = some y → p b' = some x → S.h.get b' ≠ none → x.1 ∉ blk y.1
structure RH (p : Ren) (S : St) (w : World) : Prop where
  at_ : ∀ b r base n g, p b = some (r, base, n) → S.h.get b = some g → RB p w r base n g
  inj : ∀ b b' x x', p b = some x → p b' = some x' → S.h.get b ≠ none → S.h.get b' ≠ none → x.1 = x'.1 → b = b'
  lt : ∀ b x, p b = some x → x.1 < w.heap.size
  fr : ∀ b, S.nx ≤ b → Free p b
  ro : RW p S w
structure Ch (N : Nat → Prop) (p : Ren) (w : World) (q : Ren) (w' : World) : Prop where
  le : Le p q
  new : ∀ b, ¬ Free q b → ¬ Free p b ∨ N b
  os : w'.os = w.os
  tape : w'.tape = w.tape
  output : w'.output = w.output
  size : w.heap.size ≤ w'.heap.size
  out : ∀ k, k < w.heap.size → ¬ Bk p k → w'.heap[k]? = w.heap[k]?
  img : ∀ k, Bk q k → Bk p k ∨ w.heap.size ≤ k
theorem Ch.refl (N : Nat → Prop) (p : Ren) (w : World) : Ch N p w p w :=
  ⟨Le.refl _, fun _ h => .inl h, rfl, rfl, rfl, Nat.le_refl _, fun _ _ _ => rfl, fun _ h => .inl h⟩
theorem Ch.trans {N : Nat → Prop} {p q s : Ren} {w w' w'' : World} (h : Ch N p w q w') (k : Ch N q w' s w'') : Ch N p w s w'' where
  le := h.le.trans k.le
  new := fun b hb => (k.new b hb).elim (fun h' => h.new b h') .inr
  os := k.os.trans h.os
  tape := k.tape.trans h.tape
  output := k.output.trans h.output
  size := Nat.le_trans h.size k.size
  out := fun i hi ho => by
    rw [k.out i (Nat.lt_of_lt_of_le hi h.size) (fun hb => (h.img i hb).elim ho fun e => by omega)]
    exact h.out i hi ho
  img := fun i hi => (k.img i hi).elim (h.img i) fun e => .inr (Nat.le_trans h.size e)
theorem Ch.mono {N N' : Nat → Prop} {p q : Ren} {w w' : World} (h : Ch N p w q w') (hn : ∀ b, N b → N' b) : Ch N' p w q w' :=
  ⟨h.le, fun b hb => (h.new b hb).imp id (hn b), h.os, h.tape, h.output, h.size, h.out, h.img⟩
theorem Ch.drew (N : Nat → Prop) (p : Ren) (w : World) : Ch N p w p w.drew :=
  ⟨Le.refl _, fun _ h => .inl h, rfl, rfl, rfl, Nat.le_refl _, fun _ _ _ => rfl, fun _ h => .inl h⟩
theorem RW.next {p : Ren} {S S' : St} {w w' : World} (h : RW p S w) {m' : Nat → Option (Nat × Nat × Nat)} {Mo : List Nat} (hw : ∀ b, p.ov b ≠ none → S'.ow.get b = S.ow.get b) (he : Ev Mo w w')
    (hM : ∀ k ∈ Mo, ∃ b x, p b = some x ∧ S.h.get b ≠ none ∧ x.1 = k)
    (hz : ∀ b x, m' b = some x → S'.h.get b ≠ none → (∃ b' x', p b' = some x' ∧ S.h.get b' ≠ none ∧ x'.1 = x.1) ∨ w.heap.size ≤ x.1) : RW { p with m := m' } S' w' := by
  have hlt : ∀ b o y, S.ow.get b = some o → o.mu = true → p.ov b = some y → ∀ g ∈ blk y.1, g < w.heap.size := fun b o y h1 h2 h3 => by
    exact (h.mu b o y.1 y.2.1 y.2.2 h1 h2 h3).2.1.lt
  have hw' : ∀ {b o y}, S'.ow.get b = some o → p.ov b = some y → S.ow.get b = some o := fun {b o y} h1 h2 => by rw [← hw b (by rw [h2]; simp)]; exact h1
  refine ⟨?_, fun b x h1 h2 => ?_, fun b o a n c h1 h2 h3 => ?_, fun b o a n c h1 h2 h3 => h.ro b o a n c (hw' h1 h3) h2 h3, fun b b' o o' y y' h1 h2 h3 h4 h5 h6 => h.inj b b' o o' y y' (hw' h1 h5) (hw' h2 h6) h3 h4 h5 h6, fun b o y b' x h1 h2 h3 h4 h5 => ?_⟩
  · have : Stp p.zM p.zw (p.zM ++ Mo) w := ⟨h.zev, fun b hb => (List.mem_append.1 hb).elim .inl fun hb => by
      obtain ⟨b', x, k1, k2, rfl⟩ := hM b hb
      exact h.zl b' x k1 k2⟩
    exact (Stp.trans this (Stp.same he (fun b hb => List.mem_append_right _ hb))).ev
  · rcases hz b x h1 h2 with ⟨b', x', k1, k2, k3⟩ | e
    · have := h.zl b' x' k1 k2
      rw [k3] at this; exact this
    · exact .inr (Nat.le_trans h.zev.size e)
  · have h1 := hw' h1 h3
    obtain ⟨k1, k2, k3⟩ := h.mu b o a n c h1 h2 h3
    refine ⟨k1, k2.evp (fun _ _ _ _ _ _ h => h) he fun g hg hm => ?_, k3⟩
    obtain ⟨b', x, j1, j2, rfl⟩ := hM g hm
    exact h.sep b o _ b' x h1 h2 h3 j1 j2 hg
  · have h1 := hw' h1 h3
    rcases hz b' x h4 h5 with ⟨b2, x', k1, k2, k3⟩ | e
    · rw [← k3]; exact h.sep b o y b2 x' h1 h2 h3 k1 k2
    · intro hm
      have := hlt b o y h1 h2 h3 _ hm
      omega
theorem RH.congr {p : Ren} {S S' : St} {w : World} (h : RH p S w) (hg : ∀ b, p b ≠ none → S'.h.get b = S.h.get b) (hn : S.nx ≤ S'.nx) (hw : ∀ b, p.ov b ≠ none → S'.ow.get b = S.ow.get b) : RH p S' w :=
  ⟨fun b r base n g h1 h2 => h.at_ b r base n g h1 (by rw [← hg b (by rw [h1]; simp)]; exact h2),
    fun b b' x x' h1 h2 h3 h4 => h.inj b b' x x' h1 h2 (by rw [← hg b (by rw [h1]; simp)]; exact h3) (by rw [← hg b' (by rw [h2]; simp)]; exact h4),
    h.lt, fun b hb => h.fr b (Nat.le_trans hn hb), h.ro.next (m' := p.m) hw (Ev.refl [] _) (fun _ h => by cases h) fun b x h1 h2 => .inl ⟨b, x, h1, by rw [← hg b (by rw [h1]; simp)]; exact h2, rfl⟩⟩
theorem RH.drew {p : Ren} {S : St} {w : World} (h : RH p S w) : RH p S w.drew := ⟨h.at_, h.inj, h.lt, h.fr, h.ro.next (m' := p.m) (fun _ _ => rfl) (⟨rfl, rfl, rfl, Nat.le_refl _, fun _ _ _ => rfl⟩ : Ev [] w w.drew) (fun _ h => by cases h) fun b x h1 h2 => .inl ⟨b, x, h1, h2, rfl⟩⟩
theorem cut_spec {l m : List GV} {off n : Nat} (h : cut l off n = some m) : m = (l.drop off).take n ∧ m.length = n := by
  unfold cut at h
  simp only at h
  split at h
  · rename_i hl; cases h; exact ⟨rfl, hl⟩
  · cases h
theorem prefix_get {α : Type} {vs l : List α} (h : vs <+: l) {i : Nat} {v : α} (hv : vs[i]? = some v) : l[i]? = some v := by
  obtain ⟨t, rfl⟩ := h
  rw [List.getElem?_append_left (List.getElem?_eq_some_iff.1 hv).1]; exact hv
theorem RH.cells {p : Ren} {S : St} {w : World} (h : RH p S w) {b r base n off k : Nat} {l m : List GV} (hp : p b = some (r, base, n)) (hg : S.h.get b = some (.cells l)) (hc : cut l off k = some m) :
    ∃ vs, RVs p m vs ∧ vs.length = k ∧ CellsAt w [] ⟨r, base + off, none⟩ vs := by
  obtain ⟨cs, ty, fz, h1, h2, h3, vs, h4, h5⟩ := h.at_ b r base n _ hp hg
  obtain ⟨rfl, hl⟩ := cut_spec hc
  have h6 := (h4.drop off).take k
  refine ⟨(vs.drop off).take k, h6, by rw [h6.length, hl], rfl, by simp, h.lt _ _ hp, fun j v hv => ?_⟩
  rw [box_cell h1]
  rw [List.getElem?_take] at hv
  split at hv
  · rw [List.getElem?_drop] at hv
    have h7 := prefix_get h5 hv
    rw [List.getElem?_drop] at h7
    rw [← Array.getElem?_toList, Nat.add_assoc]; exact h7
  · cases hv
theorem RH.cell {p : Ren} {S : St} {w : World} (h : RH p S w) {b r base n off : Nat} {l : List GV} {g : GV} (hp : p b = some (r, base, n)) (hg : S.h.get b = some (.cells l)) (hc : l[off]? = some g) :
    ∃ v, RV p g v ∧ CellsAt w [] ⟨r, base + off, none⟩ [v] := by
  have hlt := (List.getElem?_eq_some_iff.1 hc).1
  have : cut l off 1 = some [g] := by
    have e : (l.drop off).take 1 = [g] := by
      rw [List.drop_eq_getElem_cons hlt]
      simp only [List.take_succ_cons, List.take_zero]
      rw [(List.getElem?_eq_some_iff.1 hc).2]
    unfold cut
    simp only [e]
    rfl
  obtain ⟨vs, h1, h2, h3⟩ := h.cells hp hg this
  match vs, h1, h2 with
  | [v], h1, _ => exact ⟨v, h1.1, h3⟩
def Ren.set (p : Ren) (b : Nat) (x : Nat × Nat × Nat) : Ren := { p with m := fun i => if i = b then some x else p i }
theorem Ren.set_same (p : Ren) (b : Nat) (x : Nat × Nat × Nat) : p.set b x b = some x := by simp [Ren.set]
theorem Ren.set_ne {p : Ren} {b i : Nat} {x : Nat × Nat × Nat} (h : i ≠ b) : p.set b x i = p i := by simp [Ren.set, h]
theorem Ren.set_le {p : Ren} {b : Nat} {x : Nat × Nat × Nat} (h : p b = none) : Le p (p.set b x) := ⟨fun i y hy => by
  by_cases e : i = b
  · subst e; rw [h] at hy; cases hy
  · rw [Ren.set_ne e]; exact hy, fun _ _ h => h, Stp.sub _ fun _ h => h⟩
theorem set_new {p : Ren} {name : Nat} {x : Nat × Nat × Nat} : ∀ b, ¬ Free (p.set name x) b → ¬ Free p b ∨ b = name := fun b h1 => by
  by_cases e : b = name
  · exact .inr e
  · left; intro h; exact h1 ⟨by rw [Ren.set_ne e]; exact h.1, h.2⟩
theorem set_img {p : Ren} {name : Nat} {x : Nat × Nat × Nat} : ∀ k, Bk (p.set name x) k → Bk p k ∨ k = x.1 := fun k hk => by
  rcases hk with ⟨b, y, h1, h2⟩ | h
  · by_cases e : b = name
    · subst e; rw [Ren.set_same] at h1; cases h1; exact .inr h2.symm
    · rw [Ren.set_ne e] at h1; exact .inl (.inl ⟨b, y, h1, h2⟩)
  · exact .inl (.inr h)
theorem set_fr {p : Ren} {S S' : St} {name : Nat} {x : Nat × Nat × Nat} (h : ∀ b, S.nx ≤ b → Free p b) (hn : S'.nx = S.nx) (hx : name < S.nx) : ∀ b, S'.nx ≤ b → Free (p.set name x) b := fun b hb => by
  have := h b (by omega)
  exact ⟨by rw [Ren.set_ne (by omega)]; exact this.1, this.2⟩
theorem RH.new {p : Ren} {S S' : St} {w : World} (h : RH p S w) {name base n : Nat} {g : GB} {o : Obj} (hp : S.put name (some g) = some S') (hn : Free p name) (hx : name < S.nx)
    (hb : ∀ q, Le p q → RB q (w.alloc o) w.heap.size base n g) :
    RH (p.set name (w.heap.size, base, n)) S' (w.alloc o) ∧ Ch (· = name) p w (p.set name (w.heap.size, base, n)) (w.alloc o) := by
  obtain ⟨s1, _, s3⟩ := put_spec hp
  have hle := Ren.set_le (x := (w.heap.size, base, n)) hn.1
  have hev : Ev [] w (w.alloc o) := ⟨rfl, rfl, rfl, by rw [heap_push_size]; omega, fun k hk _ => heap_alloc_old w o k hk⟩
  refine ⟨⟨fun b r base' n' g' h1 h2 => ?_, fun b b' x x' h1 h2 h3 h4 he => ?_, fun b x h1 => ?_, set_fr h.fr s1 hx, ?_⟩, ⟨hle, set_new, rfl, rfl, rfl, hev.size, fun k hk _ => heap_alloc_old w o k hk, fun k hk => (set_img k hk).imp id fun e => Nat.le_of_eq e.symm⟩⟩
  · rw [s3] at h2
    by_cases e : b = name
    · subst e
      rw [if_pos rfl] at h2
      cases h2
      rw [Ren.set_same] at h1
      cases h1
      exact hb _ hle
    · rw [if_neg e] at h2
      rw [Ren.set_ne e] at h1
      exact (h.at_ b r base' n' g' h1 h2).mono hle (heap_alloc_old w o _ (h.lt _ _ h1))
  · rw [s3] at h3 h4
    by_cases e : b = name
    · by_cases e' : b' = name
      · rw [e, e']
      · subst e
        rw [Ren.set_same] at h1
        rw [Ren.set_ne e'] at h2
        cases h1
        have := h.lt _ _ h2
        simp only at he
        omega
    · by_cases e' : b' = name
      · subst e'
        rw [Ren.set_same] at h2
        rw [Ren.set_ne e] at h1
        cases h2
        have := h.lt _ _ h1
        simp only at he
        omega
      · rw [if_neg e] at h3
        rw [if_neg e'] at h4
        rw [Ren.set_ne e] at h1
        rw [Ren.set_ne e'] at h2
        exact h.inj b b' x x' h1 h2 h3 h4 he
  · rw [heap_push_size]
    by_cases e : b = name
    · subst e; rw [Ren.set_same] at h1; cases h1; exact Nat.lt_succ_self _
    · rw [Ren.set_ne e] at h1; have := h.lt _ _ h1; omega
  · refine h.ro.next (fun _ _ => by rw [put_ow hp]) hev (fun _ h => by cases h) fun b x h1 h2 => ?_
    by_cases e : b = name
    · right
      rw [if_pos e] at h1
      cases h1
      exact Nat.le_refl _
    · left
      rw [if_neg e] at h1
      rw [s3, if_neg e] at h2
      exact ⟨b, x, h1, h2, rfl⟩
theorem newB_spec {S S' : St} {name : Nat} {gs : List GV} (h : newB S name gs = some S') : gs.all isCellG = true ∧ S.put name (some (.cells gs)) = some S' := by
  unfold newB at h
  split at h
  · rename_i h1; exact ⟨h1, h⟩
  · cases h
theorem RH.row {p : Ren} {S S' : St} {w : World} (h : RH p S w) {name : Nat} {gs : List GV} {vs : List Value} (rest : List Value) {ty : TypeId} {fz : Nat × Nat} (hp : newB S name gs = some S') (hn : Free p name) (hx : name < S.nx)
    (hv : RVs p gs vs) (hf : fz.1 = fz.2 ∨ (vs ++ rest).length ≤ fz.1) :
    RH (p.set name (w.heap.size, 0, (vs ++ rest).length)) S' (w.alloc (.cells (vs ++ rest).toArray ty fz)) ∧ Ch (· = name) p w (p.set name (w.heap.size, 0, (vs ++ rest).length)) (w.alloc (.cells (vs ++ rest).toArray ty fz)) :=
  h.new (newB_spec hp).2 hn hx fun q hq => ⟨(vs ++ rest).toArray, ty, fz, heap_push_new _ _, by simp, by simpa using hf, vs, hv.mono hq, by simp⟩
theorem run_storeCells_fz (P : Program) (g o : Nat) (t : TypeId) (fz : Nat × Nat) : ∀ (vs : List Value) (i : Nat) (cur : Array Value) (w : World), w.heap[g]? = some (.cells cur t fz) → (fz.1 = fz.2 ∨ cur.size ≤ fz.1) → o + i + vs.length ≤ cur.size → (∀ v ∈ vs, v.oneCell' = true) →
    (storeCells ⟨g, o, none⟩ vs i).run P w = .ok () (w.setRow g (cur.toList.take (o + i) ++ vs ++ cur.toList.drop (o + i + vs.length)).toArray)
  | [], i, cur, w, hg, _, _, _ => by
    simp only [storeCells, List.append_nil, List.length_nil, Nat.add_zero, List.take_append_drop, Array.toArray_toList]
    rw [setRow_self w g cur t fz hg]
    rfl
  | v :: rest, i, cur, w, hg, hfz, hl, h1 => by
    have hi : o + i < cur.size := by simp at hl; omega
    have hcell : w.cell? ⟨g, o + i, none⟩ = some cur[o + i] := by simp [World.cell?, hg, hi]
    have hfro : w.frozen? ⟨g, o + i, none⟩ = false := by
      obtain ⟨lo, up⟩ := fz
      simp only [World.frozen?, hg, Bool.and_eq_false_iff, decide_eq_false_iff_not]
      simp only at hfz
      omega
    have hst : (store ((⟨g, o, none⟩ : Addr).add i) v).run P w = .ok () (w.setRow g (cur.setIfInBounds (o + i) v)) := by
      rw [addr_add rfl, run_store P w _ v _ (h1 v (by simp)), hcell]
      simp [hfro, setCell_eq_setRow w g (o + i) cur t fz v hg]
    have ih := run_storeCells_fz P g o t fz rest (i + 1) (cur.setIfInBounds (o + i) v) (w.setRow g (cur.setIfInBounds (o + i) v)) (setRow_heap w g cur _ t _ hg) (by simpa using hfz) (by simp at hl ⊢; omega) (fun x hx => h1 x (by simp [hx]))
    simp only [storeCells, Sem.run_bind, hst, Result.andThen_ok, ih, setRow_setRow]
    congr 3
    have e := list_seg_step cur.toList (o + i) v rest (by simp at hl ⊢; omega)
    simpa [Array.toList_setIfInBounds, Nat.add_assoc] using e
theorem list_over {α : Type} (A us t vs : List α) (off : Nat) (h : off + vs.length ≤ us.length) :
    us.take off ++ (vs ++ us.drop (off + vs.length)) ++ t = ((A ++ (us ++ t)).take (A.length + off) ++ vs ++ (A ++ (us ++ t)).drop (A.length + off + vs.length)).drop A.length := by
  have e1 : (A ++ (us ++ t)).take (A.length + off) = A ++ us.take off := by
    rw [List.take_length_add_append, List.take_append_of_le_length (by omega)]
  have e2 : (A ++ (us ++ t)).drop (A.length + off + vs.length) = us.drop (off + vs.length) ++ t := by
    rw [Nat.add_assoc, List.drop_length_add_append, List.drop_append_of_le_length (by omega)]
  rw [e1, e2]
  simp only [List.append_assoc, List.drop_left]
theorem over_spec {l gs l' : List GV} {off : Nat} (h : over l off gs = some l') : off + gs.length ≤ l.length ∧ gs.all isCellG = true ∧ l' = l.take off ++ (gs ++ l.drop (off + gs.length)) := by
  unfold over at h
  split at h
  · rename_i h1; cases h; exact ⟨h1.1, h1.2, rfl⟩
  · cases h
theorem RH.updW {p : Ren} {S S' : St} {w w' : World} (h : RH p S w) {b r base n : Nat} {g : GB} (hp : p b = some (r, base, n)) (hs : S.h.get b ≠ none) (hS : S.put b (some g) = some S')
    (hsz : w'.heap.size = w.heap.size) (hot : ∀ k, k ≠ r → w'.heap[k]? = w.heap[k]?) (h1 : w'.os = w.os) (h2 : w'.tape = w.tape) (h3 : w'.output = w.output) (hb : RB p w' r base n g) :
    RH p S' w' ∧ Ch (fun _ => False) p w p w' := by
  obtain ⟨s1, _, s3⟩ := put_spec hS
  have key : ∀ i, S'.h.get i ≠ none → S.h.get i ≠ none := fun i hi => by
    rw [s3] at hi
    split at hi
    · rename_i e; rw [e]; exact hs
    · exact hi
  have hev : Ev [r] w w' := ⟨h1, h2, h3, Nat.le_of_eq hsz.symm, fun k _ hm => hot k (by simpa using hm)⟩
  refine ⟨⟨fun b' r' base' n' g' h1 h2 => ?_, fun b1 b2 x x' h1 h2 h3 h4 he => h.inj b1 b2 x x' h1 h2 (key _ h3) (key _ h4) he, fun b' x h1 => by rw [hsz]; exact h.lt b' x h1, fun b' hb' => h.fr b' (by omega),
      h.ro.next (m' := p.m) (fun _ _ => by rw [put_ow hS]) hev (fun k hk => ⟨b, _, hp, hs, (List.mem_singleton.1 hk).symm⟩) fun b' x k1 k2 => .inl ⟨b', x, k1, key _ k2, rfl⟩⟩,
    ⟨Le.refl _, fun _ h => .inl h, h1, h2, h3, Nat.le_of_eq hsz.symm, fun k hk ho => hot k (fun e => ho (.inl ⟨b, _, hp, e.symm⟩)), fun _ h => .inl h⟩⟩
  rw [s3] at h2
  by_cases e : b' = b
  · subst e
    rw [if_pos rfl] at h2
    cases h2
    rw [hp] at h1
    cases h1
    exact hb
  · rw [if_neg e] at h2
    have hne : r' ≠ r := fun er => e (h.inj b' b _ _ h1 hp (by rw [h2]; simp) hs er)
    exact (h.at_ b' r' base' n' g' h1 h2).mono (Le.refl _) (hot r' hne)
theorem RH.upd {p : Ren} {S S' : St} {w : World} (h : RH p S w) {b r base n : Nat} {g : GB} {cs' : Array Value} (hp : p b = some (r, base, n)) (hs : S.h.get b ≠ none) (hS : S.put b (some g) = some S')
    (hb : RB p (w.setRow r cs') r base n g) : RH p S' (w.setRow r cs') ∧ Ch (fun _ => False) p w p (w.setRow r cs') :=
  h.updW hp hs hS (by simp [World.setRow]) (fun k hk => setRow_other w r k cs' hk) rfl rfl rfl hb
theorem RH.kill {p : Ren} {S S' : St} {w : World} (h : RH p S w) {b : Nat} (hS : S.put b none = some S') : RH p S' w := by
  obtain ⟨s1, _, s3⟩ := put_spec hS
  have key : ∀ i, S'.h.get i ≠ none → S.h.get i ≠ none := fun i hi => by
    rw [s3] at hi
    split at hi
    · exact absurd rfl hi
    · exact hi
  exact ⟨fun b' r base n g h1 h2 => h.at_ b' r base n g h1 (by rw [s3] at h2; split at h2; cases h2; exact h2), fun b1 b2 x x' h1 h2 h3 h4 he => h.inj b1 b2 x x' h1 h2 (key _ h3) (key _ h4) he, h.lt, fun i hi => h.fr i (by omega),
    h.ro.next (m' := p.m) (fun _ _ => by rw [put_ow hS]) (Ev.refl [] _) (fun _ h => by cases h) fun b' x k1 k2 => .inl ⟨b', x, k1, key _ k2, rfl⟩⟩
theorem storeC_spec {S S' : St} {b off : Nat} {gs : List GV} (h : storeC S b off gs = some S') : ∃ l l', S.h.get b = some (.cells l) ∧ over l off gs = some l' ∧ S.put b (some (.cells l')) = some S' := by
  unfold storeC at h
  split at h
  · rename_i l hl
    split at h
    · rename_i l' ho; exact ⟨l, l', hl, ho, h⟩
    · cases h
  · cases h
theorem RH.store {P : Program} {p : Ren} {S S' : St} {w : World} (h : RH p S w) {b r base n off : Nat} {gs : List GV} {vs : List Value} (hp : p b = some (r, base, n)) (hS : storeC S b off gs = some S') (hv : RVs p gs vs) :
    ∃ w', (storeCells ⟨r, base + off, none⟩ vs).run P w = .ok () w' ∧ RH p S' w' ∧ Ch (fun _ => False) p w p w' := by
  obtain ⟨l, l', h1, h2, h3⟩ := storeC_spec hS
  obtain ⟨o1, o2, rfl⟩ := over_spec h2
  obtain ⟨cs, ty, fz, c1, c2, c3, us, c4, c5⟩ := h.at_ b r base n _ hp h1
  have hlen := hv.length
  have hul := c4.length
  obtain ⟨t, ht⟩ := c5
  have hsz : base + us.length + t.length = cs.size := by
    have := congrArg List.length ht
    simp only [List.length_append, List.length_drop, Array.length_toList] at this
    rcases Nat.lt_or_ge base cs.size with hb | hb
    · omega
    · omega
  have hr := run_storeCells_fz P r (base + off) ty fz vs 0 cs w c1 c3 (by omega) (hv.cell o2)
  refine ⟨_, hr, h.upd hp (by rw [h1]; simp) h3 ⟨_, ty, fz, setRow_heap w r cs _ ty fz c1, ?_, ?_, us.take off ++ (vs ++ us.drop (off + vs.length)), ?_, ?_⟩⟩
  · simp only [Nat.add_zero, List.size_toArray, List.length_append, List.length_take, List.length_drop, Array.length_toList]; omega
  · simp only [Nat.add_zero, List.size_toArray, List.length_append, List.length_take, List.length_drop, Array.length_toList]
    omega
  · rw [hlen]; exact (c4.take off).append (hv.append (c4.drop _))
  · refine ⟨t, ?_⟩
    have e : cs.toList = cs.toList.take base ++ (us ++ t) := by rw [ht, List.take_append_drop]
    have hb : (cs.toList.take base).length = base := by simp; omega
    simp only [Nat.add_zero]
    have := list_over (cs.toList.take base) us t vs off (by omega)
    rw [← e, hb] at this
    exact this
end Go.E
