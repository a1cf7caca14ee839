
/- Maps that are only read, maps of own slices, ends of own slices. Conditions: those of each theorem. -/
import Derived.Test.YtlgdhajakblkaaaGreatDoorMa
import Derived.ArgAppend
set_option linter.unusedSimpArgs false
set_option linter.unusedVariables false
namespace Go.V
open Go
def ents {K V : Type} (kv : K → Value) (e : Enc V) (w : World) (M : List Nat) : List MapEntry → List (K × V) → Prop
  | [], [] => True
  | en :: es, x :: l => en.key = kv x.1 ∧ e.R w M [en.val] x.2 ∧ ents kv e w M es l
  | _, _ => False
theorem ents.step {K V : Type} {kv : K → Value} {e : Enc V} {w w' : World} {M M' : List Nat} (hs : Stp M w M' w') : ∀ (es : List MapEntry) (l : List (K × V)), ents kv e w M es l → ents kv e w' M' es l
  | [], [], h => h
  | en :: es, x :: l, h => ⟨h.1, e.step h.2.1 hs, ents.step hs es l h.2.2⟩
  | [], _ :: _, h => h
  | _ :: _, [], h => h
theorem ents.keys {K V : Type} {kv : K → Value} {e : Enc V} {w : World} {M : List Nat} : ∀ (es : List MapEntry) (l : List (K × V)), ents kv e w M es l → es.map (·.key) = (l.map (·.1)).map kv
  | [], [], _ => rfl
  | en :: es, x :: l, h => by simp only [List.map_cons, h.1, ents.keys es l h.2.2]
  | [], _ :: _, h => h.elim
  | _ :: _, [], h => h.elim
theorem ents.find {K V : Type} [BEq K] {kv : K → Value} {e : Enc V} {w : World} {M : List Nat} (k : K) : ∀ (l : List (K × V)) (es : List MapEntry) (i : Nat), ents kv e w M es l →
    (match findE k (l.map (·.1)) es i with | some (_, v) => ∃ x, mget l k = some x ∧ e.R w M [v] x | none => mget l k = none)
  | [], [], i, _ => rfl
  | (a, u) :: l, en :: es, i, h => by
    simp only [List.map_cons, findE, mget]
    by_cases hq : (k == a) = true
    · simp only [hq, if_true]; exact ⟨u, rfl, h.2.1⟩
    · simp only [if_neg hq]; exact ents.find k l es (i + 1) h.2.2
  | [], _ :: _, _, h => h.elim
  | _ :: _, [], _, h => h.elim
def MapR {K V : Type} (kv : K → Value) (e : Enc V) (w : World) (M : List Nat) (b : Nat) (l : List (K × V)) : Prop :=
  b ∉ M ∧ ∃ (es : Array MapEntry) (clock : Nat), w.heap[b]? = some (.map es clock) ∧ ents kv e w M es.toList l
theorem MapR.step {K V : Type} {kv : K → Value} {e : Enc V} {w w' : World} {M M' : List Nat} {b : Nat} {l : List (K × V)} (h : MapR kv e w M b l) (hs : Stp M w M' w') : MapR kv e w' M' b l := by
  obtain ⟨hb, es, c, h1, h2⟩ := h
  refine ⟨fun hm => ?_, es, c, hs.ev.box h1 hb, ents.step hs _ _ h2⟩
  rcases hs.new _ hm with h | h
  · exact hb h
  · exact absurd (lt_of_heap h1) (by omega)
theorem MapR.sub {K V : Type} {kv : K → Value} {e : Enc V} {w : World} {M M' : List Nat} {b : Nat} {l : List (K × V)} (h : MapR kv e w M b l) (hs : ∀ b ∈ M', b ∈ M) : MapR kv e w M' b l := h.step (Stp.sub w hs)
theorem MapR.look {P : Program} {t kt et : Nat} {K V : Type} [BEq K] {kv : K → Value} {e : Enc V} {w : World} {M Mo : List Nat} {b : Nat} {l : List (K × V)} (ht : P.underlying t = some (.map kt et)) (hk : KeyOK P kt kv) (k : K) (z : V) (vz : Value)
    (hz : ∀ w, (zeroValue et).run P w = .ok vz w) (hzR : e.R w M [vz] z) (h : MapR kv e w M b l) (hm : ∀ x ∈ Mo, x ∈ M) (ok : Bool) :
    ∃ cs, e.R w M cs ((mget l k).getD z) ∧ Reads P Mo (Instr.lookup t (.map (some b)) (kv k) ok) w (if ok then .tuple #[cs.headD undef, .bool (mget l k).isSome] else cs.headD undef) := by
  obtain ⟨hb, es, c, h1, h2⟩ := h
  have hf := ents.find k l es.toList 0 h2
  have key : ∀ (v : Value) (o : Bool), (match findE k (l.map (·.1)) es.toList 0 with | some (_, u) => v = u ∧ o = true | none => v = vz ∧ o = false) → Reads P Mo (Instr.lookup t (.map (some b)) (kv k) ok) w (if ok then .tuple #[v, .bool o] else v) := by
    intro v o hv w' he
    have hbm : b ∉ Mo := fun hx => hb (hm b hx)
    have hget : (getObj b).run P w' = .ok (.map es c) w' := by simp only [getObj, Sem.run, he.box h1 hbm]
    unfold Instr.lookup
    rw [run_bind, run_underlying ht]
    simp only
    rw [run_bind, hget]
    simp only [pure_bind]
    rw [run_bind, hk.chk]
    simp only
    rw [run_bind, hk.find k _ _ w' (ents.keys _ _ h2)]
    simp only
    split at hv
    · rename_i i u hu
      rw [hu]
      obtain ⟨rfl, rfl⟩ := hv
      simp only [pure_bind]
      cases ok <;> rfl
    · rename_i hu
      rw [hu]
      obtain ⟨rfl, rfl⟩ := hv
      cases ok <;> simp only [Sem.run_bind, hz, Result.andThen_ok, Sem.run_pure] <;> rfl
  split at hf
  · rename_i i v hv
    obtain ⟨x, hx, hR⟩ := hf
    refine ⟨[v], by rw [hx]; exact hR, ?_⟩
    have := key v true (by rw [hv]; exact ⟨rfl, rfl⟩)
    rw [hx]
    exact this
  · rename_i hv
    refine ⟨[vz], by rw [hf]; exact hzR, ?_⟩
    have := key vz false (by rw [hv]; exact ⟨rfl, rfl⟩)
    rw [hf]
    exact this
theorem MapR.get {P : Program} {t kt et : Nat} {K V : Type} [BEq K] {kv : K → Value} {e : Enc V} {w : World} {M Mo : List Nat} {b : Nat} {l : List (K × V)} (ht : P.underlying t = some (.map kt et)) (hk : KeyOK P kt kv) (k : K) (z : V) (vz : Value)
    (hz : ∀ w, (zeroValue et).run P w = .ok vz w) (hzR : e.R w M [vz] z) (h : MapR kv e w M b l) (hm : ∀ x ∈ Mo, x ∈ M) :
    ∃ cs, e.R w M cs ((mget l k).getD z) ∧ Reads P Mo (Instr.lookup t (.map (some b)) (kv k) false) w (cs.headD undef) := MapR.look ht hk k z vz hz hzR h hm false
theorem MapR.getok {P : Program} {t kt et : Nat} {K V : Type} [BEq K] {kv : K → Value} {e : Enc V} {w : World} {M Mo : List Nat} {b : Nat} {l : List (K × V)} (ht : P.underlying t = some (.map kt et)) (hk : KeyOK P kt kv) (k : K) (z : V) (vz : Value)
    (hz : ∀ w, (zeroValue et).run P w = .ok vz w) (hzR : e.R w M [vz] z) (h : MapR kv e w M b l) (hm : ∀ x ∈ Mo, x ∈ M) :
    ∃ cs, e.R w M cs ((mget l k).getD z) ∧ Reads P Mo (Instr.lookup t (.map (some b)) (kv k) true) w (.tuple #[cs.headD undef, .bool (mget l k).isSome]) := MapR.look ht hk k z vz hz hzR h hm true
theorem ents_of {K V : Type} {kv : K → Value} {vv : V → Value} {e : Enc V} (he : ∀ w M x, e.R w M [vv x] x) {w : World} {M : List Nat} : ∀ (es : List MapEntry) (l : List (K × V)), es.map (fun e => (e.key, e.val)) = l.map (fun x => (kv x.1, vv x.2)) → ents kv e w M es l
  | [], [], _ => trivial
  | en :: es, x :: l, h => by
    simp only [List.map_cons, List.cons.injEq, Prod.mk.injEq] at h
    exact ⟨h.1.1, by rw [h.1.2]; exact he _ _ _, ents_of he es l h.2⟩
  | [], _ :: _, h => by simp at h
  | _ :: _, [], h => by simp at h
theorem MapH.ro {K V : Type} {kv : K → Value} {vv : V → Value} {e : Enc V} (he : ∀ w M x, e.R w M [vv x] x) {w : World} {M : List Nat} {b : Nat} {l : List (K × V)} (h : MapH kv vv w b l) (hm : b ∉ M) : MapR kv e w M b l := by
  obtain ⟨es, c, h1, h2⟩ := h
  exact ⟨hm, es, c, h1, ents_of he _ _ h2⟩
structure MapO {K α : Type} (kv : K → Value) (e : Enc α) (T : TypeId) (w : World) (B : List Nat) (b : Nat) (l : List (K × List α)) (skip : Option K) : Prop where
  mem : b ∈ B
  lt : b < w.heap.size
  nd : (l.map (·.1)).Nodup
  ex : ∃ (es : Array MapEntry) (clock : Nat) (hs : List (Option Addr × Nat)), w.heap[b]? = some (.map es clock) ∧ es.toList.map (·.key) = (l.map (·.1)).map kv ∧ hs.length = l.length ∧
    (∀ (i : Nat) (en : MapEntry) (x : K × List α) (h : Option Addr × Nat), es.toList[i]? = some en → l[i]? = some x → hs[i]? = some h → some x.1 ≠ skip → en.val = .slice h.1 x.2.length h.2 ∧ OwnS e T w [] h.1 h.2 x.2 ∧ ∀ y ∈ blk h.1, y ∈ B ∧ y ≠ b) ∧
    (∀ (i j : Nat) (x y : K × List α) (h g : Option Addr × Nat), i ≠ j → l[i]? = some x → l[j]? = some y → hs[i]? = some h → hs[j]? = some g → some x.1 ≠ skip → some y.1 ≠ skip → ∀ z ∈ blk h.1, z ∉ blk g.1)
theorem MapO.step {K α : Type} {kv : K → Value} {e : Enc α} (hp : e.Plain) {T : TypeId} {w w' : World} {B Mo : List Nat} {b : Nat} {l : List (K × List α)} {skip : Option K} (h : MapO kv e T w B b l skip) (he : Ev Mo w w') (hm : ∀ x ∈ B, x ∉ Mo) : MapO kv e T w' B b l skip := by
  obtain ⟨h1, h2, h3, es, c, hs, h4, h5, h6, h7, h8⟩ := h
  refine ⟨h1, he.lt h2, h3, es, c, hs, he.box h4 (hm b h1), h5, h6, fun i en x h e1 e2 e3 e4 => ?_, h8⟩
  obtain ⟨q1, q2, q3⟩ := h7 i en x h e1 e2 e3 e4
  exact ⟨q1, q2.evp hp he (fun y hy => hm y (q3 y hy).1), q3⟩
theorem MapO.ro {K α : Type} {kv : K → Value} {e : Enc α} (hp : e.Plain) {T : TypeId} {w : World} {B M : List Nat} {b : Nat} {l : List (K × List α)} (h : MapO kv e T w B b l none) (hm : ∀ x ∈ B, x ∉ M) : MapR kv (eSl e) w M b l := by
  obtain ⟨h1, h2, h3, es, c, hs, h4, h5, h6, h7, h8⟩ := h
  refine ⟨hm b h1, es, c, h4, ?_⟩
  have key : ∀ (es : List MapEntry) (l : List (K × List α)) (hs : List (Option Addr × Nat)), es.map (·.key) = (l.map (·.1)).map kv → hs.length = l.length →
      (∀ (i : Nat) (en : MapEntry) (x : K × List α) (h : Option Addr × Nat), es[i]? = some en → l[i]? = some x → hs[i]? = some h → en.val = .slice h.1 x.2.length h.2 ∧ OwnS e T w [] h.1 h.2 x.2 ∧ ∀ y ∈ blk h.1, y ∈ B ∧ y ≠ b) → ents kv (eSl e) w M es l := by
    intro es
    induction es with
    | nil => intro l hs q1 q2 q3; cases l with | nil => trivial | cons => simp at q1
    | cons en es ih =>
      intro l hs q1 q2 q3
      cases l with
      | nil => simp at q1
      | cons x l =>
        cases hs with
        | nil => simp at q2
        | cons h hs =>
          simp only [List.map_cons, List.cons.injEq] at q1
          obtain ⟨r1, r2, r3⟩ := q3 0 en x h rfl rfl rfl
          refine ⟨q1.1, ⟨h.1, h.2, by rw [r1], OwnS.ro (OwnS.plain (M' := M) hp r2) (fun _ h => h) (fun y hy => hm y (r3 y hy).1)⟩, ih l hs q1.2 (by simpa using q2) fun i en x h e1 e2 e3 => ?_⟩
          exact q3 (i + 1) en x h (by simpa using e1) (by simpa using e2) (by simpa using e3)
  exact key es.toList l hs h5 h6 fun i en x h e1 e2 e3 => h7 i en x h e1 e2 e3 (by simp)
def MapK {K : Type} [BEq K] (kv : K → Value) (w : World) (b : Nat) (k : K) (v : Value) : Prop :=
  ∃ (es : Array MapEntry) (clock : Nat) (ks : List K), w.heap[b]? = some (.map es clock) ∧ es.toList.map (·.key) = ks.map kv ∧ (match findE k ks es.toList 0 with | some (_, u) => v = u | none => v = .slice none 0 0)
theorem MapK.step {K : Type} [BEq K] {kv : K → Value} {w w' : World} {b : Nat} {k : K} {v : Value} {Mo : List Nat} (h : MapK kv w b k v) (he : Ev Mo w w') (hm : b ∉ Mo) : MapK kv w' b k v := by
  obtain ⟨es, c, ks, h1, h2, h3⟩ := h
  exact ⟨es, c, ks, he.box h1 hm, h2, h3⟩
theorem MapK.look {P : Program} {t kt et : Nat} {K : Type} [BEq K] {kv : K → Value} {w : World} {b : Nat} {k : K} {v : Value} {Mo : List Nat} (ht : P.underlying t = some (.map kt et)) (hk : KeyOK P kt kv)
    (hz : ∀ w, (zeroValue et).run P w = .ok (.slice none 0 0) w) (h : MapK kv w b k v) (hm : b ∉ Mo) : Reads P Mo (Instr.lookup t (.map (some b)) (kv k) false) w v := by
  obtain ⟨es, c, ks, h4, h5, hv⟩ := h
  intro w' he
  have hget : (getObj b).run P w' = .ok (.map es c) w' := by simp only [getObj, Sem.run, he.box h4 hm]
  unfold Instr.lookup
  rw [run_bind, run_underlying ht]
  simp only
  rw [run_bind, hget]
  simp only [pure_bind]
  rw [run_bind, hk.chk]
  simp only
  rw [run_bind, hk.find k _ _ w' h5]
  simp only
  split at hv
  · rename_i i u hu
    rw [hu]
    subst hv
    simp only [pure_bind]
    rfl
  · rename_i hu
    rw [hu]
    subst hv
    simp only [Sem.run_bind, hz, Result.andThen_ok, Sem.run_pure]
    rfl
def OwnT {α : Type} (e : Enc α) (T : TypeId) (w : World) (M : List Nat) (a : Option Addr) (c : Nat) (xs : List α) : Prop :=
  (a = none ∧ c = 0 ∧ xs = []) ∨
  ∃ g o C zs, a = some ⟨g, o * e.n, none⟩ ∧ c + o ≤ C ∧ zs.length ≤ c + o ∧ o ≤ zs.length ∧ xs = zs.drop o ∧ OwnS e T w M (some ⟨g, 0, none⟩) C zs
theorem OwnS.tail {α : Type} {e : Enc α} {T : TypeId} {w : World} {M : List Nat} {a : Option Addr} {c : Nat} {xs : List α} (h : OwnS e T w M a c xs) : OwnT e T w M a c xs := by
  rcases h with h | ⟨g, cur, rfl, hg, h1, h2, h3, h4⟩
  · exact .inl h
  · exact .inr ⟨g, 0, c, xs, by simp, by simp, by simpa using h1, Nat.zero_le _, rfl, .inr ⟨g, cur, rfl, hg, h1, h2, h3, h4⟩⟩
theorem OwnT.nil {α : Type} (e : Enc α) (T : TypeId) (w : World) (M : List Nat) : OwnT e T w M none 0 [] := .inl ⟨rfl, rfl, rfl⟩
theorem OwnT.step {α : Type} {e : Enc α} {T : TypeId} {w w' : World} {M M' Mo : List Nat} {a : Option Addr} {c : Nat} {xs : List α} (h : OwnT e T w M a c xs) (hs : Stp M w M' w') (he : Ev Mo w w') (hm : ∀ b ∈ blk a, b ∉ Mo) : OwnT e T w' M' a c xs := by
  rcases h with h | ⟨g, o, C, zs, rfl, h1, h2, h3, h4, h5⟩
  · exact .inl h
  · exact .inr ⟨g, o, C, zs, rfl, h1, h2, h3, h4, h5.step hs he hm⟩
theorem OwnT.sub {α : Type} {e : Enc α} {T : TypeId} {w : World} {M M' : List Nat} {a : Option Addr} {c : Nat} {xs : List α} (h : OwnT e T w M a c xs) (hs : ∀ b ∈ M', b ∈ M) : OwnT e T w M' a c xs :=
  h.step (Stp.sub w hs) (Ev.refl [] w) (fun _ _ h => by cases h)
theorem ownT_index {P : Program} {Mo M : List Nat} {α : Type} {e : Enc α} {t T : Nat} {w : World} {a : Option Addr} {c : Nat} {xs : List α} {i : Int} {x : α} (ht : IsSlice P t T e.n) (h : OwnT e T w M a c xs) (hx : idx xs i = some x) :
    ∃ ad cs, Reads P Mo (Instr.indexAt t (.slice a xs.length c) (.int .i64 i)) w (.pointer (some ad)) ∧ blk a = [ad.block] ∧ CellsAt w [] ad cs ∧ e.R w M cs x := by
  obtain ⟨h0, h1, h2⟩ := idx_some hx
  rcases h with ⟨_, _, rfl⟩ | ⟨g, o, C, zs, rfl, q1, q2, q3, rfl, hown⟩
  · simp at h2
  · rw [List.getElem?_drop] at h2
    have hx' : idx zs ((o : Int) + i) = some x := by
      unfold idx
      rw [if_pos (by omega), show ((o : Int) + i).toNat = o + i.toNat by omega]
      exact h2
    obtain ⟨cs, c1, c2⟩ := own_cell hown hx'
    refine ⟨⟨g, ((o : Int) + i).toNat * e.n, none⟩, cs, fun w' _ => ?_, rfl, c1, c2⟩
    have hz := ht.2 w'
    simp only [Instr.indexAt, asIntOf, Sem.run_bind, Sem.run_pure, Result.andThen_ok, run_underlying ht.1, h0, h1, and_self, if_true, hz]
    rw [addr_add rfl]
    simp only
    rw [show ((o : Int) + i).toNat = o + i.toNat by omega, Nat.add_mul]
theorem ownT_cut {P : Program} {Mo M : List Nat} {α : Type} {e : Enc α} {t el T : Nat} {w : World} {a : Option Addr} {c : Nat} {xs : List α} (ht : IsSlice P t el e.n) (h : OwnT e T w M a c xs) (lo : Int) (h0 : 0 ≤ lo ∧ lo ≤ xs.length) :
    ∃ a' c', Reads P Mo (Instr.sliceAt t (.slice a xs.length c) (some (.int .i64 lo)) none none) w (.slice a' (xs.drop lo.toNat).length c') ∧ blk a' = blk a ∧ OwnT e T w M a' c' (xs.drop lo.toNat) := by
  obtain ⟨q1, q2⟩ := h0
  have hle : xs.length ≤ c := by
    rcases h with ⟨_, _, rfl⟩ | ⟨g, o, C, zs, rfl, r1, r2, r3, rfl, hown⟩
    · simp
    · rw [List.length_drop]; omega
  have hr := reads_slice (P := P) (Mo := Mo) (w := w) ht a xs.length c (some lo) none none (by simp) (by simpa [bound] using q1) (by simpa [bound] using q2) (by simp [bound]; omega) (by simp [bound])
  have b0 : (bound (some lo) 0).toNat = lo.toNat := rfl
  have b1 : (bound none xs.length).toNat = xs.length := by simp [bound]
  have b2 : (bound none c).toNat = c := by simp [bound]
  rw [b0, b1, b2] at hr
  refine ⟨_, _, by rw [List.length_drop]; exact hr, ?_, ?_⟩
  · split
    · rfl
    · rcases h with ⟨rfl, rfl, rfl⟩ | ⟨g, o, C, zs, rfl, r1, r2, r3, rfl, hown⟩
      · rfl
      · simp only [Option.map_some]
        rw [addr_add rfl]
        rfl
  · rcases h with ⟨rfl, rfl, rfl⟩ | ⟨g, o, C, zs, rfl, r1, r2, r3, rfl, hown⟩
    · refine .inl ⟨by simp, by simp, by simp⟩
    · rw [List.length_drop] at hle q2
      right
      split
      · rename_i hcl
        refine ⟨g, o, C, zs.take o, rfl, by omega, by rw [List.length_take]; omega, by rw [List.length_take]; omega, ?_, hown.trunc o⟩
        rw [List.drop_take, Nat.sub_self, List.take_zero, List.drop_drop]
        exact List.drop_eq_nil_of_le (by omega)
      · refine ⟨g, o + lo.toNat, C, zs, ?_, by omega, by omega, by omega, by rw [List.drop_drop], hown⟩
        simp only [Option.map_some]
        rw [addr_add rfl, Nat.add_mul]
theorem ownT_append {P : Program} {α : Type} {e : Enc α} {t T bytes : Nat} {z : Value} (ht : IsElem P t T e.n bytes z) (ty : TypeId) {w : World} {M : List Nat} {a b : Option Addr} {c d : Nat} {xs ys : List α}
    (h : OwnT e T w M a c xs) (hsub : ∀ x ∈ blk a, x ∈ M) (hy : SlR e w M b d ys) (hl : xs.length + ys.length ≤ 4294967296) :
    ∃ a' c' w', (Builtin.append_ #[t, t] ty [.slice a xs.length c, .slice b ys.length d].toArray).run P w = .ok (.slice a' (xs ++ ys).length c') w' ∧ Ev (blk a) w w' ∧
      (∀ x ∈ blk a', (x ∈ blk a ∨ w.heap.size ≤ x) ∧ x < w'.heap.size) ∧ (∀ M', (∀ x ∈ M', x ∈ M ∨ w.heap.size ≤ x) → OwnT e T w' M' a' c' (xs ++ ys)) := by
  rcases h with ⟨rfl, rfl, rfl⟩ | ⟨g, o, C, zs, rfl, r1, r2, r3, rfl, hown⟩
  · obtain ⟨a', c', w', h1, h2, h3, h4, h5⟩ := own_appendN (P := P) ht ty (OwnS.nil e T w M) hsub hy hl
    exact ⟨a', c', w', h1, h2, h3, fun M' hM' => (h5 M' hM').tail⟩
  · obtain ⟨i, hi, hz, hn, hby⟩ := ht.info
    have hpos : 0 < e.n := Nat.le_of_ble_eq_true ht.pos
    have hsm : bytes ≤ 4096 := Nat.le_of_ble_eq_true ht.small
    have hlt := hown.lt g (by simp [blk])
    by_cases hm : ys = []
    · subst hm
      refine ⟨some ⟨g, o * e.n, none⟩, c, w, ?_, Ev.refl _ _, fun x hx => ⟨.inl hx, by simp only [blk, List.mem_singleton] at hx; subst hx; exact hlt⟩, fun M' hM' => ?_⟩
      · have hle : (zs.drop o).length ≤ c := by rw [List.length_drop]; omega
        have hle2 : zs.length - o ≤ c := by omega
        cases b <;> simp [Builtin.append_, run_underlying ht.und, sizeOf, typeInfo, hi, Builtin.lenOf, Builtin.firstCells, hle2, storeCells, loadCells, loadCellsFrom]
      · rw [List.append_nil]
        exact .inr ⟨g, o, C, zs, rfl, r1, r2, r3, rfl, hown.step ⟨Ev.refl _ _, hM'⟩ (Ev.refl [] _) (fun _ _ h => by cases h)⟩
    · have hyl : 0 < ys.length := List.length_pos_iff.2 hm
      cases b with
      | none => exact absurd (hy.nil rfl) hm
      | some ad =>
        obtain ⟨news, hnl, hnc, hn1, hnr⟩ := hy.cells hpos hyl
        rcases hown with ⟨hh, _, _⟩ | ⟨g', cur, hg', hg, s1, s2, s3, s4⟩
        · cases hh
        cases hg'
        have hxl : (zs.drop o).length = zs.length - o := List.length_drop
        have elem : ∀ (j : Nat) (x : α), zs[j]? = some x → ∃ cs, e.R w M cs x ∧ ∀ (k : Nat) (v : Value), cs[k]? = some v → j * e.n + k < zs.length * e.n ∧ cur[j * e.n + k]? = some v := fun j x hx => by
          obtain ⟨cs, t1, t2⟩ := s4 j x hx
          refine ⟨cs, t1, fun k v hv => ⟨?_, t2 k v hv⟩⟩
          have hk : k < e.n := by rw [← e.len t1]; exact (List.getElem?_eq_some_iff.1 hv).1
          have hj := (List.getElem?_eq_some_iff.1 hx).1
          have : (j + 1) * e.n ≤ zs.length * e.n := Nat.mul_le_mul_right _ hj
          rw [Nat.add_mul] at this; omega
        by_cases hroom : (zs.drop o).length + ys.length ≤ c
        · -- in place
          have hfit : zs.length * e.n + news.length ≤ cur.size := by
            rw [hnl, s3, ← Nat.add_mul]; exact Nat.mul_le_mul_right _ (by omega)
          have htk : (cur.toList.take (zs.length * e.n)).length = zs.length * e.n := by
            rw [List.length_take, (Array.length_toList (xs := cur))]
            exact Nat.min_eq_left (Nat.le_trans (Nat.le_add_right _ _) hfit)
          have hk0 : o * e.n + (zs.length - o) * e.n = zs.length * e.n := by rw [← Nat.add_mul]; congr 1; omega
          have hst := run_storeCells_at P g (zs.length * e.n) T news 0 cur w hg (by simpa using hfit) (by simpa using fun v hv => hn1 v hv)
          simp only [Nat.add_zero] at hst
          have hfc := run_firstCells_some (P := P) w e.n ys.length ad ys.length d news hnl hnc
          have hev : Ev [g] w (w.setRow g (cur.toList.take (zs.length * e.n) ++ news ++ cur.toList.drop (zs.length * e.n + news.length)).toArray) := Ev.setRow g _
          refine ⟨some ⟨g, o * e.n, none⟩, c, w.setRow g (cur.toList.take (zs.length * e.n) ++ news ++ cur.toList.drop (zs.length * e.n + news.length)).toArray, ?_, hev, fun x hx => ⟨.inl hx, ?_⟩, fun M' hM' => ?_⟩
          · have hr2 : zs.length - o + ys.length ≤ c := by omega
            have hfc' : (Builtin.firstCells e.n ys.length (.slice (some ad) ys.length d)).run P w = .ok news.toArray w := hfc
            simp [Builtin.append_, run_underlying ht.und, sizeOf, typeInfo, hi, hn, Builtin.lenOf, hr2, hfc', Addr.add_lit, hk0, hst]
          · simp only [blk, List.mem_singleton] at hx
            subst hx
            exact Nat.lt_of_lt_of_le hlt hev.size
          · have hst' : Stp M w M' (w.setRow g (cur.toList.take (zs.length * e.n) ++ news ++ cur.toList.drop (zs.length * e.n + news.length)).toArray) := ⟨hev.sub hsub, hM'⟩
            refine .inr ⟨g, o, C, zs ++ ys, rfl, r1, by rw [List.length_append]; omega, by rw [List.length_append]; omega, by rw [List.drop_append_of_le_length r3], .inr ⟨g, _, rfl, setRow_heap w g cur _ T (0, 0) hg, by rw [List.length_append]; omega, s2, ?_, fun j x hx => ?_⟩⟩
            · rw [List.size_toArray, List.length_append, List.length_append, htk, List.length_drop, (Array.length_toList (xs := cur)), ← s3]
              generalize zs.length * e.n = Z at *
              generalize news.length = Y at *
              generalize cur.size = X at *
              clear hk0 hst hfc hev
              omega
            · by_cases hj : j < zs.length
              · rw [List.getElem?_append_left hj] at hx
                obtain ⟨cs, t1, t2⟩ := elem j x hx
                refine ⟨cs, e.step t1 hst', fun k v hv => ?_⟩
                obtain ⟨t3, t4⟩ := t2 k v hv
                rw [List.getElem?_toArray, List.append_assoc, List.getElem?_append_left (by rw [htk]; exact t3), List.getElem?_take, if_pos t3]
                simpa using t4
              · rw [List.getElem?_append_right (by omega)] at hx
                obtain ⟨cs, t1, t2⟩ := hnr _ x hx
                refine ⟨cs, e.step t1 hst', fun k v hv => ?_⟩
                have t3 := t2 k v hv
                have hle2 : zs.length * e.n ≤ j * e.n := Nat.mul_le_mul_right _ (by omega)
                have hlt3 := (List.getElem?_eq_some_iff.1 t3).1
                have hsub3 : j * e.n + k - zs.length * e.n = (j - zs.length) * e.n + k := by rw [Nat.sub_mul]; omega
                rw [List.getElem?_toArray, List.append_assoc, List.getElem?_append_right (by rw [htk]; exact Nat.le_trans hle2 (Nat.le_add_right _ _)), htk, hsub3, List.getElem?_append_left hlt3]
                exact t3
        · -- a new block
          have hbytes : ((zs.drop o).length + ys.length) * bytes ≤ 140737488355328 := by
            have := Nat.mul_le_mul hl hsm
            omega
          have hfit : zs.length * e.n ≤ cur.size := by rw [s3]; exact Nat.mul_le_mul_right _ s1
          have hol : ((cur.toList.drop (o * e.n)).take ((zs.drop o).length * e.n)).length = (zs.drop o).length * e.n := by
            rw [List.length_take, hxl, List.length_drop, (Array.length_toList (xs := cur)), Nat.sub_mul]; exact Nat.min_eq_left (Nat.sub_le_sub_right hfit _)
          have hoc : ∀ (j : Nat) (u : Value), ((cur.toList.drop (o * e.n)).take ((zs.drop o).length * e.n))[j]? = some u → cur[o * e.n + j]? = some u := fun j u hu => by
            rw [List.getElem?_take] at hu
            split at hu
            · rw [List.getElem?_drop] at hu; simpa using hu
            · cases hu
          obtain ⟨v', w', hr, hr2, hr3⟩ := run_append_arg_grows (P := P) w t ty T i z e.n bytes ht.und hi hz hn hby ht.zs hpos ⟨g, o * e.n, none⟩ (zs.drop o).length c _ hol (fun j u hu => by
            rw [addr_add rfl, box_cell hg]; exact hoc j u hu) ad ys.length d news hnl hnc (by omega) (by unfold maxLen; omega) hbytes
          have hev : Ev [] w w' := ⟨hr3.os, hr3.tape, hr3.output, hr3.size, fun k hk _ => hr3.block k hk (by simp)⟩
          rcases hr2.2 with ⟨_, h0⟩ | ⟨g2, cap, cur2, rfl, hb2, hg2, u1, u2, u3, u4⟩
          · omega
          refine ⟨some ⟨g2, 0, none⟩, cap, w', by rw [List.length_append]; exact hr, (hev.nil), fun x hx => ?_, fun M' hM' => ?_⟩
          · simp only [blk, List.mem_singleton] at hx
            subst hx
            exact ⟨.inr hb2, lt_of_heap hg2⟩
          · have hst : Stp M w M' w' := ⟨hev.nil, hM'⟩
            have fin : ∀ (j : Nat) (v : Value), ((cur.toList.drop (o * e.n)).take ((zs.drop o).length * e.n) ++ news)[j]? = some v → cur2[j]? = some v := by
              intro j v hv
              rw [← u4, List.getElem?_take] at hv
              split at hv
              · simpa using hv
              · cases hv
            refine OwnS.tail (.inr ⟨g2, cur2, rfl, hg2, by rw [List.length_append]; exact u1, u2, u3, fun j x hx => ?_⟩)
            by_cases hj : j < (zs.drop o).length
            · rw [List.getElem?_append_left hj, List.getElem?_drop] at hx
              obtain ⟨cs, t1, t2⟩ := elem _ x hx
              refine ⟨cs, e.step t1 hst, fun k v hv => fin _ _ ?_⟩
              obtain ⟨t3, t4⟩ := t2 k v hv
              have hk : k < e.n := by rw [← e.len t1]; exact (List.getElem?_eq_some_iff.1 hv).1
              have hjk : j * e.n + k < (zs.drop o).length * e.n := by
                have : (j + 1) * e.n ≤ (zs.drop o).length * e.n := Nat.mul_le_mul_right _ hj
                rw [Nat.add_mul] at this; omega
              rw [List.getElem?_append_left (by rw [hol]; exact hjk), List.getElem?_take, if_pos hjk, List.getElem?_drop]
              rw [show o * e.n + (j * e.n + k) = (o + j) * e.n + k by rw [Nat.add_mul]; omega]
              simpa using t4
            · rw [List.getElem?_append_right (by omega)] at hx
              obtain ⟨cs, t1, t2⟩ := hnr _ x hx
              refine ⟨cs, e.step t1 hst, fun k v hv => fin _ _ ?_⟩
              have t3 := t2 k v hv
              have hle2 : (zs.drop o).length * e.n ≤ j * e.n := Nat.mul_le_mul_right _ (by omega)
              rw [List.getElem?_append_right (by rw [hol]; omega), hol, show j * e.n + k - (zs.drop o).length * e.n = (j - (zs.drop o).length) * e.n + k by rw [Nat.sub_mul]; omega]
              exact t3
structure OwnB {α : Type} (e : Enc α) (T : TypeId) (w : World) (M B : List Nat) (a : Option Addr) (c : Nat) (xs : List α) : Prop where
  own : OwnT e T w M a c xs
  inb : ∀ x ∈ blk a, x ∈ B
theorem OwnS.tailB {α : Type} {e : Enc α} {T : TypeId} {w : World} {M : List Nat} {a : Option Addr} {c : Nat} {xs : List α} (h : OwnS e T w M a c xs) : OwnB e T w M (blk a) a c xs := ⟨h.tail, fun _ h => h⟩
theorem OwnB.step {α : Type} {e : Enc α} {T : TypeId} {w w' : World} {M M' Mo B : List Nat} {a : Option Addr} {c : Nat} {xs : List α} (h : OwnB e T w M B a c xs) (hs : Stp M w M' w') (he : Ev Mo w w') (hm : ∀ b ∈ B, b ∉ Mo) : OwnB e T w' M' B a c xs :=
  ⟨h.own.step hs he fun b hb => hm b (h.inb b hb), h.inb⟩
theorem OwnB.sub {α : Type} {e : Enc α} {T : TypeId} {w : World} {M M' B : List Nat} {a : Option Addr} {c : Nat} {xs : List α} (h : OwnB e T w M B a c xs) (hs : ∀ b ∈ M', b ∈ M) : OwnB e T w M' B a c xs := ⟨h.own.sub hs, h.inb⟩
theorem ownB_index {P : Program} {Mo M B : List Nat} {α : Type} {e : Enc α} {t T : Nat} {w : World} {a : Option Addr} {c : Nat} {xs : List α} {i : Int} {x : α} (ht : IsSlice P t T e.n) (h : OwnB e T w M B a c xs) (hx : idx xs i = some x) :
    ∃ ad cs, Reads P Mo (Instr.indexAt t (.slice a xs.length c) (.int .i64 i)) w (.pointer (some ad)) ∧ blk a = [ad.block] ∧ CellsAt w [] ad cs ∧ e.R w M cs x := ownT_index ht h.own hx
theorem ownB_cut {P : Program} {Mo M B : List Nat} {α : Type} {e : Enc α} {t el T : Nat} {w : World} {a : Option Addr} {c : Nat} {xs : List α} (ht : IsSlice P t el e.n) (h : OwnB e T w M B a c xs) (lo : Int) (h0 : 0 ≤ lo ∧ lo ≤ xs.length) :
    ∃ a' c', Reads P Mo (Instr.sliceAt t (.slice a xs.length c) (some (.int .i64 lo)) none none) w (.slice a' (xs.drop lo.toNat).length c') ∧ OwnB e T w M B a' c' (xs.drop lo.toNat) := by
  obtain ⟨a', c', h1, h2, h3⟩ := ownT_cut (P := P) (Mo := Mo) ht h.own lo h0
  exact ⟨a', c', h1, h3, by rw [h2]; exact h.inb⟩
theorem ownB_append {P : Program} {α : Type} {e : Enc α} {t T bytes : Nat} {z : Value} (ht : IsElem P t T e.n bytes z) (ty : TypeId) {w : World} {M B : List Nat} {a b : Option Addr} {c d : Nat} {xs ys : List α}
    (h : OwnB e T w M B a c xs) (hsub : ∀ x ∈ B, x ∈ M) (hy : SlR e w M b d ys) (hl : xs.length + ys.length ≤ 4294967296) :
    ∃ a' c' w', (Builtin.append_ #[t, t] ty [.slice a xs.length c, .slice b ys.length d].toArray).run P w = .ok (.slice a' (xs ++ ys).length c') w' ∧ Ev B w w' ∧
      (∀ x ∈ blk a', (x ∈ B ∨ w.heap.size ≤ x) ∧ x < w'.heap.size) ∧ (∀ M', (∀ x ∈ M', x ∈ M ∨ w.heap.size ≤ x) → OwnB e T w' M' (blk a') a' c' (xs ++ ys)) := by
  obtain ⟨a', c', w', h1, h2, h3, h4⟩ := ownT_append (P := P) ht ty h.own (fun x hx => hsub x (h.inb x hx)) hy hl
  exact ⟨a', c', w', h1, h2.sub h.inb, fun x hx => ⟨(h3 x hx).1.elim (fun q => .inl (h.inb x q)) .inr, (h3 x hx).2⟩, fun M' hM' => ⟨h4 M' hM', fun _ h => h⟩⟩
theorem reads_arrAt {P : Program} {Mo : List Nat} {t el n : Nat} (ht : P.underlying t = some (.array n el)) (hs : IsCell P el) (b off : Nat) (i : Int) (hi : 0 ≤ i ∧ i < n) (w : World) :
    Reads P Mo (Instr.indexAt t (.pointer (some ⟨b, off, none⟩)) (.int .i64 i)) w (.pointer (some ⟨b, off + i.toNat, none⟩)) := by
  intro w' _
  have hz := (hs w').2
  simp only [Instr.indexAt, asIntOf, Sem.run_bind, Sem.run_pure, Result.andThen_ok, run_underlying ht, Instr.sureAddr, hi.1, hi.2, and_self, if_true, hz]
  rw [addr_add rfl]
  simp
theorem idx_set_self {α : Type} {xs : List α} {i : Int} {x : α} (h : idx xs i = some x) (y : α) : idx (xs.set i.toNat y) i = some y := by
  obtain ⟨h0, h1, h2⟩ := idx_some h
  unfold idx
  rw [if_pos h0, List.getElem?_set_self (by omega)]
structure OwnX {α : Type} (e : Enc α) (T : TypeId) (w : World) (M : List Nat) (a : Option Addr) (g c : Nat) (xs : List α) (i : Nat) (raw : List Value) : Prop where
  ha : a = some ⟨g, 0, none⟩
  ex : ∃ cur : Array Value, w.heap[g]? = some (.cells cur T (0, 0)) ∧ xs.length ≤ c ∧ c ≤ maxLen ∧ cur.size = c * e.n ∧ i < xs.length ∧ raw.length = e.n ∧
    (∀ (k : Nat) (v : Value), raw[k]? = some v → cur[i * e.n + k]? = some v) ∧
    ∀ (j : Nat) (x : α), j ≠ i → xs[j]? = some x → ∃ cs, e.R w M cs x ∧ ∀ (k : Nat) (v : Value), cs[k]? = some v → cur[j * e.n + k]? = some v
theorem OwnX.step {α : Type} {e : Enc α} {T : TypeId} {w w' : World} {M M' Mo : List Nat} {a : Option Addr} {g c : Nat} {xs : List α} {i : Nat} {raw : List Value} (h : OwnX e T w M a g c xs i raw) (hs : Stp M w M' w') (he : Ev Mo w w') (hm : ∀ b ∈ blk a, b ∉ Mo) : OwnX e T w' M' a g c xs i raw := by
  obtain ⟨ha, cur, hg, h1, h2, h3, h4, h5, h6, h7⟩ := h
  refine ⟨ha, cur, he.box hg (hm g (by rw [ha]; simp [blk])), h1, h2, h3, h4, h5, h6, fun j x hj hx => ?_⟩
  obtain ⟨cs, q1, q2⟩ := h7 j x hj hx
  exact ⟨cs, e.step q1 hs, q2⟩
theorem OwnX.sub {α : Type} {e : Enc α} {T : TypeId} {w : World} {M M' : List Nat} {a : Option Addr} {g c : Nat} {xs : List α} {i : Nat} {raw : List Value} (h : OwnX e T w M a g c xs i raw) (hs : ∀ b ∈ M', b ∈ M) : OwnX e T w M' a g c xs i raw :=
  h.step (Stp.sub w hs) (Ev.refl [] w) (fun _ _ h => by cases h)
theorem OwnX.cells {α : Type} {e : Enc α} {T : TypeId} {w : World} {M : List Nat} {a : Option Addr} {g c : Nat} {xs : List α} {i : Nat} {raw : List Value} (h : OwnX e T w M a g c xs i raw) : CellsAt w [] ⟨g, i * e.n, none⟩ raw := by
  obtain ⟨ha, cur, hg, h1, h2, h3, h4, h5, h6, h7⟩ := h
  exact ⟨rfl, by simp, lt_of_heap hg, fun k v hv => by rw [box_cell hg]; exact h6 k v hv⟩
theorem OwnX.store {P : Program} {α : Type} {e : Enc α} {te T : TypeId} {w : World} {M : List Nat} {a : Option Addr} {g c : Nat} {xs : List α} {i : Nat} {raw : List Value} (o : Nat) (v : Value) (ht : IsCell P te) (h : OwnX e T w M a g c xs i raw) (hsub : ∀ x ∈ blk a, x ∈ M)
    (h1 : v.oneCell' = true) (ho : Nat.blt o e.n = true) :
    ∃ w', (Instr.storeAt te (.pointer (some ⟨g, i * e.n + o, none⟩)) v).run P w = .ok () w' ∧ Ev (blk a) w w' ∧ OwnX e T w' M a g c xs i (raw.set o v) := by
  have ho := Nat.le_of_ble_eq_true ho
  obtain ⟨ha, cur, hg, q1, q2, q3, q4, q5, q6, q7⟩ := h
  have hfit : i * e.n + o < cur.size := by
    rw [q3]
    have : (i + 1) * e.n ≤ c * e.n := Nat.mul_le_mul_right _ (by omega)
    rw [Nat.add_mul] at this; omega
  obtain ⟨w', hr, hb, hev⟩ := store_box (P := P) (i * e.n + o) v (cur.setIfInBounds (i * e.n + o) v) ht hg (Nat.ble_eq ▸ hfit) h1 rfl
  have hbl : blk a = [g] := by rw [ha]; rfl
  have hst : Stp M w M w' := Stp.same hev (fun b hb => hsub b (by rw [hbl]; exact hb))
  refine ⟨w', hr, by rw [hbl]; exact hev, ha, _, hb, q1, q2, by rw [Array.size_setIfInBounds]; exact q3, q4, by rw [List.length_set]; exact q5, fun k u hu => ?_, fun j x hj hx => ?_⟩
  · rw [List.getElem?_set] at hu
    rw [Array.getElem?_setIfInBounds]
    split at hu
    · rename_i hok
      subst hok
      split at hu
      · cases hu; rw [if_pos (by omega), if_pos (by omega)]
      · cases hu
    · rename_i hok
      rw [if_neg (by omega)]
      exact q6 k u hu
  · obtain ⟨cs, r1, r2⟩ := q7 j x hj hx
    refine ⟨cs, e.step r1 hst, fun k u hu => ?_⟩
    have hk : k < e.n := by rw [← e.len r1]; exact (List.getElem?_eq_some_iff.1 hu).1
    rw [Array.getElem?_setIfInBounds_ne]
    · exact r2 k u hu
    · intro heq
      rcases Nat.lt_or_gt_of_ne hj with hlt | hgt
      · have : (j + 1) * e.n ≤ i * e.n := Nat.mul_le_mul_right _ hlt
        rw [Nat.add_mul] at this; omega
      · have : (i + 1) * e.n ≤ j * e.n := Nat.mul_le_mul_right _ hgt
        rw [Nat.add_mul] at this; omega
end Go.V
