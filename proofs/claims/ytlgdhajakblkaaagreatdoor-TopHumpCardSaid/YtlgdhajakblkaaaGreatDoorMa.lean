
/- Maps in memory, with keys that are numbers or strings or pairs of numbers. Conditions: those of each theorem. -/
import Derived.Test.YtlgdhajakblkaaaGreatDoorQ
import Derived.Lib.AppendZerosOnto
set_option linter.unusedSimpArgs false
set_option linter.unusedVariables false
namespace Go.V
open Go
def mget {K V : Type} [BEq K] : List (K × V) → K → Option V
  | [], _ => none
  | (a, v) :: l, k => if (k == a) = true then some v else mget l k
def mput {K V : Type} [BEq K] : List (K × V) → K → V → List (K × V)
  | [], k, v => [(k, v)]
  | (a, u) :: l, k, v => if (k == a) = true then (k, v) :: l else (a, u) :: mput l k v
theorem mget_mput {K V : Type} [BEq K] [LawfulBEq K] (k : K) (v : V) (j : K) : ∀ (l : List (K × V)), mget (mput l k v) j = if (j == k) = true then some v else mget l j
  | [] => by simp only [mput, mget]
  | (a, u) :: l => by
    simp only [mput]
    by_cases h : (k == a) = true
    · rw [if_pos h]
      have e := eq_of_beq h
      subst e
      simp only [mget]
      by_cases h2 : (j == k) = true
      · rw [if_pos h2, if_pos h2]
      · rw [if_neg h2, if_neg h2, if_neg h2]
    · rw [if_neg h]
      simp only [mget, mget_mput k v j l]
      by_cases h2 : (j == a) = true
      · rw [if_pos h2, if_pos h2]
        have e := eq_of_beq h2
        subst e
        rw [if_neg (fun h3 => h (by rw [eq_of_beq h3]; exact beq_self_eq_true _))]
      · rw [if_neg h2, if_neg h2]
def findE {K : Type} [BEq K] (k : K) : List K → List MapEntry → Nat → Option (Nat × Value)
  | a :: ks, e :: es, i => if (k == a) = true then some (i, e.val) else findE k ks es (i + 1)
  | _, _, _ => none
structure KeyOK (P : Program) (kt : Nat) {K : Type} [BEq K] (kv : K → Value) : Prop where
  chk : ∀ (b : Bool) (k : K) (w : World), (Instr.checkKey b 10000 kt (kv k)).run P w = .ok () w
  find : ∀ (k : K) (ks : List K) (es : List MapEntry) (w : World), es.map (·.key) = ks.map kv → (Instr.findKey kt (kv k) es).run P w = .ok (findE k ks es 0) w
  bits : ∀ k, Instr.sameBits 10000 (kv k) (kv k) = true
theorem findKey_now {P : Program} {kt : Nat} {d : TypeDesc} {vk : Value} {es : List MapEntry} {r : Option (Nat × Value)} (hu : P.underlying kt = some d) (h : Instr.findNow d vk es 0 = some r) (w : World) : (Instr.findKey kt vk es).run P w = .ok r w := by
  unfold Instr.findKey
  rw [run_bind, run_underlying hu]
  simp only [h]
  rfl
theorem findNow_of {K : Type} [BEq K] {d : TypeDesc} {kv : K → Value} (hs : ∀ a b, Instr.sameNow d (kv a) (kv b) = some (a == b)) (k : K) : ∀ (ks : List K) (es : List MapEntry) (i : Nat), es.map (·.key) = ks.map kv → Instr.findNow d (kv k) es i = some (findE k ks es i)
  | [], [], i, _ => rfl
  | a :: ks, e :: es, i, h => by
    simp only [List.map_cons, List.cons.injEq] at h
    simp only [Instr.findNow, findE, h.1, hs]
    cases hq : (k == a) with
    | true => simp
    | false => simp only [Bool.false_eq_true, if_false]; exact findNow_of hs k ks es (i + 1) h.2
  | [], _ :: _, _, h => by simp at h
  | _ :: _, [], _, h => by simp at h
theorem chk_flat {P : Program} {kt : Nat} {d : TypeDesc} {v : Value} {b : Bool} (hu : P.underlying kt = some d) (hd : (match d with | .int _ => true | .string => true | _ => false) = true) (w : World) : (Instr.checkKey b 10000 kt v).run P w = .ok () w := by
  unfold Instr.checkKey
  rw [run_bind, run_underlying hu]
  cases d <;> first | (cases hd; done) | rfl
theorem key_str {P : Program} {kt : Nat} (hu : P.underlying kt = some .string) : KeyOK P kt Vs where
  chk b k w := chk_flat hu rfl w
  find k ks es w h := findKey_now hu (findNow_of (fun a b => by
    have e : ((⟨⟨a⟩⟩ : ByteArray) == ⟨⟨b⟩⟩) = (a == b) := by
      show ((⟨a⟩ : Array UInt8) == ⟨b⟩) = (a == b)
      simp
    show Instr.sameNow .string (Vs a) (Vs b) = _
    simp only [Vs, Instr.sameNow, e]) k ks es 0 h) w
  bits k := by
    simp only [Instr.sameBits, Vs]
    show ((⟨k⟩ : Array UInt8) == ⟨k⟩) = true
    simp
def MapH {K V : Type} (kv : K → Value) (vv : V → Value) (w : World) (b : Nat) (l : List (K × V)) : Prop :=
  ∃ (es : Array MapEntry) (clock : Nat), w.heap[b]? = some (.map es clock) ∧ es.toList.map (fun e => (e.key, e.val)) = l.map fun x => (kv x.1, vv x.2)
theorem MapH.mk {K V : Type} {kv : K → Value} {vv : V → Value} {w : World} {b : Nat} (h : w.heap[b]? = some (.map #[] 0)) : MapH kv vv w b [] := ⟨#[], 0, h, rfl⟩
theorem MapH.step {K V : Type} {kv : K → Value} {vv : V → Value} {w w' : World} {b : Nat} {l : List (K × V)} {M : List Nat} (h : MapH kv vv w b l) (he : Ev M w w') (hm : b ∉ M) : MapH kv vv w' b l :=
  let ⟨es, c, h1, h2⟩ := h; ⟨es, c, he.box h1 hm, h2⟩
theorem MapH.lt {K V : Type} {kv : K → Value} {vv : V → Value} {w : World} {b : Nat} {l : List (K × V)} (h : MapH kv vv w b l) : b < w.heap.size := let ⟨_, _, h1, _⟩ := h; lt_of_heap h1
theorem findE_mget {K V : Type} [BEq K] {kv : K → Value} {vv : V → Value} (k : K) : ∀ (l : List (K × V)) (es : List MapEntry) (i : Nat), es.map (fun e => (e.key, e.val)) = l.map (fun x => (kv x.1, vv x.2)) →
    (match findE k (l.map (·.1)) es i with | some (_, v) => some v | none => none) = (mget l k).map vv
  | [], [], i, _ => rfl
  | (a, u) :: l, e :: es, i, h => by
    simp only [List.map_cons, List.cons.injEq, Prod.mk.injEq] at h
    simp only [List.map_cons, findE, mget]
    by_cases hq : (k == a) = true
    · simp only [hq, if_true, h.1.2, Option.map]
    · simp only [if_neg hq]; exact findE_mget k l es (i + 1) h.2
  | [], _ :: _, _, h => by simp at h
  | _ :: _, [], _, h => by simp at h
theorem keys_of {K V : Type} {kv : K → Value} {vv : V → Value} {l : List (K × V)} {es : List MapEntry} (h : es.map (fun e => (e.key, e.val)) = l.map (fun x => (kv x.1, vv x.2))) : es.map (·.key) = (l.map (·.1)).map kv := by
  have := congrArg (List.map Prod.fst) h
  simpa [List.map_map, Function.comp_def] using this
theorem MapH.look {P : Program} {t kt et : Nat} {K V : Type} [BEq K] {kv : K → Value} {vv : V → Value} {w : World} {b : Nat} {l : List (K × V)} {Mo : List Nat} (ht : P.underlying t = some (.map kt et)) (hk : KeyOK P kt kv) (k : K) (z : V)
    (hz : ∀ w, (zeroValue et).run P w = .ok (vv z) w) (h : MapH kv vv w b l) (hm : b ∉ Mo) (ok : Bool) :
    Reads P Mo (Instr.lookup t (.map (some b)) (kv k) ok) w (if ok then .tuple #[vv ((mget l k).getD z), .bool (mget l k).isSome] else vv ((mget l k).getD z)) := by
  intro w' he
  obtain ⟨es, c, h1, h2⟩ := h.step he hm
  have hget : (getObj b).run P w' = .ok (.map es c) w' := by simp only [getObj, Sem.run, h1]
  unfold Instr.lookup
  rw [run_bind, run_underlying ht]
  simp only
  rw [run_bind, hget]
  simp only [pure_bind]
  rw [run_bind, hk.chk]
  simp only
  rw [run_bind, hk.find k _ _ w' (keys_of h2)]
  have hf := findE_mget k l es.toList 0 h2
  simp only
  split at hf
  · rename_i i v hv
    rw [hv]
    simp only [pure_bind]
    cases hg : mget l k with
    | none => rw [hg] at hf; cases hf
    | some u =>
      rw [hg] at hf
      cases hf
      cases ok <;> rfl
  · rename_i hv
    rw [hv]
    simp only
    cases hg : mget l k with
    | some u => rw [hg] at hf; cases hf
    | none =>
      simp only [Sem.run_bind, hz, Result.andThen_ok, Sem.run_pure]
      cases ok <;> rfl
theorem MapH.get {P : Program} {t kt et : Nat} {K V : Type} [BEq K] {kv : K → Value} {vv : V → Value} {w : World} {b : Nat} {l : List (K × V)} {Mo : List Nat} (ht : P.underlying t = some (.map kt et)) (hk : KeyOK P kt kv) (k : K) (z : V)
    (hz : ∀ w, (zeroValue et).run P w = .ok (vv z) w) (h : MapH kv vv w b l) (hm : b ∉ Mo) :
    Reads P Mo (Instr.lookup t (.map (some b)) (kv k) false) w (vv ((mget l k).getD z)) := MapH.look ht hk k z hz h hm false
theorem MapH.getok {P : Program} {t kt et : Nat} {K V : Type} [BEq K] {kv : K → Value} {vv : V → Value} {w : World} {b : Nat} {l : List (K × V)} {Mo : List Nat} (ht : P.underlying t = some (.map kt et)) (hk : KeyOK P kt kv) (k : K) (z : V)
    (hz : ∀ w, (zeroValue et).run P w = .ok (vv z) w) (h : MapH kv vv w b l) (hm : b ∉ Mo) :
    Reads P Mo (Instr.lookup t (.map (some b)) (kv k) true) w (.tuple #[vv ((mget l k).getD z), .bool (mget l k).isSome]) := MapH.look ht hk k z hz h hm true
theorem findE_at {K : Type} [BEq K] [LawfulBEq K] {kv : K → Value} (k : K) : ∀ (ks : List K) (es : List MapEntry) (i j : Nat) (v : Value), es.map (·.key) = ks.map kv → findE k ks es i = some (j, v) → i ≤ j ∧ ∃ e, es[j - i]? = some e ∧ e.key = kv k
  | a :: ks, e :: es, i, j, v, h, hf => by
    simp only [List.map_cons, List.cons.injEq] at h
    simp only [findE] at hf
    split at hf
    · rename_i hq
      cases hf
      refine ⟨Nat.le_refl _, e, by simp, ?_⟩
      rw [h.1, eq_of_beq hq]
    · obtain ⟨h1, e', h2, h3⟩ := findE_at k ks es (i + 1) j v h.2 hf
      refine ⟨by omega, e', ?_, h3⟩
      rw [show j - i = (j - (i + 1)) + 1 by omega, List.getElem?_cons_succ]
      exact h2
  | [], _, _, _, _, _, hf => by simp only [findE] at hf; cases hf
  | _ :: _, [], _, _, _, h, _ => by simp at h
theorem mput_mod {K V : Type} [BEq K] [LawfulBEq K] {kv : K → Value} {vv : V → Value} (k : K) (v : V) : ∀ (l : List (K × V)) (es : List MapEntry) (i j : Nat) (u : Value), es.map (fun e => (e.key, e.val)) = l.map (fun x => (kv x.1, vv x.2)) → findE k (l.map (·.1)) es i = some (j, u) →
    (es.modify (j - i) fun e => { e with key := kv k, val := vv v }).map (fun e => (e.key, e.val)) = (mput l k v).map (fun x => (kv x.1, vv x.2))
  | (a, q) :: l, e :: es, i, j, u, h, hf => by
    simp only [List.map_cons, List.cons.injEq, Prod.mk.injEq] at h
    simp only [List.map_cons, findE] at hf
    simp only [mput]
    split at hf
    · rename_i hq
      cases hf
      rw [if_pos hq]
      simp only [Nat.sub_self, List.modify_zero_cons, List.map_cons, h.2]
    · rename_i hq
      have hij := (findE_at k (l.map (·.1)) es (i + 1) j u (keys_of h.2) hf).1
      have := mput_mod k v l es (i + 1) j u h.2 hf
      rw [if_neg hq, show j - i = (j - (i + 1)) + 1 by omega]
      simp only [List.modify_succ_cons, List.map_cons, this, h.1.1, h.1.2]
  | [], _, _, _, _, _, hf => by simp only [List.map_nil, findE] at hf; cases hf
  | _ :: _, [], _, _, _, h, _ => by simp at h
theorem mput_new {K V : Type} [BEq K] {kv : K → Value} {vv : V → Value} (k : K) (v : V) (c : Nat) : ∀ (l : List (K × V)) (es : List MapEntry) (i : Nat), es.map (fun e => (e.key, e.val)) = l.map (fun x => (kv x.1, vv x.2)) → findE k (l.map (·.1)) es i = none →
    (es ++ [({ key := kv k, val := vv v, born := c } : MapEntry)]).map (fun e : MapEntry => (e.key, e.val)) = (mput l k v).map (fun x => (kv x.1, vv x.2))
  | [], [], _, _, _ => rfl
  | (a, q) :: l, e :: es, i, h, hf => by
    simp only [List.map_cons, List.cons.injEq, Prod.mk.injEq] at h
    simp only [List.map_cons, findE] at hf
    simp only [mput]
    split at hf
    · cases hf
    · rename_i hq
      have := mput_new k v c l es (i + 1) h.2 hf
      rw [if_neg hq]
      simp only [List.cons_append, List.map_cons, this, h.1.1, h.1.2]
  | [], _ :: _, _, h, _ => by simp at h
  | _ :: _, [], _, h, _ => by simp at h
theorem MapH.upd {P : Program} {t kt et : Nat} {K V : Type} [BEq K] [LawfulBEq K] {kv : K → Value} {vv : V → Value} {w : World} {b : Nat} {l : List (K × V)} (ht : P.underlying t = some (.map kt et)) (hk : KeyOK P kt kv) (k : K) (v : V) (h : MapH kv vv w b l) :
    ∃ w', (Instr.mapUpdate t (.map (some b)) (kv k) (vv v)).run P w = .ok () w' ∧ MapH kv vv w' b (mput l k v) ∧ Ev [b] w w' := by
  obtain ⟨es, c, h1, h2⟩ := h
  have hget : (getObj b).run P w = .ok (.map es c) w := by simp only [getObj, Sem.run, h1]
  have hlt : b < w.heap.size := lt_of_heap h1
  have hset : ∀ o, (setObj b o).run P w = .ok () { w with heap := w.heap.setIfInBounds b o } := fun o => by simp only [setObj, Sem.run, h1]
  have fin : ∀ (es' : Array MapEntry) (c' : Nat), es'.toList.map (fun e => (e.key, e.val)) = (mput l k v).map (fun x => (kv x.1, vv x.2)) →
      MapH kv vv { w with heap := w.heap.setIfInBounds b (.map es' c') } b (mput l k v) ∧ Ev [b] w { w with heap := w.heap.setIfInBounds b (.map es' c') } := by
    intro es' c' hh
    refine ⟨⟨es', c', by simp [hlt], hh⟩, ⟨rfl, rfl, rfl, by simp, fun j hj hjm => ?_⟩⟩
    simp only [List.mem_singleton] at hjm
    exact Array.getElem?_setIfInBounds_ne (Ne.symm hjm)
  have hfind := hk.find k _ _ w (keys_of h2)
  cases hf : findE k (l.map (·.1)) es.toList 0 with
  | some q =>
    obtain ⟨j, u⟩ := q
    obtain ⟨_, e, e1, e2⟩ := findE_at k _ _ 0 j u (keys_of h2) hf
    have hmod := mput_mod k v l es.toList 0 j u h2 hf
    simp only [Nat.sub_zero] at e1 hmod
    obtain ⟨f1, f2⟩ := fin (es.modify j fun e => { e with key := kv k, val := vv v }) c (by rw [Array.toList_modify]; exact hmod)
    refine ⟨_, ?_, f1, f2⟩
    unfold Instr.mapUpdate
    rw [run_bind, run_underlying ht]
    simp only
    rw [run_bind, hget]
    simp only
    rw [run_bind, hk.chk]
    simp only
    rw [run_bind, hfind, hf]
    simp only
    have hks : (Instr.keyThatStays (((es[j]?).map (·.key)).getD (kv k)) (kv k)).run P w = .ok (kv k) w := by
      have : es[j]? = some e := by rw [← Array.getElem?_toList]; exact e1
      rw [this]
      simp only [Option.map_some, Option.getD_some, e2]
      unfold Instr.keyThatStays
      rw [if_pos (hk.bits k)]
      rfl
    rw [run_bind, hks]
    exact hset _
  | none =>
    have hnew := mput_new k v c l es.toList 0 h2 hf
    obtain ⟨f1, f2⟩ := fin (es.push { key := kv k, val := vv v, born := c }) (c + 1) (by rw [Array.toList_push]; exact hnew)
    refine ⟨_, ?_, f1, f2⟩
    unfold Instr.mapUpdate
    rw [run_bind, run_underlying ht]
    simp only
    rw [run_bind, hget]
    simp only
    rw [run_bind, hk.chk]
    simp only
    rw [run_bind, hfind, hf]
    exact hset _
theorem run_makeMap {P : Program} {t kt et : Nat} (ht : P.underlying t = some (.map kt et)) (w : World) (r : Option Int) (k : IntKind) : (Instr.makeMap t (r.map (.int k))).run P w = .ok (.map (some w.heap.size)) (w.alloc (.map #[] 0)) := by
  unfold Instr.makeMap
  cases r with
  | none => rfl
  | some n =>
    simp only [Option.map]
    rw [run_bind, run_underlying ht]
    rfl
theorem x_makeMap {P : Program} {all : List Oper} {M : List Nat} {Q : Fr → World → Prop} {dst : Option Tmp} {ty : TypeId} {pos : String} {after : Array Edge} {guard : Option (Nat × Bool)} {al : Bool} {l l' : List (Oper × Bool)} {fr : Fr} {w : World} {t kt et : TypeId} {x : Option Operand} (ht : P.underlying t = some (.map kt et)) (r : Option Int) (k : IntKind)
    (hl : l' = (⟨dst, .makeMap t x, ty, pos, after, guard⟩, al) :: l) (hw : wantedB all ⟨dst, .makeMap t x, ty, pos, after, guard⟩ fr = some true) (hx : x.map (ev fr) = r.map (.int k))
    (h : ∀ b w', b = w.heap.size → w'.heap[b]? = some (.map #[] 0) → Ev [] w w' → w'.heap.size = b + 1 → (al = true ∨ Ev M w w') ∧ vcX P all M Q l (puto fr dst (.map (some b))) w') : vcX P all M Q l' fr w := by
  refine x_loud hl hw rfl ?_
  simp only [vcL, hx]
  exact ⟨run_makeMap ht w r k, h⟩
theorem x_lookup {P : Program} {all : List Oper} {M : List Nat} {Q : Fr → World → Prop} {dst : Option Tmp} {ty : TypeId} {pos : String} {after : Array Edge} {guard : Option (Nat × Bool)} {al : Bool} {l l' : List (Oper × Bool)} {fr : Fr} {w : World} {t : TypeId} {x y : Operand} {ok : Bool} {xv yv : Value} (v : Value)
    (hl : l' = (⟨dst, .lookup t x y ok, ty, pos, after, guard⟩, al) :: l) (hw : wantedB all ⟨dst, .lookup t x y ok, ty, pos, after, guard⟩ fr = some true) (hx : ev fr x = xv) (hy : ev fr y = yv)
    (hr : Reads P (qm al M) (Instr.lookup t xv yv ok) w v) (h : vcX P all M Q l (puto fr dst v) w) : vcX P all M Q l' fr w := by
  refine x_quiet hl hw rfl ?_
  simp only [vcQ, force_eq, evs_eq, evp_eq, *]
  exact ⟨v, hr, h⟩
theorem x_mapUpdate {P : Program} {all : List Oper} {M : List Nat} {Q : Fr → World → Prop} {dst : Option Tmp} {ty : TypeId} {pos : String} {after : Array Edge} {guard : Option (Nat × Bool)} {al : Bool} {l l' : List (Oper × Bool)} {fr : Fr} {w : World} {t : TypeId} {x y z : Operand} {xv yv zv : Value} (w' : World)
    (hl : l' = (⟨dst, .mapUpdate t x y z, ty, pos, after, guard⟩, al) :: l) (hw : wantedB all ⟨dst, .mapUpdate t x y z, ty, pos, after, guard⟩ fr = some true) (hx : ev fr x = xv) (hy : ev fr y = yv) (hz : ev fr z = zv) (hr : (Instr.mapUpdate t xv yv zv).run P w = .ok () w')
    (h : (al = true ∨ Ev M w w') ∧ vcX P all M Q l (puto fr dst undef) w') : vcX P all M Q l' fr w := by
  refine x_loud hl hw rfl ?_
  simp only [vcL, force_eq, evs_eq, evp_eq, *]
  exact ⟨w', rfl, h⟩
inductive ZO where
  | none
  | zero
def ZO.i : ZO → Option Int
  | .none => Option.none
  | .zero => some 0
def kv2 (k1 k2 : IntKind) (p : Int × Int) : Value := .agg #[.int k1 p.1, .int k2 p.2]
theorem run_isAgg_int {P : Program} {t : TypeId} {k : IntKind} (h : P.underlying t = some (.int k)) (w : World) : (isAgg t).run P w = .ok false w := by
  unfold isAgg
  rw [run_bind, run_underlying h]
  rfl
theorem run_part {P : Program} {t : TypeId} {k : IntKind} (h : P.underlying t = some (.int k)) {xs : Array Value} {i : Nat} {v : Value} (hv : xs[i]? = some v) (w : World) : (part t xs i).run P w = .ok v w := by
  unfold part
  simp only [Sem.run_bind, run_isAgg_int h, Result.andThen_ok, Bool.false_eq_true, if_false, hv, Sem.run_pure]
theorem asking {P : Program} {kt : Nat} {K : Type} [BEq K] {kv : K → Value} (heq : ∀ a b w, (Op.equal kt (kv a) (kv b)).run P w = .ok (a == b) w) (k : K) : ∀ (ks : List K) (es : List MapEntry) (i : Nat) (w : World), es.map (·.key) = ks.map kv →
    (Instr.findAsking kt (kv k) es i).run P w = .ok (findE k ks es i) w
  | [], [], i, w, _ => rfl
  | a :: ks, e :: es, i, w, h => by
    simp only [List.map_cons, List.cons.injEq] at h
    simp only [Instr.findAsking, findE, h.1]
    rw [run_bind, heq]
    cases hq : (k == a) with
    | true => simp only [if_true]; rfl
    | false => simp only [Bool.false_eq_true, if_false]; exact asking heq k ks es (i + 1) w h.2
  | [], _ :: _, _, _, h => by simp at h
  | _ :: _, [], _, _, h => by simp at h
theorem key_pair {P : Program} {kt : Nat} {f1 f2 : Field} {k1 k2 : IntKind} (ht : P.underlying kt = some (.struct #[f1, f2])) (hs : P.stoodInHeld kt = false) (n1 : (f1.name != "_") = true) (n2 : (f2.name != "_") = true) (o1 : f1.offset = 0) (o2 : f2.offset = 1)
    (u1 : P.underlying f1.type = some (.int k1)) (u2 : P.underlying f2.type = some (.int k2)) : KeyOK P kt (kv2 k1 k2) where
  chk b k w := by
    have n1' : f1.name ≠ "_" := by simpa using n1
    have n2' : f2.name ≠ "_" := by simpa using n2
    have p1 := fun w => run_part (xs := #[.int k1 k.1, .int k2 k.2]) (i := f1.offset) (v := .int k1 k.1) u1 (by rw [o1]; rfl) w
    have p2 := fun w => run_part (xs := #[.int k1 k.1, .int k2 k.2]) (i := f2.offset) (v := .int k2 k.2) u2 (by rw [o2]; rfl) w
    have c1 := fun w => chk_flat (v := .int k1 k.1) (b := b) u1 rfl w
    have c2 := fun w => chk_flat (v := .int k2 k.2) (b := b) u2 rfl w
    have e : ∀ (n : Nat) (t : Nat) (kd : IntKind) (v : Value), P.underlying t = some (.int kd) → ∀ w, (Instr.checkKey b (n + 1) t v).run P w = .ok () w := fun n t kd v hu w => by
      unfold Instr.checkKey
      rw [run_bind, run_underlying hu]
      cases v <;> rfl
    unfold Instr.checkKey kv2
    rw [run_bind, run_underlying ht]
    simp only [List.forIn_cons, List.forIn_nil, ← Array.forIn_toList, if_pos n1', if_pos n2', Sem.run_bind, p1, p2, Result.andThen_ok, e _ _ _ _ u1, e _ _ _ _ u2, Sem.run_pure]
  find k ks es w h := by
    have heq : ∀ a b w, (Op.equal kt (kv2 k1 k2 a) (kv2 k1 k2 b)).run P w = .ok (a == b) w := fun a b w => by
      show (Op.equalIn (9999 + 1) kt (.agg _) (.agg _)).run P w = _
      rw [run_equal_struct ht hs]
      have := eqF_cell (P := P) (d := 9999) (xs := #[.int k1 a.1, .int k2 a.2]) (ys := #[.int k1 b.1, .int k2 b.2]) (f := f1) (fs := [f2]) (w := w) n1 (run_isAgg_int u1) (by rw [o1]; rfl) (by rw [o1]; rfl) (fun w => eq_int u1 a.1 b.1 w)
        (eqF_cell n2 (run_isAgg_int u2) (by rw [o2]; rfl) (by rw [o2]; rfl) (fun w => eq_int u2 a.2 b.2 w) eqF_nil)
      rw [show ((#[f1, f2] : Array Field).toList) = [f1, f2] from rfl, this, Bool.and_true]
      rfl
    unfold Instr.findKey
    rw [run_bind, run_underlying ht]
    cases es with
    | nil =>
      cases ks with
      | nil => rfl
      | cons => simp at h
    | cons e es => exact asking heq k ks (e :: es) 0 w h
  bits k := by simp [kv2, Instr.sameBits]
end Go.V
