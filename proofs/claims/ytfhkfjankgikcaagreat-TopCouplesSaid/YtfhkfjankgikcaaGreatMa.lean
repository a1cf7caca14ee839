
/- Maps in memory, with keys that are numbers or strings or pairs of numbers. Conditions: those of each theorem. -/
import Derived.Test.YtfhkfjankgikcaaGreatQ
import Derived.Lib.AppendZerosOnto
set_option linter.unusedSimpArgs false
set_option linter.unusedVariables false
namespace Go.V
open Go
def mget {K V : Type} [BEq K] : List (K × V) → K → Option V
  | [], _ => none
  | (a, v) :: l, k => if (k == a) = true then some v else mget l k
def mput {K V : Type} [BEq K] : List (K × V) → K → V → List (K × V)
  | [], k, v => [(k, v)]
  | (a, u) :: l, k, v => if (k == a) = true then (k, v) :: l else (a, u) :: mput l k v
theorem mget_mput {K V : Type} [BEq K] [LawfulBEq K] (k : K) (v : V) (j : K) : ∀ (l : List (K × V)), mget (mput l k v) j = if (j == k) = true then some v else mget l j
  | [] => by simp only [mput, mget]
  | (a, u) :: l => by
    simp only [mput]
    by_cases h : (k == a) = true
    · rw [if_pos h]
      have e := eq_of_beq h
      subst e
      simp only [mget]
      by_cases h2 : (j == k) = true
      · rw [if_pos h2, if_pos h2]
      · rw [if_neg h2, if_neg h2, if_neg h2]
    · rw [if_neg h]
      simp only [mget, mget_mput k v j l]
      by_cases h2 : (j == a) = true
      · rw [if_pos h2, if_pos h2]
        have e := eq_of_beq h2
        subst e
        rw [if_neg (fun h3 => h (by rw [eq_of_beq h3]; exact beq_self_eq_true _))]
      · rw [if_neg h2, if_neg h2]
def findE {K : Type} [BEq K] (k : K) : List K → List MapEntry → Nat → Option (Nat × Value)
  | a :: ks, e :: es, i => if (k == a) = true then some (i, e.val) else findE k ks es (i + 1)
  | _, _, _ => none
structure KeyOK (P : Program) (kt : Nat) {K : Type} [BEq K] (kv : K → Value) : Prop where
  chk : ∀ (b : Bool) (k : K) (w : World), (Instr.checkKey b 10000 kt (kv k)).run P w = .ok () w
  find : ∀ (k : K) (ks : List K) (es : List MapEntry) (w : World), es.map (·.key) = ks.map kv → (Instr.findKey kt (kv k) es).run P w = .ok (findE k ks es 0) w
  bits : ∀ k, Instr.sameBits 10000 (kv k) (kv k) = true
theorem findKey_now {P : Program} {kt : Nat} {d : TypeDesc} {vk : Value} {es : List MapEntry} {r : Option (Nat × Value)} (hu : P.underlying kt = some d) (h : Instr.findNow d vk es 0 = some r) (w : World) : (Instr.findKey kt vk es).run P w = .ok r w := by
  unfold Instr.findKey
  rw [run_bind, run_underlying hu]
  simp only [h]
  rfl
theorem findNow_of {K : Type} [BEq K] {d : TypeDesc} {kv : K → Value} (hs : ∀ a b, Instr.sameNow d (kv a) (kv b) = some (a == b)) (k : K) : ∀ (ks : List K) (es : List MapEntry) (i : Nat), es.map (·.key) = ks.map kv → Instr.findNow d (kv k) es i = some (findE k ks es i)
  | [], [], i, _ => rfl
  | a :: ks, e :: es, i, h => by
    simp only [List.map_cons, List.cons.injEq] at h
    simp only [Instr.findNow, findE, h.1, hs]
    cases hq : (k == a) with
    | true => simp
    | false => simp only [Bool.false_eq_true, if_false]; exact findNow_of hs k ks es (i + 1) h.2
  | [], _ :: _, _, h => by simp at h
  | _ :: _, [], _, h => by simp at h
theorem chk_flat {P : Program} {kt : Nat} {d : TypeDesc} {v : Value} {b : Bool} (hu : P.underlying kt = some d) (hd : (match d with | .int _ => true | .string => true | _ => false) = true) (w : World) : (Instr.checkKey b 10000 kt v).run P w = .ok () w := by
  unfold Instr.checkKey
  rw [run_bind, run_underlying hu]
  cases d <;> first | (cases hd; done) | rfl
theorem key_int {P : Program} {kt : Nat} {kd : IntKind} (hu : P.underlying kt = some (.int kd)) : KeyOK P kt (fun n : Int => .int kd n) where
  chk b k w := chk_flat hu rfl w
  find k ks es w h := findKey_now hu (findNow_of (fun a b => by simp [Instr.sameNow]) k ks es 0 h) w
  bits k := by simp [Instr.sameBits]
def MapH {K V : Type} (kv : K → Value) (vv : V → Value) (w : World) (b : Nat) (l : List (K × V)) : Prop :=
  ∃ (es : Array MapEntry) (clock : Nat), w.heap[b]? = some (.map es clock) ∧ es.toList.map (fun e => (e.key, e.val)) = l.map fun x => (kv x.1, vv x.2)
theorem MapH.mk {K V : Type} {kv : K → Value} {vv : V → Value} {w : World} {b : Nat} (h : w.heap[b]? = some (.map #[] 0)) : MapH kv vv w b [] := ⟨#[], 0, h, rfl⟩
theorem MapH.step {K V : Type} {kv : K → Value} {vv : V → Value} {w w' : World} {b : Nat} {l : List (K × V)} {M : List Nat} (h : MapH kv vv w b l) (he : Ev M w w') (hm : b ∉ M) : MapH kv vv w' b l :=
  let ⟨es, c, h1, h2⟩ := h; ⟨es, c, he.box h1 hm, h2⟩
theorem MapH.lt {K V : Type} {kv : K → Value} {vv : V → Value} {w : World} {b : Nat} {l : List (K × V)} (h : MapH kv vv w b l) : b < w.heap.size := let ⟨_, _, h1, _⟩ := h; lt_of_heap h1
theorem findE_mget {K V : Type} [BEq K] {kv : K → Value} {vv : V → Value} (k : K) : ∀ (l : List (K × V)) (es : List MapEntry) (i : Nat), es.map (fun e => (e.key, e.val)) = l.map (fun x => (kv x.1, vv x.2)) →
    (match findE k (l.map (·.1)) es i with | some (_, v) => some v | none => none) = (mget l k).map vv
  | [], [], i, _ => rfl
  | (a, u) :: l, e :: es, i, h => by
    simp only [List.map_cons, List.cons.injEq, Prod.mk.injEq] at h
    simp only [List.map_cons, findE, mget]
    by_cases hq : (k == a) = true
    · simp only [hq, if_true, h.1.2, Option.map]
    · simp only [if_neg hq]; exact findE_mget k l es (i + 1) h.2
  | [], _ :: _, _, h => by simp at h
  | _ :: _, [], _, h => by simp at h
theorem keys_of {K V : Type} {kv : K → Value} {vv : V → Value} {l : List (K × V)} {es : List MapEntry} (h : es.map (fun e => (e.key, e.val)) = l.map (fun x => (kv x.1, vv x.2))) : es.map (·.key) = (l.map (·.1)).map kv := by
  have := congrArg (List.map Prod.fst) h
  simpa [List.map_map, Function.comp_def] using this
theorem MapH.look {P : Program} {t kt et : Nat} {K V : Type} [BEq K] {kv : K → Value} {vv : V → Value} {w : World} {b : Nat} {l : List (K × V)} {Mo : List Nat} (ht : P.underlying t = some (.map kt et)) (hk : KeyOK P kt kv) (k : K) (z : V)
    (hz : ∀ w, (zeroValue et).run P w = .ok (vv z) w) (h : MapH kv vv w b l) (hm : b ∉ Mo) (ok : Bool) :
    Reads P Mo (Instr.lookup t (.map (some b)) (kv k) ok) w (if ok then .tuple #[vv ((mget l k).getD z), .bool (mget l k).isSome] else vv ((mget l k).getD z)) := by
  intro w' he
  obtain ⟨es, c, h1, h2⟩ := h.step he hm
  have hget : (getObj b).run P w' = .ok (.map es c) w' := by simp only [getObj, Sem.run, h1]
  unfold Instr.lookup
  rw [run_bind, run_underlying ht]
  simp only
  rw [run_bind, hget]
  simp only [pure_bind]
  rw [run_bind, hk.chk]
  simp only
  rw [run_bind, hk.find k _ _ w' (keys_of h2)]
  have hf := findE_mget k l es.toList 0 h2
  simp only
  split at hf
  · rename_i i v hv
    rw [hv]
    simp only [pure_bind]
    cases hg : mget l k with
    | none => rw [hg] at hf; cases hf
    | some u =>
      rw [hg] at hf
      cases hf
      cases ok <;> rfl
  · rename_i hv
    rw [hv]
    simp only
    cases hg : mget l k with
    | some u => rw [hg] at hf; cases hf
    | none =>
      simp only [Sem.run_bind, hz, Result.andThen_ok, Sem.run_pure]
      cases ok <;> rfl
theorem MapH.get {P : Program} {t kt et : Nat} {K V : Type} [BEq K] {kv : K → Value} {vv : V → Value} {w : World} {b : Nat} {l : List (K × V)} {Mo : List Nat} (ht : P.underlying t = some (.map kt et)) (hk : KeyOK P kt kv) (k : K) (z : V)
    (hz : ∀ w, (zeroValue et).run P w = .ok (vv z) w) (h : MapH kv vv w b l) (hm : b ∉ Mo) :
    Reads P Mo (Instr.lookup t (.map (some b)) (kv k) false) w (vv ((mget l k).getD z)) := MapH.look ht hk k z hz h hm false
theorem findE_at {K : Type} [BEq K] [LawfulBEq K] {kv : K → Value} (k : K) : ∀ (ks : List K) (es : List MapEntry) (i j : Nat) (v : Value), es.map (·.key) = ks.map kv → findE k ks es i = some (j, v) → i ≤ j ∧ ∃ e, es[j - i]? = some e ∧ e.key = kv k
  | a :: ks, e :: es, i, j, v, h, hf => by
    simp only [List.map_cons, List.cons.injEq] at h
    simp only [findE] at hf
    split at hf
    · rename_i hq
      cases hf
      refine ⟨Nat.le_refl _, e, by simp, ?_⟩
      rw [h.1, eq_of_beq hq]
    · obtain ⟨h1, e', h2, h3⟩ := findE_at k ks es (i + 1) j v h.2 hf
      refine ⟨by omega, e', ?_, h3⟩
      rw [show j - i = (j - (i + 1)) + 1 by omega, List.getElem?_cons_succ]
      exact h2
  | [], _, _, _, _, _, hf => by simp only [findE] at hf; cases hf
  | _ :: _, [], _, _, _, h, _ => by simp at h
theorem mput_mod {K V : Type} [BEq K] [LawfulBEq K] {kv : K → Value} {vv : V → Value} (k : K) (v : V) : ∀ (l : List (K × V)) (es : List MapEntry) (i j : Nat) (u : Value), es.map (fun e => (e.key, e.val)) = l.map (fun x => (kv x.1, vv x.2)) → findE k (l.map (·.1)) es i = some (j, u) →
    (es.modify (j - i) fun e => { e with key := kv k, val := vv v }).map (fun e => (e.key, e.val)) = (mput l k v).map (fun x => (kv x.1, vv x.2))
  | (a, q) :: l, e :: es, i, j, u, h, hf => by
    simp only [List.map_cons, List.cons.injEq, Prod.mk.injEq] at h
    simp only [List.map_cons, findE] at hf
    simp only [mput]
    split at hf
    · rename_i hq
      cases hf
      rw [if_pos hq]
      simp only [Nat.sub_self, List.modify_zero_cons, List.map_cons, h.2]
    · rename_i hq
      have hij := (findE_at k (l.map (·.1)) es (i + 1) j u (keys_of h.2) hf).1
      have := mput_mod k v l es (i + 1) j u h.2 hf
      rw [if_neg hq, show j - i = (j - (i + 1)) + 1 by omega]
      simp only [List.modify_succ_cons, List.map_cons, this, h.1.1, h.1.2]
  | [], _, _, _, _, _, hf => by simp only [List.map_nil, findE] at hf; cases hf
  | _ :: _, [], _, _, _, h, _ => by simp at h
theorem mput_new {K V : Type} [BEq K] {kv : K → Value} {vv : V → Value} (k : K) (v : V) (c : Nat) : ∀ (l : List (K × V)) (es : List MapEntry) (i : Nat), es.map (fun e => (e.key, e.val)) = l.map (fun x => (kv x.1, vv x.2)) → findE k (l.map (·.1)) es i = none →
    (es ++ [({ key := kv k, val := vv v, born := c } : MapEntry)]).map (fun e : MapEntry => (e.key, e.val)) = (mput l k v).map (fun x => (kv x.1, vv x.2))
  | [], [], _, _, _ => rfl
  | (a, q) :: l, e :: es, i, h, hf => by
    simp only [List.map_cons, List.cons.injEq, Prod.mk.injEq] at h
    simp only [List.map_cons, findE] at hf
    simp only [mput]
    split at hf
    · cases hf
    · rename_i hq
      have := mput_new k v c l es (i + 1) h.2 hf
      rw [if_neg hq]
      simp only [List.cons_append, List.map_cons, this, h.1.1, h.1.2]
  | [], _ :: _, _, h, _ => by simp at h
  | _ :: _, [], _, h, _ => by simp at h
theorem MapH.upd {P : Program} {t kt et : Nat} {K V : Type} [BEq K] [LawfulBEq K] {kv : K → Value} {vv : V → Value} {w : World} {b : Nat} {l : List (K × V)} (ht : P.underlying t = some (.map kt et)) (hk : KeyOK P kt kv) (k : K) (v : V) (h : MapH kv vv w b l) :
    ∃ w', (Instr.mapUpdate t (.map (some b)) (kv k) (vv v)).run P w = .ok () w' ∧ MapH kv vv w' b (mput l k v) ∧ Ev [b] w w' := by
  obtain ⟨es, c, h1, h2⟩ := h
  have hget : (getObj b).run P w = .ok (.map es c) w := by simp only [getObj, Sem.run, h1]
  have hlt : b < w.heap.size := lt_of_heap h1
  have hset : ∀ o, (setObj b o).run P w = .ok () { w with heap := w.heap.setIfInBounds b o } := fun o => by simp only [setObj, Sem.run, h1]
  have fin : ∀ (es' : Array MapEntry) (c' : Nat), es'.toList.map (fun e => (e.key, e.val)) = (mput l k v).map (fun x => (kv x.1, vv x.2)) →
      MapH kv vv { w with heap := w.heap.setIfInBounds b (.map es' c') } b (mput l k v) ∧ Ev [b] w { w with heap := w.heap.setIfInBounds b (.map es' c') } := by
    intro es' c' hh
    refine ⟨⟨es', c', by simp [hlt], hh⟩, ⟨rfl, rfl, rfl, by simp, fun j hj hjm => ?_⟩⟩
    simp only [List.mem_singleton] at hjm
    exact Array.getElem?_setIfInBounds_ne (Ne.symm hjm)
  have hfind := hk.find k _ _ w (keys_of h2)
  cases hf : findE k (l.map (·.1)) es.toList 0 with
  | some q =>
    obtain ⟨j, u⟩ := q
    obtain ⟨_, e, e1, e2⟩ := findE_at k _ _ 0 j u (keys_of h2) hf
    have hmod := mput_mod k v l es.toList 0 j u h2 hf
    simp only [Nat.sub_zero] at e1 hmod
    obtain ⟨f1, f2⟩ := fin (es.modify j fun e => { e with key := kv k, val := vv v }) c (by rw [Array.toList_modify]; exact hmod)
    refine ⟨_, ?_, f1, f2⟩
    unfold Instr.mapUpdate
    rw [run_bind, run_underlying ht]
    simp only
    rw [run_bind, hget]
    simp only
    rw [run_bind, hk.chk]
    simp only
    rw [run_bind, hfind, hf]
    simp only
    have hks : (Instr.keyThatStays (((es[j]?).map (·.key)).getD (kv k)) (kv k)).run P w = .ok (kv k) w := by
      have : es[j]? = some e := by rw [← Array.getElem?_toList]; exact e1
      rw [this]
      simp only [Option.map_some, Option.getD_some, e2]
      unfold Instr.keyThatStays
      rw [if_pos (hk.bits k)]
      rfl
    rw [run_bind, hks]
    exact hset _
  | none =>
    have hnew := mput_new k v c l es.toList 0 h2 hf
    obtain ⟨f1, f2⟩ := fin (es.push { key := kv k, val := vv v, born := c }) (c + 1) (by rw [Array.toList_push]; exact hnew)
    refine ⟨_, ?_, f1, f2⟩
    unfold Instr.mapUpdate
    rw [run_bind, run_underlying ht]
    simp only
    rw [run_bind, hget]
    simp only
    rw [run_bind, hk.chk]
    simp only
    rw [run_bind, hfind, hf]
    exact hset _
theorem run_makeMap {P : Program} {t kt et : Nat} (ht : P.underlying t = some (.map kt et)) (w : World) (r : Option Int) (k : IntKind) : (Instr.makeMap t (r.map (.int k))).run P w = .ok (.map (some w.heap.size)) (w.alloc (.map #[] 0)) := by
  unfold Instr.makeMap
  cases r with
  | none => rfl
  | some n =>
    simp only [Option.map]
    rw [run_bind, run_underlying ht]
    rfl
theorem x_makeMap {P : Program} {all : List Oper} {M : List Nat} {Q : Fr → World → Prop} {dst : Option Tmp} {ty : TypeId} {pos : String} {after : Array Edge} {guard : Option (Nat × Bool)} {al : Bool} {l l' : List (Oper × Bool)} {fr : Fr} {w : World} {t kt et : TypeId} {x : Option Operand} (ht : P.underlying t = some (.map kt et)) (r : Option Int) (k : IntKind)
    (hl : l' = (⟨dst, .makeMap t x, ty, pos, after, guard⟩, al) :: l) (hw : wantedB all ⟨dst, .makeMap t x, ty, pos, after, guard⟩ fr = some true) (hx : x.map (ev fr) = r.map (.int k))
    (h : ∀ b w', b = w.heap.size → w'.heap[b]? = some (.map #[] 0) → Ev [] w w' → w'.heap.size = b + 1 → (al = true ∨ Ev M w w') ∧ vcX P all M Q l (puto fr dst (.map (some b))) w') : vcX P all M Q l' fr w := by
  refine x_loud hl hw rfl ?_
  simp only [vcL, hx]
  exact ⟨run_makeMap ht w r k, h⟩
theorem x_lookup {P : Program} {all : List Oper} {M : List Nat} {Q : Fr → World → Prop} {dst : Option Tmp} {ty : TypeId} {pos : String} {after : Array Edge} {guard : Option (Nat × Bool)} {al : Bool} {l l' : List (Oper × Bool)} {fr : Fr} {w : World} {t : TypeId} {x y : Operand} {ok : Bool} {xv yv : Value} (v : Value)
    (hl : l' = (⟨dst, .lookup t x y ok, ty, pos, after, guard⟩, al) :: l) (hw : wantedB all ⟨dst, .lookup t x y ok, ty, pos, after, guard⟩ fr = some true) (hx : ev fr x = xv) (hy : ev fr y = yv)
    (hr : Reads P (qm al M) (Instr.lookup t xv yv ok) w v) (h : vcX P all M Q l (puto fr dst v) w) : vcX P all M Q l' fr w := by
  refine x_quiet hl hw rfl ?_
  simp only [vcQ, force_eq, evs_eq, evp_eq, *]
  exact ⟨v, hr, h⟩
theorem x_mapUpdate {P : Program} {all : List Oper} {M : List Nat} {Q : Fr → World → Prop} {dst : Option Tmp} {ty : TypeId} {pos : String} {after : Array Edge} {guard : Option (Nat × Bool)} {al : Bool} {l l' : List (Oper × Bool)} {fr : Fr} {w : World} {t : TypeId} {x y z : Operand} {xv yv zv : Value} (w' : World)
    (hl : l' = (⟨dst, .mapUpdate t x y z, ty, pos, after, guard⟩, al) :: l) (hw : wantedB all ⟨dst, .mapUpdate t x y z, ty, pos, after, guard⟩ fr = some true) (hx : ev fr x = xv) (hy : ev fr y = yv) (hz : ev fr z = zv) (hr : (Instr.mapUpdate t xv yv zv).run P w = .ok () w')
    (h : (al = true ∨ Ev M w w') ∧ vcX P all M Q l (puto fr dst undef) w') : vcX P all M Q l' fr w := by
  refine x_loud hl hw rfl ?_
  simp only [vcL, force_eq, evs_eq, evp_eq, *]
  exact ⟨w', rfl, h⟩
theorem x_callin {P : Program} {all : List Oper} {M : List Nat} {Q : Fr → World → Prop} {dst : Option Tmp} {ty : TypeId} {pos : String} {after : Array Edge} {guard : Option (Nat × Bool)} {fo : Operand} {args : Array Operand} {ats : Array TypeId}
    {al : Bool} {l l' : List (Oper × Bool)} {fr : Fr} {w : World} (g : FuncId) (first cap : Array Value) (vs : List Value)
    (hl : l' = (⟨dst, .call ⟨.value fo, args, ats⟩, ty, pos, after, guard⟩, al) :: l) (hw : wantedB all ⟨dst, .call ⟨.value fo, args, ats⟩, ty, pos, after, guard⟩ fr = some true)
    (hf : ev fr fo = .func (.func g) first cap) (hv : first.toList ++ args.toList.map (ev fr) ++ cap.toList = vs)
    (hc : CallVC P g vs w fun v w' => (al = true ∨ Ev M w w') ∧ vcX P all M Q l (puto fr dst v) w') : vcX P all M Q l' fr w :=
  x_call g first cap vs _ hl hw hf hv hc fun _ _ h => h
theorem reads_capnil {P : Program} {M : List Nat} {t e n : Nat} (ht : IsSlice P t e n) (ty : TypeId) (w : World) : Reads P M (Builtin.cap_ #[t] ty [.slice none 0 0].toArray) w (.int .i64 0) := by
  intro w' _
  simp only [Builtin.cap_]
  show Sem.run P (underlying t >>= _) w' = _
  rw [run_bind, run_underlying ht.1]
  rfl
inductive ZO where
  | none
  | zero
def ZO.i : ZO → Option Int
  | .none => Option.none
  | .zero => some 0
theorem reads_nilcut {P : Program} {Mo : List Nat} {t el n : Nat} {w : World} (ht : IsSlice P t el n) (l h : ZO) :
    Reads P Mo (Instr.sliceAt t (.slice none 0 0) (l.i.map (.int .i64)) (h.i.map (.int .i64)) none) w (.slice none 0 0) := by
  have := reads_slice (P := P) (Mo := Mo) (w := w) ht none 0 0 l.i h.i none (by cases l <;> simp [ZO.i]) (by cases l <;> simp [ZO.i, bound]) (by cases l <;> cases h <;> simp [ZO.i, bound]) (by cases h <;> simp [ZO.i, bound]) (by simp [bound])
  cases l <;> cases h <;> simpa [ZO.i, bound] using this
theorem zeroCells_at (zs : Array Value) (n j : Nat) (hp : 0 < zs.size) (hj : j < n * zs.size) : (Builtin.zeroCells zs n)[j]? = zs[j % zs.size]? := by
  have h := Nat.mod_lt j hp
  simp [Builtin.zeroCells, hj, h]
theorem own_makeZ {P : Program} {α : Type} {e : Enc α} {t tn T bytes : Nat} {z : Value} {kn kq : IntKind} (ht : IsElem P t T e.n bytes z) (htn : P.underlying tn = some (.int kn)) (ty : TypeId) (w : World) (n : Int) (h0 : 0 < n) (hn : n ≤ 4294967296) (x0 : α) (hz : ∀ w M, e.R w M z.cells.toList x0) :
    ∃ a' c' w', (Builtin.append_ #[t, tn] ty [.slice none 0 0, .int kq n].toArray).run P w = .ok (.slice a' (List.replicate n.toNat x0).length c') w' ∧ Ev [] w w' ∧
      (∀ x ∈ blk a', w.heap.size ≤ x ∧ x < w'.heap.size) ∧ (∀ M', OwnS e T w' M' a' c' (List.replicate n.toNat x0)) := by
  obtain ⟨i, hi, hzz, hsz, hby⟩ := ht.info
  have hpos : 0 < e.n := Nat.le_of_ble_eq_true ht.pos
  have hsm : bytes ≤ 4096 := Nat.le_of_ble_eq_true ht.small
  obtain ⟨m, rfl⟩ := Int.eq_ofNat_of_zero_le (show (0 : Int) ≤ n by omega)
  have hm : m ≤ 4294967296 := by omega
  have hm0 : 0 < m := by omega
  have hmb : m * i.bytes ≤ 140737488355328 := by rw [hby]; have := Nat.mul_le_mul hm hsm; omega
  have hr := Lib.run_append_grow_zeros w t tn ty T i z kq kn ht.und htn hi hzz none 0 0 [] (by simp [Builtin.firstCells]) m hm0 (by rw [hsz]; exact hpos) (by omega) (by omega) (by omega) (growslice_fits (by omega) (by simpa using hmb))
  have hge := grownCap_ge w (0 + m) 0 T
  have hle := grownCap_le_maxLen w (0 + m) 0 T (by unfold maxLen; omega)
  generalize hG : grownCap w (0 + m) 0 T = G at hr hge hle
  have hlen : (List.replicate (Int.toNat (m : Int)) x0).length = m := by simp
  have hzs : z.cells.size = e.n := ht.zs
  have hev : Ev [] w (w.drew.alloc (.cells (([] : List Value).toArray ++ Builtin.zeroCells z.cells m ++ Builtin.zeroCells z.cells (G - (0 + m))) T)) := (Ev.drew w).trans (Ev.alloc _ _)
  refine ⟨some ⟨w.heap.size, 0, none⟩, G, _, by rw [hlen, show [Value.slice none 0 0, Value.int kq (m : Int)].toArray = #[.slice none 0 0, .int kq m] from rfl, hr, Nat.zero_add], hev, fun x hx => ?_, fun M' => ?_⟩
  · simp only [blk, List.mem_singleton] at hx
    subst hx
    refine ⟨Nat.le_refl _, ?_⟩
    rw [heap_push_size]
    exact Nat.lt_succ_self _
  · have hz1 : (Builtin.zeroCells z.cells m).size = m * e.n := by simp [Builtin.zeroCells, hzs]
    have hz2 : (Builtin.zeroCells z.cells (G - (0 + m))).size = (G - (0 + m)) * e.n := by simp [Builtin.zeroCells, hzs]
    refine .inr ⟨_, _, rfl, heap_push_new _ _, by rw [hlen]; omega, hle, ?_, fun j x hx => ⟨z.cells.toList, ?_, fun k v hv => ?_⟩⟩
    · rw [Array.size_append, Array.size_append, hz1, hz2]
      simp only [List.size_toArray, List.length_nil, Nat.zero_add]
      rw [← Nat.add_mul]
      congr 1
      omega
    · rw [List.eq_of_mem_replicate (List.mem_of_getElem? hx)]; exact hz _ _
    · have hjx : j < m := by have := (List.getElem?_eq_some_iff.1 hx).1; rwa [hlen] at this
      have hk : k < e.n := by rw [← hzs, ← Array.length_toList]; exact (List.getElem?_eq_some_iff.1 hv).1
      have hjk : j * e.n + k < m * e.n := by
        have : (j + 1) * e.n ≤ m * e.n := Nat.mul_le_mul_right _ hjx
        rw [Nat.add_mul] at this; omega
      rw [Array.getElem?_append_left (by rw [Array.size_append, hz1]; simp only [List.size_toArray, List.length_nil]; omega)]
      have e1 : (([] : List Value).toArray ++ Builtin.zeroCells z.cells m)[j * e.n + k]? = (Builtin.zeroCells z.cells m)[j * e.n + k]? := by
        rw [Array.getElem?_append_right (by simp)]
        simp
      rw [e1, zeroCells_at _ _ _ (by rw [hzs]; exact hpos) (by rw [hzs]; exact hjk), hzs, Nat.add_comm, Nat.add_mul_mod_self_right, Nat.mod_eq_of_lt hk, ← Array.getElem?_toList]
      exact hv
end Go.V
