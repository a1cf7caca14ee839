
/- A calculus of weakest preconditions that Lean computes over the code of a function: frames are functions from slots to values. No condition. -/
import Derived.Orders
import Derived.Scope
import Derived.Below
import Derived.Laws.AppendOwn
import Derived.KernelRfl
set_option linter.unusedSimpArgs false
namespace Go.V
open Go
structure Ev (M : List Nat) (w w' : World) : Prop where
  os : w'.os = w.os
  tape : w'.tape = w.tape
  output : w'.output = w.output
  size : w.heap.size ≤ w'.heap.size
  block : ∀ k, k < w.heap.size → k ∉ M → w'.heap[k]? = w.heap[k]?
theorem Ev.refl (M : List Nat) (w : World) : Ev M w w := ⟨rfl, rfl, rfl, Nat.le_refl _, fun _ _ _ => rfl⟩
theorem Ev.trans {M : List Nat} {a b c : World} (h : Ev M a b) (k : Ev M b c) : Ev M a c :=
  ⟨k.os.trans h.os, k.tape.trans h.tape, k.output.trans h.output, Nat.le_trans h.size k.size,
    fun i hi hm => (k.block i (Nat.lt_of_lt_of_le hi h.size) hm).trans (h.block i hi hm)⟩
abbrev Fr := Nat → Value
def put (fr : Fr) (d : Nat) (v : Value) : Fr := fun i => cond (Nat.beq i d) v (fr i)
def puto (fr : Fr) (d : Option Tmp) (v : Value) : Fr := match d with | some d => put fr d v | none => fr
def ofL : List (Nat × Value) → Fr → Fr
  | [], J => J
  | (k, v) :: l, J => fun i => cond (Nat.beq i k) v (ofL l J i)
def agree : List (Nat × Value) → Fr → Prop
  | [], _ => True
  | (k, v) :: l, fr => fr k = v ∧ agree l fr
theorem agree_ofL : ∀ (l : List (Nat × Value)) (fr : Fr), agree l fr → fr = ofL l fr
  | [], _, _ => rfl
  | (k, v) :: l, fr, h => by
    funext i
    have ih := agree_ofL l fr h.2
    by_cases hk : i = k
    · subst hk; simp [ofL, h.1]
    · have : Nat.beq i k = false := by cases hb : Nat.beq i k with | false => rfl | true => exact absurd (Nat.eq_of_beq_eq_true hb) hk
      simp only [ofL, this, cond_false]
      exact congrFun ih i
def ev (fr : Fr) : Operand → Value
  | .tmp t => fr t
  | .const v => v
  | .global g => .pointer (some ⟨g, 0, none⟩)
  | .func f => .func (.func f) #[] #[]
structure Rel (n : Nat) (a : Act) (fr : Fr) : Prop where
  defers : a.defers = []
  size : a.tmps.size = n
  at_ : ∀ i, a.tmps.getD i undef = fr i
theorem Rel.eval {n : Nat} {a : Act} {fr : Fr} (h : Rel n a fr) : a.eval = ev fr := by
  funext x
  cases x <;> simp only [Act.eval, ev]
  exact h.at_ _
theorem Rel.put {n : Nat} {a : Act} {fr : Fr} (h : Rel n a fr) {d : Option Tmp} (hd : ∀ t, d = some t → t < n) (v : Value) : Rel n (a.put d v) (puto fr d v) := by
  cases d with
  | none => exact h
  | some t =>
    have ht := hd t rfl
    refine ⟨h.defers, by simp [Act.put, h.size], fun i => ?_⟩
    simp only [Act.put, puto, V.put]
    by_cases hi : i = t
    · subst hi
      simp [h.size, ht]
    · have : Nat.beq i t = false := by cases hb : Nat.beq i t with | false => rfl | true => exact absurd (Nat.eq_of_beq_eq_true hb) hi
      simp only [this, cond_false]
      rw [← h.at_ i]
      simp [Array.getElem?_setIfInBounds_ne (Ne.symm hi)]
def vcBin (P : Program) (op : BinOp) (t : TypeId) (xo yo : Operand) (x y : Value) (K : Value → Prop) : Prop :=
  match x, y with
  | .int k a, .int k' b =>
    match op with
    | .shl => 0 ≤ b ∧ K (.int k (k.wrap (a * 2 ^ (min b.toNat k.bits))))
    | .shr => 0 ≤ b ∧ K (.int k (a.fdiv (2 ^ (min b.toNat k.bits))))
    | op => if k = k' then
      match op with
      | .add => K (.int k (k.wrap (a + b)))
      | .sub => K (.int k (k.wrap (a - b)))
      | .mul => K (.int k (k.wrap (a * b)))
      | .quo => b ≠ 0 ∧ K (.int k (k.wrap (a.tdiv b)))
      | .rem => b ≠ 0 ∧ K (.int k (a.tmod b))
      | .and => K (.int k (k.wrap (BitVec.ofInt k.bits a &&& BitVec.ofInt k.bits b).toNat))
      | .or => K (.int k (k.wrap (BitVec.ofInt k.bits a ||| BitVec.ofInt k.bits b).toNat))
      | .xor => K (.int k (k.wrap (BitVec.ofInt k.bits a ^^^ BitVec.ofInt k.bits b).toNat))
      | .andNot => K (.int k (k.wrap (BitVec.ofInt k.bits a &&& ~~~ (BitVec.ofInt k.bits b)).toNat))
      | .eql => K (.bool (a == b))
      | .neq => K (.bool (a != b))
      | .lss => K (.bool (decide (a < b)))
      | .leq => K (.bool (decide (a ≤ b)))
      | .gtr => K (.bool (decide (a > b)))
      | .geq => K (.bool (decide (a ≥ b)))
      | _ => False
      else False
  | _, _ => ∃ v, (∀ w, (do eqGuard op t xo yo x y; binOp op t x y : Sem Value).run P w = .ok v w) ∧ K v
theorem run_bind {α β : Type} {P : Program} (s : Sem α) (f : α → Sem β) (w : World) :
    (s >>= f).run P w = match s.run P w with | .ok a w' => (f a).run P w' | .halt h w' => .halt h w' := by
  rw [Sem.run_bind]
  cases s.run P w <;> rfl
theorem binOp_int {P : Program} (op : BinOp) (t : TypeId) (k : IntKind) (a b : Int) (h : op ≠ .shl ∧ op ≠ .shr) (w : World) :
    (binOp op t (.int k a) (.int k b)).run P w = (match op with
    | .add | .sub | .mul => Op.intArith op k a b
    | .quo | .rem => Op.intDiv op k a b
    | .and | .or | .xor | .andNot => Op.intBits op k a b
    | _ => Op.intCmp op a b).run P w := by
  cases op <;> first | (exact absurd rfl h.1) | (exact absurd rfl h.2) | (simp only [binOp]; rw [if_neg (by simp)])
theorem vcBin_sound {P : Program} {op : BinOp} {t : TypeId} {xo yo : Operand} {x y : Value} {K : Value → Prop} (h : vcBin P op t xo yo x y K) :
    ∃ v, (∀ w, (do eqGuard op t xo yo x y; binOp op t x y : Sem Value).run P w = .ok v w) ∧ K v := by
  unfold vcBin at h
  split at h
  · rename_i k a k' b
    have hg : ∀ w, (do eqGuard op t xo yo (.int k a) (.int k' b); binOp op t (.int k a) (.int k' b) : Sem Value).run P w = (binOp op t (.int k a) (.int k' b)).run P w := by
      intro w
      cases op <;> rfl
    split at h
    · exact ⟨_, fun w => by rw [hg]; simp only [binOp, Op.shift, if_neg (show ¬ b < 0 by omega)]; rfl, h.2⟩
    · exact ⟨_, fun w => by rw [hg]; simp only [binOp, Op.shift, if_neg (show ¬ b < 0 by omega)]; rfl, h.2⟩
    · rename_i hshl hshr
      split at h
      · rename_i hk
        subst hk
        have hg2 := fun w => (hg w).trans (binOp_int (P := P) op t k a b ⟨hshl, hshr⟩ w)
        clear hg hshl hshr
        cases op <;> simp only at h hg2 <;> first
          | exact h.elim
          | exact ⟨_, fun w => by rw [hg2]; rfl, h⟩
          | exact ⟨_, fun w => by rw [hg2, Op.intDiv, if_neg h.1]; rfl, h.2⟩
      · exact h.elim
  · exact h
def Reads (P : Program) (M : List Nat) (s : Sem Value) (w : World) (v : Value) : Prop := ∀ w', Ev M w w' → s.run P w' = .ok v w'
def isQuiet : Op → Bool
  | .move _ | .assign _ | .pick .. | .extract .. | .binOp .. | .unOp .. | .nilCheck _ | .load .. | .fieldAddr .. | .field .. | .indexAddr .. | .index .. | .slice .. | .build .. | .makeFunc .. | .lookup .. => true
  | .call c => match c.callee with
    | .builtin .len | .builtin .cap | .builtin .min | .builtin .max => true
    | _ => false
  | _ => false
def force (v : Value) (K : Value → Prop) : Prop :=
  match v with
  | .bool b => K (.bool b)
  | .int k n => K (.int k n)
  | .float k b => K (.float k b)
  | .complex k a b => K (.complex k a b)
  | .string s => K (.string s)
  | .pointer a => K (.pointer a)
  | .slice a l c => K (.slice a l c)
  | .map r => K (.map r)
  | .chan r => K (.chan r)
  | .func f a b => K (.func f a b)
  | .nilFunc => K .nilFunc
  | .iface t v => K (.iface t v)
  | .nilIface => K .nilIface
  | .agg cs => K (.agg cs)
  | .tuple vs => K (.tuple vs)
theorem force_eq (v : Value) (K : Value → Prop) : force v K = K v := by cases v <;> rfl
def evs (fr : Fr) : List Operand → (List Value → Prop) → Prop
  | [], K => K []
  | x :: l, K => force (ev fr x) fun v => evs fr l fun vs => K (v :: vs)
theorem evs_eq (fr : Fr) : ∀ (l : List Operand) (K : List Value → Prop), evs fr l K = K (l.map (ev fr))
  | [], K => rfl
  | x :: l, K => by simp only [evs, force_eq, evs_eq fr l, List.map_cons]
def evp (fr : Fr) : List (Nat × Operand) → (List (Nat × Value) → Prop) → Prop
  | [], K => K []
  | (i, x) :: l, K => force (ev fr x) fun v => evp fr l fun vs => K ((i, v) :: vs)
theorem evp_eq (fr : Fr) : ∀ (l : List (Nat × Operand)) (K : List (Nat × Value) → Prop), evp fr l K = K (l.map fun (i, x) => (i, ev fr x))
  | [], K => rfl
  | (i, x) :: l, K => by simp only [evp, force_eq, evp_eq fr l, List.map_cons]
def Alw (P : Program) (s : Sem Value) (v : Value) : Prop := ∀ w : World, s.run P w = .ok v w
def vcQ (P : Program) (M : List Nat) (o : Oper) (K : Value → Prop) (fr : Fr) (w : World) : Prop :=
  match o.op with
  | .move x => force (ev fr x) K
  | .assign x => force (ev fr x) K
  | .pick c a b => match ev fr c with
    | .bool g => match g with | true => force (ev fr a) K | false => force (ev fr b) K
    | _ => False
  | .extract x i => match ev fr x with
    | .tuple vs => match vs[i]? with | some v => force v K | none => False
    | _ => False
  | .binOp op t x y _ => vcBin P op t x y (ev fr x) (ev fr y) K
  | .unOp op _ x => match op, ev fr x with
    | .not, .bool b => K (.bool (!b))
    | .neg, .int k n => K (.int k (k.wrap (0 - n)))
    | op, x => ∃ v, (∀ w, (Op.unary op x).run P w = .ok v w) ∧ K v
  | .nilCheck x => match ev fr x with
    | .pointer (some a) => K (.pointer (some a))
    | .func (.func f) c d => K (.func (.func f) c d)
    | _ => False
  | .load t a => force (ev fr a) fun a => ∃ v, Reads P M (Instr.loadAt t a) w v ∧ K v
  | .fieldAddr s x f => force (ev fr x) fun x => ∃ v, Alw P (Instr.fieldAt s x f) v ∧ K v
  | .field s x f => force (ev fr x) fun x => ∃ v, Reads P M (Instr.field s x f) w v ∧ K v
  | .indexAddr t x i => force (ev fr x) fun x => force (ev fr i) fun i => ∃ v, Reads P M (Instr.indexAt t x i) w v ∧ K v
  | .index t x i => force (ev fr x) fun x => force (ev fr i) fun i => ∃ v, Reads P M (Instr.index t x i) w v ∧ K v
  | .lookup t x i ok => force (ev fr x) fun x => force (ev fr i) fun i => ∃ v, Reads P M (Instr.lookup t x i ok) w v ∧ K v
  | .slice t x l h m => force (ev fr x) fun x => ∃ v, Reads P M (Instr.sliceAt t x (l.map (ev fr)) (h.map (ev fr)) (m.map (ev fr))) w v ∧ K v
  | .build t parts => evp fr parts.toList fun ps => ∃ v, Reads P M (Instr.build t ps.toArray) w v ∧ K v
  | .makeFunc f a b => evs fr a.toList fun a => evs fr b.toList fun b => K (.func f a.toArray b.toArray)
  | .call c => match c.callee with
    | .builtin .len => evs fr c.args.toList fun vs => ∃ v, Reads P M (Builtin.len_ c.argTypes o.type vs.toArray) w v ∧ K v
    | .builtin .cap => evs fr c.args.toList fun vs => ∃ v, Reads P M (Builtin.cap_ c.argTypes o.type vs.toArray) w v ∧ K v
    | .builtin .min => evs fr c.args.toList fun vs => ∃ v, Reads P M (Builtin.min_ c.argTypes o.type vs.toArray) w v ∧ K v
    | .builtin .max => evs fr c.args.toList fun vs => ∃ v, Reads P M (Builtin.max_ c.argTypes o.type vs.toArray) w v ∧ K v
    | _ => False
  | _ => False
theorem map_toList' (xs : Array Operand) (f : Operand → Value) : (xs.toList.map f).toArray = xs.map f := by rw [← Array.toList_map]
theorem map_toList2' (xs : Array (Nat × Operand)) (f : Operand → Value) : (xs.toList.map fun (i, x) => (i, f x)).toArray = xs.map fun (i, x) => (i, f x) := by rw [← Array.toList_map]
theorem run_value {P : Program} (s : Sem Value) (v : Value) (w w' : World) (h : s.run P w = .ok v w') :
    ((do pure (.value (← s)) : Sem Next)).run P w = .ok (.value v) w' := by
  rw [run_bind, h]; rfl
theorem vcQ_sound {P : Program} {M : List Nat} {o : Oper} {K : Value → Prop} {fr : Fr} {w : World} (h : vcQ P M o K fr w) :
    ∃ v, (∀ w', Ev M w w' → (execOp (ev fr) o).run P w' = .ok (.value v) w') ∧ K v := by
  obtain ⟨dst, op, ty, pos, after, guard⟩ := o
  have rd : ∀ (s : Sem Value) (K : Value → Prop), (∃ v, Reads P M s w v ∧ K v) → ∃ v, (∀ w', Ev M w w' → ((do pure (.value (← s)) : Sem Next)).run P w' = .ok (.value v) w') ∧ K v :=
    fun s K ⟨v, h1, h2⟩ => ⟨v, fun w' he => run_value s v w' w' (h1 w' he), h2⟩
  cases op <;> simp only [vcQ, force_eq, evs_eq, evp_eq, map_toList', map_toList2'] at h
  case move x => exact ⟨_, fun _ _ => rfl, h⟩
  case assign x => exact ⟨_, fun _ _ => rfl, h⟩
  case pick c a b =>
    split at h
    · rename_i g hg
      cases g with
      | true => exact ⟨_, fun w' _ => by simp only [execOp, hg]; rfl, h⟩
      | false => exact ⟨_, fun w' _ => by simp only [execOp, hg]; rfl, h⟩
    · exact h.elim
  case extract x i =>
    split at h
    · rename_i vs hv
      split at h
      · rename_i v hvi
        exact ⟨v, fun w' _ => by simp only [execOp, hv]; exact run_value _ _ _ _ (by simp [Instr.extract, hvi]), h⟩
      · exact h.elim
    · exact h.elim
  case binOp op t x y yt =>
    obtain ⟨v, h1, h2⟩ := vcBin_sound h
    exact ⟨v, fun w' _ => run_value _ v w' w' (h1 w'), h2⟩
  case unOp op t x =>
    split at h
    · rename_i b hb
      exact ⟨_, fun w' _ => by simp only [execOp, hb]; rfl, h⟩
    · rename_i k n hb
      exact ⟨_, fun w' _ => by simp only [execOp, hb]; rfl, h⟩
    · obtain ⟨v, h1, h2⟩ := h
      exact ⟨v, fun w' _ => run_value _ v w' w' (h1 w'), h2⟩
  case nilCheck x =>
    split at h
    · rename_i a ha
      exact ⟨_, fun w' _ => by simp only [execOp, ha]; rfl, h⟩
    · rename_i f c d ha
      exact ⟨_, fun w' _ => by simp only [execOp, ha]; rfl, h⟩
    · exact h.elim
  case load t a => exact rd _ _ h
  case fieldAddr s x f => exact let ⟨v, h1, h2⟩ := h; ⟨v, fun w' _ => run_value _ v w' w' (h1 w'), h2⟩
  case field s x f => exact rd _ _ h
  case indexAddr t x i => exact rd _ _ h
  case index t x i => exact rd _ _ h
  case lookup t x i ok => exact rd _ _ h
  case slice t x l hh m => exact rd _ _ h
  case build t parts => exact rd _ _ h
  case makeFunc f a b => exact ⟨_, fun w' _ => rfl, h⟩
  case call c =>
    obtain ⟨callee, args, argTypes⟩ := c
    have bi : ∀ (b : Builtin) (s : Sem Value) (cs : Array Bool), builtin b argTypes ty cs (args.map (ev fr)) = (do pure (.value (← s)) : Sem Next) → (∃ v, Reads P M s w v ∧ K v) →
        ∃ v, (∀ w', Ev M w w' → (do let d ← (pure { target := .builtin b argTypes ty cs, args := args.map (ev fr) } : Sem Deferred); invoke d.target d.args : Sem Next).run P w' = .ok (.value v) w') ∧ K v := by
      intro b s cs hs ⟨v, h1, h2⟩
      refine ⟨v, fun w' he => ?_, h2⟩
      rw [run_bind]
      simp only [Sem.run_pure, invoke, hs]
      exact run_value s v w' w' (h1 w' he)
    simp only at h
    split at h
    · exact bi .len _ _ rfl h
    · exact bi .cap _ _ rfl h
    · exact bi .min _ _ rfl h
    · exact bi .max _ _ rfl h
    · exact h.elim
  all_goals exact h.elim
def isPureO : Op → Bool
  | .move _ | .assign _ | .pick .. | .extract .. | .binOp .. | .unOp .. | .nilCheck _ | .makeFunc .. | .fieldAddr .. => true
  | _ => false
theorem vcQ_pure {P : Program} {M : List Nat} {o : Oper} {K : Value → Prop} {fr : Fr} {w : World} (hp : isPureO o.op = true) (h : vcQ P M o K fr w) :
    ∃ v, (∀ w', (execOp (ev fr) o).run P w' = .ok (.value v) w') ∧ K v := by
  obtain ⟨dst, op, ty, pos, after, guard⟩ := o
  cases op <;> first | (cases hp; done) | skip
  all_goals simp only [vcQ, force_eq, evs_eq, evp_eq, map_toList', map_toList2'] at h
  case move x => exact ⟨_, fun _ => rfl, h⟩
  case assign x => exact ⟨_, fun _ => rfl, h⟩
  case pick c a b =>
    split at h
    · rename_i g hg
      cases g with
      | true => exact ⟨_, fun w' => by simp only [execOp, hg]; rfl, h⟩
      | false => exact ⟨_, fun w' => by simp only [execOp, hg]; rfl, h⟩
    · exact h.elim
  case extract x i =>
    split at h
    · rename_i vs hv
      split at h
      · rename_i v hvi
        exact ⟨v, fun w' => by simp only [execOp, hv]; exact run_value _ _ _ _ (by simp [Instr.extract, hvi]), h⟩
      · exact h.elim
    · exact h.elim
  case binOp op t x y yt =>
    obtain ⟨v, h1, h2⟩ := vcBin_sound h
    exact ⟨v, fun w' => run_value _ v w' w' (h1 w'), h2⟩
  case unOp op t x =>
    split at h
    · rename_i b hb
      exact ⟨_, fun w' => by simp only [execOp, hb]; rfl, h⟩
    · rename_i k n hb
      exact ⟨_, fun w' => by simp only [execOp, hb]; rfl, h⟩
    · obtain ⟨v, h1, h2⟩ := h
      exact ⟨v, fun w' => run_value _ v w' w' (h1 w'), h2⟩
  case nilCheck x =>
    split at h
    · rename_i a ha
      exact ⟨_, fun w' => by simp only [execOp, ha]; rfl, h⟩
    · rename_i f c d ha
      exact ⟨_, fun w' => by simp only [execOp, ha]; rfl, h⟩
    · exact h.elim
  case makeFunc f a b => exact ⟨_, fun w' => rfl, h⟩
  case fieldAddr s x f => exact let ⟨v, h1, h2⟩ := h; ⟨v, fun w' => run_value _ v w' w' (h1 w'), h2⟩
structure CallVC (P : Program) (f : FuncId) (args : List Value) (w : World) (K : Value → World → Prop) : Prop where
  run : Calls P f args.toArray w fun e w' => ∃ v, e = .returned v ∧ K v w'
  callee : ∃ fn, P.funcs[f]? = some fn ∧ (fn.name == "runtime.NumGoroutine") = false ∧ fn.body.isNone = false
theorem CallVC.mono {P : Program} {f : FuncId} {args : List Value} {w : World} {K K' : Value → World → Prop} (h : CallVC P f args w K) (hk : ∀ v w', K v w' → K' v w') : CallVC P f args w K' :=
  ⟨h.run.mono fun _ _ ⟨v, he, hv⟩ => ⟨v, he, hk _ _ hv⟩, h.callee⟩
def BoxVC (cs : Array Value) (t : TypeId) (w : World) (K : Nat → World → Prop) : Prop :=
  ∀ b w', b = w.heap.size → w'.heap[b]? = some (.cells cs t (0, 0)) → Ev [] w w' → w'.heap.size = b + 1 → K b w'
theorem heap_push_new (w : World) (o : Obj) : (w.alloc o).heap[w.heap.size]? = some o := heap_alloc_new w o
theorem heap_push_size (w : World) (o : Obj) : (w.alloc o).heap.size = w.heap.size + 1 := by
  show (w.heap.push o).size = _
  rw [Array.size_push]
theorem Ev.alloc (w : World) (o : Obj) : Ev [] w (w.alloc o) :=
  ⟨rfl, rfl, rfl, by rw [heap_push_size]; omega, fun k hk _ => heap_alloc_old w o k hk⟩
theorem BoxVC.at {cs : Array Value} {t : TypeId} {w : World} {K : Nat → World → Prop} (h : BoxVC cs t w K) : K w.heap.size (w.alloc (.cells cs t (0, 0))) :=
  h _ _ rfl (heap_push_new _ _) (Ev.alloc _ _) (heap_push_size _ _)
def vcL (P : Program) (o : Oper) (K : Value → World → Prop) (fr : Fr) (w : World) : Prop :=
  match o.op with
  | .call c => match c.callee with
    | .value f => match ev fr f with
      | .func fn first cap => match fn with
        | .func g => evs fr c.args.toList fun vs => CallVC P g (first.toList ++ vs ++ cap.toList) w K
        | _ => False
      | _ => False
    | .builtin b => evs fr c.args.toList fun vs => ∃ v w', (builtin b c.argTypes o.type (c.args.map fun | .const _ => true | _ => false) vs.toArray).run P w = .ok (.value v) w' ∧ K v w'
    | _ => False
  | .box t x => force (ev fr x) fun v => BoxVC v.cells t w fun b w' => K (.pointer (some ⟨b, 0, none⟩)) w'
  | .alloc t => ∃ z, (zeroValue t).run P w = .ok z w ∧ BoxVC z.cells t w fun b w' => K (.pointer (some ⟨b, 0, none⟩)) w'
  | .buildSlice t n parts => evp fr parts.toList fun ps => ∃ cs e, (Instr.buildSlice t n ps.toArray).run P w = .ok (.slice (some ⟨w.heap.size, 0, none⟩) n n) (w.alloc (.cells cs e (0, 0))) ∧
      BoxVC cs e w fun b w' => K (.slice (some ⟨b, 0, none⟩) n n) w'
  | .makeSlice t l c => force (ev fr l) fun l => force (ev fr c) fun c => ∃ v w', (Instr.makeSlice t l c).run P w = .ok v w' ∧ K v w'
  | .store t a x => force (ev fr a) fun a => force (ev fr x) fun x => ∃ w', (Instr.storeAt t a x).run P w = .ok () w' ∧ K undef w'
  | .convert s d x => force (ev fr x) fun x => ∃ v w', (convert s d x).run P w = .ok v w' ∧ K v w'
  | .makeMap t r => (Instr.makeMap t (r.map (ev fr))).run P w = .ok (.map (some w.heap.size)) (w.alloc (.map #[] 0)) ∧ ∀ b w', b = w.heap.size → w'.heap[b]? = some (.map #[] 0) → Ev [] w w' → w'.heap.size = b + 1 → K (.map (some b)) w'
  | .mapUpdate t m k x => force (ev fr m) fun m => force (ev fr k) fun k => force (ev fr x) fun x => ∃ w', (Instr.mapUpdate t m k x).run P w = .ok () w' ∧ K undef w'
  | .insert t m k x => force (ev fr m) fun m => force (ev fr k) fun k => force (ev fr x) fun x => ∃ w', (Instr.mapUpdate t m k x).run P w = .ok () w' ∧ K undef w'
  | _ => False
theorem callFunc_run {P : Program} {f : FuncId} {fn : Func} (args : Array Value) (w : World) (h : P.funcs[f]? = some fn) (h1 : (fn.name == "runtime.NumGoroutine") = false) (h2 : fn.body.isNone = false) :
    (callFunc f args).run P w = .ok (.enter f args) w := by
  unfold callFunc
  rw [run_bind]
  have hp : Sem.run P program w = .ok P w := rfl
  simp only [hp, h, h1, h2, Bool.false_eq_true, if_false]
  rfl
theorem vcL_sound {P : Program} {o : Oper} {K : Value → World → Prop} {fr : Fr} {w : World} {a : Act} (ha : a.eval = ev fr) (h : vcL P o K fr w)
    {N : Act → World → Prop} {Q : Exit → Act → World → Prop} (hN : ∀ v w', K v w' → N (a.put o.dst v) w') : o.wp P a w N Q := by
  obtain ⟨dst, op, ty, pos, after, guard⟩ := o
  unfold Oper.wp
  rw [ha]
  have val : ∀ (s : Sem Value) (v : Value) (w' : World), s.run P w = .ok v w' → K v w' → Oper.upon P ⟨dst, op, ty, pos, after, guard⟩ a N Q ((do pure (.value (← s)) : Sem Next).run P w) := by
    intro s v w' h1 h2
    rw [run_value s v w w' h1]
    exact hN _ _ h2
  cases op <;> simp only [vcL, force_eq, evs_eq, evp_eq, map_toList', map_toList2'] at h
  case box t x =>
    refine val (Instr.box t (ev fr x)) _ _ ?_ h.at
    simp only [Instr.box, newVar, newRow]
    rfl
  case alloc t =>
    obtain ⟨z, h1, h2⟩ := h
    refine val (Instr.alloc t true (.tuple #[])) _ _ ?_ h2.at
    simp only [Instr.alloc]
    rw [run_bind, h1]
    rfl
  case buildSlice t n parts =>
    obtain ⟨cs, e, h1, h2⟩ := h
    exact val _ _ _ h1 h2.at
  case makeSlice t l c =>
    obtain ⟨v, w', h1, h2⟩ := h
    exact val _ _ _ h1 h2
  case store t p x =>
    obtain ⟨w', h1, h2⟩ := h
    have : ((do Instr.storeAt t (ev fr p) (ev fr x); pure .skip : Sem Next)).run P w = .ok .skip w' := by rw [run_bind, h1]; rfl
    show Oper.upon P _ a N Q ((do Instr.storeAt t (ev fr p) (ev fr x); pure .skip : Sem Next).run P w)
    rw [this]
    exact hN _ _ h2
  case convert s d x =>
    obtain ⟨v, w', h1, h2⟩ := h
    exact val _ _ _ h1 h2
  case makeMap t r =>
    exact val _ _ _ h.1 (h.2 _ _ rfl (heap_push_new _ _) (Ev.alloc _ _) (heap_push_size _ _))
  case mapUpdate t m k x =>
    obtain ⟨w', h1, h2⟩ := h
    have : ((do Instr.mapUpdate t (ev fr m) (ev fr k) (ev fr x); pure .skip : Sem Next)).run P w = .ok .skip w' := by rw [run_bind, h1]; rfl
    show Oper.upon P _ a N Q ((do Instr.mapUpdate t (ev fr m) (ev fr k) (ev fr x); pure .skip : Sem Next).run P w)
    rw [this]
    exact hN _ _ h2
  case insert t m k x =>
    obtain ⟨w', h1, h2⟩ := h
    have : ((do Instr.mapUpdate t (ev fr m) (ev fr k) (ev fr x); pure .skip : Sem Next)).run P w = .ok .skip w' := by rw [run_bind, h1]; rfl
    show Oper.upon P _ a N Q ((do Instr.mapUpdate t (ev fr m) (ev fr k) (ev fr x); pure .skip : Sem Next).run P w)
    rw [this]
    exact hN _ _ h2
  case call c =>
    obtain ⟨callee, args, argTypes⟩ := c
    simp only at h
    split at h
    · rename_i f
      split at h
      · rename_i fn first cap hf
        split at h
        · rename_i g
          obtain ⟨hrun, fn, hfn, h1, h2⟩ := h
          have : (execOp (ev fr) ⟨dst, .call ⟨.value f, args, argTypes⟩, ty, pos, after, guard⟩).run P w = .ok (.enter g (first.toList ++ args.toList.map (ev fr) ++ cap.toList).toArray) w := by
            rw [show (first.toList ++ args.toList.map (ev fr) ++ cap.toList).toArray = first ++ args.map (ev fr) ++ cap by simp]
            simp only [execOp, resolve, hf, Deferred.ofValue]
            rw [run_bind]
            simp only [Sem.run_pure, invoke]
            exact callFunc_run _ _ hfn h1 h2
          rw [this]
          refine Calls.mono hrun fun e w' ⟨v, he, hk⟩ => ?_
          subst he
          exact hN _ _ hk
        · exact h.elim
      · exact h.elim
    · rename_i b
      obtain ⟨v, w', h1, h2⟩ := h
      have : (execOp (ev fr) ⟨dst, .call ⟨.builtin b, args, argTypes⟩, ty, pos, after, guard⟩).run P w = .ok (.value v) w' := by
        simp only [execOp, resolve]
        rw [run_bind]
        simp only [Sem.run_pure, invoke]
        exact h1
      rw [this]
      exact hN _ _ h2
    · exact h.elim
  all_goals exact h.elim
def vcG (all : List Oper) (o : Oper) (fr : Fr) (A B : Fr → Prop) : Prop :=
  match o.guard with
  | none => A fr
  | some (j, want) => match (all[j]?).bind (·.dst) with
    | some d => match fr d with
      | .bool b => (b = want → A (put fr d (.bool want))) ∧ (b = (!want) → B (put fr d (.bool (!want))))
      | _ => B fr
    | none => B fr
theorem put_self (fr : Fr) (d : Nat) (v : Value) (h : fr d = v) : put fr d v = fr := by
  funext i
  unfold put
  cases hb : Nat.beq i d with
  | false => rfl
  | true => have := Nat.eq_of_beq_eq_true hb; subst this; exact h.symm
theorem yielded_rel {n : Nat} {a : Act} {fr : Fr} (h : Rel n a fr) (all : List Oper) (j : Nat) :
    yielded all.toArray a.tmps j = match (all[j]?).bind (·.dst) with
      | some d => (match fr d with | .bool b => some b | _ => none)
      | none => none := by
  unfold yielded
  simp only [List.getElem?_toArray]
  cases hd : (all[j]?).bind (·.dst) with
  | none => rfl
  | some d =>
    simp only [Option.bind_some]
    have := h.at_ d
    cases ht : a.tmps[d]? with
    | none =>
      have e : fr d = undef := by rw [← this]; simp [ht]
      simp only [e, undef]
    | some v =>
      have e : fr d = v := by rw [← this]; simp [ht]
      simp only [e]
      cases v <;> rfl
theorem vcG_sound {n : Nat} {a : Act} {fr : Fr} (hr : Rel n a fr) {all : List Oper} {o : Oper} {A B : Fr → Prop} (h : vcG all o fr A B) :
    (Region.wanted o (yielded all.toArray a.tmps) = true → A fr) ∧ (Region.wanted o (yielded all.toArray a.tmps) = false → B fr) := by
  unfold vcG at h
  unfold Region.wanted
  split at h
  · rename_i hg
    rw [hg]
    exact ⟨fun _ => h, fun h => by cases h⟩
  · rename_i j want hg
    rw [hg]
    simp only [yielded_rel hr]
    split at h
    · rename_i d hd
      split at h
      · rename_i b hb
        obtain ⟨h1, h2⟩ := h
        by_cases hw : b = want
        · subst hw
          rw [put_self fr d _ hb] at h1
          exact ⟨fun _ => h1 rfl, fun h => by simp at h⟩
        · have hw' : b = !want := by cases b <;> cases want <;> simp_all
          have h3 := h2 hw'
          rw [put_self fr d _ (by rw [hb, hw'])] at h3
          exact ⟨fun h => by simp at h; exact absurd h hw, fun _ => h3⟩
      · exact ⟨fun h => by simp at h, fun _ => h⟩
    · exact ⟨fun h => by simp at h, fun _ => h⟩
def vcS (P : Program) (o : Oper) (K : Value → World → Prop) (fr : Fr) (w : World) : Prop :=
  match isQuiet o.op with
  | true => vcQ P [] o (fun v => K v w) fr w
  | false => vcL P o K fr w
theorem vcS_sound {P : Program} {o : Oper} {K : Value → World → Prop} {fr : Fr} {w : World} {a : Act} (ha : a.eval = ev fr) (h : vcS P o K fr w)
    {N : Act → World → Prop} {Q : Exit → Act → World → Prop} (hN : ∀ v w', K v w' → N (a.put o.dst v) w') : o.wp P a w N Q := by
  unfold vcS at h
  split at h
  · obtain ⟨v, h1, h2⟩ := vcQ_sound h
    unfold Oper.wp
    rw [ha, h1 w (Ev.refl _ _)]
    exact hN _ _ h2
  · exact vcL_sound ha h hN
def vcOps (P : Program) (all : List Oper) (Q : Fr → World → Prop) : List Oper → Fr → World → Prop
  | [], fr, w => Q fr w
  | o :: rest, fr, w => vcG all o fr (fun fr => vcS P o (fun v w' => vcOps P all Q rest (puto fr o.dst v) w') fr w) (fun fr => vcOps P all Q rest (puto fr o.dst undef) w)
def dstOk (n : Nat) (l : List Oper) : Bool := l.all fun o => match o.dst with | some d => Nat.blt d n | none => true
theorem dstOk_spec {n : Nat} {l : List Oper} (h : dstOk n l = true) {o : Oper} (ho : o ∈ l) {t : Tmp} (ht : o.dst = some t) : t < n := by
  have := List.all_eq_true.1 h o ho
  simp only [ht] at this
  exact Nat.le_of_ble_eq_true this
theorem vcOps_sound {P : Program} {n : Nat} {all : List Oper} {Q : Fr → World → Prop} {QA : Exit → Act → World → Prop} (hQ : ∀ a fr w, Rel n a fr → Q fr w → QA .normal a w) :
    ∀ (l : List Oper), dstOk n l = true → ∀ (a : Act) (fr : Fr) (w : World), Rel n a fr → vcOps P all Q l fr w → wpList P all.toArray QA l a w
  | [], _, a, fr, w, hr, h => hQ a fr w hr h
  | o :: l, hd, a, fr, w, hr, h => by
    have hdl : dstOk n l = true := by simp only [dstOk, List.all_cons, Bool.and_eq_true] at hd ⊢; exact hd.2
    have ih := vcOps_sound (P := P) (all := all) hQ l hdl
    have hdo : ∀ t, o.dst = some t → t < n := fun t ht => dstOk_spec hd List.mem_cons_self ht
    unfold vcOps at h
    obtain ⟨h1, h2⟩ := vcG_sound hr h
    unfold wpList
    split
    · rename_i hw
      refine .inl (vcS_sound hr.eval (h1 hw) fun v w' hk => ?_)
      exact ih _ _ _ (hr.put hdo v) hk
    · rename_i hw
      exact ih _ _ _ (hr.put hdo undef) (h2 (by simpa using hw))
section
variable {P : Program} {ops : Array Oper} {al : Nat → Bool} {M : List Nat}
def xOp (P : Program) (ops : Array Oper) (al : Nat → Bool) (M : List Nat) (i : Nat) (K : Act → World → Prop) (a : Act) (w : World) : Prop :=
  match ops[i]? with
  | none => K a w
  | some o => if Region.wanted o (yielded ops a.tmps) then o.wp P a w (fun a' w' => ((al i = true ∨ Ev M w w') ∧ (isQuiet o.op = true → Ev [] w w')) ∧ K a' w') (fun _ _ _ => False) else K (a.put o.dst undef) w
theorem xOp_mono {i : Nat} {a : Act} {w : World} {K K' : Act → World → Prop} (h : ∀ a w, K a w → K' a w) (hh : xOp P ops al M i K a w) : xOp P ops al M i K' a w := by
  unfold xOp at *
  split
  · exact h _ _ (by simpa [*] using hh)
  · rename_i o ho
    simp only [ho] at hh
    split
    · rename_i hw; simp only [hw, if_true] at hh; exact Oper.wp_mono (fun a w ⟨h1, h2⟩ => ⟨h1, h _ _ h2⟩) hh
    · rename_i hw; simp only [hw] at hh; exact h _ _ hh
def wpX (P : Program) (ops : Array Oper) (al : Nat → Bool) (M : List Nat) (Q : Act → World → Prop) : Nat → Array Bool → Act → World → Prop
  | 0, listed, a, w => Region.ready .any ops listed = [] ∧ Q a w
  | fuel + 1, listed, a, w =>
    (Region.ready .any ops listed = [] → Q a w) ∧
    ∀ i ∈ Region.ready .any ops listed, xOp P ops al M i (wpX P ops al M Q fuel (listed.setIfInBounds i true)) a w
theorem Oper.wp_mono2 {o : Oper} {a : Act} {w : World} {K K' : Act → World → Prop} {Q : Exit → Act → World → Prop} (h : ∀ a w, K a w → K' a w)
    (hh : o.wp P a w K (fun _ _ _ => False)) : o.wp P a w K' Q := by
  unfold Oper.wp at *
  generalize (execOp a.eval o).run P w = r at *
  cases r with
  | ok n w' =>
    cases n <;> simp only [Oper.upon] at hh ⊢ <;>
      first
        | exact h _ _ hh
        | exact Calls.mono hh (fun e w'' he => by cases e <;> first | exact h _ _ he | exact he.elim | exact (let ⟨_, _, hf⟩ := he; hf.elim))
        | exact Rows.mono hh (fun _ _ he => h _ _ he)
  | halt x w' => cases x <;> simp only [Oper.upon] at hh ⊢
theorem wpAny_of_wpX {Q : Act → World → Prop} {QA : Exit → Act → World → Prop} (hQ : ∀ a w, Q a w → QA .normal a w) : ∀ (fuel : Nat) (listed : Array Bool) (a : Act) (w : World),
    wpX P ops al M Q fuel listed a w → wpAny P .any ops QA fuel listed a w
  | 0, _, _, _, h => ⟨h.1, hQ _ _ h.2⟩
  | fuel + 1, listed, a, w, h => by
    refine ⟨fun h0 => hQ _ _ (h.1 h0), fun i hi => ?_⟩
    have h1 := h.2 i hi
    unfold xOp at h1
    unfold wpOp
    split
    · rename_i ho; simp only [ho] at h1; exact wpAny_of_wpX hQ fuel _ _ _ h1
    · rename_i o ho
      simp only [ho] at h1
      split
      · rename_i hw
        simp only [hw, if_true] at h1
        exact .inl (Oper.wp_mono2 (fun a w ⟨_, h2⟩ => wpAny_of_wpX hQ fuel _ _ _ h2) h1)
      · rename_i hw
        simp only [hw] at h1
        exact wpAny_of_wpX hQ fuel _ _ _ h1
def YQ (P : Program) (ops : Array Oper) (R : World → World → Prop) (o : Oper) (v : Value) (a : Act) (w : World) : Prop :=
  (Region.wanted o (yielded ops a.tmps) = true ∧ ∀ w', R w w' → (execOp a.eval o).run P w' = .ok (.value v) w') ∨
  (Region.wanted o (yielded ops a.tmps) = false ∧ v = undef)
theorem YQ.later {R : World → World → Prop} (ht : ∀ a b c, R a b → R b c → R a c) {o : Oper} {v : Value} {a : Act} {w w' : World} (h : YQ P ops R o v a w) (he : R w w') : YQ P ops R o v a w' := by
  rcases h with ⟨h1, h2⟩ | h
  · exact .inl ⟨h1, fun w2 h3 => h2 w2 (ht _ _ _ he h3)⟩
  · exact .inr h
theorem YQ.same {R : World → World → Prop} {o : Oper} {v : Value} {a a' : Act} {w : World} (hy : YQ P ops R o v a w) (he : execOp a'.eval o = execOp a.eval o)
    (hw : Region.wanted o (yielded ops a'.tmps) = Region.wanted o (yielded ops a.tmps)) : YQ P ops R o v a' w := by
  unfold YQ at *
  rw [he, hw]
  exact hy
theorem YQ.xOp {R : World → World → Prop} (hR : ∀ w, R w w) {i : Nat} {o : Oper} {v : Value} {a : Act} {w : World} (hi : ops[i]? = some o) (hy : YQ P ops R o v a w) {K : Act → World → Prop} (h : K (a.put o.dst v) w) : xOp P ops al M i K a w := by
  unfold V.xOp
  simp only [hi]
  rcases hy with ⟨hw, hv⟩ | ⟨hw, rfl⟩
  · simp only [hw, if_true, Oper.wp, hv w (hR w), Oper.upon]; exact ⟨⟨.inr (Ev.refl _ _), fun _ => Ev.refl _ _⟩, h⟩
  · simp only [hw, Bool.false_eq_true, if_false]; exact h
theorem xOp_put {R : World → World → Prop} (ht : ∀ a b c, R a b → R b c → R a c) {j : Nat} {oi oj : Oper} {v : Value} (hj : ops[j]? = some oj) (hap : oi.apart ops oj = true)
    (hsi : ∀ cs b, oi.op ≠ .select cs b) (hsj : ∀ cs b, oj.op ≠ .select cs b) (hal : ∀ w w', (al j = true ∨ Ev M w w') → (isQuiet oj.op = true → Ev [] w w') → R w w') {K : Act → World → Prop} {a : Act} {w : World}
    (hy : YQ P ops R oi v a w) (h : xOp P ops al M j K (a.put oi.dst v) w) :
    xOp P ops al M j (fun a' w' => YQ P ops R oi v a' w' ∧ K (a'.put oi.dst v) w') a w := by
  obtain ⟨h1, h2, h3⟩ := Oper.apart_spec hap
  have keep : ∀ (a : Act) (w w' : World), R w w' → YQ P ops R oi v a w → ∀ u, YQ P ops R oi v (a.put oj.dst u) w' := fun a w w' he hy u =>
    (hy.later ht he).same (execOp_put oi hsi a oj.dst u h3) (wanted_put oi a oj.dst u h3)
  have ev_of : ∀ {w w' : World}, ((al j = true ∨ Ev M w w') ∧ (isQuiet oj.op = true → Ev [] w w')) → R w w' := fun h => hal _ _ h.1 h.2
  unfold xOp at *
  simp only [hj] at *
  rw [wanted_put oj a oi.dst v h1] at h
  split
  · rename_i hw
    simp only [hw, if_true] at h
    unfold Oper.wp at *
    rw [execOp_put oj hsj a oi.dst v h1] at h
    generalize (execOp a.eval oj).run P w = r at *
    cases r with
    | ok n w' =>
      cases n <;> simp only [Oper.upon] at h ⊢
      case value u => exact ⟨h.1, keep a w w' (ev_of h.1) hy u, by rw [← Act.put_comm a v u h2]; exact h.2⟩
      case skip => exact ⟨h.1, keep a w w' (ev_of h.1) hy _, by rw [← Act.put_comm a v undef h2]; exact h.2⟩
      case defer d =>
        refine ⟨h.1, ?_, ?_⟩
        · exact ((hy.same (a' := { a with defers := d :: a.defers }) rfl rfl).later ht (ev_of h.1)).same (execOp_put oi hsi _ oj.dst _ h3) (wanted_put oi _ oj.dst _ h3)
        · rw [← Act.put_comm _ v undef h2, ← Act.put_defers]
          exact h.2
      case enter f args =>
        refine Calls.mono h fun e w'' he => ?_
        cases e with
        | returned u => exact ⟨he.1, keep a w w'' (ev_of he.1) hy u, by rw [← Act.put_comm a v u h2]; exact he.2⟩
        | panicked c => exact he.elim
        | outgrown => exact (let ⟨_, _, hf⟩ := he; hf.elim)
      case row row args => exact Rows.mono h fun u w'' he => ⟨he.1, keep a w w'' (ev_of he.1) hy u, by rw [← Act.put_comm a v u h2]; exact he.2⟩
    | halt x w' => cases x <;> simp only [Oper.upon] at h ⊢
  · rename_i hw
    simp only [hw] at h
    exact ⟨(hy.same (execOp_put oi hsi a oj.dst _ h3) (wanted_put oi a oj.dst _ h3)), by rw [← Act.put_comm a v undef h2]; exact h⟩
def dep (ops : Array Oper) (i j : Nat) : Bool := match ops[i]? with | some o => o.after.any (fun e => Region.binds .any e && Nat.beq e.on j) | none => false
def depn (ops : Array Oper) : Nat → Nat → Nat → Bool
  | 0, i, j => dep ops i j
  | n + 1, i, j => dep ops i j || (match ops[i]? with | some o => o.after.any (fun e => Region.binds .any e && depn ops n e.on j) | none => false)
def preds (ops : Array Oper) (i : Nat) : List Nat := match ops[i]? with | some o => (o.after.toList.filter (Region.binds .any ·)).map (·.on) | none => []
def reach (ops : Array Oper) : Nat → List Nat → List Nat → List Nat
  | 0, _, seen => seen
  | _ + 1, [], seen => seen
  | n + 1, j :: todo, seen => match seen.any (Nat.beq j) with
    | true => reach ops n todo seen
    | false => reach ops n (preds ops j ++ todo) (j :: seen)
def waits (ops : Array Oper) (i j : Nat) : Bool := (reach ops 600 (preds ops i) []).any (Nat.beq j)
def linked (ops : Array Oper) (i j : Nat) : Bool := dep ops i j || dep ops j i || (waits ops i j || waits ops j i)
theorem linked_comm (ops : Array Oper) (i j : Nat) : linked ops i j = linked ops j i := by unfold linked; rw [Bool.or_comm (dep ops i j), Bool.or_comm (waits ops i j)]
def Closed (ops : Array Oper) (listed : Array Bool) : Prop := ∀ k o, ops[k]? = some o → listed.getD k false = true → ∀ e ∈ o.after, Region.binds .any e = true → listed.getD e.on false = true
theorem Closed.start (n : Nat) : Closed ops (Array.replicate n false) := by
  intro k o _ h
  rcases Nat.lt_or_ge k n with h' | h'
  · simp [h'] at h
  · simp [Array.getElem?_eq_none, h'] at h
theorem Closed.set {listed : Array Bool} {j : Nat} (h : Closed ops listed) (hj : j ∈ Region.ready .any ops listed) : Closed ops (listed.setIfInBounds j true) := by
  intro k o hk hl e he hb
  by_cases hjk : j = k
  · subst hjk
    obtain ⟨_, o', ho', hall⟩ := mem_ready.1 hj
    rw [hk] at ho'
    cases ho'
    exact getD_set_true (hall e he hb)
  · rw [getD_set_ne false hjk] at hl
    exact getD_set_true (h k o hk hl e he hb)
theorem listed_not {listed : Array Bool} {j : Nat} (h0 : listed.getD j true = false) (h1 : listed.getD j false = true) : False := by
  rcases Nat.lt_or_ge j listed.size with h' | h'
  · simp [h'] at h0 h1; rw [h0] at h1; cases h1
  · simp [Array.getElem?_eq_none h'] at h1
theorem dep_listed {listed : Array Bool} {i j : Nat} (h : dep ops i j = true) (hall : ∀ o, ops[i]? = some o → ∀ e ∈ o.after, Region.binds .any e = true → listed.getD e.on false = true) : listed.getD j false = true := by
  unfold dep at h
  cases ho : ops[i]? with
  | none => rw [ho] at h; cases h
  | some o =>
    rw [ho] at h
    simp only at h
    obtain ⟨k, hk, h2⟩ := Array.any_eq_true.1 h
    simp only [Bool.and_eq_true] at h2
    have h3 := hall o ho _ (Array.getElem_mem hk) h2.1
    rw [Nat.eq_of_beq_eq_true h2.2] at h3
    exact h3
theorem depn_listed {listed : Array Bool} {j : Nat} (hcl : Closed ops listed) : ∀ (n i : Nat), depn ops n i j = true → (∀ o, ops[i]? = some o → ∀ e ∈ o.after, Region.binds .any e = true → listed.getD e.on false = true) → listed.getD j false = true
  | 0, i, h, hall => dep_listed h hall
  | n + 1, i, h, hall => by
    unfold depn at h
    rw [Bool.or_eq_true] at h
    rcases h with h | h
    · exact dep_listed h hall
    · cases ho : ops[i]? with
      | none => rw [ho] at h; cases h
      | some o =>
        rw [ho] at h
        simp only at h
        obtain ⟨k, hk, h2⟩ := Array.any_eq_true.1 h
        simp only [Bool.and_eq_true] at h2
        have h3 := hall o ho _ (Array.getElem_mem hk) h2.1
        exact depn_listed hcl n _ h2.2 (fun o' ho' e he hb => hcl _ o' ho' h3 e he hb)
theorem preds_listed {listed : Array Bool} {i : Nat} (hall : ∀ o, ops[i]? = some o → ∀ e ∈ o.after, Region.binds .any e = true → listed.getD e.on false = true) : ∀ y ∈ preds ops i, listed.getD y false = true := by
  intro y hy
  unfold preds at hy
  split at hy
  · rename_i o ho
    obtain ⟨e, he, rfl⟩ := List.mem_map.1 hy
    obtain ⟨he, hb⟩ := List.mem_filter.1 he
    exact hall o ho e (Array.mem_toList_iff.1 he) hb
  · cases hy
theorem reach_listed {listed : Array Bool} (hcl : Closed ops listed) : ∀ (n : Nat) (todo seen : List Nat), (∀ y ∈ todo, listed.getD y false = true) → (∀ y ∈ seen, listed.getD y false = true) → ∀ y ∈ reach ops n todo seen, listed.getD y false = true
  | 0, _, _, _, h2 => h2
  | _ + 1, [], _, _, h2 => h2
  | n + 1, j :: todo, seen, h1, h2 => by
    have hj := h1 j List.mem_cons_self
    have ht : ∀ y ∈ todo, listed.getD y false = true := fun y hy => h1 y (List.mem_cons_of_mem _ hy)
    unfold reach
    split
    · exact reach_listed hcl n todo seen ht h2
    · refine reach_listed hcl n _ _ (fun y hy => ?_) (fun y hy => ?_)
      · rcases List.mem_append.1 hy with hy | hy
        · exact preds_listed (fun o ho e he hb => hcl j o ho hj e he hb) y hy
        · exact ht y hy
      · rcases List.mem_cons.1 hy with rfl | hy
        · exact hj
        · exact h2 y hy
theorem not_ready_linked {i j : Nat} {listed : Array Bool} (hcl : Closed ops listed) (hi : i ∈ Region.ready .any ops listed) (hj : j ∈ Region.ready .any ops listed) : linked ops i j = false := by
  have key : ∀ i j, i ∈ Region.ready .any ops listed → j ∈ Region.ready .any ops listed → dep ops i j = false ∧ waits ops i j = false := by
    intro i j hi hj
    obtain ⟨_, o, ho, hall⟩ := mem_ready.1 hi
    obtain ⟨hju, _⟩ := mem_ready.1 hj
    have hall' : ∀ o', ops[i]? = some o' → ∀ e ∈ o'.after, Region.binds .any e = true → listed.getD e.on false = true := fun o' ho' => by rw [ho] at ho'; cases ho'; exact hall
    refine ⟨?_, ?_⟩
    · cases hd : dep ops i j with
      | false => rfl
      | true => exact absurd (dep_listed hd hall') (fun h => listed_not hju h)
    · cases hd : waits ops i j with
      | false => rfl
      | true =>
        unfold waits at hd
        obtain ⟨y, hy, hb⟩ := List.any_eq_true.1 hd
        rw [← Nat.eq_of_beq_eq_true hb] at hy
        exact absurd (reach_listed hcl 600 _ _ (preds_listed hall') (fun _ h => by cases h) j hy) (fun h => listed_not hju h)
  simp only [linked, (key i j hi hj).1, (key j i hj hi).1, (key i j hi hj).2, (key j i hj hi).2, Bool.or_false]
theorem wpX_first {R : World → World → Prop} (hR : ∀ w, R w w) (ht : ∀ a b c, R a b → R b c → R a c) {Q : Act → World → Prop} {i : Nat} {oi : Oper} {v : Value} (hi : ops[i]? = some oi) (hsel : ∀ (j : Nat) (o : Oper) cs b, ops[j]? = some o → o.op ≠ .select cs b)
    (hal : ∀ j oj, j ≠ i → ops[j]? = some oj → linked ops i j = false → ∀ w w', (al j = true ∨ Ev M w w') → (isQuiet oj.op = true → Ev [] w w') → R w w') :
    ∀ (fuel : Nat) (listed : Array Bool) (a : Act) (w : World),
      (∀ j oj, ops[j]? = some oj → j ≠ i → listed.getD j true = false → (∀ e ∈ oj.after, Region.binds .any e = true → e.on ≠ i) → oi.apart ops oj = true) →
      Closed ops listed → i ∈ Region.ready .any ops listed → YQ P ops R oi v a w →
      wpX P ops al M Q fuel (listed.setIfInBounds i true) (a.put oi.dst v) w → wpX P ops al M Q (fuel + 1) listed a w := by
  intro fuel
  induction fuel with
  | zero =>
    intro listed a w _ _ hr hy H
    refine ⟨fun h => (by rw [h] at hr; cases hr), fun j hj => ?_⟩
    by_cases hji : j = i
    · subst hji; exact hy.xOp hR hi H
    · have := ready_mono hj hji
      rw [H.1] at this
      cases this
  | succ fuel ih =>
    intro listed a w hfree hcl hr hy H
    refine ⟨fun h => (by rw [h] at hr; cases hr), fun j hj => ?_⟩
    by_cases hji : j = i
    · subst hji; exact hy.xOp hR hi H
    · have h1 := H.2 j (ready_mono hj hji)
      obtain ⟨hjun, oj, hoj, hall⟩ := mem_ready.1 hj
      have hnot : ∀ e ∈ oj.after, Region.binds .any e = true → e.on ≠ i := fun e he hb heq => by
        have h1 := hall e he hb
        have h0 := (mem_ready.1 hr).1
        rw [heq] at h1
        rcases Nat.lt_or_ge i listed.size with h' | h'
        · simp [h'] at h0 h1; rw [h0] at h1; cases h1
        · simp [Array.getElem?_eq_none h'] at h1
      have h2 := xOp_put ht hoj (hfree j oj hoj hji hjun hnot) (fun cs b => hsel i oi cs b hi) (fun cs b => hsel j oj cs b hoj) (hal j oj hji hoj (not_ready_linked hcl hr hj)) hy h1
      have hfree' : ∀ k ok, ops[k]? = some ok → k ≠ i → (listed.setIfInBounds j true).getD k true = false →
          (∀ e ∈ ok.after, Region.binds .any e = true → e.on ≠ i) → oi.apart ops ok = true := fun k ok hk hki hun hno => by
        refine hfree k ok hk hki ?_ hno
        by_cases hjk : j = k
        · subst hjk; exact hjun
        · rw [getD_set_ne true hjk] at hun; exact hun
      refine xOp_mono (fun a' w' h3 => ih (listed.setIfInBounds j true) a' w' hfree' (hcl.set hj) (ready_mono hr (Ne.symm hji)) h3.1 ?_) h2
      rw [Array.setIfInBounds_comm _ _ hji]
      exact h3.2
end
inductive Plan where
  | stop
  | none_
  | op (i : Nat) (al : Bool) (rest : Plan)
  | alt (i : Nat) (al : Bool) (this others : Plan)
def canonT (ops : Array Oper) : Plan → Nat → Array Bool → List Nat → Bool
  | .stop, _, listed, _ => (Region.ready .any ops listed).isEmpty
  | .none_, _, listed, E => !E.isEmpty && (Region.ready .any ops listed).all fun j => E.any (Nat.beq j)
  | .op i _ rest, fuel, listed, E => E.isEmpty && Nat.blt 0 fuel && (Region.ready .any ops listed).contains i &&
      (match ops[i]? with
       | some o => if isQuiet o.op then Region.free .any ops listed i else (Region.ready .any ops listed).all (Nat.beq i)
       | none => false) && canonT ops rest (fuel - 1) (listed.setIfInBounds i true) []
  | .alt i _ this others, fuel, listed, E => Nat.blt 0 fuel && (Region.ready .any ops listed).contains i && canonT ops this (fuel - 1) (listed.setIfInBounds i true) [] &&
      canonT ops others fuel listed (i :: E)
def alOf : Plan → Nat → Bool
  | .stop, _ => false
  | .none_, _ => false
  | .op i al rest, j => (Nat.beq i j && al) || alOf rest j
  | .alt i al this others, j => (Nat.beq i j && al) || alOf this j || alOf others j
def pureAt (ops : Array Oper) (i : Nat) : Bool := match ops[i]? with | some o => isPureO o.op | none => false
def quietAt (ops : Array Oper) (i : Nat) : Bool := match ops[i]? with | some o => isQuiet o.op | none => true
def qm (al : Bool) (M : List Nat) : List Nat := match al with | true => [] | false => M
def canonP (ops : Array Oper) (p : Plan) : Bool :=
  Region.noSelect ops && ((List.range ops.size).all fun j => !(alOf p j) || (List.range ops.size).all fun i => Nat.beq i j || (quietAt ops j && quietAt ops i) || pureAt ops i || linked ops i j) &&
    true && canonT ops p ops.size (Array.replicate ops.size false) []
set_option linter.unusedVariables false in
theorem alOf_lt (ops : Array Oper) : ∀ (p : Plan) (fuel : Nat) (listed : Array Bool) (E : List Nat), canonT ops p fuel listed E = true → ∀ j, alOf p j = true → j < ops.size
  | .stop, _, _, _, _, _, h => by cases h
  | .none_, _, _, _, _, _, h => by cases h
  | .op i b rest, fuel, listed, E, hc, j, h => by
    simp only [canonT, Bool.and_eq_true] at hc
    obtain ⟨⟨⟨_, hi⟩, _⟩, hc⟩ := hc
    simp only [alOf, Bool.or_eq_true, Bool.and_eq_true] at h
    rcases h with h | h
    · have hmem : i ∈ Region.ready .any ops listed := by simpa using hi
      obtain ⟨_, o, ho, _⟩ := mem_ready.1 hmem
      rw [← Nat.eq_of_beq_eq_true h.1]
      exact (Array.getElem?_eq_some_iff.1 ho).1
    · exact alOf_lt ops rest _ _ _ hc j h
  | .alt i b this others, fuel, listed, E, hc, j, h => by
    simp only [canonT, Bool.and_eq_true] at hc
    obtain ⟨⟨⟨_, hi⟩, hct⟩, hco⟩ := hc
    simp only [alOf, Bool.or_eq_true, Bool.and_eq_true] at h
    rcases h with (h | h) | h
    · have hmem : i ∈ Region.ready .any ops listed := by simpa using hi
      obtain ⟨_, o, ho, _⟩ := mem_ready.1 hmem
      rw [← Nat.eq_of_beq_eq_true h.1]
      exact (Array.getElem?_eq_some_iff.1 ho).1
    · exact alOf_lt ops this _ _ _ hct j h
    · exact alOf_lt ops others _ _ _ hco j h
def vc1 (P : Program) (all : List Oper) (M : List Nat) (K : Fr → World → Prop) (i : Nat) (al : Bool) (fr : Fr) (w : World) : Prop :=
  match all[i]? with
    | none => False
    | some o => vcG all o fr (fun fr => match isQuiet o.op with
        | true => vcQ P (qm al M) o (fun v => K (puto fr o.dst v) w) fr w
        | false => match al with
          | true => vcL P o (fun v w' => K (puto fr o.dst v) w') fr w
          | false => vcL P o (fun v w' => Ev M w w' ∧ K (puto fr o.dst v) w') fr w)
      (fun fr => K (puto fr o.dst undef) w)
def vcT (P : Program) (all : List Oper) (M : List Nat) (Q : Fr → World → Prop) : Plan → Fr → World → Prop
  | .stop, fr, w => Q fr w
  | .none_, _, _ => True
  | .op i al rest, fr, w => vc1 P all M (vcT P all M Q rest) i al fr w
  | .alt i al this others, fr, w => vc1 P all M (vcT P all M Q this) i al fr w ∧ vcT P all M Q others fr w
theorem xOp_of_vc1 {P : Program} {n : Nat} {all : List Oper} {M : List Nat} {K : Fr → World → Prop} {KA : Act → World → Prop} {al : Nat → Bool} {i : Nat} {b : Bool} {a : Act} {fr : Fr} {w : World}
    (hd : dstOk n all = true) (hb : b = true → al i = true) (hr : Rel n a fr) (hK : ∀ a fr w, Rel n a fr → K fr w → KA a w) (h : vc1 P all M K i b fr w) : xOp P all.toArray al M i KA a w := by
  unfold vc1 at h
  unfold xOp
  cases ho : all[i]? with
  | none => rw [ho] at h; exact h.elim
  | some o =>
    rw [ho] at h
    have ho' : all.toArray[i]? = some o := by simpa using ho
    rw [ho']
    simp only at h ⊢
    have hdo : ∀ t, o.dst = some t → t < n := fun t ht => dstOk_spec hd (List.mem_of_getElem? ho) ht
    obtain ⟨h1, h2⟩ := vcG_sound hr h
    cases hq : isQuiet o.op with
    | true =>
      simp only [hq] at h1
      split
      · rename_i hw
        obtain ⟨v, h3, h4⟩ := vcQ_sound (h1 hw)
        unfold Oper.wp
        rw [hr.eval, h3 w (Ev.refl _ _)]
        simp only [Oper.upon]
        exact ⟨⟨.inr (Ev.refl _ _), fun _ => Ev.refl _ _⟩, hK _ _ _ (hr.put hdo v) h4⟩
      · rename_i hw
        exact hK _ _ _ (hr.put hdo undef) (h2 (by simpa using hw))
    | false =>
      simp only [hq] at h1
      split
      · rename_i hw
        have h3 := h1 hw
        cases hbb : b with
        | true =>
          rw [hbb] at h3
          exact vcL_sound hr.eval h3 fun v w' hk => ⟨⟨.inl (hb hbb), fun h => by simp [hq] at h⟩, hK _ _ _ (hr.put hdo v) hk⟩
        | false =>
          rw [hbb] at h3
          exact vcL_sound hr.eval h3 fun v w' hk => ⟨⟨.inr hk.1, fun h => by simp [hq] at h⟩, hK _ _ _ (hr.put hdo v) hk.2⟩
      · rename_i hw
        exact hK _ _ _ (hr.put hdo undef) (h2 (by simpa using hw))
set_option linter.unusedVariables false in
theorem vcT_sound {P : Program} {n : Nat} {all : List Oper} {M : List Nat} {Q : Fr → World → Prop} {QA : Act → World → Prop} {al : Nat → Bool}
    (hQ : ∀ a fr w, Rel n a fr → Q fr w → QA a w) (hd : dstOk n all = true) (hsel : Region.noSelect all.toArray = true)
    (hal : ∀ i j, j ≠ i → i < all.length → al j = true → linked all.toArray i j = true ∨ (quietAt all.toArray j = true ∧ quietAt all.toArray i = true) ∨ pureAt all.toArray i = true) :
    ∀ (p : Plan), (∀ j, alOf p j = true → al j = true) → ∀ (fuel : Nat) (listed : Array Bool) (E : List Nat) (a : Act) (fr : Fr) (w : World), Rel n a fr → canonT all.toArray p fuel listed E = true → Closed all.toArray listed →
      vcT P all M Q p fr w → (E = [] → wpX P all.toArray al M QA fuel listed a w) ∧
        (E ≠ [] → ∀ f, fuel = f + 1 → ∀ j ∈ Region.ready .any all.toArray listed, j ∉ E → xOp P all.toArray al M j (wpX P all.toArray al M QA f (listed.setIfInBounds j true)) a w)
  | .stop, _, fuel, listed, E, a, fr, w, hr, hc, hcl, h => by
    have h0 : Region.ready .any all.toArray listed = [] := by simpa [canonT] using hc
    refine ⟨fun _ => ?_, fun _ f _ j hj => by rw [h0] at hj; cases hj⟩
    cases fuel with
    | zero => exact ⟨h0, hQ a fr w hr h⟩
    | succ f => exact ⟨fun _ => hQ a fr w hr h, fun j hj => by rw [h0] at hj; cases hj⟩
  | .none_, _, fuel, listed, E, a, fr, w, hr, hc, hcl, h => by
    simp only [canonT, Bool.and_eq_true, Bool.not_eq_true'] at hc
    refine ⟨fun he => by subst he; simp at hc, fun _ f _ j hj hjE => ?_⟩
    have h1 := List.all_eq_true.1 hc.2 j hj
    obtain ⟨k, hk, hjk⟩ := List.any_eq_true.1 h1
    rw [Nat.eq_of_beq_eq_true hjk] at hjE
    exact absurd hk hjE
  | .op i b rest, hb, fuel, listed, E, a, fr, w, hr, hc, hcl, h => by
    simp only [canonT, Bool.and_eq_true] at hc
    obtain ⟨⟨⟨⟨hE, hf⟩, hi⟩, hm⟩, hc⟩ := hc
    have hE' : E = [] := by simpa using hE
    refine ⟨fun _ => ?_, fun hne => absurd hE' hne⟩
    have hf' : 0 < fuel := Nat.le_of_ble_eq_true hf
    obtain ⟨f, rfl⟩ : ∃ f, fuel = f + 1 := ⟨fuel - 1, by omega⟩
    have hmem : i ∈ Region.ready .any all.toArray listed := by simpa using hi
    have hbi : b = true → al i = true := fun hbt => hb i (by simp [alOf, hbt])
    have ih := vcT_sound (P := P) (M := M) hQ hd hsel hal rest (fun j hj => hb j (by simp [alOf, hj]))
    have hK : ∀ a fr w, Rel n a fr → vcT P all M Q rest fr w → wpX P all.toArray al M QA f (listed.setIfInBounds i true) a w := fun a fr w hr hk => (ih f _ [] a fr w hr (by simpa using hc) (hcl.set hmem) hk).1 rfl
    cases ho : all[i]? with
    | none => simp only [vcT, vc1, ho] at h
    | some o =>
      have ho' : all.toArray[i]? = some o := by simpa using ho
      rw [ho'] at hm
      simp only at hm
      have hlt : i < all.length := (List.getElem?_eq_some_iff.1 ho).1
      have hdo : ∀ t, o.dst = some t → t < n := fun t ht => dstOk_spec hd (List.mem_of_getElem? ho) ht
      cases hq : isQuiet o.op with
      | true =>
        simp only [hq, if_true] at hm
        simp only [vcT, vc1, ho, hq] at h
        obtain ⟨h1, h2⟩ := vcG_sound hr h
        cases hpu : isPureO o.op with
        | true =>
          have hy : ∃ v, YQ P all.toArray (fun _ _ => True) o v a w ∧ vcT P all M Q rest (puto fr o.dst v) w := by
            cases hw : Region.wanted o (yielded all.toArray a.tmps) with
            | true =>
              obtain ⟨v, h3, h4⟩ := vcQ_pure hpu (h1 hw)
              exact ⟨v, .inl ⟨hw, fun w' _ => by rw [hr.eval]; exact h3 w'⟩, h4⟩
            | false => exact ⟨undef, .inr ⟨hw, rfl⟩, h2 hw⟩
          obtain ⟨v, h3, h4⟩ := hy
          exact wpX_first (fun _ => trivial) (fun _ _ _ _ _ => trivial) ho' (Region.noSelect_spec hsel) (fun _ _ _ _ _ _ _ _ _ => trivial) f listed a w (Region.free_spec ho' hm) hcl hmem h3 (hK _ _ _ (hr.put hdo v) h4)
        | false =>
        have hnp : pureAt all.toArray i = false := by simp only [pureAt, ho', hpu]
        have hy : ∃ v, YQ P all.toArray (Ev (qm b M)) o v a w ∧ vcT P all M Q rest (puto fr o.dst v) w := by
          cases hw : Region.wanted o (yielded all.toArray a.tmps) with
          | true =>
            obtain ⟨v, h3, h4⟩ := vcQ_sound (h1 hw)
            exact ⟨v, .inl ⟨hw, by rw [hr.eval]; exact h3⟩, h4⟩
          | false => exact ⟨undef, .inr ⟨hw, rfl⟩, h2 hw⟩
        obtain ⟨v, h3, h4⟩ := hy
        have hkey : ∀ j oj, j ≠ i → all.toArray[j]? = some oj → linked all.toArray i j = false → ∀ w w', (al j = true ∨ Ev M w w') → (isQuiet oj.op = true → Ev [] w w') → Ev (qm b M) w w' := by
          intro j oj hji hoj hnl w w' h1 h2
          cases hqj : isQuiet oj.op with
          | true => exact ⟨(h2 hqj).os, (h2 hqj).tape, (h2 hqj).output, (h2 hqj).size, fun k hk _ => (h2 hqj).block k hk (fun h => by cases h)⟩
          | false =>
            have hjl : j < all.length := by have := (Array.getElem?_eq_some_iff.1 hoj).1; simpa using this
            have hnq : quietAt all.toArray j = false := by simp only [quietAt, hoj, hqj]
            cases hbb : b with
            | true =>
              rcases hal j i (Ne.symm hji) hjl (hbi hbb) with h3 | ⟨_, h3⟩ | h3
              · rw [linked_comm, hnl] at h3; cases h3
              · rw [hnq] at h3; cases h3
              · have hpq : isPureO oj.op = true := by simpa only [pureAt, hoj] using h3
                have : isQuiet oj.op = true := by revert hpq; cases oj.op <;> intro h <;> first | rfl | cases h
                rw [hqj] at this; cases this
            | false =>
              rcases h1 with h1 | h1
              · rcases hal i j hji hlt h1 with h3 | ⟨h3, _⟩ | h3
                · rw [hnl] at h3; cases h3
                · rw [hnq] at h3; cases h3
                · rw [hnp] at h3; cases h3
              · exact h1
        exact wpX_first (fun _ => Ev.refl _ _) (fun _ _ _ => Ev.trans) ho' (Region.noSelect_spec hsel) hkey f listed a w (Region.free_spec ho' hm) hcl hmem h3 (hK _ _ _ (hr.put hdo v) h4)
      | false =>
        simp only [hq, Bool.false_eq_true, if_false] at hm
        refine ⟨fun h0 => (by rw [h0] at hmem; cases hmem), fun j hj => ?_⟩
        have hji : i = j := Nat.eq_of_beq_eq_true (List.all_eq_true.1 hm j hj)
        subst hji
        exact xOp_of_vc1 hd hbi hr hK h
  | .alt i b this others, hb, fuel, listed, E, a, fr, w, hr, hc, hcl, h => by
    simp only [canonT, Bool.and_eq_true] at hc
    obtain ⟨⟨⟨hf, hi⟩, hct⟩, hco⟩ := hc
    have hf' : 0 < fuel := Nat.le_of_ble_eq_true hf
    obtain ⟨f, rfl⟩ : ∃ f, fuel = f + 1 := ⟨fuel - 1, by omega⟩
    have hmem : i ∈ Region.ready .any all.toArray listed := by simpa using hi
    have hbi : b = true → al i = true := fun hbt => hb i (by simp [alOf, hbt])
    have ih1 := vcT_sound (P := P) (M := M) hQ hd hsel hal this (fun j hj => hb j (by simp [alOf, hj]))
    have ih2 := vcT_sound (P := P) (M := M) hQ hd hsel hal others (fun j hj => hb j (by simp [alOf, hj]))
    have hK : ∀ a fr w, Rel n a fr → vcT P all M Q this fr w → wpX P all.toArray al M QA f (listed.setIfInBounds i true) a w := fun a fr w hr hk => (ih1 f _ [] a fr w hr (by simpa using hct) (hcl.set hmem) hk).1 rfl
    simp only [vcT] at h
    have hx := xOp_of_vc1 hd hbi hr hK h.1
    have ho := (ih2 (f + 1) listed (i :: E) a fr w hr hco hcl h.2).2 (by simp) f rfl
    have key : ∀ j ∈ Region.ready .any all.toArray listed, j ∉ E → xOp P all.toArray al M j (wpX P all.toArray al M QA f (listed.setIfInBounds j true)) a w := by
      intro j hj hjE
      by_cases hji : j = i
      · subst hji; exact hx
      · exact ho j hj (by simp [hji, hjE])
    refine ⟨fun hE => ⟨fun h0 => (by rw [h0] at hmem; cases hmem), fun j hj => key j hj (by subst hE; simp)⟩, fun _ g hg j hj hjE => ?_⟩
    have : g = f := by omega
    subst this
    exact key j hj hjE
def thenK (f : Fr → World → Prop) (Q : Exit → Fr → World → Prop) : Exit → Fr → World → Prop
  | .normal, fr, w => f fr w
  | e, fr, w => Q e fr w
def blockK (id : Nat) (Q : Exit → Fr → World → Prop) : Exit → Fr → World → Prop
  | .exit id', fr, w => if id' = id then Q .normal fr w else Q (.exit id') fr w
  | e, fr, w => Q e fr w
def lift (n : Nat) (Q : Exit → Fr → World → Prop) : Exit → Act → World → Prop := fun e a w => ∃ fr, Rel n a fr ∧ Q e fr w
def okC (n : Nat) : Code → Bool
  | .region _ ops _ => dstOk n ops.toList
  | .seq a b => okC n a && okC n b
  | .cond _ x y => okC n x && okC n y
  | .block _ c => okC n c
  | .loop c => okC n c
  | .scope c => okC n c
  | _ => true
structure LoopVC (P : Program) (c : Code) (Q : Exit → Fr → World → Prop) (fr : Fr) (w : World) : Prop where
  run : ∀ n a QA, okC n c = true → Rel n a fr → (∀ e a fr w, Rel n a fr → Q e fr w → QA e a w) → (Code.loop c).wp P QA a w
def scopeK (Q : Exit → Fr → World → Prop) : Exit → Fr → World → Prop
  | .goto _ => fun _ _ => False
  | e => Q e
def vcC (P : Program) : Code → (Exit → Fr → World → Prop) → Fr → World → Prop
  | .skip, Q => Q .normal
  | .label _, Q => Q .normal
  | .ret, Q => Q .ret
  | .exit id, Q => Q (.exit id)
  | .region _ ops false, Q => vcOps P ops.toList (Q .normal) ops.toList
  | .region _ ops true, Q => fun fr w => ∃ M p, canonP ops p = true ∧ vcT P ops.toList M (Q .normal) p fr w.drew
  | .seq a b, Q => vcC P a (thenK (vcC P b Q) Q)
  | .cond c x y, Q => fun fr w => match c with
    | .tmp t => match fr t with
      | .bool b => (b = true → vcC P x Q (put fr t (.bool true)) w) ∧ (b = false → vcC P y Q (put fr t (.bool false)) w)
      | _ => False
    | _ => False
  | .block id c, Q => vcC P c (blockK id Q)
  | .loop c, Q => LoopVC P c Q
  | .scope c, Q => vcC P c (scopeK Q)
  | _, _ => fun _ _ => False
theorem vcC_sound {P : Program} (hmx : P.follows .mixedOrders = true) : ∀ (c : Code) (n : Nat) (Q : Exit → Fr → World → Prop) (QA : Exit → Act → World → Prop) (a : Act) (fr : Fr) (w : World),
    okC n c = true → Rel n a fr → (∀ e a fr w, Rel n a fr → Q e fr w → QA e a w) → vcC P c Q fr w → c.wp P QA a w
  | .skip, n, Q, QA, a, fr, w, _, hr, hQ, h => wp_skip (hQ _ _ _ _ hr h)
  | .label _, n, Q, QA, a, fr, w, _, hr, hQ, h => wp_label (hQ _ _ _ _ hr h)
  | .ret, n, Q, QA, a, fr, w, _, hr, hQ, h => wp_ret (hQ _ _ _ _ hr h)
  | .exit id, n, Q, QA, a, fr, w, _, hr, hQ, h => wp_exit (hQ _ _ _ _ hr h)
  | .region id ops false, n, Q, QA, a, fr, w, hok, hr, hQ, h => by
    refine wp_region_list ?_
    have := vcOps_sound (P := P) (n := n) (all := ops.toList) (Q := Q .normal) (QA := QA) (fun a fr w hr hq => hQ _ _ _ _ hr hq) ops.toList hok a fr w hr h
    simpa using this
  | .region id ops true, n, Q, QA, a, fr, w, hok, hr, hQ, h => by
    obtain ⟨M, p, hc, h⟩ := h
    simp only [canonP, Bool.and_eq_true] at hc
    obtain ⟨⟨⟨hsel, hal⟩, _⟩, hcan⟩ := hc
    refine wp_region_any hmx (wpAny_of_wpX (M := M) (al := fun j => alOf p j && Nat.blt j ops.size) (Q := fun a w => QA .normal a w) (fun _ _ h => h) _ _ _ _ ?_)
    have hal' : ∀ i j, j ≠ i → i < ops.toList.length → (alOf p j && Nat.blt j ops.size) = true → linked ops i j = true ∨ (quietAt ops j = true ∧ quietAt ops i = true) ∨ pureAt ops i = true := by
      intro i j hne hi hj
      simp only [Bool.and_eq_true] at hj
      have hjl : j < ops.size := Nat.le_of_ble_eq_true hj.2
      have h1 := List.all_eq_true.1 hal j (List.mem_range.2 hjl)
      rw [hj.1] at h1
      simp only [Bool.not_true, Bool.false_or] at h1
      have h2 := List.all_eq_true.1 h1 i (List.mem_range.2 (by simpa using hi))
      cases hb : Nat.beq i j with
      | true => exact absurd (Nat.eq_of_beq_eq_true hb).symm hne
      | false =>
        rw [hb] at h2
        have h3 : ((quietAt ops j = true ∧ quietAt ops i = true) ∨ pureAt ops i = true) ∨ linked ops i j = true := by simpa [Bool.or_eq_true, Bool.and_eq_true] using h2
        rcases h3 with (h3 | h3) | h3
        · exact .inr (.inl h3)
        · exact .inr (.inr h3)
        · exact .inl h3
    have := vcT_sound (P := P) (n := n) (all := ops.toList) (M := M) (Q := Q .normal) (QA := fun a w => QA .normal a w) (al := fun j => alOf p j && Nat.blt j ops.size) (fun a fr w hr hq => hQ _ _ _ _ hr hq) hok
      (by simpa using hsel) (by simpa using hal') p (fun j hj => by
        have := alOf_lt ops p ops.size _ [] hcan j hj
        simp only [hj, Bool.true_and]
        exact Nat.ble_eq_true_of_le this) ops.size (Array.replicate ops.size false) [] a fr w.drew hr (by simpa using hcan) (Closed.start _) h
    simpa using this.1 rfl
  | .seq x y, n, Q, QA, a, fr, w, hok, hr, hQ, h => by
    simp only [okC, Bool.and_eq_true] at hok
    refine wp_seq (vcC_sound hmx x n _ _ a fr w hok.1 hr (fun e a fr w hr hq => ?_) h)
    cases e with
    | normal => exact vcC_sound hmx y n Q QA a fr w hok.2 hr hQ hq
    | _ => exact hQ _ _ _ _ hr hq
  | .cond c x y, n, Q, QA, a, fr, w, hok, hr, hQ, h => by
    simp only [okC, Bool.and_eq_true] at hok
    cases c with
    | tmp t =>
      simp only [vcC] at h
      split at h
      · rename_i b hb
        have he : a.eval (.tmp t) = .bool b := by rw [hr.eval]; exact hb
        cases b with
        | true =>
          have h1 := h.1 rfl
          rw [put_self fr t _ hb] at h1
          exact wp_cond he (vcC_sound hmx x n Q QA a fr w hok.1 hr hQ h1)
        | false =>
          have h1 := h.2 rfl
          rw [put_self fr t _ hb] at h1
          exact wp_cond he (vcC_sound hmx y n Q QA a fr w hok.2 hr hQ h1)
      · exact h.elim
    | _ => exact h.elim
  | .block id c, n, Q, QA, a, fr, w, hok, hr, hQ, h => by
    refine wp_block (vcC_sound hmx c n _ _ a fr w hok hr (fun e a fr w hr hq => ?_) h)
    cases e with
    | exit id' =>
      simp only [blockK] at hq
      simp only [Exit.inBlock]
      split
      · rename_i hid; rw [if_pos hid] at hq; exact hQ _ _ _ _ hr hq
      · rename_i hid; rw [if_neg hid] at hq; exact hQ _ _ _ _ hr hq
    | _ => exact hQ _ _ _ _ hr hq
  | .loop c, n, Q, QA, a, fr, w, hok, hr, hQ, h => h.run n a QA hok hr hQ
  | .rangeFunc .., _, _, _, _, _, _, _, _, _, h => h.elim
  | .scope c, n, Q, QA, a, fr, w, hok, hr, hQ, h => by
    refine wp_scope_straight (vcC_sound hmx c n _ _ a fr w hok hr (fun e a fr w hr hq => ?_) h)
    cases e <;> first | exact hq.elim | exact hQ _ _ _ _ hr hq
  | .goto .., _, _, _, _, _, _, _, _, _, h => h.elim
  | .refuse .., _, _, _, _, _, _, _, _, _, h => h.elim
theorem loop_rule {P : Program} (hmx : P.follows .mixedOrders = true) {c : Code} {Q : Exit → Fr → World → Prop} {fr : Fr} {w : World} {σ : Type} (live : σ → List (Nat × Value)) (Inv : σ → World → Prop) (mu : σ → Nat)
    (s0 : σ) (h0 : agree (live s0) fr) (i0 : Inv s0 w)
    (hr : ∀ (s : σ) (J : Fr) (w : World), Inv s w → vcC P c (thenK (fun fr' w' => ∃ s', agree (live s') fr' ∧ Inv s' w' ∧ mu s' < mu s) Q) (ofL (live s) J) w) : LoopVC P c Q fr w := by
  refine ⟨fun n a QA hok hrel hQ => ?_⟩
  intro b k cs
  have key : ∀ m (s : σ) (fr : Fr) a w, mu s = m → Rel n a fr → agree (live s) fr → Inv s w →
      ∃ e a' w', QA e a' w' ∧ Arrives P (lone (b.at a (.code c :: .inLoop c :: k)) cs w) b k cs e a' w' := by
    intro m
    induction m using Nat.strongRecOn with
    | _ m ih =>
      intro s fr a w hm hrel hag hI
      have hvc := hr s fr w hI
      rw [← agree_ofL _ _ hag] at hvc
      obtain ⟨e, a₁, w₁, ⟨fr₁, hrel₁, hq⟩, harr⟩ := vcC_sound hmx c n _ (lift n (thenK (fun fr' w' => ∃ s', agree (live s') fr' ∧ Inv s' w' ∧ mu s' < mu s) Q)) a fr w hok hrel
        (fun e a fr w hr hq => ⟨fr, hr, hq⟩) hvc b (.inLoop c :: k) cs
      cases e with
      | normal =>
        obtain ⟨s', hag', hI', hlt⟩ := hq
        obtain ⟨e₂, a₂, w₂, hq₂, harr₂⟩ := ih (mu s') (hm ▸ hlt) s' fr₁ a₁ w₁ rfl hrel₁ hag' hI'
        exact ⟨e₂, a₂, w₂, hq₂, .of_steps (Steps.trans harr (.one step_inLoop)) harr₂⟩
      | exit id => exact ⟨_, a₁, w₁, hQ _ _ _ _ hrel₁ hq, .pass (x := .inLoop c) rfl (fun _ _ => .inl (by simp)) harr⟩
      | goto l => exact ⟨_, a₁, w₁, hQ _ _ _ _ hrel₁ hq, .pass (x := .inLoop c) rfl (fun _ _ => .inl (by simp)) harr⟩
      | ret => exact ⟨_, a₁, w₁, hQ _ _ _ _ hrel₁ hq, .pass (x := .inLoop c) rfl (fun _ _ => .inl (by simp)) harr⟩
      | panic ch => exact ⟨_, a₁, w₁, hQ _ _ _ _ hrel₁ hq, .pass (x := .inLoop c) rfl (fun _ _ => .inl (by simp)) harr⟩
      | outgrown => exact ⟨_, a₁, w₁, hQ _ _ _ _ hrel₁ hq, .pass (x := .inLoop c) rfl (fun _ _ => .inl (by simp)) harr⟩
  obtain ⟨e, a', w', hq, harr⟩ := key _ s0 fr a w rfl hrel h0 i0
  exact ⟨e, a', w', hq, .of_steps (.one step_loop) harr⟩
theorem vcBin_mono {P : Program} {op : BinOp} {t : TypeId} {xo yo : Operand} {x y : Value} {K K' : Value → Prop} (hk : ∀ v, K v → K' v) (h : vcBin P op t xo yo x y K) : vcBin P op t xo yo x y K' := by
  unfold vcBin at *
  split
  · rename_i k a k' b
    by_cases hkk : k = k'
    · cases op <;> simp only [hkk, if_true] at h ⊢ <;> first | exact hk _ h | exact ⟨h.1, hk _ h.2⟩ | exact h
    · cases op <;> simp only [hkk, if_false] at h ⊢ <;> first | exact ⟨h.1, hk _ h.2⟩ | exact h
  · rename_i hne
    split at h
    · exact absurd rfl (hne _ _ _ _ rfl)
    · obtain ⟨v, h1, h2⟩ := h
      exact ⟨v, h1, hk _ h2⟩
theorem ex_mono {A : Value → Prop} {K K' : Value → Prop} (hk : ∀ v, K v → K' v) (h : ∃ v, A v ∧ K v) : ∃ v, A v ∧ K' v := let ⟨v, h1, h2⟩ := h; ⟨v, h1, hk v h2⟩
theorem vcQ_mono {P : Program} {M : List Nat} {o : Oper} {K K' : Value → Prop} {fr : Fr} {w : World} (hk : ∀ v, K v → K' v) (h : vcQ P M o K fr w) : vcQ P M o K' fr w := by
  obtain ⟨dst, op, ty, pos, after, guard⟩ := o
  cases op <;> simp only [vcQ, force_eq, evs_eq, evp_eq] at h ⊢
  case pick c a b =>
    split
    · rename_i g hg
      simp only [hg] at h
      cases g <;> exact hk _ h
    · rename_i hg
      split at h
      · exact (hg _ (by assumption)).elim
      · exact h
  case extract x i =>
    split at h
    · rename_i vs hv
      split at h
      · exact hk _ h
      · exact h.elim
    · exact h.elim
  case binOp => exact vcBin_mono hk h
  case unOp op t x =>
    split at h
    · exact hk _ h
    · exact hk _ h
    · exact ex_mono hk h
  case nilCheck x =>
    split at h
    · exact hk _ h
    · exact hk _ h
    · exact h.elim
  case call c =>
    split at h <;> first | exact ex_mono hk h | exact h.elim
  all_goals first | exact hk _ h | exact ex_mono hk h | exact h
theorem BoxVC.mono {cs : Array Value} {t : TypeId} {w : World} {K K' : Nat → World → Prop} (hk : ∀ b w, K b w → K' b w) (h : BoxVC cs t w K) : BoxVC cs t w K' :=
  fun b w' h1 h2 h3 h4 => hk _ _ (h b w' h1 h2 h3 h4)
theorem vcL_mono {P : Program} {o : Oper} {K K' : Value → World → Prop} {fr : Fr} {w : World} (hk : ∀ v w, K v w → K' v w) (h : vcL P o K fr w) : vcL P o K' fr w := by
  obtain ⟨dst, op, ty, pos, after, guard⟩ := o
  cases op <;> simp only [vcL, force_eq, evs_eq, evp_eq] at h ⊢
  case box => exact h.mono fun _ _ => hk _ _
  case alloc => obtain ⟨z, h1, h2⟩ := h; exact ⟨z, h1, h2.mono fun _ _ => hk _ _⟩
  case buildSlice => obtain ⟨cs, e, h1, h2⟩ := h; exact ⟨cs, e, h1, h2.mono fun _ _ => hk _ _⟩
  case makeSlice => obtain ⟨v, w', h1, h2⟩ := h; exact ⟨v, w', h1, hk _ _ h2⟩
  case store => obtain ⟨w', h1, h2⟩ := h; exact ⟨w', h1, hk _ _ h2⟩
  case convert => obtain ⟨v, w', h1, h2⟩ := h; exact ⟨v, w', h1, hk _ _ h2⟩
  case makeMap => exact ⟨h.1, fun b w' h1 h2 h3 h4 => hk _ _ (h.2 b w' h1 h2 h3 h4)⟩
  case mapUpdate => obtain ⟨w', h1, h2⟩ := h; exact ⟨w', h1, hk _ _ h2⟩
  case insert => obtain ⟨w', h1, h2⟩ := h; exact ⟨w', h1, hk _ _ h2⟩
  case call c =>
    split at h
    · split at h
      · split at h
        · exact ⟨h.run.mono fun e w' ⟨v, he, hv⟩ => ⟨v, he, hk _ _ hv⟩, h.callee⟩
        · exact h.elim
      · exact h.elim
    · obtain ⟨v, w', h1, h2⟩ := h
      exact ⟨v, w', h1, hk _ _ h2⟩
    · exact h.elim
  all_goals exact h
theorem vcG_mono {all : List Oper} {o : Oper} {fr : Fr} {A B A' B' : Fr → Prop} (ha : ∀ fr, A fr → A' fr) (hb : ∀ fr, B fr → B' fr) (h : vcG all o fr A B) : vcG all o fr A' B' := by
  unfold vcG at *
  split
  · rename_i hg; simp only [hg] at h; exact ha _ h
  · rename_i j want hg
    simp only [hg] at h
    split
    · rename_i d hd
      simp only [hd] at h
      split
      · rename_i b hv; simp only [hv] at h; exact ⟨fun e => ha _ (h.1 e), fun e => hb _ (h.2 e)⟩
      · rename_i hv
        split at h
        · exact (hv _ (by assumption)).elim
        · exact hb _ h
    · rename_i hd
      simp only [hd] at h
      exact hb _ h
theorem vcS_mono {P : Program} {o : Oper} {K K' : Value → World → Prop} {fr : Fr} {w : World} (hk : ∀ v w, K v w → K' v w) (h : vcS P o K fr w) : vcS P o K' fr w := by
  unfold vcS at *
  split
  · rename_i hq; simp only [hq] at h; exact vcQ_mono (fun v => hk v w) h
  · rename_i hq; simp only [hq] at h; exact vcL_mono hk h
theorem vcOps_mono {P : Program} {all : List Oper} {Q Q' : Fr → World → Prop} (hq : ∀ fr w, Q fr w → Q' fr w) : ∀ (l : List Oper) (fr : Fr) (w : World), vcOps P all Q l fr w → vcOps P all Q' l fr w
  | [], fr, w, h => hq _ _ h
  | o :: l, fr, w, h => by
    unfold vcOps at *
    exact vcG_mono (fun fr h => vcS_mono (fun v w h => vcOps_mono hq l _ _ h) h) (fun fr h => vcOps_mono hq l _ _ h) h
theorem vc1_mono {P : Program} {all : List Oper} {M : List Nat} {K K' : Fr → World → Prop} (hk : ∀ fr w, K fr w → K' fr w) {i : Nat} {al : Bool} {fr : Fr} {w : World} (h : vc1 P all M K i al fr w) : vc1 P all M K' i al fr w := by
  unfold vc1 at *
  split
  · rename_i ho; simp only [ho] at h
  · rename_i o ho
    simp only [ho] at h
    refine vcG_mono (fun fr h => ?_) (fun fr h => hk _ _ h) h
    split
    · rename_i hqu; simp only [hqu] at h; exact vcQ_mono (fun v h => hk _ _ h) h
    · rename_i hqu
      simp only [hqu] at h
      cases al with
      | true => exact vcL_mono (fun v w h => hk _ _ h) h
      | false => exact vcL_mono (fun v w h => ⟨h.1, hk _ _ h.2⟩) h
set_option linter.unusedVariables false in
theorem vcT_mono {P : Program} {all : List Oper} {M : List Nat} {Q Q' : Fr → World → Prop} (hq : ∀ fr w, Q fr w → Q' fr w) : ∀ (p : Plan) (fr : Fr) (w : World), vcT P all M Q p fr w → vcT P all M Q' p fr w
  | .stop, fr, w, h => hq _ _ h
  | .none_, _, _, _ => trivial
  | .op i al rest, fr, w, h => vc1_mono (fun fr w h => vcT_mono hq rest fr w h) h
  | .alt i al this others, fr, w, h => ⟨vc1_mono (fun fr w h => vcT_mono hq this fr w h) h.1, vcT_mono hq others fr w h.2⟩
theorem thenK_mono {f f' : Fr → World → Prop} {Q Q' : Exit → Fr → World → Prop} (hf : ∀ fr w, f fr w → f' fr w) (hq : ∀ e fr w, Q e fr w → Q' e fr w) : ∀ e fr w, thenK f Q e fr w → thenK f' Q' e fr w := by
  intro e fr w h
  cases e <;> first | exact hf _ _ h | exact hq _ _ _ h
theorem vcC_mono {P : Program} : ∀ (c : Code) (Q Q' : Exit → Fr → World → Prop) (fr : Fr) (w : World), (∀ e fr w, Q e fr w → Q' e fr w) → vcC P c Q fr w → vcC P c Q' fr w
  | .skip, Q, Q', fr, w, hq, h => hq _ _ _ h
  | .label _, Q, Q', fr, w, hq, h => hq _ _ _ h
  | .ret, Q, Q', fr, w, hq, h => hq _ _ _ h
  | .exit id, Q, Q', fr, w, hq, h => hq _ _ _ h
  | .region id ops false, Q, Q', fr, w, hq, h => vcOps_mono (hq .normal) _ _ _ h
  | .region id ops true, Q, Q', fr, w, hq, h => let ⟨M, l, h1, h2⟩ := h; ⟨M, l, h1, vcT_mono (hq .normal) _ _ _ h2⟩
  | .seq x y, Q, Q', fr, w, hq, h => vcC_mono x _ _ fr w (thenK_mono (fun fr w h => vcC_mono y _ _ fr w hq h) hq) h
  | .cond c x y, Q, Q', fr, w, hq, h => by
    cases c with
    | tmp t =>
      simp only [vcC] at h ⊢
      split
      · rename_i b hb; simp only [hb] at h; exact ⟨fun e => vcC_mono x _ _ _ w hq (h.1 e), fun e => vcC_mono y _ _ _ w hq (h.2 e)⟩
      · rename_i hb
        split at h
        · exact (hb _ (by assumption)).elim
        · exact h
    | _ => exact h
  | .block id c, Q, Q', fr, w, hq, h => vcC_mono c _ _ fr w (fun e fr w h => by
      cases e with
      | exit id' =>
        simp only [blockK] at h ⊢
        split
        · rename_i hid; rw [if_pos hid] at h; exact hq _ _ _ h
        · rename_i hid; rw [if_neg hid] at h; exact hq _ _ _ h
      | _ => exact hq _ _ _ h) h
  | .loop c, Q, Q', fr, w, hq, h => ⟨fun n a QA hok hrel hQ => h.run n a QA hok hrel fun e a fr w hr hh => hQ e a fr w hr (hq _ _ _ hh)⟩
  | .rangeFunc .., _, _, _, _, _, h => h
  | .scope c, Q, Q', fr, w, hq, h => vcC_mono c _ _ fr w (fun e fr w h => by
      cases e <;> first | exact h.elim | exact hq _ _ _ h) h
  | .goto .., _, _, _, _, _, h => h
  | .refuse .., _, _, _, _, _, h => h
def resGet (P : Program) (fr : Fr) (w : World) : List ResultVar → List Value → Prop
  | [], [] => True
  | .tmp t :: rs, v :: vs => fr t = v ∧ resGet P fr w rs vs
  | .cell a t :: rs, v :: vs => (∃ p, fr a = .pointer (some p) ∧ (loadVar t p).run P w = .ok v w) ∧ resGet P fr w rs vs
  | _, _ => False
def packV : List Value → Value
  | [v] => v
  | vs => .tuple vs.toArray
def retV (P : Program) (rs : List ResultVar) (R : Value → World → Prop) (fr : Fr) (w : World) : Prop := ∃ vs, resGet P fr w rs vs ∧ R (packV vs) w
def retK (P : Program) (rs : List ResultVar) (R : Value → World → Prop) : Exit → Fr → World → Prop
  | .normal, fr, w => retV P rs R fr w
  | .ret, fr, w => retV P rs R fr w
  | _, _, _ => False
theorem resGet_run {P : Program} {n : Nat} {a : Act} {fr : Fr} (hr : Rel n a fr) {w : World} : ∀ (rs : List ResultVar) (vs : List Value), resGet P fr w rs vs →
    (rs.mapM fun (r : ResultVar) => (match r with
      | .tmp t => pure (a.tmps.getD t undef)
      | .cell c t => do loadVar t (← asAddr (a.tmps.getD c undef)) : Sem Value)).run P w = .ok vs w
  | [], [], _ => rfl
  | .tmp t :: rs, v :: vs, h => by
    have ih := resGet_run hr rs vs h.2
    rw [List.mapM_cons, run_bind]
    have h1 : a.tmps.getD t undef = v := by rw [hr.at_]; exact h.1
    simp only [Sem.run_pure, h1]
    rw [run_bind, ih]
    rfl
  | .cell c t :: rs, v :: vs, h => by
    have ih := resGet_run hr rs vs h.2
    obtain ⟨p, h1, h2⟩ := h.1
    have h3 : a.tmps.getD c undef = .pointer (some p) := by rw [hr.at_]; exact h1
    have h4 : (do loadVar t (← asAddr (a.tmps.getD c undef)) : Sem Value).run P w = .ok v w := by
      rw [h3]
      exact h2
    rw [List.mapM_cons, run_bind]
    simp only [h4]
    rw [run_bind, ih]
    rfl
  | [], _ :: _, h => h.elim
  | .tmp _ :: _, [], h => h.elim
  | .cell _ _ :: _, [], h => h.elim
theorem retV_run {P : Program} {fn : Func} {rs : List ResultVar} (hrs : fn.results = rs.toArray) {n : Nat} {a : Act} {fr : Fr} (hr : Rel n a fr) {R : Value → World → Prop} {w : World} (h : retV P rs R fr w) :
    ∃ v, (results fn a.tmps).run P w = .ok v w ∧ R v w := by
  obtain ⟨vs, h1, h2⟩ := h
  refine ⟨_, ?_, h2⟩
  have h3 := resGet_run hr rs vs h1
  simp only [results, hrs, List.mapM_toArray, bind_map_left]
  rw [run_bind]
  erw [h3]
  rcases vs with _ | ⟨v, _ | ⟨u, vs⟩⟩
  · rfl
  · rfl
  · rfl
def argsFr : List Value → Fr
  | [], _ => undef
  | v :: l, i => match i with | 0 => v | i + 1 => argsFr l i
theorem argsFr_get (l : List Value) (i : Nat) : argsFr l i = (l[i]?).getD undef := by
  induction l generalizing i with
  | nil => rfl
  | cons v l ih =>
    cases i with
    | zero => rfl
    | succ i => simpa [argsFr] using ih i
theorem calls_vc {P : Program} (hmx : P.follows .mixedOrders = true) {f : FuncId} {fn : Func} {c : Code} {rs : List ResultVar} {args : List Value} {w : World} {R : Value → World → Prop}
    (hf : P.funcs[f]? = some fn) (hname : (fn.name == "runtime.NumGoroutine") = false) (hb : fn.body = some c) (hrs : fn.results = rs.toArray) (hok : okC fn.ntmps c = true) (hn : Nat.ble args.length fn.ntmps = true)
    (h : vcC P c (retK P rs R) (argsFr args) w) : CallVC P f args w R := by
  have hn := Nat.le_of_ble_eq_true hn
  refine ⟨calls_of_wp hf hb ?_, fn, hf, hname, by rw [hb]; rfl⟩
  refine vcC_sound hmx c fn.ntmps (retK P rs R) _ _ (argsFr args) w hok ⟨rfl, by simp; omega, fun i => ?_⟩ ?_ h
  · rw [argsFr_get]
    by_cases hi : i < args.length
    · simp [Array.getElem?_append, hi]
    · simp only [Array.getD_eq_getD_getElem?, Array.getElem?_append, List.size_toArray, hi, if_false, Array.getElem?_replicate]
      rw [List.getElem?_eq_none (by omega)]
      split <;> rfl
  · intro e a fr w hr hq
    cases e <;> simp only [retK] at hq <;> first
      | exact hq.elim
      | (obtain ⟨v, h1, h2⟩ := retV_run (P := P) hrs hr hq
         exact ⟨hr.defers, v, h1, v, rfl, h2⟩)
def vcX (P : Program) (all : List Oper) (M : List Nat) (Q : Fr → World → Prop) : List (Oper × Bool) → Fr → World → Prop
  | [], fr, w => Q fr w
  | (o, al) :: rest, fr, w => vcG all o fr (fun fr => match isQuiet o.op with
      | true => vcQ P (qm al M) o (fun v => vcX P all M Q rest (puto fr o.dst v) w) fr w
      | false => vcL P o (fun v w' => (al = true ∨ Ev M w w') ∧ vcX P all M Q rest (puto fr o.dst v) w') fr w)
    (fun fr => vcX P all M Q rest (puto fr o.dst undef) w)
theorem vcOps_of_vcX {P : Program} {all : List Oper} {Q : Fr → World → Prop} : ∀ (l : List Oper) (fr : Fr) (w : World), vcX P all [] Q (l.map fun o => (o, true)) fr w → vcOps P all Q l fr w
  | [], fr, w, h => h
  | o :: l, fr, w, h => by
    unfold vcOps
    simp only [List.map_cons] at h
    unfold vcX at h
    refine vcG_mono (fun fr h => ?_) (fun fr h => vcOps_of_vcX l _ _ h) h
    unfold vcS
    split
    · rename_i hq; simp only [hq] at h; exact vcQ_mono (fun v h => vcOps_of_vcX l _ _ h) h
    · rename_i hq; simp only [hq] at h; exact vcL_mono (fun v w h => vcOps_of_vcX l _ _ h.2) h
def resolve (all : List Oper) : List (Nat × Bool) → Option (List (Oper × Bool))
  | [] => some []
  | (i, al) :: l => match all[i]? with
    | none => none
    | some o => match resolve all l with
      | none => none
      | some r => some ((o, al) :: r)
def opsThen : List (Nat × Bool) → Plan → Plan
  | [], p => p
  | (i, al) :: l, p => .op i al (opsThen l p)
theorem vc1_of_vcX {P : Program} {all : List Oper} {M : List Nat} {K : Fr → World → Prop} {Q : Fr → World → Prop} {i : Nat} {al : Bool} {o : Oper} {r : List (Oper × Bool)} {fr : Fr} {w : World} (ho : all[i]? = some o)
    (hK : ∀ fr w, vcX P all M Q r fr w → K fr w) (h : vcX P all M Q ((o, al) :: r) fr w) : vc1 P all M K i al fr w := by
  unfold vc1
  simp only [ho]
  unfold vcX at h
  refine vcG_mono (fun fr h => ?_) (fun fr h => hK _ _ h) h
  split
  · rename_i hq; simp only [hq] at h; exact vcQ_mono (fun v h => hK _ _ h) h
  · rename_i hq
    simp only [hq] at h
    cases al with
    | true => exact vcL_mono (fun v w h => hK _ _ h.2) h
    | false => exact vcL_mono (fun v w h => ⟨h.1.resolve_left (by simp), hK _ _ h.2⟩) h
theorem vcT_of_vcX {P : Program} {all : List Oper} {M : List Nat} {Q : Fr → World → Prop} (p : Plan) : ∀ (l : List (Nat × Bool)) (r : List (Oper × Bool)) (fr : Fr) (w : World), resolve all l = some r → vcX P all M (vcT P all M Q p) r fr w → vcT P all M Q (opsThen l p) fr w
  | [], r, fr, w, hr, h => by cases hr; exact h
  | (i, al) :: l, r, fr, w, hr, h => by
    unfold resolve at hr
    cases ho : all[i]? with
    | none => rw [ho] at hr; cases hr
    | some o =>
      rw [ho] at hr
      simp only at hr
      cases hl : resolve all l with
      | none => rw [hl] at hr; cases hr
      | some r' =>
        rw [hl] at hr
        cases hr
        exact vc1_of_vcX ho (fun fr w h => vcT_of_vcX p l r' fr w hl h) h
def canonB (ops : Array Oper) (l : List (Nat × Bool)) : Bool := canonP ops (opsThen l .stop)
def forceO (v : Value) (K : Value → Option Value) : Option Value :=
  match v with
  | .bool b => K (.bool b)
  | .int k n => K (.int k n)
  | .float k b => K (.float k b)
  | .complex k a b => K (.complex k a b)
  | .string s => K (.string s)
  | .pointer a => K (.pointer a)
  | .slice a l c => K (.slice a l c)
  | .map r => K (.map r)
  | .chan r => K (.chan r)
  | .func f a b => K (.func f a b)
  | .nilFunc => K .nilFunc
  | .iface t v => K (.iface t v)
  | .nilIface => K .nilIface
  | .agg cs => K (.agg cs)
  | .tuple vs => K (.tuple vs)
theorem forceO_eq (v : Value) (K : Value → Option Value) : forceO v K = K v := by cases v <;> rfl
def pureBin (op : BinOp) (x y : Value) : Option Value :=
  match x, y with
  | .int k a, .int k' b =>
    match op with
    | .shl => if b < 0 then none else some (.int k (k.wrap (a * 2 ^ (min b.toNat k.bits))))
    | .shr => if b < 0 then none else some (.int k (a.fdiv (2 ^ (min b.toNat k.bits))))
    | op => if k = k' then
      match op with
      | .add => some (.int k (k.wrap (a + b)))
      | .sub => some (.int k (k.wrap (a - b)))
      | .mul => some (.int k (k.wrap (a * b)))
      | .quo => if b = 0 then none else some (.int k (k.wrap (a.tdiv b)))
      | .rem => if b = 0 then none else some (.int k (a.tmod b))
      | .and => some (.int k (k.wrap (BitVec.ofInt k.bits a &&& BitVec.ofInt k.bits b).toNat))
      | .or => some (.int k (k.wrap (BitVec.ofInt k.bits a ||| BitVec.ofInt k.bits b).toNat))
      | .xor => some (.int k (k.wrap (BitVec.ofInt k.bits a ^^^ BitVec.ofInt k.bits b).toNat))
      | .andNot => some (.int k (k.wrap (BitVec.ofInt k.bits a &&& ~~~ (BitVec.ofInt k.bits b)).toNat))
      | .eql => some (.bool (a == b))
      | .neq => some (.bool (a != b))
      | .lss => some (.bool (decide (a < b)))
      | .leq => some (.bool (decide (a ≤ b)))
      | .gtr => some (.bool (decide (a > b)))
      | .geq => some (.bool (decide (a ≥ b)))
      | _ => none
      else none
  | _, _ => none
def pureOp (o : Oper) (fr : Fr) : Option Value :=
  match o.op with
  | .move x => forceO (ev fr x) some
  | .assign x => forceO (ev fr x) some
  | .pick c a b => match ev fr c with
    | .bool g => match g with | true => forceO (ev fr a) some | false => forceO (ev fr b) some
    | _ => none
  | .extract x i => match ev fr x with
    | .tuple vs => match vs[i]? with | some v => forceO v some | none => none
    | _ => none
  | .binOp op _ x y _ => pureBin op (ev fr x) (ev fr y)
  | .unOp op _ x => match op, ev fr x with
    | .not, .bool b => some (.bool (!b))
    | .neg, .int k n => some (.int k (k.wrap (0 - n)))
    | _, _ => none
  | .nilCheck x => match ev fr x with
    | .pointer (some a) => some (.pointer (some a))
    | .func (.func f) c d => some (.func (.func f) c d)
    | _ => none
  | _ => none
theorem vcBin_of_pureBin {P : Program} {op : BinOp} {t : TypeId} {xo yo : Operand} {x y v : Value} (h : pureBin op x y = some v) (K : Value → Prop) (hk : K v) : vcBin P op t xo yo x y K := by
  unfold pureBin at h
  split at h
  · rename_i k a k' b
    by_cases hkk : k = k'
    · cases op <;> simp only [hkk, if_true] at h <;> simp only [vcBin, hkk, if_true] <;> first
        | (cases h; exact hk)
        | (split at h <;> first | (cases h; done) | (cases h; exact ⟨by omega, hk⟩))
        | (cases h; done)
    · cases op <;> simp only [hkk, if_false] at h <;> simp only [vcBin, hkk, if_false] <;> first
        | (split at h <;> first | (cases h; done) | (cases h; exact ⟨by omega, hk⟩))
        | (cases h; done)
  · cases h
theorem vcQ_of_pure {P : Program} {M : List Nat} {o : Oper} {fr : Fr} {v : Value} (h : pureOp o fr = some v) {K : Value → Prop} (hk : K v) (w : World) : isQuiet o.op = true ∧ vcQ P M o K fr w := by
  obtain ⟨dst, op, ty, pos, after, guard⟩ := o
  cases op <;> simp only [pureOp, forceO_eq] at h <;> simp only [vcQ, force_eq, isQuiet, true_and] <;> first | (cases h; exact hk) | skip
  case pick c a b =>
    split at h
    · rename_i g hg
      cases g <;> (cases h; exact hk)
    · cases h
  case extract x i =>
    split at h
    · split at h
      · cases h; exact hk
      · cases h
    · cases h
  case binOp => exact vcBin_of_pureBin h _ hk
  case unOp op t x =>
    split at h
    · cases h; exact hk
    · cases h; exact hk
    · cases h
  case nilCheck x =>
    split at h
    · cases h; exact hk
    · cases h; exact hk
    · cases h
  all_goals cases h
def wantedB (all : List Oper) (o : Oper) (fr : Fr) : Option Bool :=
  match o.guard with
  | none => some true
  | some (j, want) => match (all[j]?).bind (·.dst) with
    | some d => match fr d with
      | .bool b => match b with
        | true => some want
        | false => some (!want)
      | _ => some false
    | none => some false
theorem vcG_wanted {all : List Oper} {o : Oper} {fr : Fr} {A B : Fr → Prop} (h : wantedB all o fr = some true) (ha : A fr) : vcG all o fr A B := by
  unfold wantedB at h
  unfold vcG
  split at h
  · exact ha
  · rename_i j want hg
    split at h
    · rename_i d hd
      split at h
      · rename_i b hb
        split at h
        · cases h
          rw [put_self fr d _ hb]
          exact ⟨fun _ => ha, fun h => by cases h⟩
        · cases want
          · rw [put_self fr d _ hb]
            exact ⟨fun _ => ha, fun h => by cases h⟩
          · cases h
      · cases h
    · cases h
theorem vcG_unwanted {all : List Oper} {o : Oper} {fr : Fr} {A B : Fr → Prop} (h : wantedB all o fr = some false) (ha : B fr) : vcG all o fr A B := by
  unfold wantedB at h
  unfold vcG
  split at h
  · cases h
  · rename_i j want hg
    split at h
    · rename_i d hd
      split at h
      · rename_i b hb
        split at h
        · cases h
          simp only [Bool.not_false]
          rw [put_self fr d _ hb]
          exact ⟨fun h => (by cases h), fun _ => ha⟩
        · cases want
          · cases h
          · simp only [Bool.not_true]
            rw [put_self fr d (.bool false) hb]
            exact ⟨fun h => (by cases h), fun _ => ha⟩
      · exact ha
    · exact ha
def pureStep (all : List Oper) (o : Oper) (fr : Fr) : Option Value :=
  match wantedB all o fr with
  | some true => pureOp o fr
  | some false => some undef
  | none => none
def runP (all : List Oper) : Nat → List (Oper × Bool) → Fr → Option (List (Nat × Value))
  | 0, _, _ => some []
  | _ + 1, [], _ => none
  | k + 1, (o, _) :: l, fr => match pureStep all o fr with
    | none => none
    | some v => match o.dst with
      | none => runP all k l fr
      | some d => match runP all k l (put fr d v) with
        | none => none
        | some r => some ((d, v) :: r)
def putL : List (Nat × Value) → Fr → Fr
  | [], fr => fr
  | (d, v) :: l, fr => putL l (put fr d v)
theorem x_pure {P : Program} {all : List Oper} {M : List Nat} {Q : Fr → World → Prop} : ∀ (k : Nat) (asg : List (Nat × Value)) (l : List (Oper × Bool)) (fr : Fr) (w : World), runP all k l fr = some asg → vcX P all M Q (l.drop k) (putL asg fr) w → vcX P all M Q l fr w
  | 0, asg, l, fr, w, h, hq => by
    unfold runP at h
    cases h
    exact hq
  | k + 1, asg, [], fr, w, h, hq => by unfold runP at h; cases h
  | k + 1, asg, (o, al) :: l, fr, w, h, hq => by
    unfold runP at h
    cases hv : pureStep all o fr with
    | none => rw [hv] at h; cases h
    | some v =>
      rw [hv] at h
      simp only at h
      have key : vcX P all M Q l (puto fr o.dst v) w := by
        cases hd : o.dst with
        | none => rw [hd] at h; exact x_pure k asg l fr w h hq
        | some d =>
          rw [hd] at h
          simp only at h
          cases hr : runP all k l (put fr d v) with
          | none => rw [hr] at h; cases h
          | some r =>
            rw [hr] at h
            cases h
            exact x_pure k r l _ w hr hq
      unfold vcX
      unfold pureStep at hv
      split at hv
      · rename_i hw
        refine vcG_wanted hw ?_
        obtain ⟨h1, h2⟩ := vcQ_of_pure (P := P) (M := qm al M) hv (K := fun v => vcX P all M Q l (puto fr o.dst v) w) key w
        rw [h1]
        exact h2
      · rename_i hw
        cases hv
        exact vcG_unwanted hw key
      · cases hv
theorem x_end {P : Program} {all : List Oper} {M : List Nat} {Q : Fr → World → Prop} {l : List (Oper × Bool)} {fr : Fr} {w : World} (hl : l = []) (h : Q fr w) : vcX P all M Q l fr w := by
  subst hl; exact h
theorem x_split {P : Program} {all : List Oper} {M : List Nat} {Q : Fr → World → Prop} {l : List (Oper × Bool)} {fr : Fr} {w : World} (d : Nat) (b : Bool) (hb : fr d = .bool b)
    (ht : b = true → vcX P all M Q l (put fr d (.bool true)) w) (hf : b = false → vcX P all M Q l (put fr d (.bool false)) w) : vcX P all M Q l fr w := by
  cases b with
  | true => have := ht rfl; rwa [put_self fr d _ hb] at this
  | false => have := hf rfl; rwa [put_self fr d _ hb] at this
theorem x_quiet {P : Program} {all : List Oper} {M : List Nat} {Q : Fr → World → Prop} {o : Oper} {al : Bool} {l l' : List (Oper × Bool)} {fr : Fr} {w : World} (hl : l' = (o, al) :: l) (hw : wantedB all o fr = some true) (hq : isQuiet o.op = true)
    (h : vcQ P (qm al M) o (fun v => vcX P all M Q l (puto fr o.dst v) w) fr w) : vcX P all M Q l' fr w := by
  subst hl
  unfold vcX
  refine vcG_wanted hw ?_
  rw [hq]
  exact h
theorem x_loud {P : Program} {all : List Oper} {M : List Nat} {Q : Fr → World → Prop} {o : Oper} {al : Bool} {l l' : List (Oper × Bool)} {fr : Fr} {w : World} (hl : l' = (o, al) :: l) (hw : wantedB all o fr = some true) (hq : isQuiet o.op = false)
    (h : vcL P o (fun v w' => (al = true ∨ Ev M w w') ∧ vcX P all M Q l (puto fr o.dst v) w') fr w) : vcX P all M Q l' fr w := by
  subst hl
  unfold vcX
  refine vcG_wanted hw ?_
  rw [hq]
  exact h
theorem x_call {P : Program} {all : List Oper} {M : List Nat} {Q : Fr → World → Prop} {dst : Option Tmp} {ty : TypeId} {pos : String} {after : Array Edge} {guard : Option (Nat × Bool)} {fo : Operand} {args : Array Operand} {ats : Array TypeId}
    {al : Bool} {l l' : List (Oper × Bool)} {fr : Fr} {w : World} (g : FuncId) (first cap : Array Value) (vs : List Value) (K : Value → World → Prop)
    (hl : l' = (⟨dst, .call ⟨.value fo, args, ats⟩, ty, pos, after, guard⟩, al) :: l) (hw : wantedB all ⟨dst, .call ⟨.value fo, args, ats⟩, ty, pos, after, guard⟩ fr = some true)
    (hf : ev fr fo = .func (.func g) first cap) (hv : first.toList ++ args.toList.map (ev fr) ++ cap.toList = vs) (hc : CallVC P g vs w K)
    (h : ∀ v w', K v w' → (al = true ∨ Ev M w w') ∧ vcX P all M Q l (puto fr dst v) w') : vcX P all M Q l' fr w := by
  refine x_loud hl hw rfl ?_
  simp only [vcL, hf, evs_eq]
  rw [hv]
  exact hc.mono h
theorem vb_quo {P : Program} {t : TypeId} {xo yo : Operand} {k : IntKind} {a b : Int} (hb : b ≠ 0) (K : Value → Prop) (h : K (.int k (k.wrap (a.tdiv b)))) : vcBin P .quo t xo yo (.int k a) (.int k b) K := by
  simp only [vcBin, if_true]; exact ⟨hb, h⟩
theorem vb_rem {P : Program} {t : TypeId} {xo yo : Operand} {k : IntKind} {a b : Int} (hb : b ≠ 0) (K : Value → Prop) (h : K (.int k (a.tmod b))) : vcBin P .rem t xo yo (.int k a) (.int k b) K := by
  simp only [vcBin, if_true]; exact ⟨hb, h⟩
theorem x_binop {P : Program} {all : List Oper} {M : List Nat} {Q : Fr → World → Prop} {dst : Option Tmp} {ty : TypeId} {pos : String} {after : Array Edge} {guard : Option (Nat × Bool)} {al : Bool} {l l' : List (Oper × Bool)} {fr : Fr} {w : World} {op : BinOp} {t yt : TypeId} {x y : Operand} (v xv yv : Value)
    (hl : l' = (⟨dst, .binOp op t x y yt, ty, pos, after, guard⟩, al) :: l) (hw : wantedB all ⟨dst, .binOp op t x y yt, ty, pos, after, guard⟩ fr = some true) (hx : ev fr x = xv) (hy : ev fr y = yv)
    (hr : ∀ K : Value → Prop, K v → vcBin P op t x y xv yv K) (h : vcX P all M Q l (puto fr dst v) w) : vcX P all M Q l' fr w := by
  refine x_quiet hl hw rfl ?_
  simp only [vcQ, hx, hy]
  exact hr _ h
theorem x_load {P : Program} {all : List Oper} {M : List Nat} {Q : Fr → World → Prop} {dst : Option Tmp} {ty : TypeId} {pos : String} {after : Array Edge} {guard : Option (Nat × Bool)} {al : Bool} {l l' : List (Oper × Bool)} {fr : Fr} {w : World} {t : TypeId} {x : Operand} {xv : Value} (v : Value)
    (hl : l' = (⟨dst, .load t x, ty, pos, after, guard⟩, al) :: l) (hw : wantedB all ⟨dst, .load t x, ty, pos, after, guard⟩ fr = some true) (hx : ev fr x = xv)
    (hr : Reads P (qm al M) (Instr.loadAt t xv) w v) (h : vcX P all M Q l (puto fr dst v) w) : vcX P all M Q l' fr w := by
  refine x_quiet hl hw rfl ?_
  simp only [vcQ, force_eq, evs_eq, evp_eq, *]
  exact ⟨v, hr, h⟩
theorem x_fieldAddr {P : Program} {all : List Oper} {M : List Nat} {Q : Fr → World → Prop} {dst : Option Tmp} {ty : TypeId} {pos : String} {after : Array Edge} {guard : Option (Nat × Bool)} {al : Bool} {l l' : List (Oper × Bool)} {fr : Fr} {w : World} {t : TypeId} {x : Operand} {i : Nat} {xv : Value} (v : Value)
    (hl : l' = (⟨dst, .fieldAddr t x i, ty, pos, after, guard⟩, al) :: l) (hw : wantedB all ⟨dst, .fieldAddr t x i, ty, pos, after, guard⟩ fr = some true) (hx : ev fr x = xv)
    (hr : Alw P (Instr.fieldAt t xv i) v) (h : vcX P all M Q l (puto fr dst v) w) : vcX P all M Q l' fr w := by
  refine x_quiet hl hw rfl ?_
  simp only [vcQ, force_eq, evs_eq, evp_eq, *]
  exact ⟨v, hr, h⟩
theorem x_indexAddr {P : Program} {all : List Oper} {M : List Nat} {Q : Fr → World → Prop} {dst : Option Tmp} {ty : TypeId} {pos : String} {after : Array Edge} {guard : Option (Nat × Bool)} {al : Bool} {l l' : List (Oper × Bool)} {fr : Fr} {w : World} {t : TypeId} {x y : Operand} {xv yv : Value} (v : Value)
    (hl : l' = (⟨dst, .indexAddr t x y, ty, pos, after, guard⟩, al) :: l) (hw : wantedB all ⟨dst, .indexAddr t x y, ty, pos, after, guard⟩ fr = some true) (hx : ev fr x = xv) (hy : ev fr y = yv)
    (hr : Reads P (qm al M) (Instr.indexAt t xv yv) w v) (h : vcX P all M Q l (puto fr dst v) w) : vcX P all M Q l' fr w := by
  refine x_quiet hl hw rfl ?_
  simp only [vcQ, force_eq, evs_eq, evp_eq, *]
  exact ⟨v, hr, h⟩
theorem x_index {P : Program} {all : List Oper} {M : List Nat} {Q : Fr → World → Prop} {dst : Option Tmp} {ty : TypeId} {pos : String} {after : Array Edge} {guard : Option (Nat × Bool)} {al : Bool} {l l' : List (Oper × Bool)} {fr : Fr} {w : World} {t : TypeId} {x y : Operand} {xv yv : Value} (v : Value)
    (hl : l' = (⟨dst, .index t x y, ty, pos, after, guard⟩, al) :: l) (hw : wantedB all ⟨dst, .index t x y, ty, pos, after, guard⟩ fr = some true) (hx : ev fr x = xv) (hy : ev fr y = yv)
    (hr : Reads P (qm al M) (Instr.index t xv yv) w v) (h : vcX P all M Q l (puto fr dst v) w) : vcX P all M Q l' fr w := by
  refine x_quiet hl hw rfl ?_
  simp only [vcQ, force_eq, evs_eq, evp_eq, *]
  exact ⟨v, hr, h⟩
theorem x_slice {P : Program} {all : List Oper} {M : List Nat} {Q : Fr → World → Prop} {dst : Option Tmp} {ty : TypeId} {pos : String} {after : Array Edge} {guard : Option (Nat × Bool)} {al : Bool} {l l' : List (Oper × Bool)} {fr : Fr} {w : World} {t : TypeId} {x : Operand} {lo hi mx : Option Operand} {xv : Value} {lv hv mv : Option Value} (v : Value)
    (hl : l' = (⟨dst, .slice t x lo hi mx, ty, pos, after, guard⟩, al) :: l) (hw : wantedB all ⟨dst, .slice t x lo hi mx, ty, pos, after, guard⟩ fr = some true) (hx : ev fr x = xv) (hlo : lo.map (ev fr) = lv) (hhi : hi.map (ev fr) = hv) (hmx : mx.map (ev fr) = mv)
    (hr : Reads P (qm al M) (Instr.sliceAt t xv lv hv mv) w v) (h : vcX P all M Q l (puto fr dst v) w) : vcX P all M Q l' fr w := by
  refine x_quiet hl hw rfl ?_
  simp only [vcQ, force_eq, evs_eq, evp_eq, *]
  exact ⟨v, hr, h⟩
theorem x_build {P : Program} {all : List Oper} {M : List Nat} {Q : Fr → World → Prop} {dst : Option Tmp} {ty : TypeId} {pos : String} {after : Array Edge} {guard : Option (Nat × Bool)} {al : Bool} {l l' : List (Oper × Bool)} {fr : Fr} {w : World} {t : TypeId} {ps : Array (Nat × Operand)} {vs : List (Nat × Value)} (v : Value)
    (hl : l' = (⟨dst, .build t ps, ty, pos, after, guard⟩, al) :: l) (hw : wantedB all ⟨dst, .build t ps, ty, pos, after, guard⟩ fr = some true) (hv : (ps.toList.map fun (i, x) => (i, ev fr x)) = vs)
    (hr : Reads P (qm al M) (Instr.build t vs.toArray) w v) (h : vcX P all M Q l (puto fr dst v) w) : vcX P all M Q l' fr w := by
  refine x_quiet hl hw rfl ?_
  simp only [vcQ, force_eq, evs_eq, evp_eq, *]
  exact ⟨v, hr, h⟩
theorem x_makeFunc {P : Program} {all : List Oper} {M : List Nat} {Q : Fr → World → Prop} {dst : Option Tmp} {ty : TypeId} {pos : String} {after : Array Edge} {guard : Option (Nat × Bool)} {al : Bool} {l l' : List (Oper × Bool)} {fr : Fr} {w : World} {fa ca : Array Operand} (g : FuncId) (first cap : Array Value)
    (hl : l' = (⟨dst, .makeFunc (.func g) fa ca, ty, pos, after, guard⟩, al) :: l) (hw : wantedB all ⟨dst, .makeFunc (.func g) fa ca, ty, pos, after, guard⟩ fr = some true) (h1 : fa.toList.map (ev fr) = first.toList) (h2 : ca.toList.map (ev fr) = cap.toList)
    (h : vcX P all M Q l (puto fr dst (.func (.func g) first cap)) w) : vcX P all M Q l' fr w := by
  refine x_quiet hl hw rfl ?_
  simp only [vcQ, evs_eq, h1, h2]
  exact h
theorem x_len {P : Program} {all : List Oper} {M : List Nat} {Q : Fr → World → Prop} {dst : Option Tmp} {ty : TypeId} {pos : String} {after : Array Edge} {guard : Option (Nat × Bool)} {al : Bool} {l l' : List (Oper × Bool)} {fr : Fr} {w : World} {args : Array Operand} {ats : Array TypeId} {vs : List Value} (v : Value)
    (hl : l' = (⟨dst, .call ⟨.builtin .len, args, ats⟩, ty, pos, after, guard⟩, al) :: l) (hw : wantedB all ⟨dst, .call ⟨.builtin .len, args, ats⟩, ty, pos, after, guard⟩ fr = some true) (hv : args.toList.map (ev fr) = vs)
    (hr : Reads P (qm al M) (Builtin.len_ ats ty vs.toArray) w v) (h : vcX P all M Q l (puto fr dst v) w) : vcX P all M Q l' fr w := by
  refine x_quiet hl hw rfl ?_
  simp only [vcQ, force_eq, evs_eq, evp_eq, *]
  exact ⟨v, hr, h⟩
theorem x_min {P : Program} {all : List Oper} {M : List Nat} {Q : Fr → World → Prop} {dst : Option Tmp} {ty : TypeId} {pos : String} {after : Array Edge} {guard : Option (Nat × Bool)} {al : Bool} {l l' : List (Oper × Bool)} {fr : Fr} {w : World} {args : Array Operand} {ats : Array TypeId} {vs : List Value} (v : Value)
    (hl : l' = (⟨dst, .call ⟨.builtin .min, args, ats⟩, ty, pos, after, guard⟩, al) :: l) (hw : wantedB all ⟨dst, .call ⟨.builtin .min, args, ats⟩, ty, pos, after, guard⟩ fr = some true) (hv : args.toList.map (ev fr) = vs)
    (hr : Reads P (qm al M) (Builtin.min_ ats ty vs.toArray) w v) (h : vcX P all M Q l (puto fr dst v) w) : vcX P all M Q l' fr w := by
  refine x_quiet hl hw rfl ?_
  simp only [vcQ, force_eq, evs_eq, evp_eq, *]
  exact ⟨v, hr, h⟩
theorem x_max {P : Program} {all : List Oper} {M : List Nat} {Q : Fr → World → Prop} {dst : Option Tmp} {ty : TypeId} {pos : String} {after : Array Edge} {guard : Option (Nat × Bool)} {al : Bool} {l l' : List (Oper × Bool)} {fr : Fr} {w : World} {args : Array Operand} {ats : Array TypeId} {vs : List Value} (v : Value)
    (hl : l' = (⟨dst, .call ⟨.builtin .max, args, ats⟩, ty, pos, after, guard⟩, al) :: l) (hw : wantedB all ⟨dst, .call ⟨.builtin .max, args, ats⟩, ty, pos, after, guard⟩ fr = some true) (hv : args.toList.map (ev fr) = vs)
    (hr : Reads P (qm al M) (Builtin.max_ ats ty vs.toArray) w v) (h : vcX P all M Q l (puto fr dst v) w) : vcX P all M Q l' fr w := by
  refine x_quiet hl hw rfl ?_
  simp only [vcQ, force_eq, evs_eq, evp_eq, *]
  exact ⟨v, hr, h⟩
theorem x_box {P : Program} {all : List Oper} {M : List Nat} {Q : Fr → World → Prop} {dst : Option Tmp} {ty : TypeId} {pos : String} {after : Array Edge} {guard : Option (Nat × Bool)} {al : Bool} {l l' : List (Oper × Bool)} {fr : Fr} {w : World} {t : TypeId} {x : Operand} {xv : Value}
    (hl : l' = (⟨dst, .box t x, ty, pos, after, guard⟩, al) :: l) (hw : wantedB all ⟨dst, .box t x, ty, pos, after, guard⟩ fr = some true) (hx : ev fr x = xv)
    (h : ∀ b w', b = w.heap.size → w'.heap[b]? = some (.cells xv.cells t (0, 0)) → Ev [] w w' → w'.heap.size = b + 1 → (al = true ∨ Ev M w w') ∧ vcX P all M Q l (puto fr dst (.pointer (some ⟨b, 0, none⟩))) w') : vcX P all M Q l' fr w := by
  refine x_loud hl hw rfl ?_
  simp only [vcL, force_eq, evs_eq, evp_eq, *]
  exact h
theorem x_alloc {P : Program} {all : List Oper} {M : List Nat} {Q : Fr → World → Prop} {dst : Option Tmp} {ty : TypeId} {pos : String} {after : Array Edge} {guard : Option (Nat × Bool)} {al : Bool} {l l' : List (Oper × Bool)} {fr : Fr} {w : World} {t : TypeId} {z : Value}
    (hl : l' = (⟨dst, .alloc t, ty, pos, after, guard⟩, al) :: l) (hw : wantedB all ⟨dst, .alloc t, ty, pos, after, guard⟩ fr = some true) (hz : (zeroValue t).run P w = .ok z w)
    (h : ∀ b w', b = w.heap.size → w'.heap[b]? = some (.cells z.cells t (0, 0)) → Ev [] w w' → w'.heap.size = b + 1 → (al = true ∨ Ev M w w') ∧ vcX P all M Q l (puto fr dst (.pointer (some ⟨b, 0, none⟩))) w') : vcX P all M Q l' fr w := by
  refine x_loud hl hw rfl ?_
  simp only [vcL, force_eq, evs_eq, evp_eq, *]
  exact ⟨z, rfl, h⟩
theorem x_buildSlice {P : Program} {all : List Oper} {M : List Nat} {Q : Fr → World → Prop} {dst : Option Tmp} {ty : TypeId} {pos : String} {after : Array Edge} {guard : Option (Nat × Bool)} {al : Bool} {l l' : List (Oper × Bool)} {fr : Fr} {w : World} {t : TypeId} {n : Nat} {ps : Array (Nat × Operand)} {vs : List (Nat × Value)} (cs : Array Value) (e : TypeId)
    (hl : l' = (⟨dst, .buildSlice t n ps, ty, pos, after, guard⟩, al) :: l) (hw : wantedB all ⟨dst, .buildSlice t n ps, ty, pos, after, guard⟩ fr = some true) (hv : (ps.toList.map fun (i, x) => (i, ev fr x)) = vs) (hr : (Instr.buildSlice t n vs.toArray).run P w = .ok (.slice (some ⟨w.heap.size, 0, none⟩) n n) (w.alloc (.cells cs e (0, 0))))
    (h : ∀ b w', b = w.heap.size → w'.heap[b]? = some (.cells cs e (0, 0)) → Ev [] w w' → w'.heap.size = b + 1 → (al = true ∨ Ev M w w') ∧ vcX P all M Q l (puto fr dst (.slice (some ⟨b, 0, none⟩) n n)) w') : vcX P all M Q l' fr w := by
  refine x_loud hl hw rfl ?_
  simp only [vcL, force_eq, evs_eq, evp_eq, *]
  exact ⟨cs, e, rfl, h⟩
theorem x_makeSlice {P : Program} {all : List Oper} {M : List Nat} {Q : Fr → World → Prop} {dst : Option Tmp} {ty : TypeId} {pos : String} {after : Array Edge} {guard : Option (Nat × Bool)} {al : Bool} {l l' : List (Oper × Bool)} {fr : Fr} {w : World} {t : TypeId} {x y : Operand} {xv yv : Value} (v : Value) (w' : World)
    (hl : l' = (⟨dst, .makeSlice t x y, ty, pos, after, guard⟩, al) :: l) (hw : wantedB all ⟨dst, .makeSlice t x y, ty, pos, after, guard⟩ fr = some true) (hx : ev fr x = xv) (hy : ev fr y = yv) (hr : (Instr.makeSlice t xv yv).run P w = .ok v w')
    (h : (al = true ∨ Ev M w w') ∧ vcX P all M Q l (puto fr dst v) w') : vcX P all M Q l' fr w := by
  refine x_loud hl hw rfl ?_
  simp only [vcL, force_eq, evs_eq, evp_eq, *]
  exact ⟨v, w', rfl, h⟩
theorem x_store {P : Program} {all : List Oper} {M : List Nat} {Q : Fr → World → Prop} {dst : Option Tmp} {ty : TypeId} {pos : String} {after : Array Edge} {guard : Option (Nat × Bool)} {al : Bool} {l l' : List (Oper × Bool)} {fr : Fr} {w : World} {t : TypeId} {x y : Operand} {xv yv : Value} (w' : World)
    (hl : l' = (⟨dst, .store t x y, ty, pos, after, guard⟩, al) :: l) (hw : wantedB all ⟨dst, .store t x y, ty, pos, after, guard⟩ fr = some true) (hx : ev fr x = xv) (hy : ev fr y = yv) (hr : (Instr.storeAt t xv yv).run P w = .ok () w')
    (h : (al = true ∨ Ev M w w') ∧ vcX P all M Q l (puto fr dst undef) w') : vcX P all M Q l' fr w := by
  refine x_loud hl hw rfl ?_
  simp only [vcL, force_eq, evs_eq, evp_eq, *]
  exact ⟨w', rfl, h⟩
theorem x_convert {P : Program} {all : List Oper} {M : List Nat} {Q : Fr → World → Prop} {dst : Option Tmp} {ty : TypeId} {pos : String} {after : Array Edge} {guard : Option (Nat × Bool)} {al : Bool} {l l' : List (Oper × Bool)} {fr : Fr} {w : World} {t s : TypeId} {x : Operand} {xv : Value} (v : Value) (w' : World)
    (hl : l' = (⟨dst, .convert s t x, ty, pos, after, guard⟩, al) :: l) (hw : wantedB all ⟨dst, .convert s t x, ty, pos, after, guard⟩ fr = some true) (hx : ev fr x = xv) (hr : (convert s t xv).run P w = .ok v w')
    (h : (al = true ∨ Ev M w w') ∧ vcX P all M Q l (puto fr dst v) w') : vcX P all M Q l' fr w := by
  refine x_loud hl hw rfl ?_
  simp only [vcL, force_eq, evs_eq, evp_eq, *]
  exact ⟨v, w', rfl, h⟩
theorem x_builtin {P : Program} {all : List Oper} {M : List Nat} {Q : Fr → World → Prop} {dst : Option Tmp} {ty : TypeId} {pos : String} {after : Array Edge} {guard : Option (Nat × Bool)} {al : Bool} {l l' : List (Oper × Bool)} {fr : Fr} {w : World} {b : Builtin} {args : Array Operand} {ats : Array TypeId} {vs : List Value} (v : Value) (w' : World)
    (hl : l' = (⟨dst, .call ⟨.builtin b, args, ats⟩, ty, pos, after, guard⟩, al) :: l) (hw : wantedB all ⟨dst, .call ⟨.builtin b, args, ats⟩, ty, pos, after, guard⟩ fr = some true) (hq : isQuiet (.call ⟨.builtin b, args, ats⟩) = false) (hv : args.toList.map (ev fr) = vs) (hr : (builtin b ats ty (args.map fun | .const _ => true | _ => false) vs.toArray).run P w = .ok (.value v) w')
    (h : (al = true ∨ Ev M w w') ∧ vcX P all M Q l (puto fr dst v) w') : vcX P all M Q l' fr w := by
  refine x_loud hl hw hq ?_
  simp only [vcL, force_eq, evs_eq, evp_eq, *]
  exact ⟨v, w', rfl, h⟩
theorem c_plain {P : Program} {Q : Exit → Fr → World → Prop} {id : Nat} {ops : Array Oper} {fr : Fr} {w : World} (h : vcX P ops.toList [] (Q .normal) (ops.toList.map fun o => (o, true)) fr w) : vcC P (.region id ops false) Q fr w :=
  vcOps_of_vcX _ _ _ h
theorem c_drawn {P : Program} {Q : Exit → Fr → World → Prop} {id : Nat} {ops : Array Oper} {fr : Fr} {w : World} (M : List Nat) (l : List (Nat × Bool)) (r : List (Oper × Bool)) (hc : canonB ops l = true) (hr : resolve ops.toList l = some r)
    (h : vcX P ops.toList M (Q .normal) r fr w.drew) : vcC P (.region id ops true) Q fr w :=
  ⟨M, opsThen l .stop, hc, vcT_of_vcX .stop _ _ _ _ hr h⟩
theorem c_join {P : Program} {Q : Exit → Fr → World → Prop} {a b : Code} {fr : Fr} {w : World} {σ : Type} (live : σ → List (Nat × Value)) (R : σ → World → Prop)
    (h1 : vcC P a (thenK (fun fr' w' => ∃ s, agree (live s) fr' ∧ R s w') Q) fr w) (h2 : ∀ (s : σ) (J : Fr) (w' : World), R s w' → vcC P b Q (ofL (live s) J) w') : vcC P (.seq a b) Q fr w :=
  vcC_mono a _ _ fr w (thenK_mono (fun fr' w' ⟨s, hag, hR⟩ => by have := h2 s fr' w' hR; rwa [← agree_ofL _ _ hag] at this) (fun _ _ _ h => h)) h1
theorem c_seq {P : Program} {Q : Exit → Fr → World → Prop} {a b : Code} {fr : Fr} {w : World} (h : vcC P a (thenK (vcC P b Q) Q) fr w) : vcC P (.seq a b) Q fr w := h
theorem c_block {P : Program} {Q : Exit → Fr → World → Prop} {id : Nat} {c : Code} {fr : Fr} {w : World} (h : vcC P c (blockK id Q) fr w) : vcC P (.block id c) Q fr w := h
theorem c_loop {P : Program} {Q : Exit → Fr → World → Prop} {c : Code} {fr : Fr} {w : World} (h : LoopVC P c Q fr w) : vcC P (.loop c) Q fr w := h
theorem c_cond {P : Program} {Q : Exit → Fr → World → Prop} {t : Tmp} {x y : Code} {fr : Fr} {w : World} (b : Bool) (hb : fr t = .bool b) (ht : b = true → vcC P x Q (put fr t (.bool true)) w) (hf : b = false → vcC P y Q (put fr t (.bool false)) w) : vcC P (.cond (.tmp t) x y) Q fr w := by
  simp only [vcC, hb]; exact ⟨ht, hf⟩
theorem c_true {P : Program} {Q : Exit → Fr → World → Prop} {t : Tmp} {x y : Code} {fr : Fr} {w : World} (hb : fr t = .bool true) (h : vcC P x Q fr w) : vcC P (.cond (.tmp t) x y) Q fr w := by
  simp only [vcC, hb]; exact ⟨fun _ => by rwa [put_self fr t _ hb], fun h => by cases h⟩
theorem c_false {P : Program} {Q : Exit → Fr → World → Prop} {t : Tmp} {x y : Code} {fr : Fr} {w : World} (hb : fr t = .bool false) (h : vcC P y Q fr w) : vcC P (.cond (.tmp t) x y) Q fr w := by
  simp only [vcC, hb]; exact ⟨fun h => by (cases h), fun _ => by rwa [put_self fr t _ hb]⟩
theorem c_skip {P : Program} {Q : Exit → Fr → World → Prop} {fr : Fr} {w : World} (h : Q .normal fr w) : vcC P .skip Q fr w := h
theorem c_ret {P : Program} {Q : Exit → Fr → World → Prop} {fr : Fr} {w : World} (h : Q .ret fr w) : vcC P .ret Q fr w := h
theorem c_exit {P : Program} {Q : Exit → Fr → World → Prop} {id : Nat} {fr : Fr} {w : World} (h : Q (.exit id) fr w) : vcC P (.exit id) Q fr w := h
theorem k_then {f : Fr → World → Prop} {Q : Exit → Fr → World → Prop} {fr : Fr} {w : World} (h : f fr w) : thenK f Q .normal fr w := h
theorem k_then_exit {f : Fr → World → Prop} {Q : Exit → Fr → World → Prop} {id : Nat} {fr : Fr} {w : World} (h : Q (.exit id) fr w) : thenK f Q (.exit id) fr w := h
theorem k_then_ret {f : Fr → World → Prop} {Q : Exit → Fr → World → Prop} {fr : Fr} {w : World} (h : Q .ret fr w) : thenK f Q .ret fr w := h
abbrev Vi (n : Int) : Value := .int .i64 n
abbrev Vp (b o : Nat) : Value := .pointer (some ⟨b, o, none⟩)
abbrev Ad (b o : Nat) : Option Addr := some ⟨b, o, none⟩
theorem inl1 {q r : Prop} (h : r) : (true = true ∨ q) ∧ r := ⟨.inl rfl, h⟩
theorem mem1 {b : Nat} : b ∈ [b] := List.mem_singleton.2 rfl
theorem c_sp {P : Program} {Q : Exit → Fr → World → Prop} {id : Nat} {ops : Array Oper} {b : Code} {fr : Fr} {w : World} (h : vcX P ops.toList [] (thenK (vcC P b Q) Q .normal) (ops.toList.map fun o => (o, true)) fr w) : vcC P (.seq (.region id ops false) b) Q fr w := c_seq (c_plain h)
theorem x_ek {P : Program} {all : List Oper} {M : List Nat} {f : Fr → World → Prop} {Q : Exit → Fr → World → Prop} {fr : Fr} {w : World} (h : f fr w) : vcX P all M (thenK f Q .normal) [] fr w := x_end rfl (k_then h)
theorem k_block {id : Nat} {Q : Exit → Fr → World → Prop} {fr : Fr} {w : World} (h : Q .normal fr w) : blockK id Q .normal fr w := h
theorem k_block_ret {id : Nat} {Q : Exit → Fr → World → Prop} {fr : Fr} {w : World} (h : Q .ret fr w) : blockK id Q .ret fr w := h
theorem k_block_in {id : Nat} {Q : Exit → Fr → World → Prop} {fr : Fr} {w : World} (h : Q .normal fr w) : blockK id Q (.exit id) fr w := by simp only [blockK, if_true]; exact h
theorem k_block_out {id id' : Nat} {Q : Exit → Fr → World → Prop} {fr : Fr} {w : World} (hne : Nat.beq id' id = false) (h : Q (.exit id') fr w) : blockK id Q (.exit id') fr w := by
  have : id' ≠ id := fun e => by subst e; simp at hne
  simp only [blockK, if_neg this]; exact h
theorem c_norm {P : Program} {Q : Exit → Fr → World → Prop} {c : Code} {fr : Fr} {w : World} (live : List (Nat × Value)) (ha : agree live fr) (h : ∀ J, vcC P c Q (ofL live J) w) : vcC P c Q fr w := by
  rw [agree_ofL _ _ ha]; exact h _
theorem r_ret {P : Program} {rs : List ResultVar} {R : Value → World → Prop} {fr : Fr} {w : World} (h : retV P rs R fr w) : retK P rs R .ret fr w := h
theorem r_normal {P : Program} {rs : List ResultVar} {R : Value → World → Prop} {fr : Fr} {w : World} (h : retV P rs R fr w) : retK P rs R .normal fr w := h
theorem r_vals {P : Program} {rs : List ResultVar} {R : Value → World → Prop} {fr : Fr} {w : World} (vs : List Value) (hg : resGet P fr w rs vs) (h : R (packV vs) w) : retV P rs R fr w := ⟨vs, hg, h⟩
theorem guard_l {α : Type} {c : Prop} [Decidable c] {x : Option α} {r : α} (h : (if c then x else none) = some r) : c := by
  by_cases hc : c
  · exact hc
  · rw [if_neg hc] at h; cases h
theorem guard_r {α : Type} {c : Prop} [Decidable c] {x : Option α} {r : α} (h : (if c then x else none) = some r) : x = some r := by
  by_cases hc : c
  · rwa [if_pos hc] at h
  · rw [if_neg hc] at h; cases h
theorem ite_t {α : Type} {b : Bool} {x y : Option α} {r : α} (hb : b = true) (h : (if b = true then x else y) = some r) : x = some r := by rwa [if_pos hb] at h
theorem ite_f {α : Type} {b : Bool} {x y : Option α} {r : α} (hb : b = false) (h : (if b = true then x else y) = some r) : y = some r := by rwa [if_neg (by simp [hb])] at h
theorem bind_some {α β : Type} {x : Option α} {f : α → Option β} {r : β} (h : x.bind f = some r) : ∃ a, x = some a ∧ f a = some r := by
  cases x with
  | none => cases h
  | some a => exact ⟨a, rfl, h⟩
theorem some_inj {α : Type} {a b : α} (h : some a = some b) : a = b := by cases h; rfl
inductive Step (σ ρ : Type) where
  | next (s : σ)
  | done (r : ρ)
def loopN {σ ρ : Type} (step : σ → Option (Step σ ρ)) : Nat → σ → Option ρ
  | 0, _ => none
  | n + 1, s => (step s).bind fun t => match t with
    | .next s' => loopN step n s'
    | .done r => some r
def loop {σ ρ : Type} (step : σ → Option (Step σ ρ)) (s : σ) : Option ρ := loopN step 18446744073709551616 s
theorem loop_some {σ ρ : Type} {step : σ → Option (Step σ ρ)} {s : σ} {r : ρ} (h : loop step s = some r) : ∃ n, loopN step n s = some r := ⟨_, h⟩
theorem loopN_zero {σ ρ : Type} {step : σ → Option (Step σ ρ)} {s : σ} {r : ρ} (h : loopN step 0 s = some r) : False := by cases h
theorem Ev.drew (w : World) : Ev [] w w.drew := ⟨rfl, rfl, rfl, Nat.le_refl _, fun _ _ _ => rfl⟩
end Go.V
