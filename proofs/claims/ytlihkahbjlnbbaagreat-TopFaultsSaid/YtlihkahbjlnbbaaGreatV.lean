
/- A calculus of weakest preconditions that Lean computes over the code of a function: frames are functions from slots to values. No condition. -/
import Derived.Orders
import Derived.Scope
import Derived.Below
import Derived.Laws.AppendOwn
import Derived.KernelRfl
set_option linter.unusedSimpArgs false
namespace Go.V
open Go
structure Ev (M:List Nat) (w w':World):Prop where
  os:w'.os=w.os
  tape:w'.tape=w.tape
  output:w'.output=w.output
  size:w.heap.size≤w'.heap.size
  block:∀ k,k<w.heap.size→k∉M→w'.heap[k]? = w.heap[k]?
theorem Ev.refl (M:List Nat)(w:World):Ev M w w:=⟨rfl,rfl,rfl,Nat.le_refl _,fun _ _ _=>rfl⟩
theorem Ev.trans {M:List Nat}{a b c:World}(h:Ev M a b)(k:Ev M b c):Ev M a c:=
  ⟨k.os.trans h.os,k.tape.trans h.tape,k.output.trans h.output,Nat.le_trans h.size k.size,
    fun i g j=>(k.block i (Nat.lt_of_lt_of_le g h.size) j).trans (h.block i g j)⟩
abbrev Fr:=Nat→Value
def put (fr:Fr) (d:Nat) (v:Value):Fr:=fun i=>cond (Nat.beq i d) v (fr i)
def MI (fr:Fr) (d:Option Tmp) (v:Value):Fr:=match d with | some d=>put fr d v | none=>fr
def ofL:List (Nat×Value)→Fr→Fr
  | [],J=>J
  | (k,v)::l,J=>fun i=>cond (Nat.beq i k) v (ofL l J i)
def agree:List (Nat×Value)→Fr→Prop
  | [],_=>True
  | (k,v)::l,fr=>fr k=v∧agree l fr
theorem ZD:∀ (l:List (Nat×Value)) (fr:Fr),agree l fr→fr=ofL l fr
  | [],_,_=>rfl
  | (k,v)::l,fr,h=>by
    funext i;have q:=ZD l fr h.2
    by_cases g:i=k
    · subst g; simp [ofL,h.1]
    · have:Nat.beq i k=false:=by cases j:Nat.beq i k with | false=>rfl | true=>exact absurd (Nat.eq_of_beq_eq_true j) g
      simp only [ofL,this,cond_false];exact congrFun q i
def ev (fr:Fr):Operand→Value
  | .tmp t=>fr t
  | .const v=>v
  | .global g=>.pointer (some ⟨g,0,none⟩)
  | .func f=>.func (.func f) #[] #[]
structure Rel (n:Nat) (a:Act) (fr:Fr):Prop where
  defers:a.defers=[]
  size:a.tmps.size=n
  at_:∀ i,a.tmps.getD i undef=fr i
theorem Rel.eval {n:Nat}{a:Act}{fr:Fr}(h:Rel n a fr):a.eval=ev fr:=by
  funext x;cases x <;> simp only [Act.eval,ev]
  exact h.at_ _
theorem Rel.put {n:Nat}{a:Act}{fr:Fr}(h:Rel n a fr){d:Option Tmp}(hd:∀ t,d=some t→t<n)(v:Value):Rel n (a.put d v) (MI fr d v):=by
  cases d with
  | none=>exact h
  | some t=>
    have q:=hd t rfl;refine ⟨h.defers,by simp [Act.put,h.size],fun i=>?_⟩;simp only [Act.put,MI,V.put]
    by_cases g:i=t
    · subst g;simp [h.size,q]
    · have:Nat.beq i t=false:=by cases j:Nat.beq i t with | false=>rfl | true=>exact absurd (Nat.eq_of_beq_eq_true j) g
      simp only [this,cond_false];rw [← h.at_ i];simp [Array.getElem?_setIfInBounds_ne (Ne.symm g)]
def Vd (P:Program) (op:BinOp) (t:TypeId) (xo yo:Operand) (x y:Value) (K:Value→Prop):Prop:=
  match x,y with
  | .int k a,.int k' b=>
    match op with
    | .shl=>0≤b∧K (.int k (k.wrap (a*2 ^ (min b.toNat k.bits))))
    | .shr=>0≤b∧K (.int k (a.fdiv (2 ^ (min b.toNat k.bits))))
    | op=>if k=k' then
      match op with
      | .add=>K (.int k (k.wrap (a+b)))
      | .sub=>K (.int k (k.wrap (a-b)))
      | .mul=>K (.int k (k.wrap (a*b)))
      | .quo=>b≠0∧K (.int k (k.wrap (a.tdiv b)))
      | .rem=>b≠0∧K (.int k (a.tmod b))
      | .and=>K (.int k (k.wrap (BitVec.ofInt k.bits a&&&BitVec.ofInt k.bits b).toNat))
      | .or=>K (.int k (k.wrap (BitVec.ofInt k.bits a ||| BitVec.ofInt k.bits b).toNat))
      | .xor=>K (.int k (k.wrap (BitVec.ofInt k.bits a ^^^ BitVec.ofInt k.bits b).toNat))
      | .andNot=>K (.int k (k.wrap (BitVec.ofInt k.bits a&&&~~~ (BitVec.ofInt k.bits b)).toNat))
      | .eql=>K (.bool (a==b))
      | .neq=>K (.bool (a != b))
      | .lss=>K (.bool (decide (a<b)))
      | .leq=>K (.bool (decide (a≤b)))
      | .gtr=>K (.bool (decide (a>b)))
      | .geq=>K (.bool (decide (a≥b)))
      | _=>False
      else False
  | _,_=>∃ v,(∀ w,(do eqGuard op t xo yo x y; binOp op t x y:Sem Value).run P w=.ok v w)∧K v
theorem run_bind {α β:Type}{P:Program}(s:Sem α)(f:α→Sem β)(w:World) :
    (s >>= f).run P w=match s.run P w with | .ok a w'=>(f a).run P w' | .halt h w'=>.halt h w':=by
  rw [Sem.run_bind];cases s.run P w <;> rfl
theorem M7G {P:Program}(op:BinOp)(t:TypeId)(k:IntKind)(a b:Int)(h:op≠.shl∧op≠.shr)(w:World) :
    (binOp op t (.int k a) (.int k b)).run P w=(match op with
    | .add | .sub | .mul=>Op.intArith op k a b
    | .quo | .rem=>Op.intDiv op k a b
    | .and | .or | .xor | .andNot=>Op.intBits op k a b
    | _=>Op.intCmp op a b).run P w:=by
  cases op <;> first | (exact absurd rfl h.1) | (exact absurd rfl h.2) | (simp only [binOp]; rw [if_neg (by simp)])
theorem Z9 {P:Program}{op:BinOp}{t:TypeId}{xo yo:Operand}{x y:Value}{K:Value→Prop}(h:Vd P op t xo yo x y K) :
    ∃ v,(∀ w,(do eqGuard op t xo yo x y; binOp op t x y:Sem Value).run P w=.ok v w)∧K v:=by
  unfold Vd at h
  split at h
  · rename_i k a k' b
    have g:∀ w,(do eqGuard op t xo yo (.int k a) (.int k' b); binOp op t (.int k a) (.int k' b):Sem Value).run P w=(binOp op t (.int k a) (.int k' b)).run P w:=by
      intro w;cases op <;> rfl
    split at h
    · exact ⟨_,fun w=>by rw [g]; simp only [binOp,Op.shift,if_neg (show ¬ b<0 by omega)]; rfl,h.2⟩
    · exact ⟨_,fun w=>by rw [g]; simp only [binOp,Op.shift,if_neg (show ¬ b<0 by omega)]; rfl,h.2⟩
    · rename_i q r
      split at h
      · rename_i u
        subst u;have j:=fun w=>(g w).trans (M7G (P:=P) op t k a b ⟨q,r⟩ w)
        clear g q r;cases op <;> simp only at h j <;> first
          | exact h.elim
          | exact ⟨_,fun w=>by rw [j]; rfl,h⟩
          | exact ⟨_,fun w=>by rw [j,Op.intDiv,if_neg h.1]; rfl,h.2⟩
      · exact h.elim
  · exact h
def ME (P:Program) (M:List Nat) (s:Sem Value) (w:World) (v:Value):Prop:=∀ w',Ev M w w'→s.run P w'=.ok v w'
def Pr:Op→Bool
  | .move _ | .assign _ | .pick .. | .extract .. | .binOp .. | .unOp .. | .nilCheck _ | .load .. | .fieldAddr .. | .field .. | .indexAddr .. | .index .. | .slice .. | .build .. | .makeFunc .. | .lookup ..=>true
  | .call c=>match c.callee with
    | .builtin .len | .builtin .cap | .builtin .min | .builtin .max=>true
    | _=>false
  | _=>false
def PJ (v:Value) (K:Value→Prop):Prop:=
  match v with
  | .bool b=>K (.bool b)
  | .int k n=>K (.int k n)
  | .float k b=>K (.float k b)
  | .complex k a b=>K (.complex k a b)
  | .string s=>K (.string s)
  | .pointer a=>K (.pointer a)
  | .slice a l c=>K (.slice a l c)
  | .map r=>K (.map r)
  | .chan r=>K (.chan r)
  | .func f a b=>K (.func f a b)
  | .nilFunc=>K .nilFunc
  | .iface t v=>K (.iface t v)
  | .nilIface=>K .nilIface
  | .agg cs=>K (.agg cs)
  | .tuple vs=>K (.tuple vs)
theorem MH (v:Value)(K:Value→Prop):PJ v K=K v:=by cases v <;> rfl
def evs (fr:Fr):List Operand→(List Value→Prop)→Prop
  | [],K=>K []
  | x::l,K=>PJ (ev fr x) fun v=>evs fr l fun vs=>K (v::vs)
theorem Pf (fr:Fr):∀ (l:List Operand) (K:List Value→Prop),evs fr l K=K (l.map (ev fr))
  | [],K=>rfl
  | x::l,K=>by simp only [evs,MH,Pf fr l,List.map_cons]
def evp (fr:Fr):List (Nat×Operand)→(List (Nat×Value)→Prop)→Prop
  | [],K=>K []
  | (i,x)::l,K=>PJ (ev fr x) fun v=>evp fr l fun vs=>K ((i,v)::vs)
theorem Pw (fr:Fr):∀ (l:List (Nat×Operand)) (K:List (Nat×Value)→Prop),evp fr l K=K (l.map fun (i,x)=>(i,ev fr x))
  | [],K=>rfl
  | (i,x)::l,K=>by simp only [evp,MH,Pw fr l,List.map_cons]
def Alw (P:Program) (s:Sem Value) (v:Value):Prop:=∀ w:World,s.run P w=.ok v w
def vcQ (P:Program) (M:List Nat) (o:Oper) (K:Value→Prop) (fr:Fr) (w:World):Prop:=
  match o.op with
  | .move x=>PJ (ev fr x) K
  | .assign x=>PJ (ev fr x) K
  | .pick c a b=>match ev fr c with
    | .bool g=>match g with | true=>PJ (ev fr a) K | false=>PJ (ev fr b) K
    | _=>False
  | .extract x i=>match ev fr x with
    | .tuple vs=>match vs[i]? with | some v=>PJ v K | none=>False
    | _=>False
  | .binOp op t x y _=>Vd P op t x y (ev fr x) (ev fr y) K
  | .unOp op _ x=>match op,ev fr x with
    | .not,.bool b=>K (.bool (!b))
    | .neg,.int k n=>K (.int k (k.wrap (0-n)))
    | op,x=>∃ v,(∀ w,(Op.unary op x).run P w=.ok v w)∧K v
  | .nilCheck x=>match ev fr x with
    | .pointer (some a)=>K (.pointer (some a))
    | .func (.func f) c d=>K (.func (.func f) c d)
    | _=>False
  | .load t a=>PJ (ev fr a) fun a=>∃ v,ME P M (Instr.loadAt t a) w v∧K v
  | .fieldAddr s x f=>PJ (ev fr x) fun x=>∃ v,Alw P (Instr.fieldAt s x f) v∧K v
  | .field s x f=>PJ (ev fr x) fun x=>∃ v,ME P M (Instr.field s x f) w v∧K v
  | .indexAddr t x i=>PJ (ev fr x) fun x=>PJ (ev fr i) fun i=>∃ v,ME P M (Instr.indexAt t x i) w v∧K v
  | .index t x i=>PJ (ev fr x) fun x=>PJ (ev fr i) fun i=>∃ v,ME P M (Instr.index t x i) w v∧K v
  | .lookup t x i ok=>PJ (ev fr x) fun x=>PJ (ev fr i) fun i=>∃ v,ME P M (Instr.lookup t x i ok) w v∧K v
  | .slice t x l h m=>PJ (ev fr x) fun x=>∃ v,ME P M (Instr.sliceAt t x (l.map (ev fr)) (h.map (ev fr)) (m.map (ev fr))) w v∧K v
  | .build t j=>evp fr j.toList fun q=>∃ v,ME P M (Instr.build t q.toArray) w v∧K v
  | .makeFunc f a b=>evs fr a.toList fun a=>evs fr b.toList fun b=>K (.func f a.toArray b.toArray)
  | .call c=>match c.callee with
    | .builtin .len=>evs fr c.args.toList fun vs=>∃ v,ME P M (Builtin.len_ c.argTypes o.type vs.toArray) w v∧K v
    | .builtin .cap=>evs fr c.args.toList fun vs=>∃ v,ME P M (Builtin.cap_ c.argTypes o.type vs.toArray) w v∧K v
    | .builtin .min=>evs fr c.args.toList fun vs=>∃ v,ME P M (Builtin.min_ c.argTypes o.type vs.toArray) w v∧K v
    | .builtin .max=>evs fr c.args.toList fun vs=>∃ v,ME P M (Builtin.max_ c.argTypes o.type vs.toArray) w v∧K v
    | _=>False
  | _=>False
theorem V4 (xs:Array Operand)(f:Operand→Value):(xs.toList.map f).toArray=xs.map f:=by rw [← Array.toList_map]
theorem T9 (xs:Array (Nat×Operand))(f:Operand→Value):(xs.toList.map fun (i,x)=>(i,f x)).toArray=xs.map fun (i,x)=>(i,f x):=by rw [← Array.toList_map]
theorem MG {P:Program}(s:Sem Value)(v:Value)(w w':World)(h:s.run P w=.ok v w') :
    ((do pure (.value (← s)):Sem Next)).run P w=.ok (.value v) w':=by
  rw [run_bind,h]; rfl
theorem M1q {P:Program}{M:List Nat}{o:Oper}{K:Value→Prop}{fr:Fr}{w:World}(h:vcQ P M o K fr w) :
    ∃ v,(∀ w',Ev M w w'→(execOp (ev fr) o).run P w'=.ok (.value v) w')∧K v:=by
  obtain ⟨dst,op,ty,pos,F,guard⟩:=o;have q:∀ (s:Sem Value) (K:Value→Prop),(∃ v,ME P M s w v∧K v)→∃ v,(∀ w',Ev M w w'→((do pure (.value (← s)):Sem Next)).run P w'=.ok (.value v) w')∧K v:=
    fun s K ⟨v,h1,j⟩=>⟨v,fun w' A=>MG s v w' w' (h1 w' A),j⟩
  cases op <;> simp only [vcQ,MH,Pf,Pw,V4,T9] at h
  case move x=>exact ⟨_,fun _ _=>rfl,h⟩
  case assign x=>exact ⟨_,fun _ _=>rfl,h⟩
  case pick c a b=>
    split at h
    · rename_i g D
      cases g with
      | true=>exact ⟨_,fun w' _=>by simp only [execOp,D]; rfl,h⟩
      | false=>exact ⟨_,fun w' _=>by simp only [execOp,D]; rfl,h⟩
    · exact h.elim
  case extract x i=>
    split at h
    · rename_i vs hv
      split at h
      · rename_i v E
        exact ⟨v,fun w' _=>by simp only [execOp,hv]; exact MG _ _ _ _ (by simp [Instr.extract,E]),h⟩
      · exact h.elim
    · exact h.elim
  case binOp op t x y yt=>
    obtain ⟨v,h1,j⟩:=Z9 h;exact ⟨v,fun w' _=>MG _ v w' w' (h1 w'),j⟩
  case unOp op t x=>
    split at h
    · rename_i b u
      exact ⟨_,fun w' _=>by simp only [execOp,u]; rfl,h⟩
    · rename_i k n u
      exact ⟨_,fun w' _=>by simp only [execOp,u]; rfl,h⟩
    · obtain ⟨v,h1,j⟩:=h;exact ⟨v,fun w' _=>MG _ v w' w' (h1 w'),j⟩
  case nilCheck x=>
    split at h
    · rename_i a ha
      exact ⟨_,fun w' _=>by simp only [execOp,ha]; rfl,h⟩
    · rename_i f c d ha
      exact ⟨_,fun w' _=>by simp only [execOp,ha]; rfl,h⟩
    · exact h.elim
  case load t a=>exact q _ _ h
  case fieldAddr s x f=>exact let ⟨v,h1,j⟩:=h; ⟨v,fun w' _=>MG _ v w' w' (h1 w'),j⟩
  case field s x f=>exact q _ _ h
  case indexAddr t x i=>exact q _ _ h
  case index t x i=>exact q _ _ h
  case lookup t x i ok=>exact q _ _ h
  case slice t x l hh m=>exact q _ _ h
  case build t parts=>exact q _ _ h
  case makeFunc f a b=>exact ⟨_,fun w' _=>rfl,h⟩
  case call c=>
    obtain ⟨callee,args,B⟩:=c;have r:∀ (b:Builtin) (s:Sem Value) (cs:Array Bool),builtin b B ty cs (args.map (ev fr))=(do pure (.value (← s)):Sem Next)→(∃ v,ME P M s w v∧K v)→
        ∃ v,(∀ w',Ev M w w'→(do let d ← (pure { target:=.builtin b B ty cs,args:=args.map (ev fr) }:Sem Deferred); invoke d.target d.args:Sem Next).run P w'=.ok (.value v) w')∧K v:=by
      intro b s cs hs ⟨v,h1,j⟩;refine ⟨v,fun w' A=>?_,j⟩;rw [run_bind];simp only [Sem.run_pure,invoke,hs];exact MG s v w' w' (h1 w' A)
    simp only at h
    split at h
    · exact r .len _ _ rfl h
    · exact r .cap _ _ rfl h
    · exact r .min _ _ rfl h
    · exact r .max _ _ rfl h
    · exact h.elim
  all_goals exact h.elim
def M2q:Op→Bool
  | .move _ | .assign _ | .pick .. | .extract .. | .binOp .. | .unOp .. | .nilCheck _ | .makeFunc .. | .fieldAddr ..=>true
  | _=>false
theorem M8t {P:Program}{M:List Nat}{o:Oper}{K:Value→Prop}{fr:Fr}{w:World}(u:M2q o.op=true)(h:vcQ P M o K fr w) :
    ∃ v,(∀ w',(execOp (ev fr) o).run P w'=.ok (.value v) w')∧K v:=by
  obtain ⟨dst,op,ty,pos,B,guard⟩:=o;cases op <;> first | (cases u; done) | skip
  all_goals simp only [vcQ,MH,Pf,Pw,V4,T9] at h
  case move x=>exact ⟨_,fun _=>rfl,h⟩
  case assign x=>exact ⟨_,fun _=>rfl,h⟩
  case pick c a b=>
    split at h
    · rename_i g r
      cases g with
      | true=>exact ⟨_,fun w'=>by simp only [execOp,r]; rfl,h⟩
      | false=>exact ⟨_,fun w'=>by simp only [execOp,r]; rfl,h⟩
    · exact h.elim
  case extract x i=>
    split at h
    · rename_i vs hv
      split at h
      · rename_i v A
        exact ⟨v,fun w'=>by simp only [execOp,hv]; exact MG _ _ _ _ (by simp [Instr.extract,A]),h⟩
      · exact h.elim
    · exact h.elim
  case binOp op t x y yt=>
    obtain ⟨v,h1,j⟩:=Z9 h;exact ⟨v,fun w'=>MG _ v w' w' (h1 w'),j⟩
  case unOp op t x=>
    split at h
    · rename_i b q
      exact ⟨_,fun w'=>by simp only [execOp,q]; rfl,h⟩
    · rename_i k n q
      exact ⟨_,fun w'=>by simp only [execOp,q]; rfl,h⟩
    · obtain ⟨v,h1,j⟩:=h;exact ⟨v,fun w'=>MG _ v w' w' (h1 w'),j⟩
  case nilCheck x=>
    split at h
    · rename_i a ha
      exact ⟨_,fun w'=>by simp only [execOp,ha]; rfl,h⟩
    · rename_i f c d ha
      exact ⟨_,fun w'=>by simp only [execOp,ha]; rfl,h⟩
    · exact h.elim
  case makeFunc f a b=>exact ⟨_,fun w'=>rfl,h⟩
  case fieldAddr s x f=>exact let ⟨v,h1,j⟩:=h; ⟨v,fun w'=>MG _ v w' w' (h1 w'),j⟩
structure Md (P:Program) (f:FuncId) (args:List Value) (w:World) (K:Value→World→Prop):Prop where
  run:Calls P f args.toArray w fun e w'=>∃ v,e=.returned v∧K v w'
  callee : ∃ fn, P.funcs[f]? = some fn ∧ (fn.name == "runtime.NumGoroutine") = false ∧ fn.body.isNone = false
theorem Md.mono {P:Program}{f:FuncId}{args:List Value}{w:World}{K g:Value→World→Prop}(h:Md P f args w K)(q:∀ v w',K v w'→g v w'):Md P f args w g:=
  ⟨h.run.mono fun _ _ ⟨v,j,hv⟩=>⟨v,j,q _ _ hv⟩,h.callee⟩
def M1V (cs:Array Value) (t:TypeId) (w:World) (K:Nat→World→Prop):Prop:=
  ∀ b w',b=w.heap.size→w'.heap[b]? = some (.cells cs t (0,0))→Ev [] w w'→w'.heap.size=b+1→K b w'
theorem W2 (w:World)(o:Obj):(w.alloc o).heap[w.heap.size]? = some o:=heap_alloc_new w o
theorem RX (w:World)(o:Obj):(w.alloc o).heap.size=w.heap.size+1:=by
  show (w.heap.push o).size=_
  rw [Array.size_push]
theorem Ev.alloc (w:World)(o:Obj):Ev [] w (w.alloc o):=
  ⟨rfl,rfl,rfl,by rw [RX]; omega,fun k g _=>heap_alloc_old w o k g⟩
theorem M1V.at {cs:Array Value}{t:TypeId}{w:World}{K:Nat→World→Prop}(h:M1V cs t w K):K w.heap.size (w.alloc (.cells cs t (0,0))):=
  h _ _ rfl (W2 _ _) (Ev.alloc _ _) (RX _ _)
def vcL (P:Program) (o:Oper) (K:Value→World→Prop) (fr:Fr) (w:World):Prop:=
  match o.op with
  | .call c=>match c.callee with
    | .value f=>match ev fr f with
      | .func fn first cap=>match fn with
        | .func g=>evs fr c.args.toList fun vs=>Md P g (first.toList++vs++cap.toList) w K
        | _=>False
      | _=>False
    | .builtin b=>evs fr c.args.toList fun vs=>∃ v w',(builtin b c.argTypes o.type (c.args.map fun | .const _=>true | _=>false) vs.toArray).run P w=.ok (.value v) w'∧K v w'
    | _=>False
  | .box t x=>PJ (ev fr x) fun v=>M1V v.cells t w fun b w'=>K (.pointer (some ⟨b,0,none⟩)) w'
  | .alloc t=>∃ z,(zeroValue t).run P w=.ok z w∧M1V z.cells t w fun b w'=>K (.pointer (some ⟨b,0,none⟩)) w'
  | .buildSlice t n j=>evp fr j.toList fun q=>∃ cs e,(Instr.buildSlice t n q.toArray).run P w=.ok (.slice (some ⟨w.heap.size,0,none⟩) n n) (w.alloc (.cells cs e (0,0)))∧
      M1V cs e w fun b w'=>K (.slice (some ⟨b,0,none⟩) n n) w'
  | .makeSlice t l c=>PJ (ev fr l) fun l=>PJ (ev fr c) fun c=>∃ v w',(Instr.makeSlice t l c).run P w=.ok v w'∧K v w'
  | .store t a x=>PJ (ev fr a) fun a=>PJ (ev fr x) fun x=>∃ w',(Instr.storeAt t a x).run P w=.ok () w'∧K undef w'
  | .convert s d x=>PJ (ev fr x) fun x=>∃ v w',(convert s d x).run P w=.ok v w'∧K v w'
  | .makeMap t r=>(Instr.makeMap t (r.map (ev fr))).run P w=.ok (.map (some w.heap.size)) (w.alloc (.map #[] 0))∧∀ b w',b=w.heap.size→w'.heap[b]? = some (.map #[] 0)→Ev [] w w'→w'.heap.size=b+1→K (.map (some b)) w'
  | .mapUpdate t m k x=>PJ (ev fr m) fun m=>PJ (ev fr k) fun k=>PJ (ev fr x) fun x=>∃ w',(Instr.mapUpdate t m k x).run P w=.ok () w'∧K undef w'
  | .insert t m k x=>PJ (ev fr m) fun m=>PJ (ev fr k) fun k=>PJ (ev fr x) fun x=>∃ w',(Instr.mapUpdate t m k x).run P w=.ok () w'∧K undef w'
  | _=>False
theorem Yw {P : Program} {f : FuncId} {fn : Func} (args : Array Value) (w : World) (h : P.funcs[f]? = some fn) (h1 : (fn.name == "runtime.NumGoroutine") = false) (h2 : fn.body.isNone = false) :
    (callFunc f args).run P w=.ok (.enter f args) w:=by
  unfold callFunc;rw [run_bind];have hp:Sem.run P program w=.ok P w:=rfl;simp only [hp,h,h1,h2,Bool.false_eq_true,if_false];rfl
theorem M1r {P:Program}{o:Oper}{K:Value→World→Prop}{fr:Fr}{w:World}{a:Act}(ha:a.eval=ev fr)(h:vcL P o K fr w)
    {N:Act→World→Prop} {Q:Exit→Act→World→Prop} (q:∀ v w',K v w'→N (a.put o.dst v) w'):o.wp P a w N Q:=by
  obtain ⟨dst,op,ty,pos,u,guard⟩:=o;unfold Oper.wp;rw [ha];have val:∀ (s:Sem Value) (v:Value) (w':World),s.run P w=.ok v w'→K v w'→Oper.upon P ⟨dst,op,ty,pos,u,guard⟩ a N Q ((do pure (.value (← s)):Sem Next).run P w):=by
    intro s v w' h1 j;rw [MG s v w w' h1];exact q _ _ j
  cases op <;> simp only [vcL,MH,Pf,Pw,V4,T9] at h
  case box t x=>
    refine val (Instr.box t (ev fr x)) _ _ ?_ h.at;simp only [Instr.box,newVar,newRow];rfl
  case alloc t=>
    obtain ⟨z,h1,j⟩:=h;refine val (Instr.alloc t true (.tuple #[])) _ _ ?_ j.at;simp only [Instr.alloc];rw [run_bind,h1];rfl
  case buildSlice t n parts=>
    obtain ⟨cs,e,h1,j⟩:=h;exact val _ _ _ h1 j.at
  case makeSlice t l c=>
    obtain ⟨v,w',h1,j⟩:=h;exact val _ _ _ h1 j
  case store t p x=>
    obtain ⟨w',h1,j⟩:=h;have:((do Instr.storeAt t (ev fr p) (ev fr x); pure .skip:Sem Next)).run P w=.ok .skip w':=by rw [run_bind,h1]; rfl
    show Oper.upon P _ a N Q ((do Instr.storeAt t (ev fr p) (ev fr x); pure .skip:Sem Next).run P w)
    rw [this];exact q _ _ j
  case convert s d x=>
    obtain ⟨v,w',h1,j⟩:=h;exact val _ _ _ h1 j
  case makeMap t r=>
    exact val _ _ _ h.1 (h.2 _ _ rfl (W2 _ _) (Ev.alloc _ _) (RX _ _))
  case mapUpdate t m k x=>
    obtain ⟨w',h1,j⟩:=h;have:((do Instr.mapUpdate t (ev fr m) (ev fr k) (ev fr x); pure .skip:Sem Next)).run P w=.ok .skip w':=by rw [run_bind,h1]; rfl
    show Oper.upon P _ a N Q ((do Instr.mapUpdate t (ev fr m) (ev fr k) (ev fr x); pure .skip:Sem Next).run P w)
    rw [this];exact q _ _ j
  case insert t m k x=>
    obtain ⟨w',h1,j⟩:=h;have:((do Instr.mapUpdate t (ev fr m) (ev fr k) (ev fr x); pure .skip:Sem Next)).run P w=.ok .skip w':=by rw [run_bind,h1]; rfl
    show Oper.upon P _ a N Q ((do Instr.mapUpdate t (ev fr m) (ev fr k) (ev fr x); pure .skip:Sem Next).run P w)
    rw [this];exact q _ _ j
  case call c=>
    obtain ⟨callee,args,A⟩:=c;simp only at h
    split at h
    · rename_i f
      split at h
      · rename_i fn first cap D
        split at h
        · rename_i g
          obtain ⟨G,fn,E,h1,j⟩:=h;have:(execOp (ev fr) ⟨dst,.call ⟨.value f,args,A⟩,ty,pos,u,guard⟩).run P w=.ok (.enter g (first.toList++args.toList.map (ev fr)++cap.toList).toArray) w:=by
            rw [show (first.toList++args.toList.map (ev fr)++cap.toList).toArray=first++args.map (ev fr)++cap by simp];simp only [execOp,resolve,D,Deferred.ofValue];rw [run_bind];simp only [Sem.run_pure,invoke];exact Yw _ _ E h1 j
          rw [this];refine Calls.mono G fun e w' ⟨v,B,F⟩=>?_
          subst B;exact q _ _ F
        · exact h.elim
      · exact h.elim
    · rename_i b
      obtain ⟨v,w',h1,j⟩:=h;have:(execOp (ev fr) ⟨dst,.call ⟨.builtin b,args,A⟩,ty,pos,u,guard⟩).run P w=.ok (.value v) w':=by
        simp only [execOp,resolve];rw [run_bind];simp only [Sem.run_pure,invoke];exact h1
      rw [this];exact q _ _ j
    · exact h.elim
  all_goals exact h.elim
def vcG (all:List Oper) (o:Oper) (fr:Fr) (A B:Fr→Prop):Prop:=
  match o.guard with
  | none=>A fr
  | some (j,want)=>match (all[j]?).bind (·.dst) with
    | some d=>match fr d with
      | .bool b=>(b=want→A (put fr d (.bool want)))∧(b=(!want)→B (put fr d (.bool (!want))))
      | _=>B fr
    | none=>B fr
theorem Rs (fr:Fr)(d:Nat)(v:Value)(h:fr d=v):put fr d v=fr:=by
  funext i;unfold put;cases g:Nat.beq i d with
  | false=>rfl
  | true=>have:=Nat.eq_of_beq_eq_true g; subst this; exact h.symm
theorem M51 {n:Nat}{a:Act}{fr:Fr}(h:Rel n a fr)(all:List Oper)(j:Nat) :
    yielded all.toArray a.tmps j=match (all[j]?).bind (·.dst) with
      | some d=>(match fr d with | .bool b=>some b | _=>none)
      | none=>none:=by
  unfold yielded;simp only [List.getElem?_toArray];cases hd:(all[j]?).bind (·.dst) with
  | none=>rfl
  | some d=>
    simp only [Option.bind_some];have:=h.at_ d;cases g:a.tmps[d]? with
    | none=>
      have e:fr d=undef:=by rw [← this]; simp [g]
      simp only [e,undef]
    | some v=>
      have e:fr d=v:=by rw [← this]; simp [g]
      simp only [e];cases v <;> rfl
theorem M1s {n:Nat}{a:Act}{fr:Fr}(G:Rel n a fr){all:List Oper}{o:Oper}{A B:Fr→Prop}(h:vcG all o fr A B) :
    (Region.wanted o (yielded all.toArray a.tmps)=true→A fr)∧(Region.wanted o (yielded all.toArray a.tmps)=false→B fr):=by
  unfold vcG at h;unfold Region.wanted
  split at h
  · rename_i g
    rw [g];exact ⟨fun _=>h,fun h=>by cases h⟩
  · rename_i j q g
    rw [g];simp only [M51 G]
    split at h
    · rename_i d hd
      split at h
      · rename_i b u
        obtain ⟨h1,F⟩:=h
        by_cases D:b=q
        · subst D;rw [Rs fr d _ u] at h1;exact ⟨fun _=>h1 rfl,fun h=>by simp at h⟩
        · have E:b = !q:=by cases b <;> cases q <;> simp_all
          have r:=F E;rw [Rs fr d _ (by rw [u,E])] at r;exact ⟨fun h=>by simp at h; exact absurd h D,fun _=>r⟩
      · exact ⟨fun h=>by simp at h,fun _=>h⟩
    · exact ⟨fun h=>by simp at h,fun _=>h⟩
def vcS (P:Program) (o:Oper) (K:Value→World→Prop) (fr:Fr) (w:World):Prop:=
  match Pr o.op with
  | true=>vcQ P [] o (fun v=>K v w) fr w
  | false=>vcL P o K fr w
theorem M7H {P:Program}{o:Oper}{K:Value→World→Prop}{fr:Fr}{w:World}{a:Act}(ha:a.eval=ev fr)(h:vcS P o K fr w)
    {N:Act→World→Prop} {Q:Exit→Act→World→Prop} (g:∀ v w',K v w'→N (a.put o.dst v) w'):o.wp P a w N Q:=by
  unfold vcS at h
  split at h
  · obtain ⟨v,h1,j⟩:=M1q h;unfold Oper.wp;rw [ha,h1 w (Ev.refl _ _)];exact g _ _ j
  · exact M1r ha h g
def M04 (P:Program) (all:List Oper) (Q:Fr→World→Prop):List Oper→Fr→World→Prop
  | [],fr,w=>Q fr w
  | o::rest,fr,w=>vcG all o fr (fun fr=>vcS P o (fun v w'=>M04 P all Q rest (MI fr o.dst v) w') fr w) (fun fr=>M04 P all Q rest (MI fr o.dst undef) w)
def M05 (n:Nat) (l:List Oper):Bool:=l.all fun o=>match o.dst with | some d=>Nat.blt d n | none=>true
theorem Yx {n:Nat}{l:List Oper}(h:M05 n l=true){o:Oper}(g:o∈l){t:Tmp}(j:o.dst=some t):t<n:=by
  have:=List.all_eq_true.1 h o g;simp only [j] at this;exact Nat.le_of_ble_eq_true this
theorem M1W {P:Program}{n:Nat}{all:List Oper}{Q:Fr→World→Prop}{QA:Exit→Act→World→Prop}(j:∀ a fr w,Rel n a fr→Q fr w→QA .normal a w) :
    ∀ (l:List Oper),M05 n l=true→∀ (a:Act) (fr:Fr) (w:World),Rel n a fr→M04 P all Q l fr w→wpList P all.toArray QA l a w
  | [],_,a,fr,w,hr,h=>j a fr w hr h
  | o::l,hd,a,fr,w,hr,h=>by
    have A:M05 n l=true:=by simp only [M05,List.all_cons,Bool.and_eq_true] at hd ⊢; exact hd.2
    have r:=M1W (P:=P) (all:=all) j l A;have q:∀ t,o.dst=some t→t<n:=fun t D=>Yx hd List.mem_cons_self D
    unfold M04 at h;obtain ⟨h1,u⟩:=M1s hr h;unfold wpList
    split
    · rename_i g
      refine .inl (M7H hr.eval (h1 g) fun v w' B=>?_);exact r _ _ _ (hr.put q v) B
    · rename_i g
      exact r _ _ _ (hr.put q undef) (u (by simpa using g))
section
variable {P : Program} {ops : Array Oper} {al : Nat → Bool} {M : List Nat}
def xOp (P:Program) (ops:Array Oper) (al:Nat→Bool) (M:List Nat) (i:Nat) (K:Act→World→Prop) (a:Act) (w:World):Prop:=
  match ops[i]? with
  | none=>K a w
  | some o=>if Region.wanted o (yielded ops a.tmps) then o.wp P a w (fun a' w'=>((al i=true∨Ev M w w')∧(Pr o.op=true→Ev [] w w'))∧K a' w') (fun _ _ _=>False) else K (a.put o.dst undef) w
theorem M8u {i:Nat}{a:Act}{w:World}{K q:Act→World→Prop}(h:∀ a w,K a w→q a w)(g:xOp P ops al M i K a w):xOp P ops al M i q a w:=by
  unfold xOp at *
  split
  · exact h _ _ (by simpa [*] using g)
  · rename_i o u
    simp only [u] at g
    split
    · rename_i j; simp only [j,if_true] at g; exact Oper.wp_mono (fun a w ⟨h1,r⟩=>⟨h1,h _ _ r⟩) g
    · rename_i j; simp only [j] at g; exact h _ _ g
def wpX (P:Program) (ops:Array Oper) (al:Nat→Bool) (M:List Nat) (Q:Act→World→Prop):Nat→Array Bool→Act→World→Prop
  | 0,listed,a,w=>Region.ready .any ops listed=[]∧Q a w
  | fuel+1,listed,a,w=>
    (Region.ready .any ops listed=[]→Q a w)∧
    ∀ i∈Region.ready .any ops listed,xOp P ops al M i (wpX P ops al M Q fuel (listed.setIfInBounds i true)) a w
theorem Oper.wp_mono2 {o:Oper}{a:Act}{w:World}{K q:Act→World→Prop}{Q:Exit→Act→World→Prop}(h:∀ a w,K a w→q a w)
    (j:o.wp P a w K (fun _ _ _=>False)):o.wp P a w q Q:=by
  unfold Oper.wp at *
  generalize (execOp a.eval o).run P w=r at *
  cases r with
  | ok n w'=>
    cases n <;> simp only [Oper.upon] at j ⊢ <;>
      first
        | exact h _ _ j
        | exact Calls.mono j (fun e u g=>by cases e <;> first | exact h _ _ g | exact g.elim | exact (let ⟨_,_,hf⟩:=g; hf.elim))
        | exact Rows.mono j (fun _ _ g=>h _ _ g)
  | halt x w'=>cases x <;> simp only [Oper.upon] at j ⊢
theorem Wr {Q:Act→World→Prop}{QA:Exit→Act→World→Prop}(g:∀ a w,Q a w→QA .normal a w):∀ (fuel:Nat) (r:Array Bool) (a:Act) (w:World),
    wpX P ops al M Q fuel r a w→wpAny P .any ops QA fuel r a w
  | 0,_,_,_,h=>⟨h.1,g _ _ h.2⟩
  | fuel+1,r,a,w,h=>by
    refine ⟨fun u=>g _ _ (h.1 u),fun i B=>?_⟩;have h1:=h.2 i B;unfold xOp at h1;unfold wpOp
    split
    · rename_i j; simp only [j] at h1; exact Wr g fuel _ _ _ h1
    · rename_i o j
      simp only [j] at h1
      split
      · rename_i q
        simp only [q,if_true] at h1;exact .inl (Oper.wp_mono2 (fun a w ⟨_,A⟩=>Wr g fuel _ _ _ A) h1)
      · rename_i q
        simp only [q] at h1;exact Wr g fuel _ _ _ h1
def YQ (P:Program) (ops:Array Oper) (R:World→World→Prop) (o:Oper) (v:Value) (a:Act) (w:World):Prop:=
  (Region.wanted o (yielded ops a.tmps)=true∧∀ w',R w w'→(execOp a.eval o).run P w'=.ok (.value v) w')∨
  (Region.wanted o (yielded ops a.tmps)=false∧v=undef)
theorem YQ.later {R:World→World→Prop}(r:∀ a b c,R a b→R b c→R a c){o:Oper}{v:Value}{a:Act}{w w':World}(h:YQ P ops R o v a w)(q:R w w'):YQ P ops R o v a w':=by
  rcases h with ⟨h1,g⟩ | h
  · exact .inl ⟨h1,fun u j=>g u (r _ _ _ q j)⟩
  · exact .inr h
theorem YQ.same {R:World→World→Prop}{o:Oper}{v:Value}{a a':Act}{w:World}(q:YQ P ops R o v a w)(g:execOp a'.eval o=execOp a.eval o)
    (j:Region.wanted o (yielded ops a'.tmps)=Region.wanted o (yielded ops a.tmps)):YQ P ops R o v a' w:=by
  unfold YQ at *
  rw [g,j];exact q
theorem YQ.xOp {R:World→World→Prop}(j:∀ w,R w w){i:Nat}{o:Oper}{v:Value}{a:Act}{w:World}(q:ops[i]? = some o)(r:YQ P ops R o v a w){K:Act→World→Prop}(h:K (a.put o.dst v) w):xOp P ops al M i K a w:=by
  unfold V.xOp;simp only [q];rcases r with ⟨g,hv⟩ | ⟨g,rfl⟩
  · simp only [g,if_true,Oper.wp,hv w (j w),Oper.upon]; exact ⟨⟨.inr (Ev.refl _ _),fun _=>Ev.refl _ _⟩,h⟩
  · simp only [g,Bool.false_eq_true,if_false]; exact h
theorem M9G {R:World→World→Prop}(J:∀ a b c,R a b→R b c→R a c){j:Nat}{g q:Oper}{v:Value}(X:ops[j]? = some q)(U:g.apart ops q=true)
    (G:∀ cs b,g.op≠.select cs b) (Y:∀ cs b,q.op≠.select cs b) (O:∀ w w',(al j=true∨Ev M w w')→(Pr q.op=true→Ev [] w w')→R w w') {K:Act→World→Prop} {a:Act} {w:World}
    (B:YQ P ops R g v a w) (h:xOp P ops al M j K (a.put g.dst v) w) :
    xOp P ops al M j (fun a' w'=>YQ P ops R g v a' w'∧K (a'.put g.dst v) w') a w:=by
  obtain ⟨h1,D,E⟩:=Oper.apart_spec U;have keep:∀ (a:Act) (w w':World),R w w'→YQ P ops R g v a w→∀ u,YQ P ops R g v (a.put q.dst u) w':=fun a w w' A B u=>
    (B.later J A).same (execOp_put g G a q.dst u E) (wanted_put g a q.dst u E)
  have F:∀ {w w':World},((al j=true∨Ev M w w')∧(Pr q.op=true→Ev [] w w'))→R w w':=fun h=>O _ _ h.1 h.2
  unfold xOp at *
  simp only [X] at *
  rw [wanted_put q a g.dst v h1] at h
  split
  · rename_i H
    simp only [H,if_true] at h;unfold Oper.wp at *
    rw [execOp_put q Y a g.dst v h1] at h;generalize (execOp a.eval q).run P w=r at *
    cases r with
    | ok n w'=>
      cases n <;> simp only [Oper.upon] at h ⊢
      case value u=>exact ⟨h.1,keep a w w' (F h.1) B u,by rw [← Act.put_comm a v u D]; exact h.2⟩
      case skip=>exact ⟨h.1,keep a w w' (F h.1) B _,by rw [← Act.put_comm a v undef D]; exact h.2⟩
      case defer d=>
        refine ⟨h.1,?_,?_⟩
        · exact ((B.same (a':={ a with defers:=d::a.defers }) rfl rfl).later J (F h.1)).same (execOp_put g G _ q.dst _ E) (wanted_put g _ q.dst _ E)
        · rw [← Act.put_comm _ v undef D,← Act.put_defers];exact h.2
      case enter f args=>
        refine Calls.mono h fun e I A=>?_
        cases e with
        | returned u=>exact ⟨A.1,keep a w I (F A.1) B u,by rw [← Act.put_comm a v u D]; exact A.2⟩
        | panicked c=>exact A.elim
        | outgrown=>exact (let ⟨_,_,hf⟩:=A; hf.elim)
      case row row args=>exact Rows.mono h fun u I A=>⟨A.1,keep a w I (F A.1) B u,by rw [← Act.put_comm a v u D]; exact A.2⟩
    | halt x w'=>cases x <;> simp only [Oper.upon] at h ⊢
  · rename_i H
    simp only [H] at h;exact ⟨(B.same (execOp_put g G a q.dst _ E) (wanted_put g a q.dst _ E)),by rw [← Act.put_comm a v undef D]; exact h⟩
def dep (ops:Array Oper) (i j:Nat):Bool:=match ops[i]? with | some o=>o.after.any (fun e=>Region.binds .any e&&Nat.beq e.on j) | none=>false
def M3H (ops:Array Oper):Nat→Nat→Nat→Bool
  | 0,i,j=>dep ops i j
  | n+1,i,j=>dep ops i j||(match ops[i]? with | some o=>o.after.any (fun e=>Region.binds .any e&&M3H ops n e.on j) | none=>false)
def M7a (ops:Array Oper) (i:Nat):List Nat:=match ops[i]? with | some o=>(o.after.toList.filter (Region.binds .any ·)).map (·.on) | none=>[]
def M52 (ops:Array Oper):Nat→List Nat→List Nat→List Nat
  | 0,_,seen=>seen
  | _+1,[],seen=>seen
  | n+1,j::todo,seen=>match seen.any (Nat.beq j) with
    | true=>M52 ops n todo seen
    | false=>M52 ops n (M7a ops j++todo) (j::seen)
def M3Q (ops:Array Oper) (i j:Nat):Bool:=(M52 ops 600 (M7a ops i) []).any (Nat.beq j)
def linked (ops:Array Oper) (i j:Nat):Bool:=dep ops i j||dep ops j i||(M3Q ops i j||M3Q ops j i)
theorem M53 (ops:Array Oper)(i j:Nat):linked ops i j=linked ops j i:=by unfold linked; rw [Bool.or_comm (dep ops i j),Bool.or_comm (M3Q ops i j)]
def Tq (ops:Array Oper) (g:Array Bool):Prop:=∀ k o,ops[k]? = some o→g.getD k false=true→∀ e∈o.after,Region.binds .any e=true→g.getD e.on false=true
theorem Tq.start (n:Nat):Tq ops (Array.replicate n false):=by
  intro k o _ h;rcases Nat.lt_or_ge k n with h' | h'
  · simp [h'] at h
  · simp [Array.getElem?_eq_none,h'] at h
theorem Tq.set {g:Array Bool}{j:Nat}(h:Tq ops g)(F:j∈Region.ready .any ops g):Tq ops (g.setIfInBounds j true):=by
  intro k o A B e r q
  by_cases u:j=k
  · subst u;obtain ⟨_,o',D,E⟩:=mem_ready.1 F;rw [A] at D;cases D;exact getD_set_true (E e r q)
  · rw [getD_set_ne false u] at B;exact getD_set_true (h k o A B e r q)
theorem M2G {g:Array Bool}{j:Nat}(q:g.getD j true=false)(h1:g.getD j false=true):False:=by
  rcases Nat.lt_or_ge j g.size with h' | h'
  · simp [h'] at q h1; rw [q] at h1; cases h1
  · simp [Array.getElem?_eq_none h'] at h1
theorem M0e {u:Array Bool}{i j:Nat}(h:dep ops i j=true)(A:∀ o,ops[i]? = some o→∀ e∈o.after,Region.binds .any e=true→u.getD e.on false=true):u.getD j false=true:=by
  unfold dep at h;cases q:ops[i]? with
  | none=>rw [q] at h; cases h
  | some o=>
    rw [q] at h;simp only at h;obtain ⟨k,B,g⟩:=Array.any_eq_true.1 h;simp only [Bool.and_eq_true] at g;have r:=A o q _ (Array.getElem_mem B) g.1;rw [Nat.eq_of_beq_eq_true g.2] at r;exact r
theorem Za {r:Array Bool}{j:Nat}(u:Tq ops r):∀ (n i:Nat),M3H ops n i j=true→(∀ o,ops[i]? = some o→∀ e∈o.after,Region.binds .any e=true→r.getD e.on false=true)→r.getD j false=true
  | 0,i,h,hall=>M0e h hall
  | n+1,i,h,hall=>by
    unfold M3H at h;rw [Bool.or_eq_true] at h;rcases h with h | h
    · exact M0e h hall
    · cases q:ops[i]? with
      | none=>rw [q] at h; cases h
      | some o=>
        rw [q] at h;simp only at h;obtain ⟨k,E,g⟩:=Array.any_eq_true.1 h;simp only [Bool.and_eq_true] at g;have A:=hall o q _ (Array.getElem_mem E) g.1;exact Za u n _ g.2 (fun o' F e D B=>u _ o' F A e D B)
theorem M0E {q:Array Bool}{i:Nat}(r:∀ o,ops[i]? = some o→∀ e∈o.after,Region.binds .any e=true→q.getD e.on false=true):∀ y∈M7a ops i,q.getD y false=true:=by
  intro y g;unfold M7a at g
  split at g
  · rename_i o A
    obtain ⟨e,j,rfl⟩:=List.mem_map.1 g;obtain ⟨j,u⟩:=List.mem_filter.1 j;exact r o A e (Array.mem_toList_iff.1 j) u
  · cases g
theorem Yy {g:Array Bool}(u:Tq ops g):∀ (n:Nat) (q r:List Nat),(∀ y∈q,g.getD y false=true)→(∀ y∈r,g.getD y false=true)→∀ y∈M52 ops n q r,g.getD y false=true
  | 0,_,_,_,h2=>h2
  | _+1,[],_,_,h2=>h2
  | n+1,j::q,r,h1,h2=>by
    have A:=h1 j List.mem_cons_self;have B:∀ y∈q,g.getD y false=true:=fun y hy=>h1 y (List.mem_cons_of_mem _ hy)
    unfold M52
    split
    · exact Yy u n q r B h2
    · refine Yy u n _ _ (fun y hy=>?_) (fun y hy=>?_)
      · rcases List.mem_append.1 hy with hy | hy
        · exact M0E (fun o F e E D=>u j o F A e E D) y hy
        · exact B y hy
      · rcases List.mem_cons.1 hy with rfl | hy
        · exact A
        · exact h2 y hy
theorem M1t {i j:Nat}{r:Array Bool}(G:Tq ops r)(g:i∈Region.ready .any ops r)(q:j∈Region.ready .any ops r):linked ops i j=false:=by
  have key:∀ i j,i∈Region.ready .any ops r→j∈Region.ready .any ops r→dep ops i j=false∧M3Q ops i j=false:=by
    intro i j g q;obtain ⟨_,o,H,E⟩:=mem_ready.1 g;obtain ⟨A,_⟩:=mem_ready.1 q;have u:∀ o',ops[i]? = some o'→∀ e∈o'.after,Region.binds .any e=true→r.getD e.on false=true:=fun o' B=>by rw [H] at B; cases B; exact E
    refine ⟨?_,?_⟩
    · cases hd:dep ops i j with
      | false=>rfl
      | true=>exact absurd (M0e hd u) (fun h=>M2G A h)
    · cases hd:M3Q ops i j with
      | false=>rfl
      | true=>
        unfold M3Q at hd;obtain ⟨y,D,F⟩:=List.any_eq_true.1 hd;rw [← Nat.eq_of_beq_eq_true F] at D;exact absurd (Yy G 600 _ _ (M0E u) (fun _ h=>by cases h) j D) (fun h=>M2G A h)
  simp only [linked,(key i j g q).1,(key j i q g).1,(key i j g q).2,(key j i q g).2,Bool.or_false]
theorem M3R {R:World→World→Prop}(O:∀ w,R w w)(ht:∀ a b c,R a b→R b c→R a c){Q:Act→World→Prop}{i:Nat}{B:Oper}{v:Value}(G:ops[i]? = some B)(aa:∀ (j:Nat) (o:Oper) cs b,ops[j]? = some o→o.op≠.select cs b)
    (ad:∀ j g,j≠i→ops[j]? = some g→linked ops i j=false→∀ w w',(al j=true∨Ev M w w')→(Pr g.op=true→Ev [] w w')→R w w') :
    ∀ (D:Nat) (q:Array Bool) (a:Act) (w:World),
      (∀ j g,ops[j]? = some g→j≠i→q.getD j true=false→(∀ e∈g.after,Region.binds .any e=true→e.on≠i)→B.apart ops g=true)→
      Tq ops q→i∈Region.ready .any ops q→YQ P ops R B v a w→
      wpX P ops al M Q D (q.setIfInBounds i true) (a.put B.dst v) w→wpX P ops al M Q (D+1) q a w:=by
  intro D
  induction D with
  | zero=>
    intro q a w _ _ u F H;refine ⟨fun h=>(by rw [h] at u; cases u),fun j A=>?_⟩
    by_cases r:j=i
    · subst r; exact F.xOp O G H
    · have:=ready_mono A r;rw [H.1] at this;cases this
  | succ D ih=>
    intro q a w X U u F H;refine ⟨fun h=>(by rw [h] at u; cases u),fun j A=>?_⟩
    by_cases r:j=i
    · subst r; exact F.xOp O G H
    · have h1:=H.2 j (ready_mono A r);obtain ⟨Z,g,E,ae⟩:=mem_ready.1 A;have an:∀ e∈g.after,Region.binds .any e=true→e.on≠i:=fun e he hb ah=>by
        have h1:=ae e he hb;have I:=(mem_ready.1 u).1;rw [ah] at h1;rcases Nat.lt_or_ge i q.size with h' | h'
        · simp [h'] at I h1; rw [I] at h1; cases h1
        · simp [Array.getElem?_eq_none h'] at h1
      have h2:=M9G ht E (X j g E r Z an) (fun cs b=>aa i B cs b G) (fun cs b=>aa j g cs b E) (ad j g r E (M1t U u A)) F h1;have ai:∀ k ok,ops[k]? = some ok→k≠i→(q.setIfInBounds j true).getD k true=false→
          (∀ e∈ok.after,Region.binds .any e=true→e.on≠i)→B.apart ops ok=true:=fun k ok hk ak ab am=>by
        refine X k ok hk ak ?_ am
        by_cases Y:j=k
        · subst Y; exact Z
        · rw [getD_set_ne true Y] at ab; exact ab
      refine M8u (fun a' w' J=>ih (q.setIfInBounds j true) a' w' ai (U.set A) (ready_mono u (Ne.symm r)) J.1 ?_) h2;rw [Array.setIfInBounds_comm _ _ r];exact J.2
end
inductive M0F where
  | stop
  | none_
  | op (i:Nat) (al:Bool) (rest:M0F)
  | alt (i:Nat) (al:Bool) (this others:M0F)
def Wk (ops:Array Oper):M0F→Nat→Array Bool→List Nat→Bool
  | .stop,_,listed,_=>(Region.ready .any ops listed).isEmpty
  | .none_,_,listed,E=>!E.isEmpty&&(Region.ready .any ops listed).all fun j=>E.any (Nat.beq j)
  | .op i _ rest,fuel,listed,E=>E.isEmpty&&Nat.blt 0 fuel&&(Region.ready .any ops listed).contains i&&
      (match ops[i]? with
       | some o=>if Pr o.op then Region.free .any ops listed i else (Region.ready .any ops listed).all (Nat.beq i)
       | none=>false)&&Wk ops rest (fuel-1) (listed.setIfInBounds i true) []
  | .alt i _ this others,fuel,listed,E=>Nat.blt 0 fuel&&(Region.ready .any ops listed).contains i&&Wk ops this (fuel-1) (listed.setIfInBounds i true) []&&
      Wk ops others fuel listed (i::E)
def M01:M0F→Nat→Bool
  | .stop,_=>false
  | .none_,_=>false
  | .op i al rest,j=>(Nat.beq i j&&al)||M01 rest j
  | .alt i al this others,j=>(Nat.beq i j&&al)||M01 this j||M01 others j
def M0f (ops:Array Oper) (i:Nat):Bool:=match ops[i]? with | some o=>M2q o.op | none=>false
def W3 (ops:Array Oper) (i:Nat):Bool:=match ops[i]? with | some o=>Pr o.op | none=>true
def qm (al:Bool) (M:List Nat):List Nat:=match al with | true=>[] | false=>M
def M4j (ops:Array Oper) (p:M0F):Bool:=
  Region.noSelect ops&&((List.range ops.size).all fun j=>!(M01 p j)||(List.range ops.size).all fun i=>Nat.beq i j||(W3 ops j&&W3 ops i)||M0f ops i||linked ops i j)&&
    true&&Wk ops p ops.size (Array.replicate ops.size false) []
set_option linter.unusedVariables false in
theorem M2r (ops:Array Oper):∀ (p:M0F) (r:Nat) (q:Array Bool) (E:List Nat),Wk ops p r q E=true→∀ j,M01 p j=true→j<ops.size
  | .stop,_,_,_,_,_,h=>by cases h
  | .none_,_,_,_,_,_,h=>by cases h
  | .op i b rest,r,q,E,g,j,h=>by
    simp only [Wk,Bool.and_eq_true] at g;obtain ⟨⟨⟨_,u⟩,_⟩,g⟩:=g;simp only [M01,Bool.or_eq_true,Bool.and_eq_true] at h;rcases h with h | h
    · have A:i∈Region.ready .any ops q:=by simpa using u
      obtain ⟨_,o,B,_⟩:=mem_ready.1 A;rw [← Nat.eq_of_beq_eq_true h.1];exact (Array.getElem?_eq_some_iff.1 B).1
    · exact M2r ops rest _ _ _ g j h
  | .alt i b this others,r,q,E,g,j,h=>by
    simp only [Wk,Bool.and_eq_true] at g;obtain ⟨⟨⟨_,u⟩,F⟩,D⟩:=g;simp only [M01,Bool.or_eq_true,Bool.and_eq_true] at h;rcases h with (h | h) | h
    · have A:i∈Region.ready .any ops q:=by simpa using u
      obtain ⟨_,o,B,_⟩:=mem_ready.1 A;rw [← Nat.eq_of_beq_eq_true h.1];exact (Array.getElem?_eq_some_iff.1 B).1
    · exact M2r ops this _ _ _ F j h
    · exact M2r ops others _ _ _ D j h
def vc1 (P:Program) (all:List Oper) (M:List Nat) (K:Fr→World→Prop) (i:Nat) (al:Bool) (fr:Fr) (w:World):Prop:=
  match all[i]? with
    | none=>False
    | some o=>vcG all o fr (fun fr=>match Pr o.op with
        | true=>vcQ P (qm al M) o (fun v=>K (MI fr o.dst v) w) fr w
        | false=>match al with
          | true=>vcL P o (fun v w'=>K (MI fr o.dst v) w') fr w
          | false=>vcL P o (fun v w'=>Ev M w w'∧K (MI fr o.dst v) w') fr w)
      (fun fr=>K (MI fr o.dst undef) w)
def vcT (P:Program) (all:List Oper) (M:List Nat) (Q:Fr→World→Prop):M0F→Fr→World→Prop
  | .stop,fr,w=>Q fr w
  | .none_,_,_=>True
  | .op i al rest,fr,w=>vc1 P all M (vcT P all M Q rest) i al fr w
  | .alt i al this others,fr,w=>vc1 P all M (vcT P all M Q this) i al fr w∧vcT P all M Q others fr w
theorem M2H {P:Program}{n:Nat}{all:List Oper}{M:List Nat}{K:Fr→World→Prop}{F:Act→World→Prop}{al:Nat→Bool}{i:Nat}{b:Bool}{a:Act}{fr:Fr}{w:World}
    (hd:M05 n all=true) (I:b=true→al i=true) (g:Rel n a fr) (r:∀ a fr w,Rel n a fr→K fr w→F a w) (h:vc1 P all M K i b fr w):xOp P all.toArray al M i F a w:=by
  unfold vc1 at h;unfold xOp;cases B:all[i]? with
  | none=>rw [B] at h; exact h.elim
  | some o=>
    rw [B] at h;have J:all.toArray[i]? = some o:=by simpa using B
    rw [J];simp only at h ⊢;have u:∀ t,o.dst=some t→t<n:=fun t O=>Yx hd (List.mem_of_getElem? B) O
    obtain ⟨h1,G⟩:=M1s g h;cases D:Pr o.op with
    | true=>
      simp only [D] at h1
      split
      · rename_i j
        obtain ⟨v,q,H⟩:=M1q (h1 j);unfold Oper.wp;rw [g.eval,q w (Ev.refl _ _)];simp only [Oper.upon];exact ⟨⟨.inr (Ev.refl _ _),fun _=>Ev.refl _ _⟩,r _ _ _ (g.put u v) H⟩
      · rename_i j
        exact r _ _ _ (g.put u undef) (G (by simpa using j))
    | false=>
      simp only [D] at h1
      split
      · rename_i j
        have q:=h1 j;cases E:b with
        | true=>
          rw [E] at q;exact M1r g.eval q fun v w' A=>⟨⟨.inl (I E),fun h=>by simp [D] at h⟩,r _ _ _ (g.put u v) A⟩
        | false=>
          rw [E] at q;exact M1r g.eval q fun v w' A=>⟨⟨.inr A.1,fun h=>by simp [D] at h⟩,r _ _ _ (g.put u v) A.2⟩
      · rename_i j
        exact r _ _ _ (g.put u undef) (G (by simpa using j))
set_option linter.unusedVariables false in
theorem ZE {P:Program}{n:Nat}{all:List Oper}{M:List Nat}{Q:Fr→World→Prop}{QA:Act→World→Prop}{al:Nat→Bool}
    (hQ:∀ a fr w,Rel n a fr→Q fr w→QA a w) (hd:M05 n all=true) (af:Region.noSelect all.toArray=true)
    (ae:∀ i j,j≠i→i<all.length→al j=true→linked all.toArray i j=true∨(W3 all.toArray j=true∧W3 all.toArray i=true)∨M0f all.toArray i=true) :
    ∀ (p:M0F),(∀ j,M01 p j=true→al j=true)→∀ (A:Nat) (r:Array Bool) (E:List Nat) (a:Act) (fr:Fr) (w:World),Rel n a fr→Wk all.toArray p A r E=true→Tq all.toArray r→
      vcT P all M Q p fr w→(E=[]→wpX P all.toArray al M QA A r a w)∧
        (E≠[]→∀ f,A=f+1→∀ j∈Region.ready .any all.toArray r,j∉E→xOp P all.toArray al M j (wpX P all.toArray al M QA f (r.setIfInBounds j true)) a w)
  | .stop,_,A,r,E,a,fr,w,u,B,hcl,h=>by
    have H:Region.ready .any all.toArray r=[]:=by simpa [Wk] using B
    refine ⟨fun _=>?_,fun _ f _ j q=>by rw [H] at q; cases q⟩;cases A with
    | zero=>exact ⟨H,hQ a fr w u h⟩
    | succ f=>exact ⟨fun _=>hQ a fr w u h,fun j q=>by rw [H] at q; cases q⟩
  | .none_,_,A,r,E,a,fr,w,u,B,hcl,h=>by
    simp only [Wk,Bool.and_eq_true,Bool.not_eq_true'] at B;refine ⟨fun he=>by subst he; simp at B,fun _ f _ j q aa=>?_⟩;have h1:=List.all_eq_true.1 B.2 j q;obtain ⟨k,O,aB⟩:=List.any_eq_true.1 h1;rw [Nat.eq_of_beq_eq_true aB] at aa;exact absurd O aa
  | .op i b rest,hb,A,r,E,a,fr,w,u,B,hcl,h=>by
    simp only [Wk,Bool.and_eq_true] at B;obtain ⟨⟨⟨⟨hE,hf⟩,hi⟩,U⟩,B⟩:=B;have av:E=[]:=by simpa using hE
    refine ⟨fun _=>?_,fun aF=>absurd av aF⟩;have aA:0<A:=Nat.le_of_ble_eq_true hf;obtain ⟨f,rfl⟩:∃ f,A=f+1:=⟨A-1,by omega⟩
    have D:i∈Region.ready .any all.toArray r:=by simpa using hi
    have ag:b=true→al i=true:=fun ai=>hb i (by simp [M01,ai])
    have ih:=ZE (P:=P) (M:=M) hQ hd af ae rest (fun j q=>hb j (by simp [M01,q]));have hK:∀ a fr w,Rel n a fr→vcT P all M Q rest fr w→wpX P all.toArray al M QA f (r.setIfInBounds i true) a w:=fun a fr w u O=>(ih f _ [] a fr w u (by simpa using B) (hcl.set D) O).1 rfl
    cases X:all[i]? with
    | none=>simp only [vcT,vc1,X] at h
    | some o=>
      have ab:all.toArray[i]? = some o:=by simpa using X
      rw [ab] at U;simp only at U;have aE:i<all.length:=(List.getElem?_eq_some_iff.1 X).1;have ap:∀ t,o.dst=some t→t<n:=fun t ht=>Yx hd (List.mem_of_getElem? X) ht
      cases hq:Pr o.op with
      | true=>
        simp only [hq,if_true] at U;simp only [vcT,vc1,X,hq] at h;obtain ⟨h1,G⟩:=M1s u h;cases au:M2q o.op with
        | true=>
          have hy:∃ v,YQ P all.toArray (fun _ _=>True) o v a w∧vcT P all M Q rest (MI fr o.dst v) w:=by
            cases F:Region.wanted o (yielded all.toArray a.tmps) with
            | true=>
              obtain ⟨v,h3,I⟩:=M8t au (h1 F);exact ⟨v,.inl ⟨F,fun w' _=>by rw [u.eval]; exact h3 w'⟩,I⟩
            | false=>exact ⟨undef,.inr ⟨F,rfl⟩,G F⟩
          obtain ⟨v,h3,I⟩:=hy;exact M3R (fun _=>trivial) (fun _ _ _ _ _=>trivial) ab (Region.noSelect_spec af) (fun _ _ _ _ _ _ _ _ _=>trivial) f r a w (Region.free_spec ab U) hcl D h3 (hK _ _ _ (u.put ap v) I)
        | false=>
        have aG:M0f all.toArray i=false:=by simp only [M0f,ab,au]
        have hy:∃ v,YQ P all.toArray (Ev (qm b M)) o v a w∧vcT P all M Q rest (MI fr o.dst v) w:=by
          cases F:Region.wanted o (yielded all.toArray a.tmps) with
          | true=>
            obtain ⟨v,h3,I⟩:=M1q (h1 F);exact ⟨v,.inl ⟨F,by rw [u.eval]; exact h3⟩,I⟩
          | false=>exact ⟨undef,.inr ⟨F,rfl⟩,G F⟩
        obtain ⟨v,h3,I⟩:=hy;have aD:∀ j Z,j≠i→all.toArray[j]? = some Z→linked all.toArray i j=false→∀ w w',(al j=true∨Ev M w w')→(Pr Z.op=true→Ev [] w w')→Ev (qm b M) w w':=by
          intro j Z J am aq w w' h1 G;cases Y:Pr Z.op with
          | true=>exact ⟨(G Y).os,(G Y).tape,(G Y).output,(G Y).size,fun k O _=>(G Y).block k O (fun h=>by cases h)⟩
          | false=>
            have aC:j<all.length:=by have:=(Array.getElem?_eq_some_iff.1 am).1; simpa using this
            have ar:W3 all.toArray j=false:=by simp only [W3,am,Y]
            cases aw:b with
            | true=>
              rcases ae j i (Ne.symm J) aC (ag aw) with h3 | ⟨_,h3⟩ | h3
              · rw [M53,aq] at h3; cases h3
              · rw [ar] at h3; cases h3
              · have aH:M2q Z.op=true:=by simpa only [M0f,am] using h3
                have:Pr Z.op=true:=by revert aH; cases Z.op <;> intro h <;> first | rfl | cases h
                rw [Y] at this; cases this
            | false=>
              rcases h1 with h1 | h1
              · rcases ae i j J aE h1 with h3 | ⟨h3,_⟩ | h3
                · rw [aq] at h3; cases h3
                · rw [ar] at h3; cases h3
                · rw [aG] at h3; cases h3
              · exact h1
        exact M3R (fun _=>Ev.refl _ _) (fun _ _ _=>Ev.trans) ab (Region.noSelect_spec af) aD f r a w (Region.free_spec ab U) hcl D h3 (hK _ _ _ (u.put ap v) I)
      | false=>
        simp only [hq,Bool.false_eq_true,if_false] at U;refine ⟨fun H=>(by rw [H] at D; cases D),fun j q=>?_⟩;have J:i=j:=Nat.eq_of_beq_eq_true (List.all_eq_true.1 U j q);subst J;exact M2H hd ag u hK h
  | .alt i b this others,hb,A,r,E,a,fr,w,u,B,hcl,h=>by
    simp only [Wk,Bool.and_eq_true] at B;obtain ⟨⟨⟨hf,hi⟩,ay⟩,ax⟩:=B;have aA:0<A:=Nat.le_of_ble_eq_true hf;obtain ⟨f,rfl⟩:∃ f,A=f+1:=⟨A-1,by omega⟩
    have D:i∈Region.ready .any all.toArray r:=by simpa using hi
    have ag:b=true→al i=true:=fun ai=>hb i (by simp [M01,ai])
    have aL:=ZE (P:=P) (M:=M) hQ hd af ae this (fun j q=>hb j (by simp [M01,q]));have aN:=ZE (P:=P) (M:=M) hQ hd af ae others (fun j q=>hb j (by simp [M01,q]));have hK:∀ a fr w,Rel n a fr→vcT P all M Q this fr w→wpX P all.toArray al M QA f (r.setIfInBounds i true) a w:=fun a fr w u O=>(aL f _ [] a fr w u (by simpa using ay) (hcl.set D) O).1 rfl
    simp only [vcT] at h;have hx:=M2H hd ag u hK h.1;have X:=(aN (f+1) r (i::E) a fr w u ax hcl h.2).2 (by simp) f rfl;have key:∀ j∈Region.ready .any all.toArray r,j∉E→xOp P all.toArray al M j (wpX P all.toArray al M QA f (r.setIfInBounds j true)) a w:=by
      intro j q aa
      by_cases J:j=i
      · subst J; exact hx
      · exact X j q (by simp [J,aa])
    refine ⟨fun hE=>⟨fun H=>(by rw [H] at D; cases D),fun j q=>key j q (by subst hE; simp)⟩,fun _ g hg j q aa=>?_⟩;have:g=f:=by omega
    subst this;exact key j q aa
def Z2 (f:Fr→World→Prop) (Q:Exit→Fr→World→Prop):Exit→Fr→World→Prop
  | .normal,fr,w=>f fr w
  | e,fr,w=>Q e fr w
def XI (id:Nat) (Q:Exit→Fr→World→Prop):Exit→Fr→World→Prop
  | .exit id',fr,w=>if id'=id then Q .normal fr w else Q (.exit id') fr w
  | e,fr,w=>Q e fr w
def MbO (n:Nat) (Q:Exit→Fr→World→Prop):Exit→Act→World→Prop:=fun e a w=>∃ fr,Rel n a fr∧Q e fr w
def okC (n:Nat):Code→Bool
  | .region _ ops _=>M05 n ops.toList
  | .seq a b=>okC n a&&okC n b
  | .cond _ x y=>okC n x&&okC n y
  | .block _ c=>okC n c
  | .loop c=>okC n c
  | .scope c=>okC n c
  | _=>true
structure M69 (P:Program) (c:Code) (Q:Exit→Fr→World→Prop) (fr:Fr) (w:World):Prop where
  run:∀ n a QA,okC n c=true→Rel n a fr→(∀ e a fr w,Rel n a fr→Q e fr w→QA e a w)→(Code.loop c).wp P QA a w
def M6a (Q:Exit→Fr→World→Prop):Exit→Fr→World→Prop
  | .goto _=>fun _ _=>False
  | e=>Q e
def Wl (P:Program):Code→(Exit→Fr→World→Prop)→Fr→World→Prop
  | .skip,Q=>Q .normal
  | .label _,Q=>Q .normal
  | .ret,Q=>Q .ret
  | .exit id,Q=>Q (.exit id)
  | .region _ ops false,Q=>M04 P ops.toList (Q .normal) ops.toList
  | .region _ ops true,Q=>fun fr w=>∃ M p,M4j ops p=true∧vcT P ops.toList M (Q .normal) p fr w.drew
  | .seq a b,Q=>Wl P a (Z2 (Wl P b Q) Q)
  | .cond c x y,Q=>fun fr w=>match c with
    | .tmp t=>match fr t with
      | .bool b=>(b=true→Wl P x Q (put fr t (.bool true)) w)∧(b=false→Wl P y Q (put fr t (.bool false)) w)
      | _=>False
    | _=>False
  | .block id c,Q=>Wl P c (XI id Q)
  | .loop c,Q=>M69 P c Q
  | .scope c,Q=>Wl P c (M6a Q)
  | _,_=>fun _ _=>False
theorem V5 {P:Program}(hmx:P.follows .mixedOrders=true):∀ (c:Code) (n:Nat) (Q:Exit→Fr→World→Prop) (QA:Exit→Act→World→Prop) (a:Act) (fr:Fr) (w:World),
    okC n c=true→Rel n a fr→(∀ e a fr w,Rel n a fr→Q e fr w→QA e a w)→Wl P c Q fr w→c.wp P QA a w
  | .skip,n,Q,QA,a,fr,w,_,g,hQ,h=>wp_skip (hQ _ _ _ _ g h)
  | .label _,n,Q,QA,a,fr,w,_,g,hQ,h=>wp_label (hQ _ _ _ _ g h)
  | .ret,n,Q,QA,a,fr,w,_,g,hQ,h=>wp_ret (hQ _ _ _ _ g h)
  | .exit id,n,Q,QA,a,fr,w,_,g,hQ,h=>wp_exit (hQ _ _ _ _ g h)
  | .region id ops false,n,Q,QA,a,fr,w,hok,g,hQ,h=>by
    refine wp_region_list ?_;have:=M1W (P:=P) (n:=n) (all:=ops.toList) (Q:=Q .normal) (QA:=QA) (fun a fr w g q=>hQ _ _ _ _ g q) ops.toList hok a fr w g h
    simpa using this
  | .region id ops true,n,Q,QA,a,fr,w,hok,g,hQ,h=>by
    obtain ⟨M,p,D,h⟩:=h;simp only [M4j,Bool.and_eq_true] at D;obtain ⟨⟨⟨U,G⟩,_⟩,E⟩:=D;refine wp_region_any hmx (Wr (M:=M) (al:=fun j=>M01 p j&&Nat.blt j ops.size) (Q:=fun a w=>QA .normal a w) (fun _ _ h=>h) _ _ _ _ ?_);have H:∀ i j,j≠i→i<ops.toList.length→(M01 p j&&Nat.blt j ops.size)=true→linked ops i j=true∨(W3 ops j=true∧W3 ops i=true)∨M0f ops i=true:=by
      intro i j O I u;simp only [Bool.and_eq_true] at u;have J:j<ops.size:=Nat.le_of_ble_eq_true u.2;have h1:=List.all_eq_true.1 G j (List.mem_range.2 J);rw [u.1] at h1;simp only [Bool.not_true,Bool.false_or] at h1;have B:=List.all_eq_true.1 h1 i (List.mem_range.2 (by simpa using I));cases r:Nat.beq i j with
      | true=>exact absurd (Nat.eq_of_beq_eq_true r).symm O
      | false=>
        rw [r] at B;have h3:((W3 ops j=true∧W3 ops i=true)∨M0f ops i=true)∨linked ops i j=true:=by simpa [Bool.or_eq_true,Bool.and_eq_true] using B
        rcases h3 with (h3 | h3) | h3
        · exact .inr (.inl h3)
        · exact .inr (.inr h3)
        · exact .inl h3
    have:=ZE (P:=P) (n:=n) (all:=ops.toList) (M:=M) (Q:=Q .normal) (QA:=fun a w=>QA .normal a w) (al:=fun j=>M01 p j&&Nat.blt j ops.size) (fun a fr w g q=>hQ _ _ _ _ g q) hok
      (by simpa using U) (by simpa using H) p (fun j u=>by
        have:=M2r ops p ops.size _ [] E j u;simp only [u,Bool.true_and];exact Nat.ble_eq_true_of_le this) ops.size (Array.replicate ops.size false) [] a fr w.drew g (by simpa using E) (Tq.start _) h
    simpa using this.1 rfl
  | .seq x y,n,Q,QA,a,fr,w,hok,g,hQ,h=>by
    simp only [okC,Bool.and_eq_true] at hok;refine wp_seq (V5 hmx x n _ _ a fr w hok.1 g (fun e a fr w g q=>?_) h);cases e with
    | normal=>exact V5 hmx y n Q QA a fr w hok.2 g hQ q
    | _=>exact hQ _ _ _ _ g q
  | .cond c x y,n,Q,QA,a,fr,w,hok,g,hQ,h=>by
    simp only [okC,Bool.and_eq_true] at hok;cases c with
    | tmp t=>
      simp only [Wl] at h
      split at h
      · rename_i b r
        have F:a.eval (.tmp t)=.bool b:=by rw [g.eval]; exact r
        cases b with
        | true=>
          have h1:=h.1 rfl;rw [Rs fr t _ r] at h1;exact wp_cond F (V5 hmx x n Q QA a fr w hok.1 g hQ h1)
        | false=>
          have h1:=h.2 rfl;rw [Rs fr t _ r] at h1;exact wp_cond F (V5 hmx y n Q QA a fr w hok.2 g hQ h1)
      · exact h.elim
    | _=>exact h.elim
  | .block id c,n,Q,QA,a,fr,w,hok,g,hQ,h=>by
    refine wp_block (V5 hmx c n _ _ a fr w hok g (fun e a fr w g q=>?_) h);cases e with
    | exit X=>
      simp only [XI] at q;simp only [Exit.inBlock]
      split
      · rename_i A; rw [if_pos A] at q; exact hQ _ _ _ _ g q
      · rename_i A; rw [if_neg A] at q; exact hQ _ _ _ _ g q
    | _=>exact hQ _ _ _ _ g q
  | .loop c,n,Q,QA,a,fr,w,hok,g,hQ,h=>h.run n a QA hok g hQ
  | .rangeFunc ..,_,_,_,_,_,_,_,_,_,h=>h.elim
  | .scope c,n,Q,QA,a,fr,w,hok,g,hQ,h=>by
    refine wp_scope_straight (V5 hmx c n _ _ a fr w hok g (fun e a fr w g q=>?_) h);cases e <;> first | exact q.elim | exact hQ _ _ _ _ g q
  | .goto ..,_,_,_,_,_,_,_,_,_,h=>h.elim
  | .refuse ..,_,_,_,_,_,_,_,_,_,h=>h.elim
theorem M7J {P:Program}(hmx:P.follows .mixedOrders=true){c:Code}{Q:Exit→Fr→World→Prop}{fr:Fr}{w:World}{σ:Type}(E:σ→List (Nat×Value))(B:σ→World→Prop)(mu:σ→Nat)
    (s0:σ) (Y:agree (E s0) fr) (i0:B s0 w)
    (G:∀ (s:σ) (J:Fr) (w:World),B s w→Wl P c (Z2 (fun F w'=>∃ j,agree (E j) F∧B j w'∧mu j<mu s) Q) (ofL (E s) J) w):M69 P c Q fr w:=by
  refine ⟨fun n a QA ag H D=>?_⟩;intro b k cs;have key:∀ m (s:σ) (fr:Fr) a w,mu s=m→Rel n a fr→agree (E s) fr→B s w→
      ∃ e a' w',QA e a' w'∧Arrives P (lone (b.at a (.code c::.inLoop c::k)) cs w) b k cs e a' w':=by
    intro m
    induction m using Nat.strongRecOn with
    | _ m ih=>
      intro s fr a w hm H ab Z;have I:=G s fr w Z;rw [← ZD _ _ ab] at I;obtain ⟨e,r,A,⟨X,u,g⟩,q⟩:=V5 hmx c n _ (MbO n (Z2 (fun F w'=>∃ j,agree (E j) F∧B j w'∧mu j<mu s) Q)) a fr w ag H
        (fun e a fr w G g=>⟨fr,G,g⟩) I b (.inLoop c::k) cs
      cases e with
      | normal=>
        obtain ⟨j,ac,aa,ae⟩:=g;obtain ⟨U,O,ak,ah,ad⟩:=ih (mu j) (hm ▸ ae) j X r A rfl u ac aa;exact ⟨U,O,ak,ah,.of_steps (Steps.trans q (.one step_inLoop)) ad⟩
      | exit id=>exact ⟨_,r,A,D _ _ _ _ u g,.pass (x:=.inLoop c) rfl (fun _ _=>.inl (by simp)) q⟩
      | goto l=>exact ⟨_,r,A,D _ _ _ _ u g,.pass (x:=.inLoop c) rfl (fun _ _=>.inl (by simp)) q⟩
      | ret=>exact ⟨_,r,A,D _ _ _ _ u g,.pass (x:=.inLoop c) rfl (fun _ _=>.inl (by simp)) q⟩
      | panic ch=>exact ⟨_,r,A,D _ _ _ _ u g,.pass (x:=.inLoop c) rfl (fun _ _=>.inl (by simp)) q⟩
      | outgrown=>exact ⟨_,r,A,D _ _ _ _ u g,.pass (x:=.inLoop c) rfl (fun _ _=>.inl (by simp)) q⟩
  obtain ⟨e,a',w',g,q⟩:=key _ s0 fr a w rfl H Y i0;exact ⟨e,a',w',g,.of_steps (.one step_loop) q⟩
theorem M6b {P:Program}{op:BinOp}{t:TypeId}{xo yo:Operand}{x y:Value}{K j:Value→Prop}(g:∀ v,K v→j v)(h:Vd P op t xo yo x y K):Vd P op t xo yo x y j:=by
  unfold Vd at *
  split
  · rename_i k a k' b
    by_cases q:k=k'
    · cases op <;> simp only [q,if_true] at h ⊢ <;> first | exact g _ h | exact ⟨h.1,g _ h.2⟩ | exact h
    · cases op <;> simp only [q,if_false] at h ⊢ <;> first | exact ⟨h.1,g _ h.2⟩ | exact h
  · rename_i u
    split at h
    · exact absurd rfl (u _ _ _ _ rfl)
    · obtain ⟨v,h1,r⟩:=h;exact ⟨v,h1,g _ r⟩
theorem M4k {A:Value→Prop}{K g:Value→Prop}(j:∀ v,K v→g v)(h:∃ v,A v∧K v):∃ v,A v∧g v:=let ⟨v,h1,h2⟩:=h; ⟨v,h1,j v h2⟩
theorem M0G {P:Program}{M:List Nat}{o:Oper}{K r:Value→Prop}{fr:Fr}{w:World}(j:∀ v,K v→r v)(h:vcQ P M o K fr w):vcQ P M o r fr w:=by
  obtain ⟨dst,op,ty,pos,u,guard⟩:=o;cases op <;> simp only [vcQ,MH,Pf,Pw] at h ⊢
  case pick c a b=>
    split
    · rename_i g q
      simp only [q] at h;cases g <;> exact j _ h
    · rename_i q
      split at h
      · exact (q _ (by assumption)).elim
      · exact h
  case extract x i=>
    split at h
    · rename_i vs hv
      split at h
      · exact j _ h
      · exact h.elim
    · exact h.elim
  case binOp=>exact M6b j h
  case unOp op t x=>
    split at h
    · exact j _ h
    · exact j _ h
    · exact M4k j h
  case nilCheck x=>
    split at h
    · exact j _ h
    · exact j _ h
    · exact h.elim
  case call c=>
    split at h <;> first | exact M4k j h | exact h.elim
  all_goals first | exact j _ h | exact M4k j h | exact h
theorem M1V.mono {cs:Array Value}{t:TypeId}{w:World}{K g:Nat→World→Prop}(u:∀ b w,K b w→g b w)(h:M1V cs t w K):M1V cs t w g:=
  fun b w' h1 j q r=>u _ _ (h b w' h1 j q r)
theorem XW {P:Program}{o:Oper}{K q:Value→World→Prop}{fr:Fr}{w:World}(j:∀ v w,K v w→q v w)(h:vcL P o K fr w):vcL P o q fr w:=by
  obtain ⟨dst,op,ty,pos,B,guard⟩:=o;cases op <;> simp only [vcL,MH,Pf,Pw] at h ⊢
  case box=>exact h.mono fun _ _=>j _ _
  case alloc=>obtain ⟨z,h1,g⟩:=h; exact ⟨z,h1,g.mono fun _ _=>j _ _⟩
  case buildSlice=>obtain ⟨cs,e,h1,g⟩:=h; exact ⟨cs,e,h1,g.mono fun _ _=>j _ _⟩
  case makeSlice=>obtain ⟨v,w',h1,g⟩:=h; exact ⟨v,w',h1,j _ _ g⟩
  case store=>obtain ⟨w',h1,g⟩:=h; exact ⟨w',h1,j _ _ g⟩
  case convert=>obtain ⟨v,w',h1,g⟩:=h; exact ⟨v,w',h1,j _ _ g⟩
  case makeMap=>exact ⟨h.1,fun b w' h1 g r u=>j _ _ (h.2 b w' h1 g r u)⟩
  case mapUpdate=>obtain ⟨w',h1,g⟩:=h; exact ⟨w',h1,j _ _ g⟩
  case insert=>obtain ⟨w',h1,g⟩:=h; exact ⟨w',h1,j _ _ g⟩
  case call c=>
    split at h
    · split at h
      · split at h
        · exact ⟨h.run.mono fun e w' ⟨v,A,hv⟩=>⟨v,A,j _ _ hv⟩,h.callee⟩
        · exact h.elim
      · exact h.elim
    · obtain ⟨v,w',h1,g⟩:=h;exact ⟨v,w',h1,j _ _ g⟩
    · exact h.elim
  all_goals exact h
theorem M0H {all:List Oper}{o:Oper}{fr:Fr}{A B r u:Fr→Prop}(ha:∀ fr,A fr→r fr)(g:∀ fr,B fr→u fr)(h:vcG all o fr A B):vcG all o fr r u:=by
  unfold vcG at *
  split
  · rename_i q; simp only [q] at h; exact ha _ h
  · rename_i j D q
    simp only [q] at h
    split
    · rename_i d hd
      simp only [hd] at h
      split
      · rename_i b hv; simp only [hv] at h; exact ⟨fun e=>ha _ (h.1 e),fun e=>g _ (h.2 e)⟩
      · rename_i hv
        split at h
        · exact (hv _ (by assumption)).elim
        · exact g _ h
    · rename_i hd
      simp only [hd] at h;exact g _ h
theorem M8w {P:Program}{o:Oper}{K j:Value→World→Prop}{fr:Fr}{w:World}(q:∀ v w,K v w→j v w)(h:vcS P o K fr w):vcS P o j fr w:=by
  unfold vcS at *
  split
  · rename_i g; simp only [g] at h; exact M0G (fun v=>q v w) h
  · rename_i g; simp only [g] at h; exact XW q h
theorem M0g {P:Program}{all:List Oper}{Q j:Fr→World→Prop}(g:∀ fr w,Q fr w→j fr w):∀ (l:List Oper) (fr:Fr) (w:World),M04 P all Q l fr w→M04 P all j l fr w
  | [],fr,w,h=>g _ _ h
  | o::l,fr,w,h=>by
    unfold M04 at *
    exact M0H (fun fr h=>M8w (fun v w h=>M0g g l _ _ h) h) (fun fr h=>M0g g l _ _ h) h
theorem M54 {P:Program}{all:List Oper}{M:List Nat}{K r:Fr→World→Prop}(g:∀ fr w,K fr w→r fr w){i:Nat}{al:Bool}{fr:Fr}{w:World}(h:vc1 P all M K i al fr w):vc1 P all M r i al fr w:=by
  unfold vc1 at *
  split
  · rename_i j; simp only [j] at h
  · rename_i o j
    simp only [j] at h;refine M0H (fun fr h=>?_) (fun fr h=>g _ _ h) h
    split
    · rename_i q; simp only [q] at h; exact M0G (fun v h=>g _ _ h) h
    · rename_i q
      simp only [q] at h;cases al with
      | true=>exact XW (fun v w h=>g _ _ h) h
      | false=>exact XW (fun v w h=>⟨h.1,g _ _ h.2⟩) h
set_option linter.unusedVariables false in
theorem M0I {P:Program}{all:List Oper}{M:List Nat}{Q j:Fr→World→Prop}(g:∀ fr w,Q fr w→j fr w):∀ (p:M0F) (fr:Fr) (w:World),vcT P all M Q p fr w→vcT P all M j p fr w
  | .stop,fr,w,h=>g _ _ h
  | .none_,_,_,_=>trivial
  | .op i al rest,fr,w,h=>M54 (fun fr w h=>M0I g rest fr w h) h
  | .alt i al this others,fr,w,h=>⟨M54 (fun fr w h=>M0I g this fr w h) h.1,M0I g others fr w h.2⟩
theorem M2I {f f':Fr→World→Prop}{Q g:Exit→Fr→World→Prop}(j:∀ fr w,f fr w→f' fr w)(q:∀ e fr w,Q e fr w→g e fr w):∀ e fr w,Z2 f Q e fr w→Z2 f' g e fr w:=by
  intro e fr w h;cases e <;> first | exact j _ _ h | exact q _ _ _ h
theorem WM {P:Program}:∀ (c:Code) (Q g:Exit→Fr→World→Prop) (fr:Fr) (w:World),(∀ e fr w,Q e fr w→g e fr w)→Wl P c Q fr w→Wl P c g fr w
  | .skip,Q,g,fr,w,hq,h=>hq _ _ _ h
  | .label _,Q,g,fr,w,hq,h=>hq _ _ _ h
  | .ret,Q,g,fr,w,hq,h=>hq _ _ _ h
  | .exit id,Q,g,fr,w,hq,h=>hq _ _ _ h
  | .region id ops false,Q,g,fr,w,hq,h=>M0g (hq .normal) _ _ _ h
  | .region id ops true,Q,g,fr,w,hq,h=>let ⟨M,l,h1,h2⟩:=h; ⟨M,l,h1,M0I (hq .normal) _ _ _ h2⟩
  | .seq x y,Q,g,fr,w,hq,h=>WM x _ _ fr w (M2I (fun fr w h=>WM y _ _ fr w hq h) hq) h
  | .cond c x y,Q,g,fr,w,hq,h=>by
    cases c with
    | tmp t=>
      simp only [Wl] at h ⊢
      split
      · rename_i b j; simp only [j] at h; exact ⟨fun e=>WM x _ _ _ w hq (h.1 e),fun e=>WM y _ _ _ w hq (h.2 e)⟩
      · rename_i j
        split at h
        · exact (j _ (by assumption)).elim
        · exact h
    | _=>exact h
  | .block id c,Q,g,fr,w,hq,h=>WM c _ _ fr w (fun e fr w h=>by
      cases e with
      | exit E=>
        simp only [XI] at h ⊢
        split
        · rename_i q; rw [if_pos q] at h; exact hq _ _ _ h
        · rename_i q; rw [if_neg q] at h; exact hq _ _ _ h
      | _=>exact hq _ _ _ h) h
  | .loop c,Q,g,fr,w,hq,h=>⟨fun n a QA A D r=>h.run n a QA A D fun e a fr w B u=>r e a fr w B (hq _ _ _ u)⟩
  | .rangeFunc ..,_,_,_,_,_,h=>h
  | .scope c,Q,g,fr,w,hq,h=>WM c _ _ fr w (fun e fr w h=>by
      cases e <;> first | exact h.elim | exact hq _ _ _ h) h
  | .goto ..,_,_,_,_,_,h=>h
  | .refuse ..,_,_,_,_,_,h=>h
def M1u (P:Program) (fr:Fr) (w:World):List ResultVar→List Value→Prop
  | [],[]=>True
  | .tmp t::rs,v::vs=>fr t=v∧M1u P fr w rs vs
  | .cell a t::rs,v::vs=>(∃ p,fr a=.pointer (some p)∧(loadVar t p).run P w=.ok v w)∧M1u P fr w rs vs
  | _,_=>False
def M7b:List Value→Value
  | [v]=>v
  | vs=>.tuple vs.toArray
def M7K (P:Program) (rs:List ResultVar) (R:Value→World→Prop) (fr:Fr) (w:World):Prop:=∃ vs,M1u P fr w rs vs∧R (M7b vs) w
def M6c (P:Program) (rs:List ResultVar) (R:Value→World→Prop):Exit→Fr→World→Prop
  | .normal,fr,w=>M7K P rs R fr w
  | .ret,fr,w=>M7K P rs R fr w
  | _,_,_=>False
theorem M0h {P:Program}{n:Nat}{a:Act}{fr:Fr}(g:Rel n a fr){w:World}:∀ (rs:List ResultVar) (vs:List Value),M1u P fr w rs vs→
    (rs.mapM fun (r:ResultVar)=>(match r with
      | .tmp t=>pure (a.tmps.getD t undef)
      | .cell c t=>do loadVar t (← asAddr (a.tmps.getD c undef)):Sem Value)).run P w=.ok vs w
  | [],[],_=>rfl
  | .tmp t::rs,v::vs,h=>by
    have j:=M0h g rs vs h.2;rw [List.mapM_cons,run_bind];have h1:a.tmps.getD t undef=v:=by rw [g.at_]; exact h.1
    simp only [Sem.run_pure,h1];rw [run_bind,j];rfl
  | .cell c t::rs,v::vs,h=>by
    have j:=M0h g rs vs h.2;obtain ⟨p,h1,q⟩:=h.1;have u:a.tmps.getD c undef=.pointer (some p):=by rw [g.at_]; exact h1
    have A:(do loadVar t (← asAddr (a.tmps.getD c undef)):Sem Value).run P w=.ok v w:=by
      rw [u];exact q
    rw [List.mapM_cons,run_bind];simp only [A];rw [run_bind,j];rfl
  | [],_::_,h=>h.elim
  | .tmp _::_,[],h=>h.elim
  | .cell _ _::_,[],h=>h.elim
theorem M55 {P:Program}{fn:Func}{rs:List ResultVar}(r:fn.results=rs.toArray){n:Nat}{a:Act}{fr:Fr}(q:Rel n a fr){R:Value→World→Prop}{w:World}(h:M7K P rs R fr w) :
    ∃ v,(results fn a.tmps).run P w=.ok v w∧R v w:=by
  obtain ⟨vs,h1,g⟩:=h;refine ⟨_,?_,g⟩;have j:=M0h q rs vs h1;simp only [results,r,List.mapM_toArray,bind_map_left];rw [run_bind]
  erw [j]
  rcases vs with _ | ⟨v,_ | ⟨u,vs⟩⟩
  · rfl
  · rfl
  · rfl
def Zb:List Value→Fr
  | [],_=>undef
  | v::l,i=>match i with | 0=>v | i+1=>Zb l i
theorem M0i (l:List Value)(i:Nat):Zb l i=(l[i]?).getD undef:=by
  induction l generalizing i with
  | nil=>rfl
  | cons v l g=>
    cases i with
    | zero=>rfl
    | succ i=>simpa [Zb] using g i
theorem M56 {P:Program}(hmx:P.follows .mixedOrders=true){f:FuncId}{fn:Func}{c:Code}{rs:List ResultVar}{args:List Value}{w:World}{R:Value→World→Prop}
    (hf : P.funcs[f]? = some fn) (hname : (fn.name == "runtime.NumGoroutine") = false) (hb : fn.body = some c) (hrs : fn.results = rs.toArray) (hok : okC fn.ntmps c = true) (hn : Nat.ble args.length fn.ntmps = true)
    (h:Wl P c (M6c P rs R) (Zb args) w):Md P f args w R:=by
  have hn:=Nat.le_of_ble_eq_true hn;refine ⟨calls_of_wp hf hb ?_,fn,hf,hname,by rw [hb]; rfl⟩;refine V5 hmx c fn.ntmps (M6c P rs R) _ _ (Zb args) w hok ⟨rfl,by simp; omega,fun i=>?_⟩ ?_ h
  · rw [M0i]
    by_cases hi:i<args.length
    · simp [Array.getElem?_append,hi]
    · simp only [Array.getD_eq_getD_getElem?,Array.getElem?_append,List.size_toArray,hi,if_false,Array.getElem?_replicate];rw [List.getElem?_eq_none (by omega)]
      split <;> rfl
  · intro e a fr w hr hq;cases e <;> simp only [M6c] at hq <;> first
      | exact hq.elim
      | (obtain ⟨v,h1,h2⟩:=M55 (P:=P) hrs hr hq
         exact ⟨hr.defers,v,h1,v,rfl,h2⟩)
def P9 (P:Program) (all:List Oper) (M:List Nat) (Q:Fr→World→Prop):List (Oper×Bool)→Fr→World→Prop
  | [],fr,w=>Q fr w
  | (o,al)::rest,fr,w=>vcG all o fr (fun fr=>match Pr o.op with
      | true=>vcQ P (qm al M) o (fun v=>P9 P all M Q rest (MI fr o.dst v) w) fr w
      | false=>vcL P o (fun v w'=>(al=true∨Ev M w w')∧P9 P all M Q rest (MI fr o.dst v) w') fr w)
    (fun fr=>P9 P all M Q rest (MI fr o.dst undef) w)
theorem Ws {P:Program}{all:List Oper}{Q:Fr→World→Prop}:∀ (l:List Oper) (fr:Fr) (w:World),P9 P all [] Q (l.map fun o=>(o,true)) fr w→M04 P all Q l fr w
  | [],fr,w,h=>h
  | o::l,fr,w,h=>by
    unfold M04;simp only [List.map_cons] at h;unfold P9 at h;refine M0H (fun fr h=>?_) (fun fr h=>Ws l _ _ h) h;unfold vcS
    split
    · rename_i g; simp only [g] at h; exact M0G (fun v h=>Ws l _ _ h) h
    · rename_i g; simp only [g] at h; exact XW (fun v w h=>Ws l _ _ h.2) h
def resolve (all:List Oper):List (Nat×Bool)→Option (List (Oper×Bool))
  | []=>some []
  | (i,al)::l=>match all[i]? with
    | none=>none
    | some o=>match resolve all l with
      | none=>none
      | some r=>some ((o,al)::r)
def PN:List (Nat×Bool)→M0F→M0F
  | [],p=>p
  | (i,al)::l,p=>.op i al (PN l p)
theorem M2J {P:Program}{all:List Oper}{M:List Nat}{K:Fr→World→Prop}{Q:Fr→World→Prop}{i:Nat}{al:Bool}{o:Oper}{r:List (Oper×Bool)}{fr:Fr}{w:World}(q:all[i]? = some o)
    (g:∀ fr w,P9 P all M Q r fr w→K fr w) (h:P9 P all M Q ((o,al)::r) fr w):vc1 P all M K i al fr w:=by
  unfold vc1;simp only [q];unfold P9 at h;refine M0H (fun fr h=>?_) (fun fr h=>g _ _ h) h
  split
  · rename_i j; simp only [j] at h; exact M0G (fun v h=>g _ _ h) h
  · rename_i j
    simp only [j] at h;cases al with
    | true=>exact XW (fun v w h=>g _ _ h.2) h
    | false=>exact XW (fun v w h=>⟨h.1.resolve_left (by simp),g _ _ h.2⟩) h
theorem Yz {P:Program}{all:List Oper}{M:List Nat}{Q:Fr→World→Prop}(p:M0F):∀ (l:List (Nat×Bool)) (r:List (Oper×Bool)) (fr:Fr) (w:World),resolve all l=some r→P9 P all M (vcT P all M Q p) r fr w→vcT P all M Q (PN l p) fr w
  | [],r,fr,w,hr,h=>by cases hr; exact h
  | (i,al)::l,r,fr,w,hr,h=>by
    unfold resolve at hr;cases j:all[i]? with
    | none=>rw [j] at hr; cases hr
    | some o=>
      rw [j] at hr;simp only at hr;cases g:resolve all l with
      | none=>rw [g] at hr; cases hr
      | some q=>
        rw [g] at hr;cases hr;exact M2J j (fun fr w h=>Yz p l q fr w g h) h
theorem M06 {P:Program}{all:List Oper}{M:List Nat}{Q:Fr→World→Prop}{p others:M0F}{i:Nat}{al:Bool}{l:List (Nat×Bool)}{fr:Fr}{w:World}(r:List (Oper×Bool))(g:resolve all ((i,al)::l)=some r)
    (h:P9 P all M (vcT P all M Q p) r fr w) (j:vcT P all M Q others fr w):vcT P all M Q (.alt i al (PN l p) others) fr w:=by
  refine ⟨?_,j⟩;unfold resolve at g;cases j:all[i]? with
  | none=>rw [j] at g; cases g
  | some o=>
    rw [j] at g;simp only at g;cases q:resolve all l with
    | none=>rw [q] at g; cases g
    | some u=>
      rw [q] at g;cases g;exact M2J j (fun fr w h=>Yz p l u fr w q h) h
theorem M2K {P:Program}{all:List Oper}{M:List Nat}{Q:Fr→World→Prop}{fr:Fr}{w:World}:vcT P all M Q .none_ fr w:=trivial
theorem Zc {P:Program}{all:List Oper}{M:List Nat}{Q:Fr→World→Prop}{fr:Fr}{w:World}(h:Q fr w):vcT P all M Q .stop fr w:=h
def MaX (ops:Array Oper) (l:List (Nat×Bool)):Bool:=M4j ops (PN l .stop)
def M1v (v:Value) (K:Value→Option Value):Option Value:=
  match v with
  | .bool b=>K (.bool b)
  | .int k n=>K (.int k n)
  | .float k b=>K (.float k b)
  | .complex k a b=>K (.complex k a b)
  | .string s=>K (.string s)
  | .pointer a=>K (.pointer a)
  | .slice a l c=>K (.slice a l c)
  | .map r=>K (.map r)
  | .chan r=>K (.chan r)
  | .func f a b=>K (.func f a b)
  | .nilFunc=>K .nilFunc
  | .iface t v=>K (.iface t v)
  | .nilIface=>K .nilIface
  | .agg cs=>K (.agg cs)
  | .tuple vs=>K (.tuple vs)
theorem M7L (v:Value)(K:Value→Option Value):M1v v K=K v:=by cases v <;> rfl
def M2s (op:BinOp) (x y:Value):Option Value:=
  match x,y with
  | .int k a,.int k' b=>
    match op with
    | .shl=>if b<0 then none else some (.int k (k.wrap (a*2 ^ (min b.toNat k.bits))))
    | .shr=>if b<0 then none else some (.int k (a.fdiv (2 ^ (min b.toNat k.bits))))
    | op=>if k=k' then
      match op with
      | .add=>some (.int k (k.wrap (a+b)))
      | .sub=>some (.int k (k.wrap (a-b)))
      | .mul=>some (.int k (k.wrap (a*b)))
      | .quo=>if b=0 then none else some (.int k (k.wrap (a.tdiv b)))
      | .rem=>if b=0 then none else some (.int k (a.tmod b))
      | .and=>some (.int k (k.wrap (BitVec.ofInt k.bits a&&&BitVec.ofInt k.bits b).toNat))
      | .or=>some (.int k (k.wrap (BitVec.ofInt k.bits a ||| BitVec.ofInt k.bits b).toNat))
      | .xor=>some (.int k (k.wrap (BitVec.ofInt k.bits a ^^^ BitVec.ofInt k.bits b).toNat))
      | .andNot=>some (.int k (k.wrap (BitVec.ofInt k.bits a&&&~~~ (BitVec.ofInt k.bits b)).toNat))
      | .eql=>some (.bool (a==b))
      | .neq=>some (.bool (a != b))
      | .lss=>some (.bool (decide (a<b)))
      | .leq=>some (.bool (decide (a≤b)))
      | .gtr=>some (.bool (decide (a>b)))
      | .geq=>some (.bool (decide (a≥b)))
      | _=>none
      else none
  | _,_=>none
def M6d (o:Oper) (fr:Fr):Option Value:=
  match o.op with
  | .move x=>M1v (ev fr x) some
  | .assign x=>M1v (ev fr x) some
  | .pick c a b=>match ev fr c with
    | .bool g=>match g with | true=>M1v (ev fr a) some | false=>M1v (ev fr b) some
    | _=>none
  | .extract x i=>match ev fr x with
    | .tuple vs=>match vs[i]? with | some v=>M1v v some | none=>none
    | _=>none
  | .binOp op _ x y _=>M2s op (ev fr x) (ev fr y)
  | .unOp op _ x=>match op,ev fr x with
    | .not,.bool b=>some (.bool (!b))
    | .neg,.int k n=>some (.int k (k.wrap (0-n)))
    | _,_=>none
  | .nilCheck x=>match ev fr x with
    | .pointer (some a)=>some (.pointer (some a))
    | .func (.func f) c d=>some (.func (.func f) c d)
    | _=>none
  | _=>none
theorem XX {P:Program}{op:BinOp}{t:TypeId}{xo yo:Operand}{x y v:Value}(h:M2s op x y=some v)(K:Value→Prop)(j:K v):Vd P op t xo yo x y K:=by
  unfold M2s at h
  split at h
  · rename_i k a k' b
    by_cases g:k=k'
    · cases op <;> simp only [g,if_true] at h <;> simp only [Vd,g,if_true] <;> first
        | (cases h; exact j)
        | (split at h <;> first | (cases h; done) | (cases h; exact ⟨by omega,j⟩))
        | (cases h; done)
    · cases op <;> simp only [g,if_false] at h <;> simp only [Vd,g,if_false] <;> first
        | (split at h <;> first | (cases h; done) | (cases h; exact ⟨by omega,j⟩))
        | (cases h; done)
  · cases h
theorem M57 {P:Program}{M:List Nat}{o:Oper}{fr:Fr}{v:Value}(h:M6d o fr=some v){K:Value→Prop}(j:K v)(w:World):Pr o.op=true∧vcQ P M o K fr w:=by
  obtain ⟨dst,op,ty,pos,q,guard⟩:=o;cases op <;> simp only [M6d,M7L] at h <;> simp only [vcQ,MH,Pr,true_and] <;> first | (cases h; exact j) | skip
  case pick c a b=>
    split at h
    · rename_i g r
      cases g <;>(cases h; exact j)
    · cases h
  case extract x i=>
    split at h
    · split at h
      · cases h; exact j
      · cases h
    · cases h
  case binOp=>exact XX h _ j
  case unOp op t x=>
    split at h
    · cases h; exact j
    · cases h; exact j
    · cases h
  case nilCheck x=>
    split at h
    · cases h; exact j
    · cases h; exact j
    · cases h
  all_goals cases h
def Mn (all:List Oper) (o:Oper) (fr:Fr):Option Bool:=
  match o.guard with
  | none=>some true
  | some (j,want)=>match (all[j]?).bind (·.dst) with
    | some d=>match fr d with
      | .bool b=>match b with
        | true=>some want
        | false=>some (!want)
      | _=>some false
    | none=>some false
theorem M0j {all:List Oper}{o:Oper}{fr:Fr}{A B:Fr→Prop}(h:Mn all o fr=some true)(ha:A fr):vcG all o fr A B:=by
  unfold Mn at h;unfold vcG
  split at h
  · exact ha
  · rename_i j q r
    split at h
    · rename_i d hd
      split at h
      · rename_i b g
        split at h
        · cases h;rw [Rs fr d _ g];exact ⟨fun _=>ha,fun h=>by cases h⟩
        · cases q
          · rw [Rs fr d _ g];exact ⟨fun _=>ha,fun h=>by cases h⟩
          · cases h
      · cases h
    · cases h
theorem M4l {all:List Oper}{o:Oper}{fr:Fr}{A B:Fr→Prop}(h:Mn all o fr=some false)(ha:B fr):vcG all o fr A B:=by
  unfold Mn at h;unfold vcG
  split at h
  · cases h
  · rename_i j q r
    split at h
    · rename_i d hd
      split at h
      · rename_i b g
        split at h
        · cases h;simp only [Bool.not_false];rw [Rs fr d _ g];exact ⟨fun h=>(by cases h),fun _=>ha⟩
        · cases q
          · cases h
          · simp only [Bool.not_true];rw [Rs fr d (.bool false) g];exact ⟨fun h=>(by cases h),fun _=>ha⟩
      · exact ha
    · exact ha
def M2L (all:List Oper) (o:Oper) (fr:Fr):Option Value:=
  match Mn all o fr with
  | some true=>M6d o fr
  | some false=>some undef
  | none=>none
def M58 (all:List Oper):Nat→List (Oper×Bool)→Fr→Option (List (Nat×Value))
  | 0,_,_=>some []
  | _+1,[],_=>none
  | k+1,(o,_)::l,fr=>match M2L all o fr with
    | none=>none
    | some v=>match o.dst with
      | none=>M58 all k l fr
      | some d=>match M58 all k l (put fr d v) with
        | none=>none
        | some r=>some ((d,v)::r)
def MaY:List (Nat×Value)→Fr→Fr
  | [],fr=>fr
  | (d,v)::l,fr=>MaY l (put fr d v)
theorem M6e {P:Program}{all:List Oper}{M:List Nat}{Q:Fr→World→Prop}:∀ (k:Nat) (g:List (Nat×Value)) (l:List (Oper×Bool)) (fr:Fr) (w:World),M58 all k l fr=some g→P9 P all M Q (l.drop k) (MaY g fr) w→P9 P all M Q l fr w
  | 0,g,l,fr,w,h,hq=>by
    unfold M58 at h;cases h;exact hq
  | k+1,g,[],fr,w,h,hq=>by unfold M58 at h; cases h
  | k+1,g,(o,al)::l,fr,w,h,hq=>by
    unfold M58 at h;cases hv:M2L all o fr with
    | none=>rw [hv] at h; cases h
    | some v=>
      rw [hv] at h;simp only at h;have key:P9 P all M Q l (MI fr o.dst v) w:=by
        cases hd:o.dst with
        | none=>rw [hd] at h; exact M6e k g l fr w h hq
        | some d=>
          rw [hd] at h;simp only at h;cases j:M58 all k l (put fr d v) with
          | none=>rw [j] at h; cases h
          | some r=>
            rw [j] at h;cases h;exact M6e k r l _ w j hq
      unfold P9;unfold M2L at hv
      split at hv
      · rename_i q
        refine M0j q ?_;obtain ⟨h1,u⟩:=M57 (P:=P) (M:=qm al M) hv (K:=fun v=>P9 P all M Q l (MI fr o.dst v) w) key w;rw [h1];exact u
      · rename_i q
        cases hv;exact M4l q key
      · cases hv
theorem MaF {P:Program}{all:List Oper}{M:List Nat}{Q:Fr→World→Prop}{l:List (Oper×Bool)}{fr:Fr}{w:World}(g:l=[])(h:Q fr w):P9 P all M Q l fr w:=by
  subst g; exact h
theorem M9H {P:Program}{all:List Oper}{M:List Nat}{Q:Fr→World→Prop}{l:List (Oper×Bool)}{fr:Fr}{w:World}(d:Nat)(b:Bool)(g:fr d=.bool b)
    (q:b=true→P9 P all M Q l (put fr d (.bool true)) w) (j:b=false→P9 P all M Q l (put fr d (.bool false)) w):P9 P all M Q l fr w:=by
  cases b with
  | true=>have:=q rfl; rwa [Rs fr d _ g] at this
  | false=>have:=j rfl; rwa [Rs fr d _ g] at this
theorem TQ {P:Program}{all:List Oper}{M:List Nat}{Q:Fr→World→Prop}{o:Oper}{al:Bool}{l g:List (Oper×Bool)}{fr:Fr}{w:World}(j:g=(o,al)::l)(r:Mn all o fr=some true)(q:Pr o.op=true)
    (h:vcQ P (qm al M) o (fun v=>P9 P all M Q l (MI fr o.dst v) w) fr w):P9 P all M Q g fr w:=by
  subst j;unfold P9;refine M0j r ?_;rw [q];exact h
theorem XJ {P:Program}{all:List Oper}{M:List Nat}{Q:Fr→World→Prop}{o:Oper}{al:Bool}{l g:List (Oper×Bool)}{fr:Fr}{w:World}(j:g=(o,al)::l)(r:Mn all o fr=some true)(q:Pr o.op=false)
    (h:vcL P o (fun v w'=>(al=true∨Ev M w w')∧P9 P all M Q l (MI fr o.dst v) w') fr w):P9 P all M Q g fr w:=by
  subst j;unfold P9;refine M0j r ?_;rw [q];exact h
theorem M6f {P:Program}{all:List Oper}{M:List Nat}{Q:Fr→World→Prop}{dst:Option Tmp}{ty:TypeId}{pos:String}{q:Array Edge}{guard:Option (Nat×Bool)}{j:Operand}{args:Array Operand}{ats:Array TypeId}
    {al:Bool} {l r:List (Oper×Bool)} {fr:Fr} {w:World} (g:FuncId) (first cap:Array Value) (vs:List Value) (K:Value→World→Prop)
    (B:r=(⟨dst,.call ⟨.value j,args,ats⟩,ty,pos,q,guard⟩,al)::l) (D:Mn all ⟨dst,.call ⟨.value j,args,ats⟩,ty,pos,q,guard⟩ fr=some true)
    (A:ev fr j=.func (.func g) first cap) (hv:first.toList++args.toList.map (ev fr)++cap.toList=vs) (u:Md P g vs w K)
    (h:∀ v w',K v w'→(al=true∨Ev M w w')∧P9 P all M Q l (MI fr dst v) w'):P9 P all M Q r fr w:=by
  refine XJ B D rfl ?_;simp only [vcL,A,Pf];rw [hv];exact u.mono h
theorem M0k {P:Program}{t:TypeId}{xo yo:Operand}{k:IntKind}{a b:Int}(g:b≠0)(K:Value→Prop)(h:K (.int k (k.wrap (a.tdiv b)))):Vd P .quo t xo yo (.int k a) (.int k b) K:=by
  simp only [Vd,if_true]; exact ⟨g,h⟩
theorem M1w {P:Program}{t:TypeId}{xo yo:Operand}{k:IntKind}{a b:Int}(g:b≠0)(K:Value→Prop)(h:K (.int k (a.tmod b))):Vd P .rem t xo yo (.int k a) (.int k b) K:=by
  simp only [Vd,if_true]; exact ⟨g,h⟩
theorem MW {P:Program}{all:List Oper}{M:List Nat}{Q:Fr→World→Prop}{dst:Option Tmp}{ty:TypeId}{pos:String}{g:Array Edge}{guard:Option (Nat×Bool)}{al:Bool}{l j:List (Oper×Bool)}{fr:Fr}{w:World}{op:BinOp}{t q:TypeId}{x y:Operand}(v xv yv:Value)
    (r:j=(⟨dst,.binOp op t x y q,ty,pos,g,guard⟩,al)::l) (A:Mn all ⟨dst,.binOp op t x y q,ty,pos,g,guard⟩ fr=some true) (B:ev fr x=xv) (D:ev fr y=yv)
    (u:∀ K:Value→Prop,K v→Vd P op t x y xv yv K) (h:P9 P all M Q l (MI fr dst v) w):P9 P all M Q j fr w:=by
  refine TQ r A rfl ?_;simp only [vcQ,B,D];exact u _ h
theorem M4m {P:Program}{all:List Oper}{M:List Nat}{Q:Fr→World→Prop}{dst:Option Tmp}{ty:TypeId}{pos:String}{g:Array Edge}{guard:Option (Nat×Bool)}{al:Bool}{l j:List (Oper×Bool)}{fr:Fr}{w:World}{t:TypeId}{x:Operand}{xv:Value}(v:Value)
    (q:j=(⟨dst,.load t x,ty,pos,g,guard⟩,al)::l) (u:Mn all ⟨dst,.load t x,ty,pos,g,guard⟩ fr=some true) (A:ev fr x=xv)
    (r:ME P (qm al M) (Instr.loadAt t xv) w v) (h:P9 P all M Q l (MI fr dst v) w):P9 P all M Q j fr w:=by
  refine TQ q u rfl ?_;simp only [vcQ,MH,Pf,Pw, *];exact ⟨v,r,h⟩
theorem M1X {P:Program}{all:List Oper}{M:List Nat}{Q:Fr→World→Prop}{dst:Option Tmp}{ty:TypeId}{pos:String}{g:Array Edge}{guard:Option (Nat×Bool)}{al:Bool}{l j:List (Oper×Bool)}{fr:Fr}{w:World}{t:TypeId}{x:Operand}{i:Nat}{xv:Value}(v:Value)
    (q:j=(⟨dst,.fieldAddr t x i,ty,pos,g,guard⟩,al)::l) (u:Mn all ⟨dst,.fieldAddr t x i,ty,pos,g,guard⟩ fr=some true) (A:ev fr x=xv)
    (r:Alw P (Instr.fieldAt t xv i) v) (h:P9 P all M Q l (MI fr dst v) w):P9 P all M Q j fr w:=by
  refine TQ q u rfl ?_;simp only [vcQ,MH,Pf,Pw, *];exact ⟨v,r,h⟩
theorem M9I {P:Program}{all:List Oper}{M:List Nat}{Q:Fr→World→Prop}{dst:Option Tmp}{ty:TypeId}{pos:String}{g:Array Edge}{guard:Option (Nat×Bool)}{al:Bool}{l j:List (Oper×Bool)}{fr:Fr}{w:World}{t:TypeId}{x:Operand}{i:Nat}{xv:Value}(v:Value)
    (q:j=(⟨dst,.field t x i,ty,pos,g,guard⟩,al)::l) (u:Mn all ⟨dst,.field t x i,ty,pos,g,guard⟩ fr=some true) (A:ev fr x=xv)
    (r:ME P (qm al M) (Instr.field t xv i) w v) (h:P9 P all M Q l (MI fr dst v) w):P9 P all M Q j fr w:=by
  refine TQ q u rfl ?_;simp only [vcQ,MH,Pf,Pw, *];exact ⟨v,r,h⟩
theorem Xr {P:Program}{all:List Oper}{M:List Nat}{Q:Fr→World→Prop}{dst:Option Tmp}{ty:TypeId}{pos:String}{g:Array Edge}{guard:Option (Nat×Bool)}{al:Bool}{l j:List (Oper×Bool)}{fr:Fr}{w:World}{t:TypeId}{x y:Operand}{xv yv:Value}(v:Value)
    (q:j=(⟨dst,.indexAddr t x y,ty,pos,g,guard⟩,al)::l) (u:Mn all ⟨dst,.indexAddr t x y,ty,pos,g,guard⟩ fr=some true) (A:ev fr x=xv) (B:ev fr y=yv)
    (r:ME P (qm al M) (Instr.indexAt t xv yv) w v) (h:P9 P all M Q l (MI fr dst v) w):P9 P all M Q j fr w:=by
  refine TQ q u rfl ?_;simp only [vcQ,MH,Pf,Pw, *];exact ⟨v,r,h⟩
theorem YA {P:Program}{all:List Oper}{M:List Nat}{Q:Fr→World→Prop}{dst:Option Tmp}{ty:TypeId}{pos:String}{g:Array Edge}{guard:Option (Nat×Bool)}{al:Bool}{l j:List (Oper×Bool)}{fr:Fr}{w:World}{t:TypeId}{x y:Operand}{xv yv:Value}(v:Value)
    (q:j=(⟨dst,.index t x y,ty,pos,g,guard⟩,al)::l) (u:Mn all ⟨dst,.index t x y,ty,pos,g,guard⟩ fr=some true) (A:ev fr x=xv) (B:ev fr y=yv)
    (r:ME P (qm al M) (Instr.index t xv yv) w v) (h:P9 P all M Q l (MI fr dst v) w):P9 P all M Q j fr w:=by
  refine TQ q u rfl ?_;simp only [vcQ,MH,Pf,Pw, *];exact ⟨v,r,h⟩
theorem M0J {P:Program}{all:List Oper}{M:List Nat}{Q:Fr→World→Prop}{dst:Option Tmp}{ty:TypeId}{pos:String}{r:Array Edge}{guard:Option (Nat×Bool)}{al:Bool}{l u:List (Oper×Bool)}{fr:Fr}{w:World}{t:TypeId}{x:Operand}{j g q:Option Operand}{xv:Value}{lv hv mv:Option Value}(v:Value)
    (A:u=(⟨dst,.slice t x j g q,ty,pos,r,guard⟩,al)::l) (D:Mn all ⟨dst,.slice t x j g q,ty,pos,r,guard⟩ fr=some true) (G:ev fr x=xv) (F:j.map (ev fr)=lv) (E:g.map (ev fr)=hv) (hmx:q.map (ev fr)=mv)
    (B:ME P (qm al M) (Instr.sliceAt t xv lv hv mv) w v) (h:P9 P all M Q l (MI fr dst v) w):P9 P all M Q u fr w:=by
  refine TQ A D rfl ?_;simp only [vcQ,MH,Pf,Pw, *];exact ⟨v,B,h⟩
theorem M9J {P:Program}{all:List Oper}{M:List Nat}{Q:Fr→World→Prop}{dst:Option Tmp}{ty:TypeId}{pos:String}{j:Array Edge}{guard:Option (Nat×Bool)}{al:Bool}{l q:List (Oper×Bool)}{fr:Fr}{w:World}{t:TypeId}{g:Array (Nat×Operand)}{vs:List (Nat×Value)}(v:Value)
    (r:q=(⟨dst,.build t g,ty,pos,j,guard⟩,al)::l) (A:Mn all ⟨dst,.build t g,ty,pos,j,guard⟩ fr=some true) (hv:(g.toList.map fun (i,x)=>(i,ev fr x))=vs)
    (u:ME P (qm al M) (Instr.build t vs.toArray) w v) (h:P9 P all M Q l (MI fr dst v) w):P9 P all M Q q fr w:=by
  refine TQ r A rfl ?_;simp only [vcQ,MH,Pf,Pw, *];exact ⟨v,u,h⟩
theorem MaG {P:Program}{all:List Oper}{M:List Nat}{Q:Fr→World→Prop}{dst:Option Tmp}{ty:TypeId}{pos:String}{g:Array Edge}{guard:Option (Nat×Bool)}{al:Bool}{l j:List (Oper×Bool)}{fr:Fr}{w:World}{args:Array Operand}{ats:Array TypeId}{vs:List Value}(v:Value)
    (q:j=(⟨dst,.call ⟨.builtin .len,args,ats⟩,ty,pos,g,guard⟩,al)::l) (u:Mn all ⟨dst,.call ⟨.builtin .len,args,ats⟩,ty,pos,g,guard⟩ fr=some true) (hv:args.toList.map (ev fr)=vs)
    (r:ME P (qm al M) (Builtin.len_ ats ty vs.toArray) w v) (h:P9 P all M Q l (MI fr dst v) w):P9 P all M Q j fr w:=by
  refine TQ q u rfl ?_;simp only [vcQ,MH,Pf,Pw, *];exact ⟨v,r,h⟩
theorem M0K {P:Program}{all:List Oper}{M:List Nat}{Q:Fr→World→Prop}{dst:Option Tmp}{ty:TypeId}{pos:String}{g:Array Edge}{guard:Option (Nat×Bool)}{al:Bool}{l j:List (Oper×Bool)}{fr:Fr}{w:World}{args:Array Operand}{ats:Array TypeId}{vs:List Value}(v:Value)
    (q:j=(⟨dst,.call ⟨.builtin .min,args,ats⟩,ty,pos,g,guard⟩,al)::l) (u:Mn all ⟨dst,.call ⟨.builtin .min,args,ats⟩,ty,pos,g,guard⟩ fr=some true) (hv:args.toList.map (ev fr)=vs)
    (r:ME P (qm al M) (Builtin.min_ ats ty vs.toArray) w v) (h:P9 P all M Q l (MI fr dst v) w):P9 P all M Q j fr w:=by
  refine TQ q u rfl ?_;simp only [vcQ,MH,Pf,Pw, *];exact ⟨v,r,h⟩
theorem M1Y {P:Program}{all:List Oper}{M:List Nat}{Q:Fr→World→Prop}{dst:Option Tmp}{ty:TypeId}{pos:String}{g:Array Edge}{guard:Option (Nat×Bool)}{al:Bool}{l j:List (Oper×Bool)}{fr:Fr}{w:World}{args:Array Operand}{ats:Array TypeId}{vs:List Value}(v:Value)
    (q:j=(⟨dst,.call ⟨.builtin .max,args,ats⟩,ty,pos,g,guard⟩,al)::l) (u:Mn all ⟨dst,.call ⟨.builtin .max,args,ats⟩,ty,pos,g,guard⟩ fr=some true) (hv:args.toList.map (ev fr)=vs)
    (r:ME P (qm al M) (Builtin.max_ ats ty vs.toArray) w v) (h:P9 P all M Q l (MI fr dst v) w):P9 P all M Q j fr w:=by
  refine TQ q u rfl ?_;simp only [vcQ,MH,Pf,Pw, *];exact ⟨v,r,h⟩
theorem Mbz {P:Program}{all:List Oper}{M:List Nat}{Q:Fr→World→Prop}{dst:Option Tmp}{ty:TypeId}{pos:String}{g:Array Edge}{guard:Option (Nat×Bool)}{al:Bool}{l j:List (Oper×Bool)}{fr:Fr}{w:World}{t:TypeId}{x:Operand}{xv:Value}
    (q:j=(⟨dst,.box t x,ty,pos,g,guard⟩,al)::l) (r:Mn all ⟨dst,.box t x,ty,pos,g,guard⟩ fr=some true) (u:ev fr x=xv)
    (h:∀ b w',b=w.heap.size→w'.heap[b]? = some (.cells xv.cells t (0,0))→Ev [] w w'→w'.heap.size=b+1→(al=true∨Ev M w w')∧P9 P all M Q l (MI fr dst (.pointer (some ⟨b,0,none⟩))) w'):P9 P all M Q j fr w:=by
  refine XJ q r rfl ?_;simp only [vcL,MH,Pf,Pw, *];exact h
theorem M7c {P:Program}{all:List Oper}{M:List Nat}{Q:Fr→World→Prop}{dst:Option Tmp}{ty:TypeId}{pos:String}{g:Array Edge}{guard:Option (Nat×Bool)}{al:Bool}{l j:List (Oper×Bool)}{fr:Fr}{w:World}{t:TypeId}{z:Value}
    (q:j=(⟨dst,.alloc t,ty,pos,g,guard⟩,al)::l) (r:Mn all ⟨dst,.alloc t,ty,pos,g,guard⟩ fr=some true) (u:(zeroValue t).run P w=.ok z w)
    (h:∀ b w',b=w.heap.size→w'.heap[b]? = some (.cells z.cells t (0,0))→Ev [] w w'→w'.heap.size=b+1→(al=true∨Ev M w w')∧P9 P all M Q l (MI fr dst (.pointer (some ⟨b,0,none⟩))) w'):P9 P all M Q j fr w:=by
  refine XJ q r rfl ?_;simp only [vcL,MH,Pf,Pw, *];exact ⟨z,rfl,h⟩
theorem M0L {P:Program}{all:List Oper}{M:List Nat}{Q:Fr→World→Prop}{dst:Option Tmp}{ty:TypeId}{pos:String}{j:Array Edge}{guard:Option (Nat×Bool)}{al:Bool}{l q:List (Oper×Bool)}{fr:Fr}{w:World}{t:TypeId}{n:Nat}{g:Array (Nat×Operand)}{vs:List (Nat×Value)}(cs:Array Value)(e:TypeId)
    (r:q=(⟨dst,.buildSlice t n g,ty,pos,j,guard⟩,al)::l) (u:Mn all ⟨dst,.buildSlice t n g,ty,pos,j,guard⟩ fr=some true) (hv:(g.toList.map fun (i,x)=>(i,ev fr x))=vs) (A:(Instr.buildSlice t n vs.toArray).run P w=.ok (.slice (some ⟨w.heap.size,0,none⟩) n n) (w.alloc (.cells cs e (0,0))))
    (h:∀ b w',b=w.heap.size→w'.heap[b]? = some (.cells cs e (0,0))→Ev [] w w'→w'.heap.size=b+1→(al=true∨Ev M w w')∧P9 P all M Q l (MI fr dst (.slice (some ⟨b,0,none⟩) n n)) w'):P9 P all M Q q fr w:=by
  refine XJ r u rfl ?_;simp only [vcL,MH,Pf,Pw, *];exact ⟨cs,e,rfl,h⟩
theorem M59 {P:Program}{all:List Oper}{M:List Nat}{Q:Fr→World→Prop}{dst:Option Tmp}{ty:TypeId}{pos:String}{g:Array Edge}{guard:Option (Nat×Bool)}{al:Bool}{l j:List (Oper×Bool)}{fr:Fr}{w:World}{t:TypeId}{x y:Operand}{xv yv:Value}(v:Value)(w':World)
    (q:j=(⟨dst,.makeSlice t x y,ty,pos,g,guard⟩,al)::l) (r:Mn all ⟨dst,.makeSlice t x y,ty,pos,g,guard⟩ fr=some true) (A:ev fr x=xv) (B:ev fr y=yv) (u:(Instr.makeSlice t xv yv).run P w=.ok v w')
    (h:(al=true∨Ev M w w')∧P9 P all M Q l (MI fr dst v) w'):P9 P all M Q j fr w:=by
  refine XJ q r rfl ?_;simp only [vcL,MH,Pf,Pw, *];exact ⟨v,w',rfl,h⟩
theorem M9K {P:Program}{all:List Oper}{M:List Nat}{Q:Fr→World→Prop}{dst:Option Tmp}{ty:TypeId}{pos:String}{g:Array Edge}{guard:Option (Nat×Bool)}{al:Bool}{l j:List (Oper×Bool)}{fr:Fr}{w:World}{t:TypeId}{x y:Operand}{xv yv:Value}(w':World)
    (q:j=(⟨dst,.store t x y,ty,pos,g,guard⟩,al)::l) (r:Mn all ⟨dst,.store t x y,ty,pos,g,guard⟩ fr=some true) (A:ev fr x=xv) (B:ev fr y=yv) (u:(Instr.storeAt t xv yv).run P w=.ok () w')
    (h:(al=true∨Ev M w w')∧P9 P all M Q l (MI fr dst undef) w'):P9 P all M Q j fr w:=by
  refine XJ q r rfl ?_;simp only [vcL,MH,Pf,Pw, *];exact ⟨w',rfl,h⟩
theorem ZF {P:Program}{all:List Oper}{M:List Nat}{Q:Fr→World→Prop}{dst:Option Tmp}{ty:TypeId}{pos:String}{g:Array Edge}{guard:Option (Nat×Bool)}{al:Bool}{l j:List (Oper×Bool)}{fr:Fr}{w:World}{t s:TypeId}{x:Operand}{xv:Value}(v:Value)(w':World)
    (q:j=(⟨dst,.convert s t x,ty,pos,g,guard⟩,al)::l) (r:Mn all ⟨dst,.convert s t x,ty,pos,g,guard⟩ fr=some true) (A:ev fr x=xv) (u:(convert s t xv).run P w=.ok v w')
    (h:(al=true∨Ev M w w')∧P9 P all M Q l (MI fr dst v) w'):P9 P all M Q j fr w:=by
  refine XJ q r rfl ?_;simp only [vcL,MH,Pf,Pw, *];exact ⟨v,w',rfl,h⟩
theorem Ta {P:Program}{all:List Oper}{M:List Nat}{Q:Fr→World→Prop}{dst:Option Tmp}{ty:TypeId}{pos:String}{g:Array Edge}{guard:Option (Nat×Bool)}{al:Bool}{l j:List (Oper×Bool)}{fr:Fr}{w:World}{b:Builtin}{args:Array Operand}{ats:Array TypeId}{vs:List Value}(v:Value)(w':World)
    (q:j=(⟨dst,.call ⟨.builtin b,args,ats⟩,ty,pos,g,guard⟩,al)::l) (u:Mn all ⟨dst,.call ⟨.builtin b,args,ats⟩,ty,pos,g,guard⟩ fr=some true) (r:Pr (.call ⟨.builtin b,args,ats⟩)=false) (hv:args.toList.map (ev fr)=vs) (A:(builtin b ats ty (args.map fun | .const _=>true | _=>false) vs.toArray).run P w=.ok (.value v) w')
    (h:(al=true∨Ev M w w')∧P9 P all M Q l (MI fr dst v) w'):P9 P all M Q j fr w:=by
  refine XJ q u r ?_;simp only [vcL,MH,Pf,Pw, *];exact ⟨v,w',rfl,h⟩
theorem M7d {P:Program}{Q:Exit→Fr→World→Prop}{id:Nat}{ops:Array Oper}{fr:Fr}{w:World}(h:P9 P ops.toList [] (Q .normal) (ops.toList.map fun o=>(o,true)) fr w):Wl P (.region id ops false) Q fr w:=
  Ws _ _ _ h
theorem M9L {P:Program}{Q:Exit→Fr→World→Prop}{id:Nat}{ops:Array Oper}{fr:Fr}{w:World}(M:List Nat)(l:List (Nat×Bool))(r:List (Oper×Bool))(g:MaX ops l=true)(j:resolve ops.toList l=some r)
    (h:P9 P ops.toList M (Q .normal) r fr w.drew):Wl P (.region id ops true) Q fr w:=
  ⟨M,PN l .stop,g,Yz .stop _ _ _ _ j h⟩
theorem M2M {P:Program}{Q:Exit→Fr→World→Prop}{id:Nat}{ops:Array Oper}{fr:Fr}{w:World}(M:List Nat)(l:List (Nat×Bool))(p:M0F)(r:List (Oper×Bool))(g:M4j ops (PN l p)=true)(j:resolve ops.toList l=some r)
    (h:P9 P ops.toList M (vcT P ops.toList M (Q .normal) p) r fr w.drew):Wl P (.region id ops true) Q fr w:=
  ⟨M,PN l p,g,Yz p _ _ _ _ j h⟩
theorem Pg {P:Program}{Q:Exit→Fr→World→Prop}{a b:Code}{fr:Fr}{w:World}{σ:Type}(j:σ→List (Nat×Value))(R:σ→World→Prop)
    (h1:Wl P a (Z2 (fun g w'=>∃ s,agree (j s) g∧R s w') Q) fr w) (q:∀ (s:σ) (J:Fr) (w':World),R s w'→Wl P b Q (ofL (j s) J) w'):Wl P (.seq a b) Q fr w:=
  WM a _ _ fr w (M2I (fun g w' ⟨s,u,r⟩=>by have:=q s g w' r; rwa [← ZD _ _ u] at this) (fun _ _ _ h=>h)) h1
theorem MaH {P:Program}{Q:Exit→Fr→World→Prop}{a b:Code}{fr:Fr}{w:World}(h:Wl P a (Z2 (Wl P b Q) Q) fr w):Wl P (.seq a b) Q fr w:=h
theorem M9M {P:Program}{Q:Exit→Fr→World→Prop}{id:Nat}{c:Code}{fr:Fr}{w:World}(h:Wl P c (XI id Q) fr w):Wl P (.block id c) Q fr w:=h
theorem M9N {P:Program}{Q:Exit→Fr→World→Prop}{c:Code}{fr:Fr}{w:World}(h:Wl P c (M6a Q) fr w):Wl P (.scope c) Q fr w:=h
theorem MaZ {P:Program}{Q:Exit→Fr→World→Prop}{c:Code}{fr:Fr}{w:World}(h:M69 P c Q fr w):Wl P (.loop c) Q fr w:=h
theorem Mb0 {P:Program}{Q:Exit→Fr→World→Prop}{t:Tmp}{x y:Code}{fr:Fr}{w:World}(b:Bool)(g:fr t=.bool b)(q:b=true→Wl P x Q (put fr t (.bool true)) w)(j:b=false→Wl P y Q (put fr t (.bool false)) w):Wl P (.cond (.tmp t) x y) Q fr w:=by
  simp only [Wl,g]; exact ⟨q,j⟩
theorem Me {P:Program}{Q:Exit→Fr→World→Prop}{t:Tmp}{x y:Code}{fr:Fr}{w:World}(g:fr t=.bool true)(h:Wl P x Q fr w):Wl P (.cond (.tmp t) x y) Q fr w:=by
  simp only [Wl,g]; exact ⟨fun _=>by rwa [Rs fr t _ g],fun h=>by cases h⟩
theorem PE {P:Program}{Q:Exit→Fr→World→Prop}{t:Tmp}{x y:Code}{fr:Fr}{w:World}(g:fr t=.bool false)(h:Wl P y Q fr w):Wl P (.cond (.tmp t) x y) Q fr w:=by
  simp only [Wl,g]; exact ⟨fun h=>by (cases h),fun _=>by rwa [Rs fr t _ g]⟩
theorem Mb1 {P:Program}{Q:Exit→Fr→World→Prop}{fr:Fr}{w:World}(h:Q .normal fr w):Wl P .skip Q fr w:=h
theorem M9O {P:Program}{Q:Exit→Fr→World→Prop}{l:Nat}{fr:Fr}{w:World}(h:Q .normal fr w):Wl P (.label l) Q fr w:=h
theorem MbA {P:Program}{Q:Exit→Fr→World→Prop}{fr:Fr}{w:World}(h:Q .ret fr w):Wl P .ret Q fr w:=h
theorem Mb2 {P:Program}{Q:Exit→Fr→World→Prop}{id:Nat}{fr:Fr}{w:World}(h:Q (.exit id) fr w):Wl P (.exit id) Q fr w:=h
theorem M8x {f:Fr→World→Prop}{Q:Exit→Fr→World→Prop}{fr:Fr}{w:World}(h:f fr w):Z2 f Q .normal fr w:=h
theorem M5a {f:Fr→World→Prop}{Q:Exit→Fr→World→Prop}{id:Nat}{fr:Fr}{w:World}(h:Q (.exit id) fr w):Z2 f Q (.exit id) fr w:=h
theorem M6g {f:Fr→World→Prop}{Q:Exit→Fr→World→Prop}{fr:Fr}{w:World}(h:Q .ret fr w):Z2 f Q .ret fr w:=h
abbrev Vi (n:Int):Value:=.int .i64 n
abbrev Vp (b o:Nat):Value:=.pointer (some ⟨b,o,none⟩)
abbrev Ad (b o:Nat):Option Addr:=some ⟨b,o,none⟩
theorem M6h {q r:Prop}(h:r):(true=true∨q)∧r:=⟨.inl rfl,h⟩
theorem PI {b:Nat}:b∈[b]:=List.mem_singleton.2 rfl
theorem MbP {P:Program}{Q:Exit→Fr→World→Prop}{id:Nat}{ops:Array Oper}{b:Code}{fr:Fr}{w:World}(h:P9 P ops.toList [] (Z2 (Wl P b Q) Q .normal) (ops.toList.map fun o=>(o,true)) fr w):Wl P (.seq (.region id ops false) b) Q fr w:=MaH (M7d h)
theorem MbQ {P:Program}{all:List Oper}{M:List Nat}{f:Fr→World→Prop}{Q:Exit→Fr→World→Prop}{fr:Fr}{w:World}(h:f fr w):P9 P all M (Z2 f Q .normal) [] fr w:=MaF rfl (M8x h)
theorem M9P {id:Nat}{Q:Exit→Fr→World→Prop}{fr:Fr}{w:World}(h:Q .normal fr w):XI id Q .normal fr w:=h
theorem M9Q {Q:Exit→Fr→World→Prop}{fr:Fr}{w:World}(h:Q .normal fr w):M6a Q .normal fr w:=h
theorem M5b {id:Nat}{Q:Exit→Fr→World→Prop}{fr:Fr}{w:World}(h:Q .ret fr w):XI id Q .ret fr w:=h
theorem M6i {id:Nat}{Q:Exit→Fr→World→Prop}{fr:Fr}{w:World}(h:Q .normal fr w):XI id Q (.exit id) fr w:=by simp only [XI,if_true]; exact h
theorem Wa {id g:Nat}{Q:Exit→Fr→World→Prop}{fr:Fr}{w:World}(j:Nat.beq g id=false)(h:Q (.exit g) fr w):XI id Q (.exit g) fr w:=by
  have:g≠id:=fun e=>by subst e; simp at j
  simp only [XI,if_neg this]; exact h
theorem RJ {P:Program}{Q:Exit→Fr→World→Prop}{c:Code}{fr:Fr}{w:World}(g:List (Nat×Value))(ha:agree g fr)(h:∀ J,Wl P c Q (ofL g J) w):Wl P c Q fr w:=by
  rw [ZD _ _ ha]; exact h _
theorem MaI {P:Program}{rs:List ResultVar}{R:Value→World→Prop}{fr:Fr}{w:World}(h:M7K P rs R fr w):M6c P rs R .ret fr w:=h
theorem M5c {P:Program}{rs:List ResultVar}{R:Value→World→Prop}{fr:Fr}{w:World}(h:M7K P rs R fr w):M6c P rs R .normal fr w:=h
theorem M8y {P:Program}{rs:List ResultVar}{R:Value→World→Prop}{fr:Fr}{w:World}(vs:List Value)(g:M1u P fr w rs vs)(h:R (M7b vs) w):M7K P rs R fr w:=⟨vs,g,h⟩
theorem M9R {α:Type}{c:Prop} [Decidable c] {x:Option α}{r:α}(h:(if c then x else none)=some r):c:=by
  by_cases g:c
  · exact g
  · rw [if_neg g] at h; cases h
theorem M9S {α:Type}{c:Prop} [Decidable c] {x:Option α}{r:α}(h:(if c then x else none)=some r):x=some r:=by
  by_cases g:c
  · rwa [if_pos g] at h
  · rw [if_neg g] at h; cases h
theorem MaJ {α:Type}{b:Bool}{x y:Option α}{r:α}(g:b=true)(h:(if b=true then x else y)=some r):x=some r:=by rwa [if_pos g] at h
theorem MaK {α:Type}{b:Bool}{x y:Option α}{r:α}(g:b=false)(h:(if b=true then x else y)=some r):y=some r:=by rwa [if_neg (by simp [g])] at h
theorem bind_some {α β:Type}{x:Option α}{f:α→Option β}{r:β}(h:x.bind f=some r):∃ a,x=some a∧f a=some r:=by
  cases x with
  | none=>cases h
  | some a=>exact ⟨a,rfl,h⟩
theorem M8z {α:Type}{a b:α}(h:some a=some b):a=b:=by cases h; rfl
inductive Mm (σ ρ:Type) where
  | next (s:σ)
  | done (r:ρ)
def Mh {σ ρ:Type} (step:σ→Option (Mm σ ρ)):Nat→σ→Option ρ
  | 0,_=>none
  | n+1,s=>(step s).bind fun t=>match t with
    | .next g=>Mh step n g
    | .done r=>some r
theorem M2N {σ ρ:Type}{step:σ→Option (Mm σ ρ)}{r:ρ}:∀ {n:Nat} {s:σ},Mh step n s=some r→∀ {m:Nat},n≤m→Mh step m s=some r
  | 0,_,h,_,_=>by cases h
  | n+1,s,h,m,hm=>by
    obtain ⟨m,rfl⟩:∃ k,m=k+1:=⟨m-1,by omega⟩
    obtain ⟨t,g,h⟩:=bind_some h;simp only [Mh,g,Option.bind_some];cases t with
    | next j=>exact M2N h (by omega)
    | done r=>exact h
def loop {σ ρ:Type} (step:σ→Option (Mm σ ρ)) (s:σ):Option ρ:=Mh step 18446744073709551616 s
theorem M9T {σ ρ:Type}{step:σ→Option (Mm σ ρ)}{s:σ}(n:Nat){r:ρ}(g:n≤18446744073709551616)(h:Mh step n s=some r):loop step s=some r:=M2N h g
theorem M7M {σ ρ:Type}{step:σ→Option (Mm σ ρ)}{s:σ}{r:ρ}(h:loop step s=some r):∃ n,Mh step n s=some r:=⟨_,h⟩
theorem M6j {σ ρ:Type}{step:σ→Option (Mm σ ρ)}{s:σ}{r:ρ}(h:Mh step 0 s=some r):False:=by cases h
theorem Ev.drew (w:World):Ev [] w w.drew:=⟨rfl,rfl,rfl,Nat.le_refl _,fun _ _ _=>rfl⟩
abbrev M4 (n:Int):Int:=IntKind.i64.wrap n
end Go.V
