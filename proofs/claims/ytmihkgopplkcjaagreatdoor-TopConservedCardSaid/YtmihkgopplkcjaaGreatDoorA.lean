/- Part A of the proof of TopConserved. No condition. -/
import Derived.Orders
import Derived.Scope
import Derived.Below
import Derived.Laws.AppendOwn
import Derived.KernelRfl
import Derived.Deep.AppendLies
import Derived.Laws.OwnMore
import Derived.Laws.MakeOwn
import Derived.Deep.AppendSrc
import Derived.Laws.Strings2
import Derived.Laws.Slices
import Derived.Laws.BytesString
import Derived.Laws.IdiomStrings
import Derived.Lib.ConvBytes
import Derived.Laws.StructEq
import Derived.LoopN
import Derived.Recover
set_option linter.all false
set_option maxRecDepth 1000000
set_option maxHeartbeats 0
def M00:=@List.getElem?_eq_getElem
def M01:=@Option.map_eq_some_iff
def M03:=@List.getElem_mem
def M05:=@Bool.and_eq_true
def M08:=@List.take_succ_eq_append_getElem
def M09:=@List.getElem?_eq_some_iff
def M0g:=@Nat.eq_of_beq_eq_true
def M18:=@Nat.le_of_ble_eq_true
def M19:=@List.mem_singleton
def M1a:=@List.getElem?_append_right
def M1b:=@List.mem_append
def M1c:=@List.mem_cons_of_mem
def M1d:=@if_pos
def M1e:=@if_neg
def M1f:=@List.getElem?_append_left
def M1g:=@Nat.le_refl
def M1h:=@List.getElem?_eq_none
def M1i:=@Int.toNat_natCast
def M1j:=@Int.eq_ofNat_of_zero_le
def M1k:=@List.mem_of_getElem?
def M1l:=@List.length_append
def M1m:=@List.take_length
def M1n:=@List.getElem?_map
def M1o:=@List.mem_iff_getElem
def M1p:=@decide_eq_true
def M1q:=@List.length_take
def M1r:=@List.getElem?_take
def M1s:=@of_decide_eq_true
def M1t:=@congrArg
def M1u:=@Array.length_toList
def M1v:=@Int.toNat_of_nonneg
def M1w:=@List.append_nil
def M1x:=@Option.some.inj
def M1y:=@List.mem_cons
def M1z:=@List.mem_append_right
def M1A:=@List.map_append
def M1B:=@Nat.le_trans
def M1C:=@List.getElem?_drop
def M1D:=@Nat.lt_of_lt_of_le
def M1E:=@Array.getElem?_toList
def M1F:=@List.length_eq_zero_iff
def M1G:=@Option.getD_some
def M1H:=@Nat.le_add_right
def M1I:=@List.getElem?_range
def M1J:=@Option.some.injEq
def M1K:=@decide_eq_false
def M1L:=@List.mem_map
def M1M:=@Nat.add_zero
def M1N:=@List.length_cons
def M1O:=@Nat.le_of_eq
def M1P:=@Nat.add_assoc
def M1Q:=@List.getD_eq_getElem?_getD
def M1R:=@List.all_eq_true
def M1S:=@Nat.mul_le_mul_right
def M1T:=@List.mem_append_left
def M1U:=@Array.toArray_toList
def M1V:=@Nat.lt_or_ge
def M1W:=@Option.map_some
def M1X:=@List.map_cons
def M1Y:=@Array.toList_append
def M1Z:=@List.mem_filter
def M20:=@List.append_assoc
def M21:=@of_decide_eq_false
def M22:=@List.getElem?_set
def M23:=@List.ext_getElem?
def M24:=@List.mem_of_mem_take
def M25:=@Nat.zero_add
def M26:=@List.getElem?_toArray
def M27:=@Nat.ble_eq_true_of_le
def M28:=@Array.getElem?_eq_none
def M29:=@Nat.mul_one
def M2a:=@List.getElem?_cons_zero
def M2b:=@Array.getElem?_eq_getElem
def M2c:=@List.drop_eq_getElem_cons
def M2d:=@List.pairwise_iff_getElem
def M2e:=@List.size_toArray
def M2f:=@List.length_drop
def M2g:=@List.length_nil
def M2h:=@Nat.min_eq_left
def M2i:=@List.mem_range
def M2j:=@Nat.zero_le
def M2k:=@List.eq_nil_of_length_eq_zero
def M2l:=@Array.getElem?_modify
def M2m:=@List.take_append_drop
def M2n:=@List.filter_append
def M2o:=@List.not_mem_nil
def M2p:=@Nat.add_mul
def M2q:=@Array.getElem?_eq_some_iff
def M2r:=@List.getElem?_cons_succ
def M2s:=@Nat.add_sub_cancel_left
def M2t:=@Bool.or_eq_true
def M2u:=@Bool.not_eq_true'
def M2v:=@Bool.false_eq_true
def M2w:=@List.mem_cons_self
def M2x:=@List.length_set
def M2y:=@List.length_filter_le
def M2z:=@Array.getElem?_setIfInBounds_ne
def M2A:=@List.filter_cons_of_neg
def M2B:=@cond_true
def M2C:=@decide_false
def M2D:=@cond_false
def M2E:=@List.length_map
def M2F:=@Nat.lt_of_not_le
def M2G:=@List.flatten_append
def M2H:=@List.flatten_cons
def M2I:=@bne_iff_ne
def M2J:=@Nat.le_of_lt
def M2K:=@if_true
def M2L:=@List.nil_append
def M2M:=@Nat.not_lt_zero
def M2N:=@List.getElem?_replicate
def M2O:=@Option.bind_some
def M2P:=@List.any_eq_true
def M2Q:=@List.getElem?_set_self
def M2R:=@decide_eq_true_eq
def M2S:=@getElem!_pos
def M2T:=@List.length_replicate
def M2U:=@List.eq_of_mem_replicate
def M2V:=@if_false
def M2W:=@List.filter_cons_of_pos
def M2X:=@List.nodup_append
def M2Y:=@List.filter_sublist
def M2Z:=@beq_eq_false_iff_ne
def M30:=@Nat.eq_zero_or_pos
def M31:=@List.length_singleton
def M32:=@Nat.mul_le_mul
def M33:=@List.getElem_append_right
def M34:=@List.Sublist.refl
def M35:=@Array.size_append
def M3a:=@Nat.lt_trichotomy
def M3b:=@List.sublist_append_left
def M3c:=@List.getElem_append_left
def M3e:=@Nat.mul_comm
def M3f:=@Nat.sub_zero
def M3g:=@Nat.lt_irrefl
def M3j:=@beq_self_eq_true
def M3k:=@List.getElem_map
def M3l:=@decide_eq_decide
def M3m:=@List.pairwise_cons
def M3n:=@List.cons.injEq
def M3o:=@Int.natCast_pos
def M3p:=@List.filter_nil
def M3q:=@Array.getElem?_append_left
def M3r:=@Classical.byContradiction
def M3s:=@Array.toList_map
def M3t:=@Nat.lt_succ_self
def M3u:=@or_false
def M3v:=@List.mem_flatten
def M3w:=@Nat.div_eq_of_lt
def M3x:=@List.length_pos_iff
def M3y:=@decide_true
def M3z:=@Nat.one_mul
def M3A:=@List.map_congr_left
def M3B:=@Nat.sub_self
def M3C:=@List.nodup_cons
def M3D:=@Int.tmod_lt_of_pos
def M3E:=@not_not_intro
def M3F:=@List.mem_replicate
def M3G:=@and_self
def M3H:=@List.map_nil
def M3I:=@Int.le_trans
def M3J:=@List.pairwise_flatten
def M3K:=@Nat.mod_eq_of_lt
def M3L:=@Int.max_eq_right
def M3M:=@List.getElem?_mapIdx
def M3N:=@Nat.pow_le_pow_right
def M3O:=@Prod.mk.injEq
def M3P:=@Array.getElem?_setIfInBounds
def M3Q:=@List.getElem_of_mem
def M3R:=@List.replicate_succ
def M3S:=@Int.tmod_nonneg
def M3T:=@Nat.div_le_self
def M3U:=@Int.max_eq_left
def M3V:=@Option.isSome_none
def M3W:=@List.mem_filterMap
def M3X:=@Nat.add_sub_cancel
def M3Y:=@Int.le_total
def M3Z:=@Nat.one_le_two_pow
def M40:=@Ne.symm
def M41:=@List.Perm.refl
def M42:=@List.nodup_nil
def M43:=@List.getElem_take
def M44:=@List.all_cons
def M45:=@Int.le_refl
def M46:=@Nat.beq_refl
def M47:=@Nat.mod_lt
namespace Go.V
open Go
section
structure Ev (M:List Nat) (w w':World):Prop where
 os:w'.os=w.os
 tape:w'.tape=w.tape
 output:w'.output=w.output
 size:w.heap.size≤w'.heap.size
 block:∀ k,k<w.heap.size→k∉M→w'.heap[k]? = w.heap[k]?
theorem Ev.refl (M:List Nat)(w:World):Ev M w w:=⟨rfl,rfl,rfl,M1g _,λ_ _ _=>rfl⟩
theorem Ev.trans {M:List Nat}{a b c:World}(h:Ev M a b)(k:Ev M b c):Ev M a c:=
 ⟨k.os.trans h.os,k.tape.trans h.tape,k.output.trans h.output,M1B h.size k.size,
  λi hi hm=>(k.block i (M1D hi h.size) hm).trans (h.block i hi hm)⟩
abbrev Fr:=Nat→Value
def put (fr:Fr) (d:Nat) (v:Value):Fr:=λi=>cond (Nat.beq i d) v (fr i)
def R5 (fr:Fr) (d:Option Tmp) (v:Value):Fr:=match d with | some d=>put fr d v | none=>fr
def ev (fr:Fr):Operand→Value
 | .tmp t=>fr t
 | .const v=>v
 | .global g=>.pointer (some ⟨g,0,none⟩)
 | .func f=>.func (.func f) #[] #[]
structure Rel (n:Nat) (a:Act) (fr:Fr):Prop where
 defers:a.defers=[]
 size:a.tmps.size=n
 at_:∀ i,a.tmps.getD i undef=fr i
def R6 (P:Program) (op:BinOp) (t:TypeId) (xo yo:Operand) (x y:Value) (K:Value→Prop):Prop:=
 match x,y with
 | .int k a,.int k' b=>
  match op with
  | .shl=>0≤b∧K (.int k (k.wrap (a*2 ^ (min b.toNat k.bits))))
  | .shr=>0≤b∧K (.int k (a.fdiv (2 ^ (min b.toNat k.bits))))
  | op=>if k=k' then
   match op with
   | .add=>K (.int k (k.wrap (a+b)))
   | .sub=>K (.int k (k.wrap (a-b)))
   | .mul=>K (.int k (k.wrap (a*b)))
   | .quo=>b≠0∧K (.int k (k.wrap (a.tdiv b)))
   | .rem=>b≠0∧K (.int k (a.tmod b))
   | .and=>K (.int k (k.wrap (BitVec.ofInt k.bits a&&&BitVec.ofInt k.bits b).toNat))
   | .or=>K (.int k (k.wrap (BitVec.ofInt k.bits a ||| BitVec.ofInt k.bits b).toNat))
   | .xor=>K (.int k (k.wrap (BitVec.ofInt k.bits a ^^^ BitVec.ofInt k.bits b).toNat))
   | .andNot=>K (.int k (k.wrap (BitVec.ofInt k.bits a&&&~~~ (BitVec.ofInt k.bits b)).toNat))
   | .eql=>K (.bool (a==b))
   | .neq=>K (.bool (a != b))
   | .lss=>K (.bool (decide (a<b)))
   | .leq=>K (.bool (decide (a≤b)))
   | .gtr=>K (.bool (decide (a>b)))
   | .geq=>K (.bool (decide (a≥b)))
   | _=>False
   else False
 | _,_=>∃ v,(∀ w,(do eqGuard op t xo yo x y;binOp op t x y:Sem Value).run P w=.ok v w)∧K v
variable {α β:Type}
theorem run_bind{P:Program}(s:Sem α)(f:α→Sem β)(w:World) :
  (s >>= f).run P w=match s.run P w with | .ok a w'=>(f a).run P w' | .halt h w'=>.halt h w':=by
 rw [Sem.run_bind];cases s.run P w <;> rfl
theorem X1 {P:Program}(op:BinOp)(t:TypeId)(k:IntKind)(a b:Int)(h:op≠.shl∧op≠.shr)(w:World) :
  (binOp op t (.int k a) (.int k b)).run P w=(match op with
  | .add | .sub | .mul=>Op.intArith op k a b
  | .quo | .rem=>Op.intDiv op k a b
  | .and | .or | .xor | .andNot=>Op.intBits op k a b
  | _=>Op.intCmp op a b).run P w:=by
 cases op <;> first | (exact absurd rfl h.1) | (exact absurd rfl h.2) | (simp only [binOp];rw [M1e (by simp)])
variable {op:BinOp}
theorem R7 {P:Program}{t:TypeId}{xo yo:Operand}{x y:Value}{K:Value→Prop}(h:R6 P op t xo yo x y K) :
  ∃ v,(∀ w,(do eqGuard op t xo yo x y;binOp op t x y:Sem Value).run P w=.ok v w)∧K v:=by
 unfold R6 at h;split at h
 ·rename_i k a k' b;have hg:∀ w,(do eqGuard op t xo yo (.int k a) (.int k' b);binOp op t (.int k a) (.int k' b):Sem Value).run P w=(binOp op t (.int k a) (.int k' b)).run P w:=by
   intro w;cases op <;> rfl
  split at h;exact ⟨_,λw=>by rw [hg];simp only [binOp,Op.shift,M1e (show ¬ b<0 by omega)];rfl,h.2⟩;exact ⟨_,λw=>by rw [hg];simp only [binOp,Op.shift,M1e (show ¬ b<0 by omega)];rfl,h.2⟩
  ·rename_i B E;split at h
   ·rename_i hk;subst hk;have A:=λw=>(hg w).trans (X1 (P:=P) op t k a b ⟨B,E⟩ w)
    clear hg B E;cases op <;> simp only at h A <;> first
     | exact h.elim
     | exact ⟨_,λw=>by rw [A];rfl,h⟩
     | exact ⟨_,λw=>by rw [A,Op.intDiv,M1e h.1];rfl,h.2⟩
   exact h.elim
 exact h
def Vx (P:Program) (M:List Nat) (s:Sem Value) (w:World) (v:Value):Prop:=∀ w',Ev M w w'→s.run P w'=.ok v w'
theorem DX (xs:Array Operand)(f:Operand→Value):(xs.toList.map f).toArray=xs.map f:=by rw [←M3s]
theorem De (xs:Array (Nat×Operand))(f:Operand→Value):(xs.toList.map λ(i,x)=>(i,f x)).toArray=xs.map λ(i,x)=>(i,f x):=by rw [←M3s]
theorem CH {P:Program}(s:Sem Value)(v:Value)(w w':World)(h:s.run P w=.ok v w') :
  ((do pure (.value (←s)):Sem Next)).run P w=.ok (.value v) w':=by
 rw [run_bind,h];rfl
structure CallVC (P:Program) (f:FuncId) (args:List Value) (w:World) (K:Value→World→Prop):Prop where
 run:Calls P f args.toArray w λe w'=>∃ v,e=.returned v∧K v w'
 callee : ∃ fn, P.funcs[f]? = some fn ∧ (fn.name == "runtime.NumGoroutine") = false ∧ fn.body.isNone = false
theorem CallVC.mono {P:Program}{f:FuncId}{args:List Value}{w:World}{K K':Value→World→Prop}(h:CallVC P f args w K)(hk:∀ v w',K v w'→K' v w'):CallVC P f args w K':=
 ⟨h.run.mono λ_ _ ⟨v,A,hv⟩=>⟨v,A,hk _ _ hv⟩,h.callee⟩
theorem Aq (w:World)(o:Obj):(w.alloc o).heap[w.heap.size]? = some o:=heap_alloc_new w o
theorem AT (w:World)(o:Obj):(w.alloc o).heap.size=w.heap.size+1:=by
 show (w.heap.push o).size=_
 rw [Array.size_push]
theorem Ev.alloc (w:World)(o:Obj):Ev [] w (w.alloc o):=
 ⟨rfl,rfl,rfl,by rw [AT];omega,λk hk _=>heap_alloc_old w o k hk⟩
theorem Df {P : Program} {f : FuncId} {fn : Func} (args : Array Value) (w : World) (h : P.funcs[f]? = some fn) (h1 : (fn.name == "runtime.NumGoroutine") = false) (h2 : fn.body.isNone = false) :
  (callFunc f args).run P w=.ok (.enter f args) w:=by
 unfold callFunc;rw [run_bind];have hp:Sem.run P program w=.ok P w:=rfl;simp only [hp,h,h1,h2,M2v,M2V];rfl
def OY (n:Nat) (l:List Oper):Bool:=l.all λo=>match o.dst with | some d=>Nat.blt d n | none=>true
variable {n:Nat}
theorem U6{l:List Oper}(h:OY n l=true){o:Oper}(ho:o∈l){t:Tmp}(ht:o.dst=some t):t<n:=by
 have:=M1R.1 h o ho;simp only [ht] at this;exact M18 this
section
variable {P : Program} {ops : Array Oper} {al : Nat → Bool} {M : List Nat}
def qM (ops:Array Oper) (i j:Nat):Bool:=match ops[i]? with | some o=>o.after.any (λe=>Region.binds .any e&&Nat.beq e.on j) | none=>false
def HQ (ops:Array Oper):Nat→Nat→Nat→Bool
 | 0,i,j=>qM ops i j
 | n+1,i,j=>qM ops i j||(match ops[i]? with | some o=>o.after.any (λe=>Region.binds .any e&&HQ ops n e.on j) | none=>false)
def Closed (ops:Array Oper) (A:Array Bool):Prop:=∀ k o,ops[k]? = some o→A.getD k false=true→∀ e∈o.after,Region.binds .any e=true→A.getD e.on false=true
theorem M4H (n:Nat):Closed ops (Array.replicate n false):=by
 intro k o _ h;rcases M1V k n with h'|h'
 simp [h'] at h;simp [M28,h'] at h
theorem Closed.set {A:Array Bool}{j:Nat}(h:Closed ops A)(hj:j∈Region.ready .any ops A):Closed ops (A.setIfInBounds j true):=by
 intro k o hk hl e B hb;by_cases E:j=k;subst E;obtain ⟨_,o',G,H⟩:=mem_ready.1 hj;rw [hk] at G;cases G;exact getD_set_true (H e B hb)
 rw [getD_set_ne false E] at hl;exact getD_set_true (h k o hk hl e B hb)
theorem Kw {A:Array Bool}{i j:Nat}(h:qM ops i j=true)(B:∀ o,ops[i]? = some o→∀ e∈o.after,Region.binds .any e=true→A.getD e.on false=true):A.getD j false=true:=by
 unfold qM at h;cases ho:ops[i]? with
 | none=>rw [ho] at h;cases h
 | some o=>
  rw [ho] at h;simp only at h;obtain ⟨k,hk,h2⟩:=Array.any_eq_true.1 h;simp only [M05] at h2;have h3:=B o ho _ (Array.getElem_mem hk) h2.1;rw [M0g h2.2] at h3;exact h3
theorem Ga {A:Array Bool}{j:Nat}(B:Closed ops A):∀ (n i:Nat),HQ ops n i j=true→(∀ o,ops[i]? = some o→∀ e∈o.after,Region.binds .any e=true→A.getD e.on false=true)→A.getD j false=true
 | 0,i,h,hall=>Kw h hall
 | n+1,i,h,hall=>by
  unfold HQ at h;rw [M2t] at h;rcases h with h|h
  exact Kw h hall;cases ho:ops[i]? with
  | none=>rw [ho] at h;cases h
  | some o=>
   rw [ho] at h;simp only at h;obtain ⟨k,hk,h2⟩:=Array.any_eq_true.1 h;simp only [M05] at h2;have h3:=hall o ho _ (Array.getElem_mem hk) h2.1;exact Ga B n _ h2.2 (λo' G e E hb=>B _ o' G h3 e E hb)
end
def Kx (P:Program) (fr:Fr) (w:World):List ResultVar→List Value→Prop
 | [],[]=>True
 | .tmp t::rs,v::vs=>fr t=v∧Kx P fr w rs vs
 | .cell a t::rs,v::vs=>(∃ p,fr a=.pointer (some p)∧(loadVar t p).run P w=.ok v w)∧Kx P fr w rs vs
 | _,_=>False
def Hd:List Value→Value
 | [v]=>v
 | vs=>.tuple vs.toArray
def M36 (P:Program) (rs:List ResultVar) (R:Value→World→Prop) (fr:Fr) (w:World):Prop:=∃ vs,Kx P fr w rs vs∧R (Hd vs) w
theorem Hs {P:Program}{n:Nat}{a:Act}{fr:Fr}(hr:Rel n a fr){w:World}:∀ (rs:List ResultVar) (vs:List Value),Kx P fr w rs vs→
  (rs.mapM λ(r:ResultVar)=>(match r with
   | .tmp t=>pure (a.tmps.getD t undef)
   | .cell c t=>do loadVar t (←asAddr (a.tmps.getD c undef)):Sem Value)).run P w=.ok vs w
 | [],[],_=>rfl
 | .tmp t::rs,v::vs,h=>by
  have A:=Hs hr rs vs h.2;rw [List.mapM_cons,run_bind];have h1:a.tmps.getD t undef=v:=by rw [hr.at_];exact h.1
  simp only [Sem.run_pure,h1];rw [run_bind,A];rfl
 | .cell c t::rs,v::vs,h=>by
  have A:=Hs hr rs vs h.2;obtain ⟨p,h1,h2⟩:=h.1;have h3:a.tmps.getD c undef=.pointer (some p):=by rw [hr.at_];exact h1
  have B:(do loadVar t (←asAddr (a.tmps.getD c undef)):Sem Value).run P w=.ok v w:=by
   rw [h3];exact h2
  rw [List.mapM_cons,run_bind];simp only [B];rw [run_bind,A];rfl
 | [],_::_,h=>h.elim
 | .tmp _::_,[],h=>h.elim
 | .cell _ _::_,[],h=>h.elim
theorem R8 {P:Program}{fn:Func}{rs:List ResultVar}(A:fn.results=rs.toArray){a:Act}{fr:Fr}(hr:Rel n a fr){R:Value→World→Prop}{w:World}(h:M36 P rs R fr w) :
  ∃ v,(results fn a.tmps).run P w=.ok v w∧R v w:=by
 obtain ⟨vs,h1,h2⟩:=h;refine ⟨_,?_,h2⟩;have h3:=Hs hr rs vs h1;simp only [results,A,List.mapM_toArray,bind_map_left];rw [run_bind]
 erw [h3]
 rcases vs with _|⟨v,_|⟨u,vs⟩⟩;rfl;rfl;rfl
def BC:List Value→Fr
 | [],_=>undef
 | v::l,i=>match i with | 0=>v | i+1=>BC l i
theorem Ky (l:List Value)(i:Nat):BC l i=(l[i]?).getD undef:=by
 induction l generalizing i with
 | nil=>rfl
 | cons v l A=>
  cases i with
  | zero=>rfl
  | succ i=>simpa [BC] using A i
def DY (op:BinOp) (x y:Value):Option Value:=
 match x,y with
 | .int k a,.int k' b=>
  match op with
  | .shl=>if b<0 then none else some (.int k (k.wrap (a*2 ^ (min b.toNat k.bits))))
  | .shr=>if b<0 then none else some (.int k (a.fdiv (2 ^ (min b.toNat k.bits))))
  | op=>if k=k' then
   match op with
   | .add=>some (.int k (k.wrap (a+b)))
   | .sub=>some (.int k (k.wrap (a-b)))
   | .mul=>some (.int k (k.wrap (a*b)))
   | .quo=>if b=0 then none else some (.int k (k.wrap (a.tdiv b)))
   | .rem=>if b=0 then none else some (.int k (a.tmod b))
   | .and=>some (.int k (k.wrap (BitVec.ofInt k.bits a&&&BitVec.ofInt k.bits b).toNat))
   | .or=>some (.int k (k.wrap (BitVec.ofInt k.bits a ||| BitVec.ofInt k.bits b).toNat))
   | .xor=>some (.int k (k.wrap (BitVec.ofInt k.bits a ^^^ BitVec.ofInt k.bits b).toNat))
   | .andNot=>some (.int k (k.wrap (BitVec.ofInt k.bits a&&&~~~ (BitVec.ofInt k.bits b)).toNat))
   | .eql=>some (.bool (a==b))
   | .neq=>some (.bool (a != b))
   | .lss=>some (.bool (decide (a<b)))
   | .leq=>some (.bool (decide (a≤b)))
   | .gtr=>some (.bool (decide (a>b)))
   | .geq=>some (.bool (decide (a≥b)))
   | _=>none
   else none
 | _,_=>none
theorem J1 {P:Program}{t:TypeId}{xo yo:Operand}{x y v:Value}(h:DY op x y=some v)(K:Value→Prop)(hk:K v):R6 P op t xo yo x y K:=by
 unfold DY at h;split at h
 ·rename_i k a k' b;by_cases A:k=k'
  ·cases op <;> simp only [A,M2K] at h <;> simp only [R6,A,M2K] <;> first
    | (cases h;exact hk)
    | (split at h <;> first | (cases h;done) | (cases h;exact ⟨by omega,hk⟩))
    | (cases h;done)
  ·cases op <;> simp only [A,M2V] at h <;> simp only [R6,A,M2V] <;> first
    | (split at h <;> first | (cases h;done) | (cases h;exact ⟨by omega,hk⟩))
    | (cases h;done)
 cases h
theorem bind_some{x:Option α}{f:α→Option β}{r:β}(h:x.bind f=some r):∃ a,x=some a∧f a=some r:=by
 cases x with
 | none=>cases h
 | some a=>exact ⟨a,rfl,h⟩
inductive Al (σ ρ:Type) where
 | next (s:σ)
 | done (r:ρ)
def loopN {σ ρ:Type} (step:σ→Option (Al σ ρ)):Nat→σ→Option ρ
 | 0,_=>none
 | n+1,s=>(step s).bind λt=>match t with
  | .next A=>loopN step n A
  | .done r=>some r
def loop {σ ρ:Type} (step:σ→Option (Al σ ρ)) (s:σ):Option ρ:=loopN step 18446744073709551616 s
abbrev A1 (n:Int):Int:=IntKind.i64.wrap n
theorem Ev.drew (w:World):Ev [] w w.drew:=⟨rfl,rfl,rfl,M1g _,λ_ _ _=>rfl⟩
end
section
variable {M:List Nat}{w w':World}{b:Nat}
theorem Ev.lt(h:Ev M w w')(hb:b<w.heap.size):b<w'.heap.size:=M1D hb h.size
variable {M':List Nat}
theorem Ev.sub(h:Ev M w w')(hs:∀ b∈M,b∈M'):Ev M' w w':=
 ⟨h.os,h.tape,h.output,h.size,λk hk hm=>h.block k hk λA=>hm (hs k A)⟩
theorem Ev.nil(h:Ev [] w w'):Ev M w w':=h.sub (λ_ h=>by cases h)
theorem Ev.cell(h:Ev M w w'){a:Addr}(hb:a.block<w.heap.size)(hm:a.block∉M):w'.cell? a=w.cell? a:=by
 simp only [World.cell?,h.block a.block hb hm]
variable {o:Obj}
theorem Am(h:w.heap[b]? = some o):b<w.heap.size:=(M2q.1 h).1
theorem Ev.box(h:Ev M w w')(hb:w.heap[b]? = some o)(hm:b∉M):w'.heap[b]? = some o:=by
 rw [h.block b (Am hb) hm];exact hb
structure Stp (M:List Nat) (w:World) (M':List Nat) (w':World):Prop where
 ev:Ev M w w'
 new:∀ b∈M',b∈M∨w.heap.size≤b
variable {Mo:List Nat}
theorem Stp.of(h:Ev Mo w w')(hs:∀ b∈Mo,b∈M)(hn:∀ b∈M',b∈M∨w.heap.size≤b):Stp M w M' w':=⟨h.sub hs,hn⟩
theorem Stp.same(h:Ev Mo w w')(hs:∀ b∈Mo,b∈M):Stp M w M w':=⟨h.sub hs,λ_ h=>.inl h⟩
theorem Stp.sub(w:World)(hs:∀ b∈M',b∈M):Stp M w M' w:=⟨Ev.refl _ _,λb h=>.inl (hs b h)⟩
structure Enc (α:Type) where
 n:Nat
 R:World→List Nat→List Value→α→Prop
 len:∀ {w:World} {M:List Nat} {cs:List Value} {x:α},R w M cs x→cs.length=n
 step:∀ {w w':World} {M M':List Nat} {cs:List Value} {x:α},R w M cs x→Stp M w M' w'→R w' M' cs x
 one:∀ {w:World} {M:List Nat} {cs:List Value} {x:α},R w M cs x→∀ v∈cs,v.oneCell'=true
def AZ (k:IntKind):Enc Int:=⟨1,λ_ _ cs x=>cs=[.int k x],λh=>by rw [h];rfl,λh _=>h,λh v hv=>by rw [h] at hv;simp at hv;subst hv;rfl⟩
def yE:Enc Bool:=⟨1,λ_ _ cs x=>cs=[.bool x],λh=>by rw [h];rfl,λh _=>h,λh v hv=>by rw [h] at hv;simp at hv;subst hv;rfl⟩
abbrev Vs (l:List UInt8):Value:=.string ⟨⟨l⟩⟩
def M37:Enc (List UInt8):=⟨1,λ_ _ cs x=>cs=[Vs x],λh=>by rw [h];rfl,λh _=>h,λh v hv=>by rw [h] at hv;simp at hv;subst hv;rfl⟩
def yF:Enc Unit:=⟨0,λ_ _ cs _=>cs=[],λh=>by rw [h];rfl,λh _=>h,λh v hv=>by rw [h] at hv;cases hv⟩
def yG {α β:Type} (e:Enc α) (f:Enc β):Enc (α×β):=
 ⟨e.n+f.n,λw M cs x=>∃ A B,cs=A++B∧e.R w M A x.1∧f.R w M B x.2,
  λ⟨A,B,h,h1,h2⟩=>by rw [h,M1l,e.len h1,f.len h2],
  λ⟨A,B,h,h1,h2⟩ E=>⟨A,B,h,e.step h1 E,f.step h2 E⟩,
  λ⟨A,B,h,h1,h2⟩ v hv=>by rw [h] at hv;rcases M1b.1 hv with hv|hv;exact e.one h1 v hv;exact f.one h2 v hv⟩
structure SlR {α:Type} (e:Enc α) (w:World) (M:List Nat) (a:Option Addr) (c:Nat) (xs:List α):Prop where
 le:xs.length≤c
 cap:c≤maxLen
 nil:a=none→xs=[]
 at_:∀ ad,a=some ad→0<xs.length→ad.spot=none∧ad.block∉M∧ad.block<w.heap.size∧
  ∀ (i:Nat) (x:α),xs[i]? = some x→∃ cs,e.R w M cs x∧∀ (k:Nat) (v:Value),cs[k]? = some v→w.cell? ⟨ad.block,ad.off+(i*e.n+k),none⟩=some v
variable {α:Type}{e:Enc α}{a:Option Addr}{c:Nat}{xs:List α}
theorem SlR.step(h:SlR e w M a c xs)(hs:Stp M w M' w'):SlR e w' M' a c xs:=by
 refine ⟨h.le,h.cap,h.nil,λad G hp=>?_⟩;obtain ⟨h1,h2,h3,A⟩:=h.at_ ad G hp;refine ⟨h1,λhm=>?_,hs.ev.lt h3,λi x H=>?_⟩;rcases hs.new _ hm with h|h;exact h2 h;omega;obtain ⟨cs,B,E⟩:=A i x H;exact ⟨cs,e.step B hs,λk v hv=>by rw [hs.ev.cell (a:=⟨ad.block,_,none⟩) h3 h2];exact E k v hv⟩
theorem M4r(e:Enc α)(w:World)(M:List Nat):SlR e w M none 0 []:=
 ⟨M1g _,M2j _,λ_=>rfl,λad h=>by cases h⟩
def eSl {α:Type} (e:Enc α):Enc (List α):=
 ⟨1,λw M cs xs=>∃ a c,cs=[.slice a xs.length c]∧SlR e w M a c xs,λ⟨a,c,h,_⟩=>by rw [h];rfl,λ⟨a,c,h,h1⟩ hs=>⟨a,c,h,h1.step hs⟩,
  λ⟨a,c,h,_⟩ v hv=>by rw [h] at hv;simp at hv;subst hv;rfl⟩
def idx {α:Type} (xs:List α) (i:Int):Option α:=if 0≤i then xs[i.toNat]? else none
variable {i:Int}{x:α}
theorem CT(h:idx xs i=some x):0≤i∧i<xs.length∧xs[i.toNat]? = some x:=by
 unfold idx at h;split at h;rename_i A;have:=(M09.1 h).1;exact ⟨A,by omega,h⟩;cases h
structure CellsAt (w:World) (M:List Nat) (ad:Addr) (cs:List Value):Prop where
 spot:ad.spot=none
 out:ad.block∉M
 lt:ad.block<w.heap.size
 at_:∀ (k:Nat) (v:Value),cs[k]? = some v→w.cell? ⟨ad.block,ad.off+k,none⟩=some v
variable {ad:Addr}{cs:List Value}
theorem CellsAt.step(h:CellsAt w M ad cs)(hs:Stp M w M' w'):CellsAt w' M' ad cs:=
 ⟨h.spot,λhm=>by rcases hs.new _ hm with h1|h1;exact h.out h1;exact absurd h.lt (by omega),hs.ev.lt h.lt,
  λk v hv=>by rw [hs.ev.cell (a:=⟨ad.block,_,none⟩) h.lt h.out];exact h.at_ k v hv⟩
def yH (P:Program) (t:TypeId) (n:Nat):Prop:=∀ w,(isAgg t).run P w=.ok true w∧(sizeOf t).run P w=.ok n w
def Vy (P:Program) (t:TypeId) (e:TypeId) (n:Nat):Prop:=P.underlying t=some (.slice e)∧∀ w,(sizeOf e).run P w=.ok n w
theorem R9(h:ad.spot=none):ad=⟨ad.block,ad.off,none⟩:=by cases ad;simp_all
theorem AQ(h:ad.spot=none)(n:Nat):ad.add n=⟨ad.block,ad.off+n,none⟩:=by
 unfold Addr.add;split;rename_i A;subst A;exact R9 h;rfl
variable {P:Program}{t el:Nat}
theorem Rd(ht:Vy P t el e.n)(hs:SlR e w M a c xs)(J:idx xs i=some x) :
  ∃ ad cs,Vx P Mo (Instr.indexAt t (.slice a xs.length c) (.int .i64 i)) w (.pointer (some ad))∧CellsAt w M ad cs∧e.R w M cs x:=by
 obtain ⟨A,h1,h2⟩:=CT J;cases a with
 | none=>rw [hs.nil rfl] at h2;simp at h2
 | some ad=>
  obtain ⟨h3,B,E,G⟩:=hs.at_ ad rfl (by omega);obtain ⟨cs,H,I⟩:=G _ _ h2;refine ⟨ad.add (i.toNat*e.n),cs,λw' _=>?_,⟨?_,?_,?_,λk v hv=>?_⟩,H⟩;have O:=ht.2 w';simp only [Instr.indexAt,asIntOf,Sem.run_bind,Sem.run_pure,Result.andThen_ok,run_underlying ht.1,A,h1,M3G,M2K,O];rw [AQ h3];rw [AQ h3];exact B;rw [AQ h3];exact E;rw [AQ h3];show w.cell? ⟨ad.block,ad.off+i.toNat*e.n+k,none⟩=some v
  rw [M1P];exact I k v hv
theorem OZ{t:TypeId}(ht:yH P t cs.length)(h:CellsAt w M ad cs)(hm:∀ b∈Mo,b∈M) :
  Vx P Mo (Instr.loadAt t (.pointer (some ad))) w (.agg cs.toArray):=by
 intro w' A;simp only [Instr.loadAt,Instr.sureAddr];show (loadVar t ad).run P w'=_
 unfold loadVar;rw [run_bind,(ht w').1];show ((do pure (.agg (←loadCells ad (←sizeOf t))):Sem Value)).run P w'=_
 rw [run_bind,(ht w').2];simp only;have hl:(loadCells ad cs.length).run P w'=.ok cs.toArray w':=run_loadCells_list (P:=P) w' ad cs (λj v hv=>by
  rw [AQ h.spot,A.cell (a:=⟨ad.block,ad.off+j,none⟩) h.lt (λhb=>h.out (hm _ hb))];exact h.at_ j v hv)
 rw [run_bind,hl];rfl
theorem Af{cs:Array Value}{t:TypeId}{fz:Nat×Nat}(h:w.heap[b]? = some (.cells cs t fz))(k:Nat):w.cell? ⟨b,k,none⟩=cs[k]?:=by
 simp [World.cell?,h]
theorem Kz {i j:Nat}(h:i≠j):Nat.beq i j=false:=by
 cases hb:Nat.beq i j with
 | false=>rfl
 | true=>exact absurd (M0g hb) h
theorem Ev.then{v u:World}(h:Ev M w v)(k:Ev Mo v u)(hm:∀ b∈Mo,b∈M∨w.heap.size≤b):Ev M w u:=
 ⟨k.os.trans h.os,k.tape.trans h.tape,k.output.trans h.output,M1B h.size k.size,λi hi A=>
  (k.block i (M1D hi h.size) (λB=>by rcases hm i B with h3|h3;exact A h3;omega)).trans (h.block i hi A)⟩
theorem Ev.ext{v u:World}(h:Ev M w v)(k:Ev [] v u):Ev M w u:=h.then k (λ_ h=>by cases h)
theorem SlR.sub(h:SlR e w M a c xs)(hs:∀ b∈M',b∈M):SlR e w M' a c xs:=h.step (Stp.sub w hs)
theorem CellsAt.sub(h:CellsAt w M ad cs)(hs:∀ b∈M',b∈M):CellsAt w M' ad cs:=h.step (Stp.sub w hs)
def Av (a:Option Addr):List Nat:=match a with | some ad=>[ad.block] | none=>[]
def OwnS {α:Type} (e:Enc α) (T:TypeId) (w:World) (M:List Nat) (a:Option Addr) (c:Nat) (xs:List α):Prop:=
 (a=none∧c=0∧xs=[])∨
 ∃ g A,a=some ⟨g,0,none⟩∧w.heap[g]? = some (.cells A T (0,0))∧xs.length≤c∧c≤maxLen∧A.size=c*e.n∧
  ∀ (i:Nat) (x:α),xs[i]? = some x→∃ cs,e.R w M cs x∧∀ (k:Nat) (v:Value),cs[k]? = some v→A[i*e.n+k]? = some v
theorem OwnS.nil(e:Enc α)(T:TypeId)(w:World)(M:List Nat):OwnS e T w M none 0 []:=.inl ⟨rfl,rfl,rfl⟩
variable {T:TypeId}
theorem OwnS.lt(h:OwnS e T w M a c xs):∀ b∈Av a,b<w.heap.size:=by
 rcases h with ⟨rfl,_,_⟩|⟨g,A,rfl,hg,_⟩;intro b hb;cases hb;intro b hb;simp only [Av,M19] at hb;subst hb;exact Am hg
theorem OwnS.ro(h:OwnS e T w M a c xs)(G:∀ b∈M',b∈M)(hm:∀ b∈Av a,b∉M'):SlR e w M' a c xs:=by
 rcases h with ⟨rfl,rfl,rfl⟩|⟨g,J,rfl,hg,h1,h2,h3,A⟩;exact M4r e w M';refine ⟨h1,h2,λh=>(by cases h),λad H _=>?_⟩;cases H;refine ⟨rfl,hm g (by simp [Av]),Am hg,λi x I=>?_⟩;obtain ⟨cs,B,E⟩:=A i x I;refine ⟨cs,e.step B (Stp.sub w G),λk v hv=>?_⟩;simp only [M25];rw [Af hg];exact E k v hv
variable {n:Nat}
theorem U7{cs:Array Value}(h:w.heap[b]? = some (.cells cs T (0,0)))(hn:n≤maxLen)(A:xs.length=n)(hs:cs.size=n*e.n)
  (hr:∀ (i:Nat)(x:α),xs[i]? = some x→∃ c,e.R w M c x∧∀ (k:Nat)(v:Value),c[k]? = some v→cs[i*e.n+k]? = some v):OwnS e T w M (some ⟨b,0,none⟩) n xs:=
 .inr ⟨b,cs,rfl,h,by omega,hn,hs,hr⟩
structure C9 (P:Program) (t T n bytes:Nat) (z:Value):Prop where
 und:P.underlying t=some (.slice T)
 info:∃ i,P.info? T=some i∧i.zero=some z∧i.size=n∧i.bytes=bytes
 zs:z.cells.size=n
 pos:Nat.blt 0 n=true
 small:Nat.ble bytes 4096=true
theorem Re(h:w.grownBy w' (Value.ownBlock (.slice a n c))):Ev (Av a) w w':=
 ⟨h.os,h.tape,h.output,h.size,λk hk hm=>h.block k hk λe=>by
  cases a with
  | none=>cases e
  | some ad=>simp only [Value.ownBlock,M1J] at e;subst e;exact hm (by simp [Av])⟩
variable {ys:List α}
theorem SlR.cells(h:SlR e w M (some ad) c ys)(hn:0<e.n)(hp:0<ys.length) :
  ∃ G:List Value,G.length=ys.length*e.n∧(∀ j u,G[j]? = some u→w.cell? (ad.add j)=some u)∧(∀ u∈G,u.oneCell'=true)∧
   ∀ (i:Nat) (y:α),ys[i]? = some y→∃ cs,e.R w M cs y∧∀ (k:Nat) (v:Value),cs[k]? = some v→G[i*e.n+k]? = some v:=by
 obtain ⟨h1,h2,h3,I⟩:=h.at_ ad rfl hp;have cell:∀ j,j<ys.length*e.n→∃ u,w.cell? (ad.add j)=some u∧u.oneCell'=true:=by
  intro j hj;have hi:j / e.n<ys.length:=Nat.div_lt_of_lt_mul (by rw [M3e];exact hj);obtain ⟨cs,B,H⟩:=I (j / e.n) _ (M00 hi);have hk:j%e.n<cs.length:=by rw [e.len B];exact M47 _ hn
  refine ⟨cs[j%e.n],?_,e.one B _ (M03 hk)⟩;rw [AQ h1];have:=H _ _ (M00 hk)
  rwa [M3e,Nat.div_add_mod] at this
 refine ⟨(List.range (ys.length*e.n)).map λj=>(w.cell? (ad.add j)).getD undef,by simp,λj u A=>?_,λu A=>?_,λi y hy=>?_⟩;rw [M1n] at A;by_cases hj:j<ys.length*e.n;obtain ⟨J,E,_⟩:=cell j hj;rw [M1I hj] at A;simp only [M1W,E,M1G,M1J] at A;rw [E,A]
 rw [M1h (by simpa using hj)] at A;cases A
 obtain ⟨j,hj,rfl⟩:=M1L.1 A;obtain ⟨J,E,ho⟩:=cell j (M2i.1 hj);rw [E];exact ho;obtain ⟨cs,B,H⟩:=I i y hy;refine ⟨cs,B,λk v hv=>?_⟩;have hi:i<ys.length:=(M09.1 hy).1;have hk:k<e.n:=by rw [←e.len B];exact (M09.1 hv).1
 have hj:i*e.n+k<ys.length*e.n:=by
  have:(i+1)*e.n≤ys.length*e.n:=M1S _ hi;rw [M2p] at this;omega
 rw [M1n,M1I hj];simp only [M1W];rw [AQ h1,H k v hv];rfl
variable {z:Value}{d:Nat}
theorem JA{T bytes:Nat}(ht:C9 P t T e.n bytes z)(ty:TypeId){M2:List Nat}{b:Option Addr}
  (h:OwnS e T w M a c xs)(aw:∀ x∈Av a,x∈M)(hy:SlR e w M2 b d ys)(hR:∀ cs y,e.R w M2 cs y→e.R w M cs y)(hl:xs.length+ys.length≤4294967296) :
  ∃ a' c' w',(Builtin.append_ #[t,t] ty [.slice a xs.length c,.slice b ys.length d].toArray).run P w=.ok (.slice a' (xs++ys).length c') w'∧Ev (Av a) w w'∧
   (∀ x∈Av a',(x∈Av a∨w.heap.size≤x)∧x<w'.heap.size)∧(∀ x∈Av a',x∈Av a∨x=w.heap.size)∧(∀ M',(∀ x∈M',x∈M∨w.heap.size≤x)→OwnS e T w' M' a' c' (xs++ys)):=by
 obtain ⟨i,hi,hz,hn,ah⟩:=ht.info;have aa:0<e.n:=M18 ht.pos;have av:bytes≤4096:=M18 ht.small;have am:xs.length≤c:=by
  rcases h with ⟨_,_,rfl⟩|⟨g,B,_,_,h1,_⟩;simp;exact h1
 by_cases hm:ys=[]
 subst hm;refine ⟨a,c,w,?_,Ev.refl _ _,λx A=>⟨.inl A,h.lt x A⟩,λx A=>.inl A,λM' O=>?_⟩;cases a <;> cases b <;> simp [Builtin.append_,run_underlying ht.und,sizeOf,typeInfo,hi,Builtin.lenOf,Builtin.firstCells,am,storeCells,loadCells,loadCellsFrom]
 rw [M1w];rcases h with h|⟨g,B,rfl,hg,h1,h2,h3,H⟩
 exact .inl h;refine .inr ⟨g,B,rfl,hg,h1,h2,h3,λi x A=>?_⟩;obtain ⟨cs,E,G⟩:=H i x A;exact ⟨cs,e.step E ⟨Ev.refl _ _,O⟩,G⟩;have ac:0<ys.length:=M3x.2 hm;cases b with
 | none=>exact absurd (hy.nil rfl) hm
 | some ad=>
  obtain ⟨ae,aq,ap,ao,ar⟩:=hy.cells aa ac;have hrow:∃ I,w.ownsRow 0 T e.n (.slice a xs.length c) xs.length I∧∀ (i:Nat) (x:α),xs[i]? = some x→∃ cs,e.R w M cs x∧∀ (k:Nat) (v:Value),cs[k]? = some v→I[i*e.n+k]? = some v:=by
   rcases h with ⟨rfl,rfl,rfl⟩|⟨g,B,rfl,hg,h1,h2,h3,H⟩;exact ⟨[],World.ownsRow_nil w 0 T e.n,λi x A=>by simp at A⟩;have aC:xs.length*e.n≤B.size:=by rw [h3];exact M1S _ h1
   refine ⟨B.toList.take (xs.length*e.n),⟨by simp;omega,.inr ⟨g,c,B,rfl,M2j _,hg,h1,h2,h3,rfl⟩⟩,λi x A=>?_⟩;obtain ⟨cs,E,G⟩:=H i x A;refine ⟨cs,E,λk v hv=>?_⟩;have U:i<xs.length:=(M09.1 A).1;have hk:k<e.n:=by rw [←e.len E];exact (M09.1 hv).1
   have hj:i*e.n+k<xs.length*e.n:=by
    have:(i+1)*e.n≤xs.length*e.n:=M1S _ U;rw [M2p] at this;omega
   rw [M1r,M1d hj]
   simpa using G k v hv
  obtain ⟨I,Z,ay⟩:=hrow;have ai:(xs.length+ys.length)*bytes≤140737488355328:=by
   have:=M32 hl av;omega
  obtain ⟨g,cap,w',hr,au,al,hat,an⟩:=run_append_lies (P:=P) w t ty 0 T i z e.n bytes ht.und hi hz hn ah ht.zs aa _ _ _ Z ad ys.length d ae aq ap ao ac (by unfold maxLen;omega) ai (M2j _) _ rfl;have Y:=Re al;refine ⟨some ⟨g,0,none⟩,cap,w',by rw [M1l];exact hr,Y,λx A=>?_,λx A=>?_,λM' O=>?_⟩;simp only [Av,M19] at A;subst A;refine ⟨?_,an⟩;rcases hat with hat|hat
  left;cases a with
  | none=>cases hat
  | some af=>simp only [Value.ownBlock,M1J] at hat;simp [Av,hat]
  right;omega;simp only [Av,M19] at A;subst A;rcases hat with hat|hat
  left;cases a with
  | none=>cases hat
  | some af=>simp only [Value.ownBlock,M1J] at hat;simp [Av,hat]
  exact .inr hat;have ab:Stp M w M' w':=⟨Y.sub aw,O⟩
  rcases au.2 with ⟨h0,_⟩|⟨g',aA,B,aj,_,ak,h1,h2,h3,H⟩;cases h0;cases aj;refine .inr ⟨g,B,rfl,ak,by rw [M1l];exact h1,h2,h3,λi x A=>?_⟩;have ax:I.length=xs.length*e.n:=Z.1;have fin:∀ (j:Nat) (v:Value),(I++ae)[j]? = some v→B[j]? = some v:=by
   intro j v hv;rw [←H,M1r] at hv;split at hv
   simpa using hv
   cases hv
  by_cases U:i<xs.length;rw [M1f U] at A;obtain ⟨cs,E,G⟩:=ay i x A;refine ⟨cs,e.step E ab,λk v hv=>fin _ _ ?_⟩;have J:=G k v hv;rw [M1f (M09.1 J).1];exact J
  rw [M1a (by omega)] at A;obtain ⟨cs,E,G⟩:=ar _ x A;refine ⟨cs,e.step (hR _ _ E) ab,λk v hv=>fin _ _ ?_⟩;have J:=G k v hv;have aD:xs.length*e.n≤i*e.n:=M1S _ (by omega);rw [M1a (by omega),ax];rw [show i*e.n+k-xs.length*e.n=(i-xs.length)*e.n+k by rw [Nat.sub_mul];omega];exact J
theorem DZ{T bytes:Nat}(ht:C9 P t T e.n bytes z)(ty:TypeId){b:Option Addr}
  (h:OwnS e T w M a c xs)(A:∀ x∈Av a,x∈M)(hy:SlR e w M b d ys)(hl:xs.length+ys.length≤4294967296) :
  ∃ a' c' w',(Builtin.append_ #[t,t] ty [.slice a xs.length c,.slice b ys.length d].toArray).run P w=.ok (.slice a' (xs++ys).length c') w'∧Ev (Av a) w w'∧
   (∀ x∈Av a',(x∈Av a∨w.heap.size≤x)∧x<w'.heap.size)∧(∀ x∈Av a',x∈Av a∨x=w.heap.size)∧(∀ M',(∀ x∈M',x∈M∨w.heap.size≤x)→OwnS e T w' M' a' c' (xs++ys)):=by
 exact JA ht ty h A hy (λ_ _ h=>h) hl
theorem U8{T bytes:Nat}(ht:C9 P t T e.n bytes z)(ty:TypeId){b:Option Addr}
  (h:OwnS e T w M a c xs)(B:∀ x∈Av a,x∈M)(hy:SlR e w M b d ys)(hl:xs.length+ys.length≤4294967296) :
  ∃ a' c' w',(Builtin.append_ #[t,t] ty [.slice a xs.length c,.slice b ys.length d].toArray).run P w=.ok (.slice a' (xs++ys).length c') w'∧Ev (Av a) w w'∧
   (∀ x∈Av a',(x∈Av a∨w.heap.size≤x)∧x<w'.heap.size)∧(∀ M',(∀ x∈M',x∈M∨w.heap.size≤x)→OwnS e T w' M' a' c' (xs++ys)):=by
 obtain ⟨a',c',w',h1,h2,h3,_,A⟩:=DZ (P:=P) ht ty h B hy hl;exact ⟨a',c',w',h1,h2,h3,A⟩
theorem KA{T bytes:Nat}(ht:C9 P t T e.n bytes z)(w:World)(n:Int)(U:0≤n)(hn:n≤4294967296)(B:α)(hz:∀ w M,e.R w M z.cells.toList B) :
  ∃ a' c' w',(Instr.makeSlice t (.int .i64 n) (.int .i64 n)).run P w=.ok (.slice a' (List.replicate n.toNat B).length c') w'∧Ev [] w w'∧
   (∀ x∈Av a',w.heap.size≤x∧x<w'.heap.size)∧(∀ M',OwnS e T w' M' a' c' (List.replicate n.toNat B)):=by
 obtain ⟨i,hi,ai,ag,ab⟩:=ht.info;have aj:0<e.n:=M18 ht.pos;have af:bytes≤4096:=M18 ht.small;obtain ⟨m,rfl⟩:=M1j U;have hm:m≤4294967296:=by omega
 obtain ⟨w',hr,J,hg⟩:=run_make_full (P:=P) w 0 t T i z e.n ht.und hi ai ag .i64 .i64 m (by rw [ab];have:=M32 af hm;omega) (by unfold maxLen;omega) (M2j _);have E:(List.replicate (Int.toNat (m:Int)) B).length=m:=by simp
 have ac:Ev [] w w':=⟨hg.os,hg.tape,hg.output,hg.size,λk hk _=>hg.block k hk (by simp)⟩
 refine ⟨_,m,w',by rw [E];exact hr,ac,λx A=>?_,λM'=>?_⟩;simp only [Av,M19] at A;subst A;rcases J.2 with ⟨h1,_⟩|⟨g,cap,G,h1,_,h2,_⟩
 cases h1;cases h1;exact ⟨M1g _,Am h2⟩;rcases J.2 with ⟨h1,_⟩|⟨g,cap,G,h1,_,h2,h3,Y,Z,h6⟩;cases h1;cases h1;refine .inr ⟨_,G,rfl,h2,by rw [E];exact h3,Y,Z,λi x A=>⟨z.cells.toList,?_,λk v hv=>?_⟩⟩;have:=M1k A;rw [M2U this];exact hz _ _;have ad:i<m:=by have:=(M09.1 A).1;rwa [E] at this
 have hk:k<e.n:=by
  have:=(M09.1 hv).1;rw [M1u,ht.zs] at this;exact this
 have hj:i*e.n+k<m*e.n:=by
  have:(i+1)*e.n≤m*e.n:=M1S _ ad;rw [M2p] at this;omega
 have H:(madeCells z.cells (m*e.n)).toList[i*e.n+k]? = some v:=by
  have ae:(i*e.n+k)%z.cells.size=k:=by rw [ht.zs,M3e,Nat.mul_add_mod,M3K hk]
  have I:k<z.cells.size:=by rw [ht.zs];exact hk
  have O:z.cells[k]? = some v:=by simpa using hv
  simp only [madeCells,M3s,Array.toList_range,M1n,M1I hj,M1W,ae];rw [M2S z.cells k I];rw [M2b I] at O;exact O
 rw [←h6,M1r,M1d hj] at H
 simpa using H
def Enc.Plain {α:Type} (e:Enc α):Prop:=∀ (w w':World) (M M':List Nat) (cs:List Value) (x:α),e.R w M cs x→e.R w' M' cs x
theorem OwnS.plain(hp:e.Plain)(h:OwnS e T w M a c xs):OwnS e T w M' a c xs:=by
 rcases h with h|⟨g,A,H,hg,h1,h2,h3,B⟩;exact .inl h;refine .inr ⟨g,A,H,hg,h1,h2,h3,λi x I=>?_⟩;obtain ⟨cs,E,G⟩:=B i x I;exact ⟨cs,hp _ _ _ _ _ _ E,G⟩
theorem Rh(h:Ev [] w w'):Go.RowKit.Below w.heap.size w w':=⟨h.os,h.tape,h.output,h.size,λk hk=>h.block k hk (λh=>by cases h)⟩
def PU:Enc (Option Addr×Nat×Nat):=⟨1,λ_ _ cs h=>cs=[.slice h.1 h.2.1 h.2.2],λh=>by rw [h];rfl,λh _=>h,λh v hv=>by rw [h] at hv;simp at hv;subst hv;rfl⟩
theorem J2:PU.Plain:=λ_ _ _ _ _ _ h=>h
theorem OwnS.evp(hp:e.Plain)(h:OwnS e T w M a c xs)(H:Ev Mo w w')(hm:∀ b∈Av a,b∉Mo):OwnS e T w' M' a c xs:=by
 rcases h with h|⟨g,A,rfl,hg,h1,h2,h3,B⟩;exact .inl h;refine .inr ⟨g,A,rfl,H.box hg (hm g (by simp [Av])),h1,h2,h3,λi x I=>?_⟩;obtain ⟨cs,E,G⟩:=B i x I;exact ⟨cs,hp _ _ _ _ _ _ E,G⟩
def OwnR {α:Type} (e:Enc α) (T Tr:TypeId) (w:World) (B:List Nat) (a:Option Addr) (c:Nat) (E:List (List α)) (A:Option Nat):Prop:=
 ∃ hs:List (Option Addr×Nat×Nat),OwnS PU Tr w [] a c hs∧hs.length=E.length∧(∀ x∈Av a,x∈B)∧
  (∀ (i:Nat)(h:Option Addr×Nat×Nat)(xs:List α),hs[i]? = some h→E[i]? = some xs→A≠some i→OwnS e T w [] h.1 h.2.2 xs∧h.2.1=xs.length∧∀ x∈Av h.1,x∈B∧x∉Av a)∧
  (∀ (i j:Nat)(h k:Option Addr×Nat×Nat),hs[i]? = some h→hs[j]? = some k→i≠j→A≠some i→A≠some j→∀ x∈Av h.1,x∉Av k.1)
theorem OwnR.nil(e:Enc α)(T Tr:TypeId)(w:World)(B:List Nat):OwnR e T Tr w B none 0 [] none:=
 ⟨[],OwnS.nil _ _ _ _,rfl,(λx A=>by cases A),(λi h xs h1=>by cases h1),(λi j h k h1=>by cases h1)⟩
variable {B:List Nat}
theorem OwnR.step(hp:e.Plain){Tr:TypeId}{H:List (List α)}{G:Option Nat}(h:OwnR e T Tr w B a c H G)(E:Ev Mo w w')(hm:∀ b∈B,b∉Mo):OwnR e T Tr w' B a c H G:=by
 obtain ⟨hs,h1,h2,h3,I,J⟩:=h;refine ⟨hs,h1.evp J2 E (λb hb=>hm b (h3 b hb)),h2,h3,λi h xs hi Y hk=>?_,J⟩;obtain ⟨O,U,A⟩:=I i h xs hi Y hk;exact ⟨O.evp hp E (λb hb=>hm b (A b hb).1),U,A⟩
theorem M4F(e:Enc α){T Tr bytes:Nat}(ht:C9 P t Tr 1 bytes (.slice none 0 0))(w:World)(n:Int)(G:0≤n)(hn:n≤4294967296) :
  ∃ a' c' w',(Instr.makeSlice t (.int .i64 n) (.int .i64 n)).run P w=.ok (.slice a' (List.replicate n.toNat ([]:List α)).length c') w'∧Ev [] w w'∧
   (∀ x∈Av a',w.heap.size≤x∧x<w'.heap.size)∧OwnR e T Tr w' (Av a') a' c' (List.replicate n.toNat ([]:List α)) none:=by
 obtain ⟨a',c',w',h1,h2,h3,H⟩:=KA (P:=P) (e:=PU) ht w n G hn (none,0,0) (λ_ _=>rfl);refine ⟨a',c',w',by simpa using h1,h2,h3,List.replicate n.toNat (none,0,0),H [],by simp,λx A=>A,λi h xs hi A _=>?_,λi j h k hi hj _ _ _ x A=>?_⟩;have B:h=(none,0,0):=by
  have:=M1k hi;exact M2U this
 have E:xs=[]:=M2U (M1k A);subst B;subst E;exact ⟨OwnS.nil _ _ _ _,rfl,λx A=>by cases A⟩;have B:h=(none,0,0):=M2U (M1k hi);subst B;cases A
theorem OwnR.ro(hp:e.Plain){Tr:TypeId}{A:List (List α)}(h:OwnR e T Tr w B a c A none)(hm:∀ b∈B,b∉M'):SlR (eSl e) w M' a c A:=by
 obtain ⟨hs,h1,h2,h3,O,h5⟩:=h;rcases h1 with ⟨rfl,rfl,rfl⟩|⟨g,aa,rfl,hg,h6,U,h8,Y⟩
 have:A=[]:=M2k (by simpa using h2.symm);subst this;exact M4r _ _ _;refine ⟨by omega,U,λh=>(by cases h),λad Z _=>?_⟩;cases Z;refine ⟨rfl,hm g (h3 g (by simp [Av])),Am hg,λi x G=>?_⟩;have E:i<hs.length:=by have:=(M09.1 G).1;omega
 obtain ⟨a1,a2,a3⟩:=O i hs[i] x (M00 E) G (by simp);obtain ⟨cs,H,J⟩:=Y i hs[i] (M00 E);have I:cs=[.slice hs[i].1 hs[i].2.1 hs[i].2.2]:=H;refine ⟨cs,⟨hs[i].1,hs[i].2.2,by rw [I,a2],(OwnS.plain (M':=M') hp a1).ro (λ_ h=>h) (λb hb=>hm b (a3 b hb).1)⟩,λk v hv=>?_⟩;show w.cell? ⟨g,0+(i*1+k),none⟩=some v
 rw [M25,Af hg];exact J k v hv
theorem OwnR.append(hp:e.Plain){T Tr bytes:Nat}(ht:C9 P t Tr 1 bytes z)(ty:TypeId){B2:List Nat}{b a':Option Addr}{c':Nat}{G:List (List α)}
  (h:OwnR e T Tr w B a c G none)(hs:SlR PU w B b d [(a',ys.length,c')])(hy:OwnS e T w B2 a' c' ys)(hd:∀ x∈Av a',x∉B)(ai:∀ x∈B,x<w.heap.size)(hl:G.length+1≤4294967296) :
  ∃ a2 I w',(Builtin.append_ #[t,t] ty [.slice a G.length c,.slice b 1 d].toArray).run P w=.ok (.slice a2 (G++[ys]).length I) w'∧Ev (Av a) w w'∧(∀ x∈Av a,x∈B)∧
   (∀ x∈Av a2,(x∈B∨w.heap.size≤x)∧x<w'.heap.size)∧OwnR e T Tr w' (Av a2++(Av a'++B)) a2 I (G++[ys]) none:=by
 obtain ⟨E,h1,h2,h3,h4,h5⟩:=h;have aj:∀ x∈Av a',x<w.heap.size:=hy.lt;obtain ⟨a2,I,w',hr,O,hn,ho⟩:=U8 (P:=P) (e:=PU) (M:=B) ht ty (h1.plain J2) h3 hs (by simpa [h2] using hl);simp only [M1l,M1N,M2g,M25,h2] at hr;refine ⟨a2,I,w',by simpa using hr,O,h3,λx A=>⟨(hn x A).1.imp (λh=>h3 x h) id,(hn x A).2⟩,E++[(a',ys.length,c')],(ho [] (λ_ h=>by cases h)),by simp [h2],
  λx A=>M1T _ A,λi k zs hi H _=>?_,λi j k l hi hj hne _ _ x A Z=>?_⟩
 have ab:∀ x,x<w.heap.size→x∉Av a→x∉Av a2:=λx h6 h7 h8=>by
  rcases (hn x h8).1 with h9|h9;exact h7 h9;omega
 rcases M1V i E.length with hil|hil;rw [M1f hil] at hi;rw [M1f (by omega)] at H;obtain ⟨a1,a3,a4⟩:=h4 i k zs hi H (by simp);refine ⟨a1.evp hp O (λb hb=>(a4 b hb).2),a3,λx A=>⟨M1z _ (M1z _ (a4 x A).1),ab x (ai x (a4 x A).1) (a4 x A).2⟩⟩
 rw [M1a hil] at hi;rw [M1a (by omega)] at H;have J:i-E.length=0:=by
  rcases M30 (i-E.length) with h|h;exact h;rw [M1h (by simp;omega)] at hi;cases hi
 rw [J] at hi;rw [show i-G.length=0 by omega] at H;cases hi;cases H;refine ⟨hy.evp hp O (λb hb ah=>hd b hb (h3 b ah)),rfl,λx A=>⟨M1z _ (M1T _ A),ab x (aj x A) (λh=>hd x A (h3 x h))⟩⟩
 have old:∀ {i:Nat} {k:Option Addr×Nat×Nat},(E++[(a',ys.length,c')])[i]? = some k→(i<E.length∧E[i]? = some k)∨(i=E.length∧k=(a',ys.length,c')):=by
  intro i k hi;rcases M1V i E.length with hil|hil
  rw [M1f hil] at hi;exact .inl ⟨hil,hi⟩
  rw [M1a hil] at hi;have J:i-E.length=0:=by
   rcases M30 (i-E.length) with h|h;exact h;rw [M1h (by simp;omega)] at hi;cases hi
  rw [J] at hi;cases hi;exact .inr ⟨by omega,rfl⟩
 have ac:∀ {i:Nat} {k:Option Addr×Nat×Nat},E[i]? = some k→∀ x∈Av k.1,x∈B:=by
  intro i k hi x A;have hil:=(M09.1 hi).1;obtain ⟨zs,H⟩:∃ zs,G[i]? = some zs:=⟨G[i]'(by omega),M00 _⟩
  exact ((h4 i k zs hi H (by simp)).2.2 x A).1
 rcases old hi with ⟨_,U⟩|⟨U,rfl⟩ <;> rcases old hj with ⟨_,Y⟩|⟨Y,rfl⟩
 exact h5 i j k l U Y hne (by simp) (by simp) x A Z;exact hd x Z (ac U x A);exact hd x A (ac Y x Z);omega
theorem Dm(k:IntKind)(i:Int)(y:Nat)(c:BoundsCode)(A:0≤i)(h1:i≤y):(Instr.sliceBound (.int k i) y c).run P w=.ok i.toNat w:=by
 simp only [Instr.sliceBound,asIntOf,Sem.run_bind,Sem.run_pure,Result.andThen_ok,A,h1,M3G,M2K]
def Bg (o:Option Int) (d:Nat):Int:=match o with | some i=>i | none=>d
theorem U9(len cap:Nat)(lo hi mx:Option Int)(G:mx.isSome=true→hi.isSome=true)(h1:0≤Bg lo 0)(h2:Bg lo 0≤Bg hi len)(h3:Bg hi len≤Bg mx cap)(B:Bg mx cap≤cap) :
  (Instr.sliceBounds true len cap (lo.map (.int .i64 ·)) (hi.map (.int .i64 ·)) (mx.map (.int .i64 ·))).run P w=.ok ((Bg lo 0).toNat,(Bg hi len).toNat,(Bg mx cap).toNat) w:=by
 unfold Instr.sliceBounds;cases mx with
 | none=>
  simp only [Bg] at *;cases hi with
  | none=>
   cases lo with
   | none=>simp [Sem.run_bind,Sem.run_pure,Bg]
   | some l=>simp only [Option.map,Sem.run_bind,Sem.run_pure,Result.andThen_ok];rw [Dm _ _ _ _ h1 (by simpa [Bg] using h2)];simp [Sem.run_bind,Sem.run_pure,Bg]
  | some A=>
   simp only [Bg] at *;simp only [Option.map,Sem.run_bind,Sem.run_pure,Result.andThen_ok];rw [Dm _ _ _ _ (by cases lo <;> simp_all <;> omega) h3];cases lo with
   | none=>simp [Sem.run_bind,Sem.run_pure,Bg]
   | some l=>simp only [Result.andThen_ok,Option.map];simp only [Sem.run_bind];rw [Dm _ _ _ _ h1 (show l≤_ by have:l≤A:=h2;omega)];simp [Sem.run_bind,Sem.run_pure,Bg]
 | some m=>
  cases hi with
  | none=>simp at G
  | some A=>
   simp only [Bg] at *;have E:0≤A:=by cases lo <;> simp_all <;> omega
   simp only [Option.map,Sem.run_bind,Sem.run_pure,Result.andThen_ok];rw [Dm _ _ _ _ (by omega) B];simp only [Result.andThen_ok,Sem.run_bind];rw [Dm _ _ _ _ E (by omega)];cases lo with
   | none=>simp [Sem.run_bind,Sem.run_pure,Bg]
   | some l=>simp only [Result.andThen_ok,Option.map];simp only [Sem.run_bind];rw [Dm _ _ _ _ h1 (show l≤_ by have:l≤A:=h2;omega)];simp [Sem.run_bind,Sem.run_pure,Bg]
theorem Rj(ht:Vy P t el n)(a:Option Addr)(len c:Nat)(lo hi mx:Option Int)(B:mx.isSome=true→hi.isSome=true)(h1:0≤Bg lo 0)(h2:Bg lo 0≤Bg hi len)(h3:Bg hi len≤Bg mx c)(A:Bg mx c≤c) :
  Vx P Mo (Instr.sliceAt t (.slice a len c) (lo.map (.int .i64 ·)) (hi.map (.int .i64 ·)) (mx.map (.int .i64 ·))) w
   (.slice (if (Bg mx c).toNat=(Bg lo 0).toNat then a else a.map (·.add ((Bg lo 0).toNat*n))) ((Bg hi len).toNat-(Bg lo 0).toNat) ((Bg mx c).toNat-(Bg lo 0).toNat)):=by
 intro w' _;simp only [Instr.sliceAt,Instr.slice,Sem.run_bind,run_underlying ht.1,Result.andThen_ok];rw [U9 len c lo hi mx B h1 h2 h3 A];simp only [Result.andThen_ok,ht.2 w',Sem.run_pure]
theorem SlR.cut(h:SlR e w M a c xs)(l hi m:Nat)(h1:l≤hi)(h2:hi≤xs.length)(h3:hi≤m)(Y:m≤c) :
  SlR e w M (if m=l then a else a.map (·.add (l*e.n))) (m-l) ((xs.drop l).take (hi-l)):=by
 have B:((xs.drop l).take (hi-l)).length=hi-l:=by rw [M1q,M2f];omega
 refine ⟨by rw [B];omega,M1B (by omega) h.cap,λhn=>?_,λad A hp=>?_⟩;have A:a=none:=by
  by_cases hm:m=l;rw [M1d hm] at hn;exact hn
  rw [M1e hm] at hn;simpa using hn
 rw [h.nil A];simp;rw [B] at hp;have hm:m≠l:=by omega
 rw [M1e hm] at A;cases a with
 | none=>simp at A
 | some b=>
  simp only [M1W,M1J] at A;obtain ⟨H,q2,I,J⟩:=h.at_ b rfl (by omega);subst A;rw [AQ H];refine ⟨rfl,q2,I,λi x E=>?_⟩;have G:i<hi-l:=by
   have:=(M09.1 E).1
   rwa [B] at this
  rw [M1r,M1d G,M1C] at E;obtain ⟨cs,O,U⟩:=J _ _ E;refine ⟨cs,O,λk v hv=>?_⟩;have:=U k v hv;show w.cell? ⟨b.block,b.off+l*e.n+(i*e.n+k),none⟩=some v
  rw [show b.off+l*e.n+(i*e.n+k)=b.off+((l+i)*e.n+k) by rw [M2p];omega];exact this
theorem iE{l hi:Int}(A:0≤l)(h1:l≤hi)(h2:hi≤xs.length):((xs.drop l.toNat).take (hi.toNat-l.toNat)).length=hi.toNat-l.toNat:=by
 rw [M1q,M2f];omega
theorem OwnS.trunc(h:OwnS e T w M a c xs)(n:Nat):OwnS e T w M a c (xs.take n):=by
 rcases h with ⟨B,H,rfl⟩|⟨g,E,B,hg,h1,h2,h3,G⟩;exact .inl ⟨B,H,by simp⟩;refine .inr ⟨g,E,B,hg,M1B (by rw [M1q];omega) h1,h2,h3,λi x A=>G i x ?_⟩;rw [M1r] at A;split at A;exact A;cases A
theorem OwnS.le(h:OwnS e T w M a c xs):xs.length≤c:=by
 rcases h with ⟨_,_,rfl⟩|⟨g,A,_,_,h1,_⟩;simp;exact h1
end
section
def D5 {K V:Type} [BEq K]:List (K×V)→K→Option V
 | [],_=>none
 | (a,v)::l,k=>if (k==a)=true then some v else D5 l k
def H9 {K V:Type} [BEq K]:List (K×V)→K→V→List (K×V)
 | [],k,v=>[(k,v)]
 | (a,u)::l,k,v=>if (k==a)=true then (k,v)::l else (a,u)::H9 l k v
theorem J3 {K V:Type} [BEq K] [LawfulBEq K] (k:K)(v:V)(j:K):∀ (l:List (K×V)),D5 (H9 l k v) j=if (j==k)=true then some v else D5 l j
 | []=>by simp only [H9,D5]
 | (a,u)::l=>by
  simp only [H9];by_cases h:(k==a)=true;rw [M1d h];have e:=eq_of_beq h;subst e;simp only [D5];by_cases h2:(j==k)=true;rw [M1d h2,M1d h2];rw [M1e h2,M1e h2,M1e h2];rw [M1e h];simp only [D5,J3 k v j l];by_cases h2:(j==a)=true;rw [M1d h2,M1d h2];have e:=eq_of_beq h2;subst e;rw [M1e (λh3=>h (by rw [eq_of_beq h3];exact M3j _))];rw [M1e h2,M1e h2]
def Dz {K:Type} [BEq K] (k:K):List K→List MapEntry→Nat→Option (Nat×Value)
 | a::ks,e::es,i=>if (k==a)=true then some (i,e.val) else Dz k ks es (i+1)
 | _,_,_=>none
structure Rk (P:Program) (kt:Nat) {K:Type} [BEq K] (kv:K→Value):Prop where
 chk:∀ (b:Bool) (k:K) (w:World),(Instr.checkKey b 10000 kt (kv k)).run P w=.ok () w
 find:∀ (k:K) (ks:List K) (es:List MapEntry) (w:World),es.map (·.key)=ks.map kv→(Instr.findKey kt (kv k) es).run P w=.ok (Dz k ks es 0) w
 bits:∀ k,Instr.sameBits 10000 (kv k) (kv k)=true
variable {P:Program}{kt:Nat}
theorem JB{d:TypeDesc}{A:Value}{es:List MapEntry}{r:Option (Nat×Value)}(B:P.underlying kt=some d)(h:Instr.findNow d A es 0=some r)(w:World):(Instr.findKey kt A es).run P w=.ok r w:=by
 unfold Instr.findKey;rw [run_bind,run_underlying B];simp only [h];rfl
theorem Ht {K:Type} [BEq K] {d:TypeDesc}{kv:K→Value}(hs:∀ a b,Instr.sameNow d (kv a) (kv b)=some (a==b))(k:K):∀ (ks:List K) (es:List MapEntry) (i:Nat),es.map (·.key)=ks.map kv→Instr.findNow d (kv k) es i=some (Dz k ks es i)
 | [],[],i,_=>rfl
 | a::ks,e::es,i,h=>by
  simp only [M1X,M3n] at h;simp only [Instr.findNow,Dz,h.1,hs];cases hq:(k==a) with
  | true=>simp
  | false=>simp only [M2v,M2V];exact Ht hs k ks es (i+1) h.2
 | [],_::_,_,h=>by simp at h
 | _::_,[],_,h=>by simp at h
theorem Rm{d:TypeDesc}{v:Value}{b:Bool}(A:P.underlying kt=some d)(hd:(match d with | .int _=>true | .string=>true | _=>false)=true)(w:World):(Instr.checkKey b 10000 kt v).run P w=.ok () w:=by
 unfold Instr.checkKey;rw [run_bind,run_underlying A];cases d <;> first | (cases hd;done) | rfl
theorem iF{kd:IntKind}(A:P.underlying kt=some (.int kd)):Rk P kt (λn:Int=>.int kd n) where
 chk b k w:=Rm A rfl w
 find k ks es w h:=JB A (Ht (λa b=>by simp [Instr.sameNow]) k ks es 0 h) w
 bits k:=by simp [Instr.sameBits]
theorem iG(A:P.underlying kt=some .string):Rk P kt Vs where
 chk b k w:=Rm A rfl w
 find k ks es w h:=JB A (Ht (λa b=>by
  have e:((⟨⟨a⟩⟩:ByteArray)==⟨⟨b⟩⟩)=(a==b):=by
   show ((⟨a⟩:Array UInt8)==⟨b⟩)=(a==b)
   simp
  show Instr.sameNow .string (Vs a) (Vs b)=_
  simp only [Vs,Instr.sameNow,e]) k ks es 0 h) w
 bits k:=by
  simp only [Instr.sameBits,Vs];show ((⟨k⟩:Array UInt8)==⟨k⟩)=true
  simp
def MapH {K V:Type} (kv:K→Value) (B:V→Value) (w:World) (b:Nat) (l:List (K×V)):Prop:=
 ∃ (es:Array MapEntry) (A:Nat),w.heap[b]? = some (.map es A)∧es.toList.map (λe=>(e.key,e.val))=l.map λx=>(kv x.1,B x.2)
variable {K V:Type}{kv:K→Value}{A:V→Value}{w:World}{b:Nat}
theorem MapH.mk(h:w.heap[b]? = some (.map #[] 0)):MapH kv A w b []:=⟨#[],0,h,rfl⟩
variable {l:List (K×V)}
theorem MapH.step{w':World}{M:List Nat}(h:MapH kv A w b l)(B:Ev M w w')(hm:b∉M):MapH kv A w' b l:=
 let ⟨es,c,h1,h2⟩:=h;⟨es,c,B.box h1 hm,h2⟩
theorem MapH.lt(h:MapH kv A w b l):b<w.heap.size:=let ⟨_,_,h1,_⟩:=h;Am h1
theorem KB {K V:Type} [BEq K] {kv:K→Value}{A:V→Value}(k:K):∀ (l:List (K×V)) (es:List MapEntry) (i:Nat),es.map (λe=>(e.key,e.val))=l.map (λx=>(kv x.1,A x.2))→
  (match Dz k (l.map (·.1)) es i with | some (_,v)=>some v | none=>none)=(D5 l k).map A
 | [],[],i,_=>rfl
 | (a,u)::l,e::es,i,h=>by
  simp only [M1X,M3n,M3O] at h;simp only [M1X,Dz,D5]
  by_cases hq:(k==a)=true;simp only [hq,M2K,h.1.2,Option.map];simp only [M1e hq];exact KB k l es (i+1) h.2
 | [],_::_,_,h=>by simp at h
 | _::_,[],_,h=>by simp at h
theorem K1{es:List MapEntry}(h:es.map (λe=>(e.key,e.val))=l.map (λx=>(kv x.1,A x.2))):es.map (·.key)=(l.map (·.1)).map kv:=by
 have:=M1t (List.map Prod.fst) h
 simpa [List.map_map,Function.comp_def] using this
variable {t:Nat}
theorem M4M{B:Nat} [BEq K]{Mo:List Nat}(ht:P.underlying t=some (.map kt B))(hk:Rk P kt kv)(k:K)(z:V)
  (H:∀ w,(zeroValue B).run P w=.ok (A z) w)(h:MapH kv A w b l)(hm:b∉Mo)(ok:Bool) :
  Vx P Mo (Instr.lookup t (.map (some b)) (kv k) ok) w (if ok then .tuple #[A ((D5 l k).getD z),.bool (D5 l k).isSome] else A ((D5 l k).getD z)):=by
 intro w' E;obtain ⟨es,c,h1,h2⟩:=h.step E hm;have G:(getObj b).run P w'=.ok (.map es c) w':=by simp only [getObj,Sem.run,h1]
 unfold Instr.lookup;rw [run_bind,run_underlying ht];simp only;rw [run_bind,G];simp only [pure_bind];rw [run_bind,hk.chk];simp only;rw [run_bind,hk.find k _ _ w' (K1 h2)];have hf:=KB k l es.toList 0 h2;simp only;split at hf;rename_i i v hv;rw [hv];simp only [pure_bind];cases hg:D5 l k with
 | none=>rw [hg] at hf;cases hf
 | some u=>
  rw [hg] at hf;cases hf;cases ok <;> rfl
 rename_i hv;rw [hv];simp only;cases hg:D5 l k with
 | some u=>rw [hg] at hf;cases hf
 | none=>
  simp only [Sem.run_bind,H,Result.andThen_ok,Sem.run_pure];cases ok <;> rfl
theorem KC {K:Type} [BEq K] [LawfulBEq K] {kv:K→Value}(k:K):∀ (ks:List K) (es:List MapEntry) (i j:Nat) (v:Value),es.map (·.key)=ks.map kv→Dz k ks es i=some (j,v)→i≤j∧∃ e,es[j-i]? = some e∧e.key=kv k
 | a::ks,e::es,i,j,v,h,hf=>by
  simp only [M1X,M3n] at h;simp only [Dz] at hf
  split at hf;rename_i hq;cases hf;refine ⟨M1g _,e,by simp,?_⟩;rw [h.1,eq_of_beq hq];obtain ⟨h1,e',h2,h3⟩:=KC k ks es (i+1) j v h.2 hf;refine ⟨by omega,e',?_,h3⟩;rw [show j-i=(j-(i+1))+1 by omega,M2r];exact h2
 | [],_,_,_,_,_,hf=>by simp only [Dz] at hf;cases hf
 | _::_,[],_,_,_,h,_=>by simp at h
theorem Rn {K V:Type} [BEq K] [LawfulBEq K] {kv:K→Value}{A:V→Value}(k:K)(v:V):∀ (l:List (K×V)) (es:List MapEntry) (i j:Nat) (u:Value),es.map (λe=>(e.key,e.val))=l.map (λx=>(kv x.1,A x.2))→Dz k (l.map (·.1)) es i=some (j,u)→
  (es.modify (j-i) λe=>{ e with key:=kv k,val:=A v }).map (λe=>(e.key,e.val))=(H9 l k v).map (λx=>(kv x.1,A x.2))
 | (a,q)::l,e::es,i,j,u,h,hf=>by
  simp only [M1X,M3n,M3O] at h;simp only [M1X,Dz] at hf;simp only [H9]
  split at hf;rename_i hq;cases hf;rw [M1d hq];simp only [M3B,List.modify_zero_cons,M1X,h.2];rename_i hq;have B:=(KC k (l.map (·.1)) es (i+1) j u (K1 h.2) hf).1;have:=Rn k v l es (i+1) j u h.2 hf;rw [M1e hq,show j-i=(j-(i+1))+1 by omega];simp only [List.modify_succ_cons,M1X,this,h.1.1,h.1.2]
 | [],_,_,_,_,_,hf=>by simp only [M3H,Dz] at hf;cases hf
 | _::_,[],_,_,_,h,_=>by simp at h
theorem Ro {K V:Type} [BEq K] {kv:K→Value}{A:V→Value}(k:K)(v:V)(c:Nat):∀ (l:List (K×V)) (es:List MapEntry) (i:Nat),es.map (λe=>(e.key,e.val))=l.map (λx=>(kv x.1,A x.2))→Dz k (l.map (·.1)) es i=none→
  (es++[({ key:=kv k,val:=A v,born:=c }:MapEntry)]).map (λe:MapEntry=>(e.key,e.val))=(H9 l k v).map (λx=>(kv x.1,A x.2))
 | [],[],_,_,_=>rfl
 | (a,q)::l,e::es,i,h,hf=>by
  simp only [M1X,M3n,M3O] at h;simp only [M1X,Dz] at hf;simp only [H9]
  split at hf;cases hf;rename_i hq;have:=Ro k v c l es (i+1) h.2 hf;rw [M1e hq];simp only [List.cons_append,M1X,this,h.1.1,h.1.2]
 | [],_::_,_,h,_=>by simp at h
 | _::_,[],_,h,_=>by simp at h
theorem MapH.upd{Z:Nat} [BEq K] [LawfulBEq K](ht:P.underlying t=some (.map kt Z))(hk:Rk P kt kv)(k:K)(v:V)(h:MapH kv A w b l) :
  ∃ w',(Instr.mapUpdate t (.map (some b)) (kv k) (A v)).run P w=.ok () w'∧MapH kv A w' b (H9 l k v)∧Ev [b] w w':=by
 obtain ⟨es,c,h1,h2⟩:=h;have I:(getObj b).run P w=.ok (.map es c) w:=by simp only [getObj,Sem.run,h1]
 have ac:b<w.heap.size:=Am h1;have U:∀ o,(setObj b o).run P w=.ok () { w with heap:=w.heap.setIfInBounds b o }:=λo=>by simp only [setObj,Sem.run,h1]
 have fin:∀ (B:Array MapEntry) (c':Nat),B.toList.map (λe=>(e.key,e.val))=(H9 l k v).map (λx=>(kv x.1,A x.2))→
   MapH kv A { w with heap:=w.heap.setIfInBounds b (.map B c') } b (H9 l k v)∧Ev [b] w { w with heap:=w.heap.setIfInBounds b (.map B c') }:=by
  intro B c' hh;refine ⟨⟨B,c',by simp [ac],hh⟩,⟨rfl,rfl,rfl,by simp,λj hj J=>?_⟩⟩;simp only [M19] at J;exact M2z (M40 J)
 have H:=hk.find k _ _ w (K1 h2);cases hf:Dz k (l.map (·.1)) es.toList 0 with
 | some q=>
  obtain ⟨j,u⟩:=q;obtain ⟨_,e,G,Y⟩:=KC k _ _ 0 j u (K1 h2) hf;have O:=Rn k v l es.toList 0 j u h2 hf;simp only [M3f] at G O;obtain ⟨f1,E⟩:=fin (es.modify j λe=>{ e with key:=kv k,val:=A v }) c (by rw [Array.toList_modify];exact O);refine ⟨_,?_,f1,E⟩;unfold Instr.mapUpdate;rw [run_bind,run_underlying ht];simp only;rw [run_bind,I];simp only;rw [run_bind,hk.chk];simp only;rw [run_bind,H,hf];simp only;have ab:(Instr.keyThatStays (((es[j]?).map (·.key)).getD (kv k)) (kv k)).run P w=.ok (kv k) w:=by
   have:es[j]? = some e:=by rw [←M1E];exact G
   rw [this];simp only [M1W,M1G,Y];unfold Instr.keyThatStays;rw [M1d (hk.bits k)];rfl
  rw [run_bind,ab];exact U _
 | none=>
  have ad:=Ro k v c l es.toList 0 h2 hf;obtain ⟨f1,E⟩:=fin (es.push { key:=kv k,val:=A v,born:=c }) (c+1) (by rw [Array.toList_push];exact ad);refine ⟨_,?_,f1,E⟩;unfold Instr.mapUpdate;rw [run_bind,run_underlying ht];simp only;rw [run_bind,I];simp only;rw [run_bind,hk.chk];simp only;rw [run_bind,H,hf];exact U _
theorem run_makeMap{A:Nat}(ht:P.underlying t=some (.map kt A))(w:World)(r:Option Int)(k:IntKind):(Instr.makeMap t (r.map (.int k))).run P w=.ok (.map (some w.heap.size)) (w.alloc (.map #[] 0)):=by
 unfold Instr.makeMap;cases r with
 | none=>rfl
 | some n=>
  simp only [Option.map];rw [run_bind,run_underlying ht];rfl
end
end Go.V
namespace Go.E
open Go Go.V
inductive GC where
 | kn (c:Nat)
 | op (es:Nat)
inductive Ty where
 | int (k:IntKind)
 | bool
 | str
 | sl (t:Ty)
 | unit
 | pair (a b:Ty)
@[reducible] def Ty.den : Ty → Type
 | .int _=>Int
 | .bool=>Bool
 | .str=>List UInt8
 | .sl t=>List t.den
 | .unit=>Unit
 | .pair a b=>a.den×b.den
def Ty.sz:Ty→Nat
 | .unit=>0
 | .pair a b=>a.sz+b.sz
 | _=>1
inductive GV where
 | bool (b:Bool)
 | int (k:IntKind) (n:Int)
 | str (s:List UInt8)
 | nilp
 | ptr (b off:Nat)
 | nils
 | sl (b off len:Nat) (c:GC)
 | sle
 | nilm
 | map (b:Nat)
 | nilf
 | func (f:FuncId) (a c:List GV)
 | agg (l:List GV)
 | tup (l:List GV)
 | ro (t:Ty) (xs:List t.den)
 | rop (l:List GV) (off:Nat)
 | own (b:Nat)
 | elp (b:Nat) (t:Ty) (i off:Nat) (x:t.den)
 | mapo (b:Nat)
 | vw (b sz lo n:Nat) (cp:Option Nat)
def GV.ats:GV→List GV
 | .agg l=>l
 | v=>[v]
inductive GB where
 | cells (l:List GV)
 | map (es:List (GV×GV))
inductive Tr (α:Type) where
 | lf
 | nd (o:Option α) (l r:Tr α)
def Tr.get {α:Type}:Tr α→Nat→Option α
 | .lf,_=>none
 | .nd o l r,k=>match Nat.beq k 0 with
  | true=>o
  | false=>match Nat.beq (k%2) 1 with
   | true=>l.get (k / 2)
   | false=>r.get (k / 2-1)
def Tr.set {α:Type}:Nat→Tr α→Nat→Option α→Tr α
 | 0,t,_,_=>t
 | n+1,.lf,k,v=>match Nat.beq k 0 with
  | true=>.nd v .lf .lf
  | false=>match Nat.beq (k%2) 1 with
   | true=>.nd none (Tr.set n .lf (k / 2) v) .lf
   | false=>.nd none .lf (Tr.set n .lf (k / 2-1) v)
 | n+1,.nd o l r,k,v=>match Nat.beq k 0 with
  | true=>.nd v l r
  | false=>match Nat.beq (k%2) 1 with
   | true=>.nd o (Tr.set n l (k / 2) v) r
   | false=>.nd o l (Tr.set n r (k / 2-1) v)
abbrev GF:=Tr GV
structure JC where
 t:Ty
 T:TypeId
 xs:List t.den
 mu:Bool
structure St where
 h:Tr GB
 nx:Nat
 df:List FuncId
 ow:Tr JC
 lg:List Nat
def Z3:Value→Option GV
 | .bool b=>some (.bool b)
 | .int k n=>some (.int k n)
 | .string s=>some (.str s.data.toList)
 | .pointer none=>some .nilp
 | .slice none 0 0=>some .nils
 | .map none=>some .nilm
 | .nilFunc=>some .nilf
 | .func (.func f) ⟨[]⟩ ⟨[]⟩=>some (.func f [] [])
 | _=>none
def He:List Value→Option (List GV)
 | []=>some []
 | v::l=>match Z3 v with
  | some g=>match He l with
   | some r=>some (g::r)
   | none=>none
  | none=>none
def P1:Value→Option GV
 | .agg cs=>(He cs.toList).map .agg
 | .tuple cs=>(He cs.toList).map .tup
 | v=>Z3 v
def Bo (f:GF):Operand→Option GV
 | .tmp t=>f.get t
 | .const v=>P1 v
 | .func g=>some (.func g [] [])
 | .global _=>none
def EC (f:GF):List Operand→Option (List GV)
 | []=>some []
 | x::l=>match Bo f x with
  | some g=>match EC f l with
   | some r=>some (g::r)
   | none=>none
  | none=>none
def KD (f:GF):List (Nat×Operand)→Option (List (Nat×GV))
 | []=>some []
 | (i,x)::l=>match Bo f x with
  | some g=>match KD f l with
   | some r=>some ((i,g)::r)
   | none=>none
  | none=>none
def BG (P:Program) (t:TypeId):Option Nat:=(P.info? t).map (·.size)
def Z4 (P:Program) (t:TypeId):Option Bool:=match P.underlying t with
 | some (.struct _)=>some true
 | some (.array ..)=>some true
 | some _=>some false
 | none=>none
def pZ (P:Program) (t:TypeId):Option (TypeId×Nat):=match P.underlying t with
 | some (.slice e)=>match P.info? e with
  | some i=>match Nat.ble i.bytes 4096 with
   | true=>some (e,i.size)
   | false=>none
  | none=>none
 | _=>none
def Db (P:Program) (t:TypeId):Option (List GV):=match P.info? t with
 | some i=>match i.zero with
  | some z=>He z.cells.toList
  | none=>none
 | none=>none
def cut (l:List GV) (off n:Nat):Option (List GV):=let r:=(l.drop off).take n;if r.length=n then some r else none
def Bc (S:St) (b off n:Nat):Option (List GV):=match S.h.get b with
 | some (.cells l)=>cut l off n
 | _=>none
def part (P:Program) (t:TypeId) (l:List GV) (off:Nat):Option GV:=match Z4 P t with
 | some true=>match BG P t with
  | some n=>(cut l off n).map .agg
  | none=>none
 | some false=>l[off]?
 | none=>none
def KE (P:Program) (t:TypeId) (S:St) (b off:Nat):Option GV:=match S.h.get b with
 | some (.cells l)=>part P t l off
 | _=>none
def KF:Nat:=4194303
def AD:Nat:=22
def St.put (S:St) (b:Nat) (g:Option GB):Option St:=match Nat.blt b KF with
 | true=>some ⟨S.h.set AD b g,S.nx,S.df,S.ow,S.lg⟩
 | false=>none
def E0:GV→Bool
 | .agg _=>false
 | .tup _=>false
 | _=>true
def over (l:List GV) (off:Nat) (vs:List GV):Option (List GV):=
 if off+vs.length≤l.length∧vs.all E0=true then some (l.take off++(vs++l.drop (off+vs.length))) else none
def Gb (S:St) (b off:Nat) (vs:List GV):Option St:=match S.h.get b with
 | some (.cells l)=>match over l off vs with
  | some A=>S.put b (some (.cells A))
  | none=>none
 | _=>none
def newB (S:St) (name:Nat) (vs:List GV):Option St:=if vs.all E0=true then S.put name (some (.cells vs)) else none
def Gc (A:Nat→Option (Nat×Nat)):List GV→List (Nat×GV)→Option (List GV)
 | cells,[]=>some cells
 | cells,(i,v)::rest=>match A i with
  | none=>none
  | some (off,size)=>match Nat.beq v.ats.length size with
   | true=>match over cells off v.ats with
    | some c=>Gc A c rest
    | none=>none
   | false=>none
def HS (P:Program):List Field→Option (List (Nat×Nat))
 | []=>some []
 | f::l=>match BG P f.type with
  | some n=>match HS P l with
   | some r=>some ((f.offset,n)::r)
   | none=>none
  | none=>none
def rep (n:Nat) (z:List GV):List GV:=match n with
 | 0=>[]
 | n+1=>z++rep n z
def JD:Value→Option GV
 | .bool b=>some (.bool b)
 | .int k n=>some (.int k n)
 | _=>none
def KG (op:BinOp) (a b:List UInt8):Option GV:=match op with
 | .add=>if a.length+b.length≤4294967296 then some (.str (a++b)) else none
 | .eql=>some (.bool (a==b))
 | .neq=>some (.bool (!(a==b)))
 | .lss=>some (.bool (Op.bytesLess a b))
 | .leq=>some (.bool (Op.bytesLess a b||a==b))
 | .gtr=>some (.bool (!(Op.bytesLess a b||a==b)))
 | .geq=>some (.bool (!(Op.bytesLess a b)))
 | _=>none
def Ub (P:Program) (rec_:TypeId→GV→GV→Option Bool) (xs ys:List GV):List Field→Option Bool
 | []=>some true
 | f :: l => if f.name = "_" then none else match part P f.type xs f.offset, part P f.type ys f.offset with
  | some x,some y=>match rec_ f.type x y with
   | some true=>Ub P rec_ xs ys l
   | r=>r
  | _,_=>none
def iy (P:Program):Nat→TypeId→GV→GV→Option Bool
 | 0,_,_,_=>none
 | d+1,t,x,y=>match P.underlying t,x,y with
  | some .bool,.bool a,.bool b=>some (a==b)
  | some (.int _),.int k a,.int k' b=>if k=k' then some (a==b) else none
  | some .string,.str a,.str b=>some (a==b)
  | some (.pointer _),.nilp,.nilp=>some true
  | some (.pointer _),.nilp,.ptr _ _=>some false
  | some (.pointer _),.ptr _ _,.nilp=>some false
  | some (.slice _),.nils,.nils=>some true
  | some (.slice _),.nils,.sl ..=>some false
  | some (.slice _),.sl ..,.nils=>some false
  | some (.slice _),.nils,.sle=>some false
  | some (.slice _),.sle,.nils=>some false
  | some (.map ..),.nilm,.nilm=>some true
  | some (.map ..),.nilm,.map _=>some false
  | some (.map ..),.map _,.nilm=>some false
  | some (.struct fs),.agg xs,.agg ys=>if P.stoodInHeld t=true∨P.eqGuardType P.depth t=true then none else Ub P (iy P d) xs ys fs.toList
  | _,_,_=>none
def HT (P:Program) (op:BinOp) (t:TypeId) (x y:GV):Option GV:=match x,y with
 | .int k a,.int k' b=>match DY op (.int k a) (.int k' b) with
  | some v=>JD v
  | none=>none
 | .str a,.str b=>KG op a b
 | x,y=>match op with
  | .eql=>(iy P 20 t x y).map .bool
  | .neq=>(iy P 20 t x y).map λb=>.bool (!b)
  | _=>none
def gUn (op:UnOp) (x:GV):Option GV:=match op,x with
 | .not,.bool b=>some (.bool (!b))
 | .neg,.int k n=>some (.int k (k.wrap (0-n)))
 | _,_=>none
def byteOf:GV→Option UInt8
 | .int .u8 n=>some (UInt8.ofNat n.toNat)
 | _=>none
def K2:List GV→Option (List UInt8)
 | []=>some []
 | g::l=>match byteOf g with
  | some b=>match K2 l with
   | some r=>some (b::r)
   | none=>none
  | none=>none
def C7 (P:Program) (name:Nat) (s d:TypeId) (x:GV) (S:St):Option (GV×St):=match P.underlying s,P.underlying d,x with
 | some (.int _),some (.int k),.int _ n=>some (.int k (k.wrap n),S)
 | some .string,some .string,.str l=>some (.str l,S)
 | some .string,some (.slice e),.str l=>match P.underlying e with
  | some (.int .u8)=>if l.length≤4294967296 then (newB S name (l.map λb=>.int .u8 b.toNat)).map λS=>(.sl name 0 l.length (.op 1),S) else none
  | _=>none
 | some (.slice e),some .string,.nils=>match P.underlying e with
  | some (.int .u8)=>some (.str [],S)
  | _=>none
 | some (.slice e),some .string,.sl b off n _=>match P.underlying e with
  | some (.int .u8)=>match Bc S b off n with
   | some l=>(K2 l).map λl=>(.str l,S)
   | none=>none
  | _=>none
 | _,_,_=>none
def C4 (x:Option GV) (d m:Nat):Option Nat:=match x with
 | none=>if d≤m then some d else none
 | some (.int _ n)=>if 0≤n∧n≤m then some n.toNat else none
 | _=>none
def ED (P:Program) (t:TypeId) (S:St) (x:GV) (lo hi mx:Option GV):Option GV:=match P.underlying t,x with
 | some .string,.str s=>match mx with
  | some _=>none
  | none=>match C4 hi s.length s.length with
   | some h=>match C4 lo 0 h with
    | some l=>some (.str ((s.drop l).take (h-l)))
    | none=>none
   | none=>none
 | some (.slice e),.nils=>match C4 mx 0 0,C4 hi 0 0,C4 lo 0 0 with
  | some _,some _,some _=>match mx,hi with
   | some _,none=>none
   | _,_=>match BG P e with
    | some _=>some .nils
    | none=>none
  | _,_,_=>none
 | some (.slice e),.sl b off len (.kn c)=>match BG P e with
  | none=>none
  | some es=>match mx with
   | none=>match C4 hi len c with
    | none=>none
    | some h=>match C4 lo 0 h with
     | none=>none
     | some l=>some (.sl b (if c=l then off else off+l*es) (h-l) (.kn (c-l)))
   | some _=>none
 | some (.slice e),.sl b off len (.op es)=>match BG P e,S.h.get b with
  | some es',some (.cells cs)=>match Nat.beq es es',Nat.blt 0 es with
   | true,true=>match mx with
    | some _=>(match hi with
     | none=>none
     | some _=>match C4 mx 0 ((cs.length-off) / es) with
      | none=>none
      | some m=>match C4 hi 0 m with
       | none=>none
       | some h=>match C4 lo 0 h with
        | none=>none
        | some l=>some (.sl b (if m=l then off else off+l*es) (h-l) (.kn (m-l))))
    | none=>match C4 hi len ((cs.length-off) / es) with
     | none=>none
     | some h=>match C4 lo 0 h with
      | none=>none
      | some l=>if l=0∨l<(cs.length-off) / es then some (.sl b (off+l*es) (h-l) (.op es)) else if h=l then some .sle else none
   | _,_=>none
  | _,_=>none
 | _,_=>none
def DA (P:Program) (s:TypeId) (f:Nat):Option (Nat×TypeId):=match P.underlying s with
 | some (.struct fs)=>match fs.toList[f]? with
  | some f=>some (f.offset,f.type)
  | none=>none
 | _=>none
def X2 (i:GV) (len:Nat):Option Nat:=match i with
 | .int _ n=>if 0≤n∧n<len then some n.toNat else none
 | _=>none
def EE (P:Program) (t:TypeId) (x i:GV):Option GV:=match P.underlying t,x with
 | some (.slice e),.sl b off len _=>match X2 i len,BG P e with
  | some k,some es=>some (.ptr b (off+k*es))
  | _,_=>none
 | _,_=>none
def J5 (P:Program) (t:TypeId) (x i:GV):Option GV:=match P.underlying t,x with
 | some (.array n e),.agg l=>match X2 i n,BG P e with
  | some k,some es=>part P e l (k*es)
  | _,_=>none
 | some .string,.str s=>match X2 i s.length with
  | some k=>match s[k]? with
   | some b=>some (.int .u8 b.toNat)
   | none=>none
  | none=>none
 | _,_=>none
def Z5:TypeDesc→GV→GV→Option Bool
 | .int _,.int k a,.int k' b=>if k=k' then some (a==b) else none
 | .string,.str a,.str b=>some (a==b)
 | .bool,.bool a,.bool b=>some (a==b)
 | _,_,_=>none
def P2 (d:TypeDesc) (k:GV):List (GV×GV)→Nat→Option (Option (Nat×GV))
 | [],_=>some none
 | (a,v)::es,i=>match Z5 d k a with
  | some true=>some (some (i,v))
  | some false=>P2 d k es (i+1)
  | none=>none
def qO:TypeDesc→Bool
 | .int _=>true
 | .string=>true
 | .bool=>true
 | _=>false
def P3 (S:St):GV→Option (List (GV×GV))
 | .nilm=>some []
 | .map b=>match S.h.get b with
  | some (.map es)=>some es
  | _=>none
 | _=>none
def okG (ok:Bool) (v:GV) (b:Bool):GV:=match ok with
 | true=>.tup [v,.bool b]
 | false=>v
def GE (P:Program) (t:TypeId) (S:St) (x i:GV) (ok:Bool):Option GV:=match P.underlying t with
 | some (.map kt et)=>match P.underlying kt with
  | some d=>match qO d,P3 S x with
   | true,some es=>match P2 d i es 0 with
    | some (some (_,v))=>some (okG ok v true)
    | some none=>match P.info? et with
     | some A=>match A.zero with
      | some z=>match P1 z with
       | some v=>some (okG ok v false)
       | none=>none
      | none=>none
     | none=>none
    | none=>none
   | _,_=>none
  | none=>none
 | _=>none
def setAt:List (GV×GV)→Nat→GV→GV→List (GV×GV)
 | [],_,_,_=>[]
 | _::es,0,k,v=>(k,v)::es
 | e::es,n+1,k,v=>e::setAt es n k v
def HU (P:Program) (t:TypeId) (S:St) (m k v:GV):Option St:=match P.underlying t,m with
 | some (.map kt et),.map b=>match P.underlying kt,S.h.get b with
  | some d,some (.map es)=>match qO d,P2 d k es 0 with
   | true,some (some (i,_))=>S.put b (some (.map (setAt es i k v)))
   | true,some none=>S.put b (some (.map (es++[(k,v)])))
   | _,_=>none
  | _,_=>none
 | _,_=>none
def Z6 (S:St) (es:Nat):GV→Option (Nat×List GV)
 | .nils=>some (0,[])
 | .sle=>some (0,[])
 | .sl b off n _=>(Bc S b off (n*es)).map λl=>(n,l)
 | .str s=>some (s.length,s.map λb=>.int .u8 b.toNat)
 | _=>none
def q9:GV→Bool
 | .str _=>true
 | _=>false
def yL:TypeDesc→Bool
 | .slice _=>true
 | .string=>true
 | _=>false
def EF (P:Program) (name:Nat) (t A:TypeId) (S:St) (s x:GV):Option (GV×St):=match pZ P t,P.underlying A with
 | some (e,es),some d2=>match yL d2&&(!(q9 x)||Nat.beq es 1)&&Nat.blt 0 es,Db P e,Z6 S es x with
  | true,some z,some (n,new)=>match Nat.ble n 1000000&&Nat.beq z.length es with
   | false=>none
   | true=>match Nat.beq n 0,s with
    | true,.nils=>some (.nils,S)
    | true,.sl b off len c=>some (.sl b off len c,S)
    | true,_=>none
    | false,.nils=>(newB S name new).map λS=>(.sl name 0 n (.op es),S)
    | false,.sl b off len (.kn c)=>match Nat.blt c (len+n)&&Nat.ble len 1000000 with
     | true=>match Bc S b off (len*es) with
      | some old=>(newB S name (old++new)).map λS=>(.sl name 0 (len+n) (.op es),S)
      | none=>none
     | false=>none
    | false,.sl b off len (.op es')=>match Nat.beq es es'&&Nat.ble len 1000000,Bc S b off (len*es) with
     | true,some old=>match S.put b none with
      | some S=>(newB S name (old++new)).map λS=>(.sl name 0 (len+n) (.op es),S)
      | none=>none
     | _,_=>none
    | false,_=>none
  | _,_,_=>none
 | _,_=>none
def J6 (P:Program) (t:TypeId) (S:St) (x:GV):Option (GV×St):=match pZ P t,x with
 | some (e,es),.sl b off (len+1) _=>match Db P e with
  | some z=>if z.length=es then (Gb S b off (rep (len+1) z)).map λS=>(.tup [],S) else none
  | none=>none
 | some _,.sl b off 0 _=>some (.tup [],S)
 | some _,.sle=>some (.tup [],S)
 | some _,.nils=>some (.tup [],S)
 | _,_=>none
def Rq:GV→List GV→Option GV
 | v,[]=>some v
 | .int k a,.int _ b::l=>Rq (.int k (if b>a then b else a)) l
 | _,_=>none
def Uc (P:Program) (t:TypeId) (S:St) (x:GV):Option Nat:=match P.underlying t,x with
 | some .string,.str s=>some s.length
 | some (.slice _),.nils=>some 0
 | some (.slice _),.sle=>some 0
 | some (.slice _),.sl _ _ n _=>some n
 | some (.map ..),.nilm=>some 0
 | some (.map ..),.map b=>match S.h.get b with
  | some (.map es)=>some es.length
  | _=>none
 | _,_=>none
def CU (P:Program) (name:Nat) (b:Builtin) (ts:List TypeId) (args:List GV) (S:St):Option (GV×St):=match b,ts,args with
 | .len,[t],[x]=>(Uc P t S x).map λ(n:Nat)=>(.int .i64 n,S)
 | .append,[t,t2],[s,x]=>EF P name t t2 S s x
 | .clear,[t],[x]=>J6 P t S x
 | .max,_,x::l=>(Rq x l).map λv=>(v,S)
 | _,_,_=>none
def Z7:List (Nat×List GV):=[(0,[.str [97],.str [98],.str [99],.str [100],.str [101],.str [102,97,114]])]
abbrev Cl:=FuncId→List GV→St→Option (GV×St)
def qP:GV→Bool
 | .ptr ..=>false
 | .func ..=>false
 | _=>true
def KH (f:GF):Option Operand→Option (Option GV)
 | none=>some none
 | some x=>(Bo f x).map some
def J7 (P:Program) (call:Cl) (name:Nat) (o:Oper) (f:GF) (S:St):Option (GV×St):=match o.op with
 | .move x=>(Bo f x).map λv=>(v,S)
 | .assign x=>(Bo f x).map λv=>(v,S)
 | .pick c a b=>match Bo f c with
  | some (.bool true)=>(Bo f a).map λv=>(v,S)
  | some (.bool false)=>(Bo f b).map λv=>(v,S)
  | _=>none
 | .alloc t=>match Db P t with
  | some z=>(newB S name z).map λS=>(.ptr name 0,S)
  | none=>none
 | .box _ x=>match Bo f x with
  | some v=>(newB S name v.ats).map λS=>(.ptr name 0,S)
  | none=>none
 | .build t A=>match Db P t,KD f A.toList,P.underlying t with
  | some z,some ps,some (.struct fs)=>match HS P fs.toList with
   | some pl=>(Gc (λi=>pl[i]?) z ps).map λc=>(.agg c,S)
   | none=>none
  | some z,some ps,some (.array _ e)=>match BG P e with
   | some n=>(Gc (λi=>some (i*n,n)) z ps).map λc=>(.agg c,S)
   | none=>none
  | _,_,_=>none
 | .buildSlice t len A=>match pZ P t,KD f A.toList with
  | some (e,n),some ps=>match Db P e with
   | some z=>if len*n≤65536∧z.length=n then (match Gc (λi=>some (i*n,n)) (rep len z) ps with
    | some c=>(newB S name c).map λS=>(.sl name 0 len (.kn len),S)
    | none=>none) else none
   | none=>none
  | _,_=>none
 | .load t a=>match Bo f a with
  | some (.ptr b off)=>(KE P t S b off).map λv=>(v,S)
  | _=>none
 | .store t a x=>match Bo f a,Bo f x,BG P t with
  | some (.ptr b off),some v,some n=>match Nat.beq v.ats.length n with
   | true=>(Gb S b off v.ats).map λS=>(.tup [],S)
   | false=>none
  | _,_,_=>none
 | .nilCheck x=>match Bo f x with
  | some v=>match qP v with
   | false=>some (v,S)
   | true=>none
  | none=>none
 | .binOp op t x y _=>match Bo f x,Bo f y with
  | some x,some y=>(HT P op t x y).map λv=>(v,S)
  | _,_=>none
 | .unOp op _ x=>match Bo f x with
  | some x=>(gUn op x).map λv=>(v,S)
  | none=>none
 | .convert s d x=>match Bo f x with
  | some x=>C7 P name s d x S
  | none=>none
 | .makeFunc (.func g) a c=>match EC f a.toList,EC f c.toList with
  | some a,some c=>some (.func g a c,S)
  | _,_=>none
 | .makeMap t none=>(S.put name (some (.map []))).map λS=>(.map name,S)
 | .makeSlice t l c=>match pZ P t,Bo f l,Bo f c with
  | some (e,n),some (.int _ l),some (.int _ c)=>match Db P e with
   | some z=>if 0≤l∧l≤c∧c≤65536∧z.length=n then (newB S name (rep c.toNat z)).map λS=>(.sl name 0 l.toNat (.kn c.toNat),S) else none
   | none=>none
  | _,_,_=>none
 | .slice t x lo hi mx=>match Bo f x,KH f lo,KH f hi,KH f mx with
  | some x,some lo,some hi,some mx=>(ED P t S x lo hi mx).map λv=>(v,S)
  | _,_,_,_=>none
 | .fieldAddr s x i=>match Bo f x,DA P s i with
  | some (.ptr b off),some (o,t)=>match BG P t with
   | some (_+1)=>some (.ptr b (off+o),S)
   | _=>none
  | _,_=>none
 | .field s x i=>match Bo f x,DA P s i with
  | some (.agg l),some (o,t)=>(part P t l o).map λv=>(v,S)
  | _,_=>none
 | .indexAddr t x i=>match Bo f x,Bo f i with
  | some x,some i=>(EE P t x i).map λv=>(v,S)
  | _,_=>none
 | .index t x i=>match Bo f x,Bo f i with
  | some x,some i=>(J5 P t x i).map λv=>(v,S)
  | _,_=>none
 | .lookup t x i ok=>match Bo f x,Bo f i with
  | some x,some i=>(GE P t S x i ok).map λv=>(v,S)
  | _,_=>none
 | .mapUpdate t m k v=>match Bo f m,Bo f k,Bo f v with
  | some m,some k,some v=>(HU P t S m k v).map λS=>(.tup [],S)
  | _,_,_=>none
 | .extract x i=>match Bo f x with
  | some (.tup l)=>(l[i]?).map λv=>(v,S)
  | _=>none
 | .defer c=>match c.callee,c.args.toList with
  | .value g,[]=>match Bo f g with
   | some (.func g _ _)=>some (.tup [],⟨S.h,S.nx,g::S.df,S.ow,S.lg⟩)
   | _=>none
  | _,_=>none
 | .call c=>match EC f c.args.toList with
  | some args=>match c.callee with
   | .value g=>match Bo f g with
    | some (.func g a e)=>call g (a++(args++e)) S
    | _=>none
   | .builtin b=>CU P name b c.argTypes.toList args S
   | _=>none
  | none=>none
 | _=>none
def Gd (ops:List Oper) (o:Oper) (f:GF):Option Bool:=match o.guard with
 | none=>some true
 | some (j,want)=>match ops[j]? with
  | some p=>match p.dst with
   | some d=>match f.get d with
    | some (.bool b)=>some (b==want)
    | some _=>some false
    | none=>none
   | none=>none
  | none=>none
def PV (n:Nat) (f:GF) (d:Option Tmp) (v:GV):Option GF:=match d with
 | none=>some f
 | some d=>match Nat.blt d n,Nat.blt d KF with
  | true,true=>some (f.set AD d (some v))
  | _,_=>none
structure GO where
 run:Nat→Oper→GF→St→Option (GV×St)
 fl:Oper→GF→Bool
def stepG (op:GO) (n:Nat) (ops:List Oper) (base i:Nat) (o:Oper) (f:GF) (S:St):Option (GF×St):=match Gd ops o f with
 | some true=>match op.run (base+i) o f S with
  | some (v,S)=>(PV n f o.dst v).map λf=>(f,S)
  | none=>none
 | some false=>(PV n f o.dst (.tup [])).map λf=>(f,S)
 | none=>none
def OK (op:GO) (n:Nat) (ops:List Oper) (base:Nat):List Oper→Nat→GF→St→Option (GF×St)
 | [],_,f,S=>some (f,S)
 | o::l,i,f,S=>match stepG op n ops base i o f S with
  | some (f,S)=>OK op n ops base l (i+1) f S
  | none=>none
inductive GX where
 | nrm
 | exit (id:Nat)
 | ret
def P4 (body:GF→St→Option (GX×GF×St)):Nat→GF→St→Option (GX×GF×St)
 | 0,_,_=>none
 | L+1,f,S=>match body f S with
  | some (.nrm,f,S)=>P4 body L f S
  | r=>r
def gcb:GC→GC→Bool
 | .kn c,.kn d=>Nat.beq c d
 | .op c,.op d=>Nat.beq c d
 | _,_=>false
mutual
def GV.beq:GV→GV→Bool
 | .bool a,.bool b=>a==b
 | .int k a,.int k' b=>match decide (k=k') with
  | true=>decide (a=b)
  | false=>false
 | .str a,.str b=>decide (a=b)
 | .nilp,.nilp=>true
 | .ptr a i,.ptr b j=>Nat.beq a b&&Nat.beq i j
 | .nils,.nils=>true
 | .sle,.sle=>true
 | .sl a i l c,.sl b j m d=>Nat.beq a b&&Nat.beq i j&&Nat.beq l m&&gcb c d
 | .nilm,.nilm=>true
 | .map a,.map b=>Nat.beq a b
 | .nilf,.nilf=>true
 | .func f a c,.func g b d=>Nat.beq f g&&Rs a b&&Rs c d
 | .agg a,.agg b=>Rs a b
 | .tup a,.tup b=>Rs a b
 | _,_=>false
def Rs:List GV→List GV→Bool
 | [],[]=>true
 | x::l,y::m=>GV.beq x y&&Rs l m
 | _,_=>false
end
def yM:Option GB→Option GB→Bool
 | none,none=>true
 | some (.cells a),some (.cells b)=>Rs a b
 | some (.map []),some (.map [])=>true
 | _,_=>false
def JE {α:Type}:Option α→Bool
 | none=>true
 | some _=>false
def Cy:Op→Bool
 | .call c=>match c.callee with
  | .builtin .len | .builtin .cap | .builtin .min | .builtin .max=>true
  | _=>false
 | .store .. | .mapUpdate .. | .insert .. | .defer ..=>false
 | _=>true
def HV (ops:Array Oper) (i:Nat) (o:Oper):Bool:=match o.dst with
 | none=>true
 | some d=>(List.range ops.size).all λj=>match ops[j]? with
  | none=>true
  | some p=>!((p.looksAt ops).any (Nat.beq d))||(!(Nat.beq j i)&&HQ ops 8 j i)
def Rt (op:GO) (ops:Array Oper) (i:Nat) (o:Oper) (f:GF):Bool:=HV ops i o&&(op.fl o f||(match Gd ops.toList o f with | some false=>true | _=>false))
def Bx (l:List Nat) (i:Nat):Bool:=l.any (Nat.beq i)
def BU (o:Oper) (done:List Nat):Bool:=o.after.toList.all λe=>!(Region.binds .any e)||Bx done e.on
def Ud (op:GO) (ops:Array Oper) (base:Nat) (f:GF) (S:St) (i:Nat):Bool:=match ops[i]? with
 | none=>false
 | some o=>HV ops i o&&match Gd ops.toList o f with
  | some true=>op.fl o f&&(match op.run (base+i) o f S with
   | some (v,S')=>yM (S'.h.get (base+i)) (S.h.get (base+i))&&JE (S'.ow.get (base+i))&&JE (S.ow.get (base+i))&&(match o.dst with
    | none=>true
    | some d=>match f.get d with
     | some u=>GV.beq v u
     | none=>false)
   | none=>false)
  | some false=>(match o.dst with
   | none=>true
   | some d=>match f.get d with
    | some u=>GV.beq (.tup []) u
    | none=>false)
  | none=>false
def Ue (op:GO) (n:Nat) (ops:Array Oper) (base:Nat):List (Nat×Oper)→List Nat→List Nat→GF→St→Option (List (Nat×Oper)×List Nat×List Nat×GF×St)
 | [],done,loose,f,S=>some ([],done,loose,f,S)
 | (i,o)::l,done,loose,f,S=>match BU o done&&Rt op ops i o f with
  | true=>match stepG op n ops.toList base i o f S with
   | some (f,S)=>Ue op n ops base l (i::done) (i::loose) f S
   | none=>none
  | false=>match Ue op n ops base l done loose f S with
   | some (rem,r)=>some ((i,o)::rem,r)
   | none=>none
def iH (op:GO) (n:Nat) (ops:Array Oper) (base:Nat):Nat→List (Nat×Oper)→List Nat→List Nat→GF→St→Option (GF×St)
 | 0,_,_,_,_,_=>none
 | k+1,rem,done,loose,f,S=>match Ue op n ops base rem done loose f S with
  | some (rem,done,loose,f,S)=>match loose.all (Ud op ops base f S) with
   | false=>none
   | true=>match rem.filter (λp=>BU p.2 done) with
    | []=>match rem with
     | []=>some (f,S)
     | _=>none
    | [(m,o)]=>match stepG op n ops.toList base m o f S with
     | some (f,S)=>iH op n ops base k (rem.filter λp=>!(Nat.beq p.1 m)) (m::done) (loose.filter λi=>!(HQ ops 8 m i)) f S
     | none=>none
    | _=>none
  | none=>none
def B1:List Oper→Nat→List (Nat×Oper)
 | [],_=>[]
 | o::l,i=>(i,o)::B1 l (i+1)
def KI (ops:Array Oper):Bool:=(List.range ops.size).all λi=>match ops[i]? with
 | none=>true
 | some o=>o.after.toList.all λe=>!(Region.binds .any e)||Nat.blt e.on i
def gC (op:GO) (L n:Nat):Code→GF→St→Option (GX×GF×St)
 | .skip,f,S=>some (.nrm,f,S)
 | .label _,f,S=>some (.nrm,f,S)
 | .ret,f,S=>some (.ret,f,S)
 | .exit id,f,S=>some (.exit id,f,S)
 | .seq a b,f,S=>match gC op L n a f S with
  | some (.nrm,f,S)=>gC op L n b f S
  | r=>r
 | .cond c x y,f,S=>match Bo f c with
  | some (.bool true)=>gC op L n x f S
  | some (.bool false)=>gC op L n y f S
  | _=>none
 | .block id c,f,S=>match gC op L n c f S with
  | some (.exit id',f,S)=>match Nat.beq id' id with
   | true=>some (.nrm,f,S)
   | false=>some (.exit id',f,S)
  | r=>r
 | .loop c,f,S=>P4 (gC op L n c) L f S
 | .region _ ops false,f,S=>match OK op n ops.toList S.nx ops.toList 0 f ⟨S.h,S.nx+ops.size,S.df,S.ow,S.lg⟩ with
  | some (f,S)=>some (.nrm,f,S)
  | none=>none
 | .region _ ops true,f,S=>match KI ops&&OY n ops.toList with
  | true=>match iH op n ops S.nx (ops.size+1) (B1 ops.toList 0) [] [] f ⟨S.h,S.nx+ops.size,S.df,S.ow,S.lg⟩ with
   | some (f,S)=>some (.nrm,f,S)
   | none=>none
  | false=>none
 | _,_,_=>none
def BL:List GV→Nat→GF→GF
 | [],_,f=>f
 | v::l,i,f=>BL l (i+1) (f.set AD i (some v))
def J8 (P:Program) (f:GF) (S:St):List ResultVar→Option (List GV)
 | []=>some []
 | .tmp t::l=>match f.get t with
  | some v=>match J8 P f S l with
   | some r=>some (v::r)
   | none=>none
  | none=>none
 | .cell a t::l=>match f.get a with
  | some (.ptr b off)=>match KE P t S b off with
   | some v=>match J8 P f S l with
    | some r=>some (v::r)
    | none=>none
   | none=>none
  | _=>none
def EZ:List GV→GV
 | [v]=>v
 | vs=>.tup vs
def Hf (P:Program) (g:FuncId):Bool:=match P.funcs[g]? with
 | some fn=>match fn.results.toList,fn.body with
  | [],some (.seq (.region _ ⟨[o,q]⟩ false) (.cond (.tmp t) _ .skip))=>match o.guard,q.guard,o.op,q.op,o.dst,q.dst with
   | none,none,.call ⟨.builtin .recover,⟨[]⟩,_⟩,.binOp .neq ty (.tmp d) (.const .nilIface) _,some d',some t'=>
    Nat.beq d d'&&Nat.beq t t'&&Nat.blt d fn.ntmps&&Nat.blt t fn.ntmps&&(match P.underlying ty with | some (.interface _)=>true | _=>false)
   | _,_,_,_,_,_=>false
  | _,_=>false
 | none=>false
def iI (P:Program) (L:Nat):Nat→Cl
 | 0,_,_,_=>none
 | k+1,g,args,S=>match P.funcs[g]? with
  | none=>none
  | some fn=>match fn.body with
   | none=>none
   | some c=>match Nat.ble args.length fn.ntmps&&Nat.ble args.length 1000 with
    | false=>none
    | true=>match gC ⟨J7 P (iI P L k),λo _=>Cy o.op⟩ L fn.ntmps c (BL args 0 .lf) ⟨S.h,S.nx,[],S.ow,S.lg⟩ with
     | some (.exit _,_,_)=>none
     | some (_,f,S')=>match S'.df.all (Hf P) with
      | true=>match J8 P f S' fn.results.toList with
       | some vs=>some (EZ vs,⟨S'.h,S'.nx,S.df,S'.ow,S'.lg⟩)
       | none=>none
      | false=>none
     | none=>none
def qa (P : Program) : Bool := P.funcs.toList.all λfn => !(fn.name == "runtime.NumGoroutine")
def yN (P:Program) (L k g:Nat):Bool:=match iI P L k g [] ⟨.lf,0,[],.lf,[]⟩ with
 | some (.bool b,_)=>b
 | _=>false
section
def eT:(t:Ty)→Enc t.den
 | .int k=>AZ k
 | .bool=>yE
 | .str=>M37
 | .sl t=>eSl (eT t)
 | .unit=>yF
 | .pair a b=>yG (eT a) (eT b)
structure Ren where
 m:Nat→Option (Nat×Nat×Nat)
 ov:Nat→Option (Option Addr×Nat×Nat)
 zw:World
 zM:List Nat
instance:CoeFun Ren (λ_=>Nat→Option (Nat×Nat×Nat)):=⟨Ren.m⟩
structure Le (p q:Ren):Prop where
 m:∀ b x,p b=some x→q b=some x
 o:∀ b x,p.ov b=some x→q.ov b=some x
 z:Stp p.zM p.zw q.zM q.zw
theorem Stp.trans {M M' A:List Nat}{w w' B:World}(h:Stp M w M' w')(k:Stp M' w' A B):Stp M w A B:=
 ⟨⟨k.ev.os.trans h.ev.os,k.ev.tape.trans h.ev.tape,k.ev.output.trans h.ev.output,M1B h.ev.size k.ev.size,λb hb hm=>by
  rw [k.ev.block b (M1D hb h.ev.size) λE=>(h.new b E).elim hm λe=>by omega];exact h.ev.block b hb hm⟩,λb hb=>(k.new b hb).elim (h.new b) λe=>.inr (M1B h.ev.size e)⟩
theorem Le.refl (p:Ren):Le p p:=⟨λ_ _ h=>h,λ_ _ h=>h,Stp.sub _ λ_ h=>h⟩
variable {p:Ren}
theorem Le.trans {q r:Ren}(h:Le p q)(k:Le q r):Le p r:=⟨λb x A=>k.m b x (h.m b x A),λb x A=>k.o b x (h.o b x A),Stp.trans h.z k.z⟩
def RC (off n len cap:Nat):GC→Prop
 | .kn c=>cap=c∧len≤c
 | .op es=>off+cap*es=n∧len≤cap
mutual
def RV (p:Ren):GV→Value→Prop
 | .bool b,v=>v=.bool b
 | .int k n,v=>v=.int k n
 | .str s,v=>v=Vs s
 | .nilp,v=>v=.pointer none
 | .ptr b off,v=>∃ r base n,p b=some (r,base,n)∧v=.pointer (some ⟨r,base+off,none⟩)
 | .nils,v=>v=.slice none 0 0
 | .sl b off len c,v=>∃ r base n cap,p b=some (r,base,n)∧v=.slice (some ⟨r,base+off,none⟩) len cap∧RC off n len cap c
 | .sle,v=>∃ a c,v=.slice (some a) 0 c
 | .nilm,v=>v=.map none
 | .map b,v=>∃ r,p b=some (r,0,0)∧v=.map (some r)
 | .nilf,v=>v=.nilFunc
 | .func f a c,v=>∃ A B,v=.func (.func f) A.toArray B.toArray∧RVs p a A∧RVs p c B
 | .agg l,v=>∃ vs,v=.agg vs.toArray∧RVs p l vs
 | .tup l,v=>∃ vs,v=.tuple vs.toArray∧RVs p l vs
 | .ro t xs,v=>(eT (.sl t)).R p.zw p.zM [v] xs
 | .rop l off,v=>∃ ad vs,v=.pointer (some ⟨ad.block,ad.off+off,none⟩)∧CellsAt p.zw p.zM ad vs∧RVs p l vs
 | .own b,v=>∃ a n c,v=.slice a n c∧p.ov b=some (a,n,c)∧c≤maxLen
 | .elp b t i off x,v=>∃ g n c,p.ov b=some (some ⟨g,0,none⟩,n,c)∧i<n∧v=.pointer (some ⟨g,i*t.sz+off,none⟩)∧c≤maxLen
 | .mapo b,v=>∃ g n c,p.ov b=some (some ⟨g,0,none⟩,n,c)∧maxLen<c∧v=.map (some g)
 | .vw b sz lo n cp,v=>∃ a m c k,p.ov b=some (a,m,c)∧c≤maxLen∧lo+n≤m∧n≤k∧lo+k≤c∧(cp=some k∨(cp=none∧lo+k=c))∧v=.slice (if lo+k=lo then a else a.map (·.add (lo*sz))) n k
def RVs (p:Ren):List GV→List Value→Prop
 | [],[]=>True
 | g::l,v::vs=>RV p g v∧RVs p l vs
 | [],_::_=>False
 | _::_,[]=>False
end
mutual
theorem RV.mono {p q:Ren}(h:Le p q):∀ (g:GV) (v:Value),RV p g v→RV q g v
 | .bool _,_,r=>r
 | .int _ _,_,r=>r
 | .str _,_,r=>r
 | .nilp,_,r=>r
 | .ptr b off,_,⟨r,base,n,h1,h2⟩=>⟨r,base,n,h.m _ _ h1,h2⟩
 | .nils,_,r=>r
 | .sl b off len c,_,⟨r,base,n,cap,h1,h2⟩=>⟨r,base,n,cap,h.m _ _ h1,h2⟩
 | .sle,_,r=>r
 | .nilm,_,r=>r
 | .map b,_,⟨r,h1,h2⟩=>⟨r,h.m _ _ h1,h2⟩
 | .nilf,_,r=>r
 | .func f a c,_,⟨va,vc,h1,h2,h3⟩=>⟨va,vc,h1,RVs.mono h a va h2,RVs.mono h c vc h3⟩
 | .agg l,_,⟨vs,h1,h2⟩=>⟨vs,h1,RVs.mono h l vs h2⟩
 | .tup l,_,⟨vs,h1,h2⟩=>⟨vs,h1,RVs.mono h l vs h2⟩
 | .ro t xs,_,r=>(eT (.sl t)).step r h.z
 | .rop l off,_,⟨ad,vs,h1,h2,h3⟩=>⟨ad,vs,h1,h2.step h.z,RVs.mono h l vs h3⟩
 | .own b,_,⟨a,n,c,h1,h2,h3⟩=>⟨a,n,c,h1,h.o _ _ h2,h3⟩
 | .elp b t i off x,_,⟨g,n,c,h1,h2⟩=>⟨g,n,c,h.o _ _ h1,h2⟩
 | .mapo b,_,⟨g,n,c,h1,h2⟩=>⟨g,n,c,h.o _ _ h1,h2⟩
 | .vw b sz lo n cp,_,⟨a,m,c,k,h1,h2⟩=>⟨a,m,c,k,h.o _ _ h1,h2⟩
theorem RVs.mono {p q:Ren}(h:Le p q):∀ (l:List GV) (vs:List Value),RVs p l vs→RVs q l vs
 | [],[],_=>trivial
 | g::l,v::vs,⟨h1,h2⟩=>⟨RV.mono h g v h1,RVs.mono h l vs h2⟩
 | [],_::_,h=>h.elim
 | _::_,[],h=>h.elim
end
theorem RVs.length {p:Ren}:∀ {l:List GV} {vs:List Value},RVs p l vs→vs.length=l.length
 | [],[],_=>rfl
 | g::l,v::vs,⟨h1,h2⟩=>by simp [RVs.length h2]
 | [],_::_,h=>h.elim
 | _::_,[],h=>h.elim
theorem RVs.get {p:Ren}:∀ {l:List GV} {vs:List Value} {i:Nat} {g:GV},RVs p l vs→l[i]? = some g→∃ v,vs[i]? = some v∧RV p g v
 | g::l,v::vs,0,_,⟨h1,h2⟩,h=>by cases h;exact ⟨v,rfl,h1⟩
 | g::l,v::vs,i+1,_,⟨h1,h2⟩,h=>RVs.get (l:=l) (vs:=vs) (i:=i) h2 (by simpa using h)
 | [],[],_,_,_,h=>by cases h
 | [],_::_,_,_,h,_=>h.elim
 | _::_,[],_,_,h,_=>h.elim
theorem RVs.drop {p:Ren}:∀ {l:List GV} {vs:List Value} (n:Nat),RVs p l vs→RVs p (l.drop n) (vs.drop n)
 | l,vs,0,h=>h
 | g::l,v::vs,n+1,⟨h1,h2⟩=>RVs.drop n h2
 | [],[],n+1,_=>trivial
 | [],_::_,_,h=>h.elim
 | _::_,[],_,h=>h.elim
theorem RVs.take {p:Ren}:∀ {l:List GV} {vs:List Value} (n:Nat),RVs p l vs→RVs p (l.take n) (vs.take n)
 | l,vs,0,h=>trivial
 | g::l,v::vs,n+1,⟨h1,h2⟩=>⟨h1,RVs.take n h2⟩
 | [],[],n+1,_=>trivial
 | [],_::_,_,h=>h.elim
 | _::_,[],_,h=>h.elim
theorem RVs.append {p:Ren}:∀ {l m:List GV} {vs A:List Value},RVs p l vs→RVs p m A→RVs p (l++m) (vs++A)
 | [],m,[],A,_,h=>h
 | g::l,m,v::vs,A,⟨h1,h2⟩,h=>⟨h1,RVs.append h2 h⟩
 | [],_,_::_,_,h,_=>h.elim
 | _::_,_,[],_,h,_=>h.elim
theorem RVs.rep {p:Ren}{z:List GV}{zs:List Value}(h:RVs p z zs):∀ n,∃ A,RVs p (rep n z) A∧A=(List.replicate n zs).flatten
 | 0=>⟨[],trivial,rfl⟩
 | n+1=>let ⟨A,h1,h2⟩:=RVs.rep h n;⟨zs++A,RVs.append h h1,by rw [h2,M3R,M2H]⟩
variable {g:GV}{v:Value}
theorem RV.ats(h:RV p g v):RVs p g.ats v.cells.toList:=by
 cases g <;> simp only [RV] at h <;> simp only [GV.ats]
 case agg l=>obtain ⟨vs,rfl,h⟩:=h;simpa [Value.cells] using h
 case bool=>subst h;exact ⟨rfl,trivial⟩
 case int=>subst h;exact ⟨rfl,trivial⟩
 case str=>subst h;exact ⟨rfl,trivial⟩
 case nilp=>subst h;exact ⟨rfl,trivial⟩
 case ptr=>obtain ⟨r,base,n,h1,rfl⟩:=h;exact ⟨⟨r,base,n,h1,rfl⟩,trivial⟩
 case nils=>subst h;exact ⟨rfl,trivial⟩
 case sl=>obtain ⟨r,base,n,cap,h1,rfl,h2⟩:=h;exact ⟨⟨r,base,n,cap,h1,rfl,h2⟩,trivial⟩
 case sle=>obtain ⟨a,c,rfl⟩:=h;exact ⟨⟨a,c,rfl⟩,trivial⟩
 case nilm=>subst h;exact ⟨rfl,trivial⟩
 case map=>obtain ⟨r,h1,rfl⟩:=h;exact ⟨⟨r,h1,rfl⟩,trivial⟩
 case nilf=>subst h;exact ⟨rfl,trivial⟩
 case func=>obtain ⟨G,H,rfl,h1,h2⟩:=h;exact ⟨⟨G,H,rfl,h1,h2⟩,trivial⟩
 case tup=>obtain ⟨vs,rfl,h⟩:=h;exact ⟨⟨vs,rfl,h⟩,trivial⟩
 case ro t xs=>
  obtain ⟨a,c,e,h⟩:=h;cases e;exact ⟨⟨a,c,rfl,h⟩,trivial⟩
 case rop=>obtain ⟨ad,vs,rfl,h⟩:=h;exact ⟨⟨ad,vs,rfl,h⟩,trivial⟩
 case own=>obtain ⟨a,n,c,rfl,h⟩:=h;exact ⟨⟨a,n,c,rfl,h⟩,trivial⟩
 case elp=>obtain ⟨g,n,c,h1,h2,rfl,h3⟩:=h;exact ⟨⟨g,n,c,h1,h2,rfl,h3⟩,trivial⟩
 case mapo=>obtain ⟨g,n,c,h1,h2,rfl⟩:=h;exact ⟨⟨g,n,c,h1,h2,rfl⟩,trivial⟩
 case vw=>obtain ⟨a,m,c,k,h1,h2,h3,A,B,E,rfl⟩:=h;exact ⟨⟨a,m,c,k,h1,h2,h3,A,B,E,rfl⟩,trivial⟩
theorem RV.cell(h:RV p g v)(A:E0 g=true):v.oneCell'=true:=by
 cases g <;> simp only [RV] at h <;> first
  | (subst h;rfl)
  | (cases A;done)
  | (obtain ⟨r,base,n,h1,rfl⟩:=h;rfl)
  | (obtain ⟨r,base,n,cap,h1,rfl,h2⟩:=h;rfl)
  | (obtain ⟨a,c,rfl⟩:=h;rfl)
  | (obtain ⟨r,h1,rfl⟩:=h;rfl)
  | (obtain ⟨H,I,rfl,h1,h2⟩:=h;rfl)
  | (obtain ⟨g,n,c,h1,h2,rfl⟩:=h;rfl)
  | (obtain ⟨ad,vs,rfl,h⟩:=h;rfl)
  | (obtain ⟨a,n,c,rfl,h⟩:=h;rfl)
  | (obtain ⟨a,c,e,h⟩:=h;cases e;rfl)
  | (obtain ⟨a,m,c,k,h1,h2,h3,B,E,G,rfl⟩:=h;rfl)
theorem RVs.cell {p:Ren}:∀ {l:List GV} {vs:List Value},RVs p l vs→l.all E0=true→∀ v∈vs,v.oneCell'=true
 | [],[],_,_,v,hv=>by cases hv
 | g::l,u::vs,⟨h1,h2⟩,h,v,hv=>by
  simp only [M44,M05] at h;rcases M1y.1 hv with rfl|hv
  exact h1.cell h.1;exact RVs.cell h2 h.2 v hv
 | [],_::_,h,_,_,_=>h.elim
 | _::_,[],h,_,_,_=>h.elim
theorem VA(h:Z3 v=some g):RV p g v:=by
 unfold Z3 at h;split at h <;> first | (cases h;done) | (cases h;exact rfl) | skip
 cases h;exact ⟨[],[],rfl,trivial,trivial⟩
theorem CV {p:Ren}:∀ {l:List Value} {gs:List GV},He l=some gs→RVs p gs l
 | [],gs,h=>by cases h;trivial
 | v::l,gs,h=>by
  unfold He at h;split at h;rename_i g hg;split at h;rename_i r hr;cases h;exact ⟨VA hg,CV hr⟩;cases h;cases h
theorem Ru(h:P1 v=some g):RV p g v:=by
 unfold P1 at h;split at h;rename_i cs;obtain ⟨l,h1,rfl⟩:=M01.1 h;exact ⟨cs.toList,by simp,CV h1⟩;rename_i cs;obtain ⟨l,h1,rfl⟩:=M01.1 h;exact ⟨cs.toList,by simp,CV h1⟩;exact VA h
theorem M4m {α:Type}:∀ (n:Nat) (t:Tr α) (k j:Nat) (v:Option α),k+1<2 ^ n→(Tr.set n t k v).get j=if j=k then v else t.get j
 | 0,_,k,_,_,h=>by simp at h
 | n+1,t,k,j,v,h=>by
  have h2:k+1<2*2 ^ n:=by rw [Nat.pow_succ] at h;omega
  have beq:∀ a b:Nat,Nat.beq a b=decide (a=b):=λa b=>by
   by_cases e:a=b;subst e;simp;rw [Kz e];simp [e]
  have E:∀ m:Nat,(Tr.lf:Tr α).get m=none:=λ_=>rfl
  have B:=λt i j=>M4m n t i j v
  cases t with
  | lf=>
   unfold Tr.set;by_cases hk:k=0;subst hk;simp only [beq,M3y];unfold Tr.get;by_cases hj:j=0;simp [beq,hj];simp only [beq,hj,M2C,M2V];split <;> rfl
   by_cases hp:k%2=1;simp only [beq,hk,hp,M2C,M3y];unfold Tr.get;by_cases hj:j=0;subst hj;simp [beq,M40 hk];by_cases hq:j%2=1;simp only [beq,hj,hq,M2C,M3y];rw [B _ _ _ (by omega)];by_cases A:j=k;subst A;simp;rw [M1e (by omega),M1e A];rfl;simp only [beq,hj,hq,M2C];rw [M1e (by intro e;subst e;exact hq hp)];rfl;simp only [beq,hk,hp,M2C];unfold Tr.get;by_cases hj:j=0;subst hj;simp [beq,M40 hk];by_cases hq:j%2=1;simp only [beq,hj,hq,M2C,M3y];rw [M1e (by intro e;subst e;exact hp hq)];rfl;simp only [beq,hj,hq,M2C];rw [B _ _ _ (by omega)];by_cases A:j=k;subst A;simp;rw [M1e (by omega),M1e A];rfl
  | nd o l r=>
   unfold Tr.set;by_cases hk:k=0;subst hk;simp only [beq,M3y]
   conv=>lhs;unfold Tr.get
   conv=>rhs;unfold Tr.get
   by_cases hj:j=0;simp [beq,hj];simp only [beq,hj,M2C,M2V];by_cases hp:k%2=1;simp only [beq,hk,hp,M2C,M3y]
   conv=>lhs;unfold Tr.get
   conv=>rhs;unfold Tr.get
   by_cases hj:j=0;subst hj;simp [beq,M40 hk];by_cases hq:j%2=1;simp only [beq,hj,hq,M2C,M3y];rw [B _ _ _ (by omega)];by_cases A:j=k;subst A;simp;rw [M1e (by omega),M1e A];simp only [beq,hj,hq,M2C];rw [M1e (by intro e;subst e;exact hq hp)];simp only [beq,hk,hp,M2C]
   conv=>lhs;unfold Tr.get
   conv=>rhs;unfold Tr.get
   by_cases hj:j=0;subst hj;simp [beq,M40 hk];by_cases hq:j%2=1;simp only [beq,hj,hq,M2C,M3y];rw [M1e (by intro e;subst e;exact hp hq)];simp only [beq,hj,hq,M2C];rw [B _ _ _ (by omega)];by_cases A:j=k;subst A;simp;rw [M1e (by omega),M1e A]
variable {S S':St}{b:Nat}
theorem Ax{g:Option GB}(h:S.put b g=some S'):S'.nx=S.nx∧S'.df=S.df∧∀ j,S'.h.get j=if j=b then g else S.h.get j:=by
 unfold St.put at h;split at h;rename_i hb;cases h;have:=M18 hb;exact ⟨rfl,rfl,λj=>M4m _ _ _ _ _ (by unfold AD;unfold KF at this;omega)⟩;cases h
theorem DB{g:Option GB}(h:S.put b g=some S'):S'.ow=S.ow:=by
 unfold St.put at h;split at h;cases h;rfl;cases h
theorem BZ {n:Nat}{f f':GF}{d:Option Tmp}{v:GV}(h:PV n f d v=some f'):(∀ t,d=some t→t<n)∧∀ t,f'.get t=if d=some t then some v else f.get t:=by
 unfold PV at h;split at h;cases h;exact ⟨λ_ h=>(by cases h),λt=>by simp⟩;rename_i d;split at h;rename_i h1 h2;cases h;have h1:=M18 h1;have h2:=M18 h2;refine ⟨λt h=>(by cases h;exact h1),λt=>?_⟩;rw [M4m _ _ _ _ _ (by unfold AD;unfold KF at h2;omega)];by_cases e:t=d;subst e;simp;rw [M1e e,M1e (by simpa using λh=>e h.symm)];cases h
end
section
def RM (p:Ren):List (GV×GV)→List MapEntry→Prop
 | [],[]=>True
 | (k,v)::l,e::es=>(RV p k e.key∧RV p v e.val)∧RM p l es
 | [],_::_=>False
 | _::_,[]=>False
theorem RM.mono {p q:Ren}(h:Le p q):∀ {l:List (GV×GV)} {es:List MapEntry},RM p l es→RM q l es
 | [],[],_=>trivial
 | (k,v)::l,e::es,⟨⟨h1,h2⟩,h3⟩=>⟨⟨h1.mono h,h2.mono h⟩,RM.mono h h3⟩
 | [],_::_,h=>h.elim
 | _::_,[],h=>h.elim
def RB (p:Ren) (w:World) (r base n:Nat):GB→Prop
 | .cells l=>∃ (cs:Array Value) (ty:TypeId) (fz:Nat×Nat),w.heap[r]? = some (.cells cs ty fz)∧cs.size=base+n∧(fz.1=fz.2∨cs.size≤fz.1)∧∃ vs,RVs p l vs∧vs <+: cs.toList.drop base
 | .map es=>∃ (A:Array MapEntry) (B:Nat),w.heap[r]? = some (.map A B)∧RM p es A.toList
variable {p:Ren}{w w':World}{r base n:Nat}
theorem RB.mono {q:Ren}(h:Le p q)(hw:w'.heap[r]? = w.heap[r]?):∀ {g:GB},RB p w r base n g→RB q w' r base n g
 | .cells l,⟨cs,ty,fz,h1,h2,h3,vs,h4,h5⟩=>⟨cs,ty,fz,hw.trans h1,h2,h3,vs,h4.mono h,h5⟩
 | .map es,⟨ents,c,h1,h2⟩=>⟨ents,c,hw.trans h1,h2.mono h⟩
def Bk (p:Ren) (k:Nat):Prop:=(∃ b x,p b=some x∧x.1=k)∨∃ b y,p.ov b=some y∧k∈Av y.1
def U2 (p:Ren) (k:Nat):Prop:=k∈p.zM∨p.zw.heap.size≤k
def By (p:Ren) (b:Nat):Prop:=p b=none∧p.ov b=none
def eZ (p:Ren) (t:Ty):Enc t.den:=⟨(eT t).n,λ_ _ cs x=>(eT t).R p.zw p.zM cs x,λh=>(eT t).len h,λh _=>h,λh=>(eT t).one h⟩
def iJ {α:Type} (e:Enc α) (w:World) (M:List Nat) (a:Option Addr) (c:Nat) (xs:List α):Prop:=
 (a=none∧c=0∧xs=[])∨
 ∃ g A T fz,a=some ⟨g,0,none⟩∧w.heap[g]? = some (.cells A T fz)∧(fz.1=fz.2∨A.size≤fz.1)∧xs.length≤c∧c≤maxLen∧A.size=c*e.n∧
  ∀ (i:Nat) (x:α),xs[i]? = some x→∃ cs,e.R w M cs x∧∀ (k:Nat) (v:Value),cs[k]? = some v→A[i*e.n+k]? = some v
def Z8:Nat:=1000000
def OwnX {α:Type} (e:Enc α) (T:TypeId) (w:World) (M:List Nat) (a:Option Addr) (c:Nat) (xs:List α):Prop:=iJ e w M a c xs∧(T<Z8→OwnS e T w M a c xs)
variable {α:Type}{e:Enc α}{T:TypeId}{M:List Nat}{a:Option Addr}{c:Nat}{xs:List α}
theorem OwnS.f(h:OwnS e T w M a c xs):iJ e w M a c xs:=by
 rcases h with h|⟨g,A,E,hg,h1,h2,h3,B⟩;exact .inl h;exact .inr ⟨g,A,T,_,E,hg,.inl rfl,h1,h2,h3,B⟩
theorem M4t(h:OwnS e T w M a c xs):OwnX e T w M a c xs:=⟨OwnS.f h,λ_=>h⟩
theorem OwnX.lt(h:OwnX e T w M a c xs):∀ b∈Av a,b<w.heap.size:=by
 rcases h.1 with ⟨rfl,_,_⟩|⟨g,B,A,fz,rfl,hg,_⟩;intro b hb;cases hb;intro b hb;simp only [Av,M19] at hb;subst hb;exact Am hg
theorem OwnX.le(h:OwnX e T w M a c xs):xs.length≤c:=by
 rcases h.1 with ⟨_,_,rfl⟩|⟨g,B,A,fz,_,_,_,h1,_⟩;simp;exact h1
variable {Mo:List Nat}
theorem OwnX.evp(hp:e.Plain){M':List Nat}(h:OwnX e T w M a c xs)(A:Ev Mo w w')(hm:∀ b∈Av a,b∉Mo):OwnX e T w' M' a c xs:=by
 refine ⟨?_,λht=>(h.2 ht).evp hp A hm⟩;rcases h.1 with h|⟨g,E,B,fz,rfl,hg,G,h1,h2,h3,H⟩
 exact .inl h;refine .inr ⟨g,E,B,fz,rfl,A.box hg (hm g (by simp [Av])),G,h1,h2,h3,λi x O=>?_⟩;obtain ⟨cs,I,J⟩:=H i x O;exact ⟨cs,hp _ _ _ _ _ _ I,J⟩
theorem OwnX.trunc(h:OwnX e T w M a c xs)(n:Nat):OwnX e T w M a c (xs.take n):=by
 refine ⟨?_,λht=>(h.2 ht).trunc n⟩;rcases h.1 with ⟨B,J,rfl⟩|⟨g,G,E,fz,B,hg,H,h1,h2,h3,I⟩
 exact .inl ⟨B,J,by simp⟩;refine .inr ⟨g,G,E,fz,B,hg,H,M1B (by rw [M1q];omega) h1,h2,h3,λi x A=>I i x ?_⟩;rw [M1r] at A;split at A;exact A;cases A
theorem OwnX.ro{M':List Nat}(h:OwnX e T w M a c xs)(G:∀ b∈M',b∈M)(hm:∀ b∈Av a,b∉M'):SlR e w M' a c xs:=by
 rcases h.1 with ⟨rfl,rfl,rfl⟩|⟨g,O,J,fz,rfl,hg,U,h1,h2,h3,A⟩;exact M4r e w M';refine ⟨h1,h2,λh=>(by cases h),λad H _=>?_⟩;cases H;refine ⟨rfl,hm g (by simp [Av]),Am hg,λi x I=>?_⟩;obtain ⟨cs,B,E⟩:=A i x I;refine ⟨cs,e.step B (Stp.sub w G),λk v hv=>?_⟩;simp only [M25];rw [Af hg];exact E k v hv
def qb:(t:Ty)→t.den→Value
 | .int k,n=>.int k n
 | .bool,b=>.bool b
 | .str,s=>Vs s
 | _,_=>undef
def MapD:(t:Ty)→World→Option Addr→List t.den→Prop
 | .pair k v,w,a,xs=>∃ g,a=some ⟨g,0,none⟩∧MapH (qb k) (qb v) w g (show List (k.den×v.den) from xs)
 | _,_,_,_=>False
def OwnY (p:Ren) (t:Ty) (T:TypeId) (w:World) (a:Option Addr) (n c:Nat) (xs:List t.den):Prop:=(c≤maxLen→n=xs.length∧OwnX (eZ p t) T w [] a c xs)∧(maxLen<c→MapD t w a xs)
theorem OwnX.cap(h:OwnX e T w M a c xs):c≤maxLen:=by
 rcases h.1 with ⟨_,rfl,_⟩|⟨g,B,A,fz,_,_,_,_,h2,_⟩;exact M2j _;exact h2
variable {t:Ty}
theorem OwnX.y{xs:List t.den}(h:OwnX (eZ p t) T w [] a c xs):OwnY p t T w a xs.length c xs:=⟨λ_=>⟨rfl,h⟩,λA=>absurd h.cap (by omega)⟩
theorem MapD.ev:∀ {t:Ty} {w w':World} {a:Option Addr} {xs:List t.den} {Mo:List Nat},MapD t w a xs→Ev Mo w w'→(∀ b∈Av a,b∉Mo)→MapD t w' a xs
 | .pair k v,w,w',a,xs,Mo,⟨g,e,h⟩,he,hm=>⟨g,e,h.step he (hm g (by rw [e];simp [Av]))⟩
 | .int _,_,_,_,_,_,h,_,_=>h.elim
 | .bool,_,_,_,_,_,h,_,_=>h.elim
 | .str,_,_,_,_,_,h,_,_=>h.elim
 | .sl _,_,_,_,_,_,h,_,_=>h.elim
 | .unit,_,_,_,_,_,h,_,_=>h.elim
theorem MapD.lt:∀ {t:Ty} {w:World} {a:Option Addr} {xs:List t.den},MapD t w a xs→∀ b∈Av a,b<w.heap.size
 | .pair k v,w,a,xs,⟨g,e,h⟩,b,hb=>by
  rw [e] at hb;simp only [Av,M19] at hb;subst hb;exact h.lt
 | .int _,_,_,_,h,_,_=>h.elim
 | .bool,_,_,_,h,_,_=>h.elim
 | .str,_,_,_,h,_,_=>h.elim
 | .sl _,_,_,_,h,_,_=>h.elim
 | .unit,_,_,_,h,_,_=>h.elim
theorem OwnY.lt{xs:List t.den}(h:OwnY p t T w a n c xs):∀ b∈Av a,b<w.heap.size:=by
 by_cases A:c≤maxLen;exact (h.1 A).2.lt;exact (h.2 (by omega)).lt
theorem OwnY.evp{xs:List t.den}(h:OwnY p t T w a n c xs)(B:Ev Mo w w')(hm:∀ b∈Av a,b∉Mo):OwnY p t T w' a n c xs:=
 ⟨λA=>⟨(h.1 A).1,(h.1 A).2.evp (λ_ _ _ _ _ _ h=>h) B hm⟩,λA=>(h.2 A).ev B hm⟩
structure RW (p:Ren) (S:St) (w:World):Prop where
 zev:Ev p.zM p.zw w
 zl:∀ b x,p b=some x→S.h.get b≠none→U2 p x.1
 mu:∀ b o a n c,S.ow.get b=some o→o.mu=true→p.ov b=some (a,n,c)→OwnY p o.t o.T w a n c o.xs∧∀ g∈Av a,U2 p g
 ro:∀ b o a n c,S.ow.get b=some o→o.mu=false→p.ov b=some (a,n,c)→n=o.xs.length∧SlR (eT o.t) p.zw p.zM a c o.xs
 inj:∀ b b' o o' y y',S.ow.get b=some o→S.ow.get b'=some o'→o.mu=true→o'.mu=true→p.ov b=some y→p.ov b'=some y'→∀ g∈Av y.1,g∈Av y'.1→b=b'
 sep:∀ b o y b' x,S.ow.get b=some o→o.mu=true→p.ov b=some y→p b'=some x→S.h.get b'≠none→x.1∉Av y.1
def GlP (p:Ren):Prop:=∀ x∈Z7,RV p (.rop x.2 0) (.pointer (some ⟨x.1,0,none⟩))
theorem GlP.mono {q:Ren}(h:GlP p)(hl:Le p q):GlP q:=λx A=>(h x A).mono hl
theorem GlP.same {q:Ren}(h:GlP p)(h1:q.zw=p.zw)(h2:q.zM=p.zM):GlP q:=λx B=>by
 have key:∀ l:List (Nat×List GV),(∀ x∈l,x.2.all (λg=>match g with | .str _=>true | _=>false)=true)→∀ x∈l,RV p (.rop x.2 0) (.pointer (some ⟨x.1,0,none⟩))→RV q (.rop x.2 0) (.pointer (some ⟨x.1,0,none⟩)):=λl hl x B ⟨ad,vs,e,c,hv⟩=>by
  refine ⟨ad,vs,e,by rw [h1,h2];exact c,?_⟩;have A:=hl x B;generalize x.2=l at hv A;clear e c
  induction l generalizing vs with
  | nil=>cases vs with
   | nil=>trivial
   | cons v vs=>exact hv.elim
  | cons g l E=>cases vs with
   | nil=>exact hv.elim
   | cons v vs=>
    simp only [M44,M05] at A;refine ⟨?_,E _ hv.2 A.2⟩;cases g <;> first | exact hv.1 | exact absurd A.1 (by simp)
 exact key Z7 (by decide) x B (h x B)
structure RH (p:Ren) (S:St) (w:World):Prop where
 at_:∀ b r base n g,p b=some (r,base,n)→S.h.get b=some g→RB p w r base n g
 inj:∀ b b' x x',p b=some x→p b'=some x'→S.h.get b≠none→S.h.get b'≠none→x.1=x'.1→b=b'
 lt:∀ b x,p b=some x→x.1<w.heap.size
 fr:∀ b,S.nx≤b→By p b
 ro:RW p S w
 gl:GlP p
structure Ch (N:Nat→Prop) (p:Ren) (w:World) (q:Ren) (w':World):Prop where
 le:Le p q
 new:∀ b,¬ By q b→¬ By p b∨N b
 os:w'.os=w.os
 tape:w'.tape=w.tape
 output:w'.output=w.output
 size:w.heap.size≤w'.heap.size
 out:∀ k,k<w.heap.size→¬ Bk p k→w'.heap[k]? = w.heap[k]?
 img:∀ k,Bk q k→Bk p k∨w.heap.size≤k
 lv:∀ k,k<w.heap.size→U2 p k→¬ Bk p k→U2 q k
theorem Ch.refl (N:Nat→Prop)(p:Ren)(w:World):Ch N p w p w:=
 ⟨Le.refl _,λ_ h=>.inl h,rfl,rfl,rfl,M1g _,λ_ _ _=>rfl,λ_ h=>.inl h,λ_ _ h _=>h⟩
theorem Ch.trans {N:Nat→Prop}{q s:Ren}{A:World}(h:Ch N p w q w')(k:Ch N q w' s A):Ch N p w s A where
 le:=h.le.trans k.le
 new:=λb hb=>(k.new b hb).elim (λB=>h.new b B) .inr
 os:=k.os.trans h.os
 tape:=k.tape.trans h.tape
 output:=k.output.trans h.output
 size:=M1B h.size k.size
 out:=λi hi ho=>by
  rw [k.out i (M1D hi h.size) (λhb=>(h.img i hb).elim ho λe=>by omega)];exact h.out i hi ho
 img:=λi hi=>(k.img i hi).elim (h.img i) λe=>.inr (M1B h.size e)
 lv:=λi hi hl hb=>k.lv i (M1D hi h.size) (h.lv i hi hl hb) λhq=>(h.img i hq).elim hb λe=>by omega
theorem Ch.mono {N A:Nat→Prop}{q:Ren}(h:Ch N p w q w')(hn:∀ b,N b→A b):Ch A p w q w':=
 ⟨h.le,λb hb=>(h.new b hb).imp id (hn b),h.os,h.tape,h.output,h.size,h.out,h.img,h.lv⟩
theorem Ch.drew (N:Nat→Prop)(p:Ren)(w:World):Ch N p w p w.drew:=
 ⟨Le.refl _,λ_ h=>.inl h,rfl,rfl,rfl,M1g _,λ_ _ _=>rfl,λ_ h=>.inl h,λ_ _ h _=>h⟩
variable {S S':St}
theorem RW.next(h:RW p S w){m':Nat→Option (Nat×Nat×Nat)}(hw:∀ b,p.ov b≠none→S'.ow.get b=S.ow.get b)(U:Ev Mo w w')
  (O:∀ k∈Mo,∃ b x,p b=some x∧S.h.get b≠none∧x.1=k)
  (Y:∀ b x,m' b=some x→S'.h.get b≠none→(∃ b' x',p b'=some x'∧S.h.get b'≠none∧x'.1=x.1)∨w.heap.size≤x.1):RW { p with m:=m' } S' w':=by
 have aa:∀ b o y,S.ow.get b=some o→o.mu=true→p.ov b=some y→∀ g∈Av y.1,g<w.heap.size:=λb o y h1 h2 h3=>by
  exact (h.mu b o y.1 y.2.1 y.2.2 h1 h2 h3).1.lt
 have B:∀ {b o y},S'.ow.get b=some o→p.ov b=some y→S.ow.get b=some o:=λ{b o y} h1 h2=>by rw [←hw b (by rw [h2];simp)];exact h1
 refine ⟨?_,λb x h1 h2=>?_,λb o a n c h1 h2 h3=>?_,λb o a n c h1 h2 h3=>h.ro b o a n c (B h1 h3) h2 h3,λb b' o o' y y' h1 h2 h3 I H J=>h.inj b b' o o' y y' (B h1 H) (B h2 J) h3 I H J,λb o y b' x h1 h2 h3 I H=>?_⟩;have:Stp p.zM p.zw (p.zM++Mo) w:=⟨h.zev,λb hb=>(M1b.1 hb).elim .inl λhb=>by
  obtain ⟨b',x,E,A,rfl⟩:=O b hb;exact h.zl b' x E A⟩
 exact (Stp.trans this (Stp.same U (λb hb=>M1z _ hb))).ev;rcases Y b x h1 h2 with ⟨b',x',E,A,G⟩|e;have:=h.zl b' x' E A;rw [G] at this;exact this
 exact .inr (M1B h.zev.size e);have h1:=B h1 h3;obtain ⟨A,G⟩:=h.mu b o a n c h1 h2 h3;refine ⟨A.evp U λg hg hm=>?_,G⟩;obtain ⟨b',x,j1,j2,rfl⟩:=O g hm;exact h.sep b o _ b' x h1 h2 h3 j1 j2 hg;have h1:=B h1 h3;rcases Y b' x I H with ⟨Z,x',E,A,G⟩|e
 rw [←G];exact h.sep b o y Z x' h1 h2 h3 E A;intro hm;have:=aa b o y h1 h2 h3 _ hm;omega
theorem RH.congr(h:RH p S w)(hg:∀ b,p b≠none→S'.h.get b=S.h.get b)(hn:S.nx≤S'.nx)(hw:∀ b,p.ov b≠none→S'.ow.get b=S.ow.get b):RH p S' w:=
 ⟨λb r base n g h1 h2=>h.at_ b r base n g h1 (by rw [←hg b (by rw [h1];simp)];exact h2),
  λb b' x x' h1 h2 h3 A=>h.inj b b' x x' h1 h2 (by rw [←hg b (by rw [h1];simp)];exact h3) (by rw [←hg b' (by rw [h2];simp)];exact A),
  h.lt,λb hb=>h.fr b (M1B hn hb),h.ro.next (m':=p.m) hw (Ev.refl [] _) (λ_ h=>by cases h) λb x h1 h2=>.inl ⟨b,x,h1,by rw [←hg b (by rw [h1];simp)];exact h2,rfl⟩,h.gl⟩
theorem RH.drew(h:RH p S w):RH p S w.drew:=⟨h.at_,h.inj,h.lt,h.fr,h.ro.next (m':=p.m) (λ_ _=>rfl) (⟨rfl,rfl,rfl,M1g _,λ_ _ _=>rfl⟩:Ev [] w w.drew) (λ_ h=>by cases h) λb x h1 h2=>.inl ⟨b,x,h1,h2,rfl⟩,h.gl⟩
variable {l:List GV}{off:Nat}
theorem HW {m:List GV}(h:cut l off n=some m):m=(l.drop off).take n∧m.length=n:=by
 unfold cut at h;simp only at h
 split at h;rename_i hl;cases h;exact ⟨rfl,hl⟩;cases h
variable {i:Nat}
theorem Hu{vs l:List α}(h:vs <+: l){v:α}(hv:vs[i]? = some v):l[i]? = some v:=by
 obtain ⟨t,rfl⟩:=h;rw [M1f (M09.1 hv).1];exact hv
variable {b:Nat}
theorem RH.cells(h:RH p S w){k:Nat}{m:List GV}(hp:p b=some (r,base,n))(hg:S.h.get b=some (.cells l))(H:cut l off k=some m) :
  ∃ vs,RVs p m vs∧vs.length=k∧CellsAt w [] ⟨r,base+off,none⟩ vs:=by
 obtain ⟨cs,ty,fz,h1,h2,h3,vs,E,G⟩:=h.at_ b r base n _ hp hg;obtain ⟨rfl,hl⟩:=HW H;have A:=(E.drop off).take k;refine ⟨(vs.drop off).take k,A,by rw [A.length,hl],rfl,by simp,h.lt _ _ hp,λj v hv=>?_⟩;rw [Af h1];rw [M1r] at hv;split at hv;rw [M1C] at hv;have B:=Hu G hv;rw [M1C] at B;rw [←M1E,M1P];exact B
 cases hv
theorem RH.cell(h:RH p S w){g:GV}(hp:p b=some (r,base,n))(hg:S.h.get b=some (.cells l))(A:l[off]? = some g) :
  ∃ v,RV p g v∧CellsAt w [] ⟨r,base+off,none⟩ [v]:=by
 have B:=(M09.1 A).1;have:cut l off 1=some [g]:=by
  have e:(l.drop off).take 1=[g]:=by
   rw [M2c B];simp only [List.take_succ_cons,List.take_zero];rw [(M09.1 A).2]
  unfold cut;simp only [e];rfl
 obtain ⟨vs,h1,h2,h3⟩:=h.cells hp hg this
 match vs,h1,h2 with
 | [v],h1,_=>exact ⟨v,h1.1,h3⟩
def Ren.set (p:Ren) (b:Nat) (x:Nat×Nat×Nat):Ren:={ p with m:=λi=>if i=b then some x else p i }
theorem M4j (p:Ren)(b:Nat)(x:Nat×Nat×Nat):p.set b x b=some x:=by simp [Ren.set]
variable {x:Nat×Nat×Nat}
theorem M4n(h:i≠b):p.set b x i=p i:=by simp [Ren.set,h]
theorem M4D(h:p b=none):Le p (p.set b x):=⟨λi y hy=>by
 by_cases e:i=b;subst e;rw [h] at hy;cases hy
 rw [M4n e];exact hy,λ_ _ h=>h,Stp.sub _ λ_ h=>h⟩
theorem VB{name:Nat}:∀ b,¬ By (p.set name x) b→¬ By p b∨b=name:=λb h1=>by
 by_cases e:b=name;exact .inr e;left;intro h;exact h1 ⟨by rw [M4n e];exact h.1,h.2⟩
theorem VC{name:Nat}:∀ k,Bk (p.set name x) k→Bk p k∨k=x.1:=λk hk=>by
 rcases hk with ⟨b,y,h1,h2⟩|h;by_cases e:b=name;subst e;rw [M4j] at h1;cases h1;exact .inr h2.symm
 rw [M4n e] at h1;exact .inl (.inl ⟨b,y,h1,h2⟩)
 exact .inl (.inr h)
theorem Z9{name:Nat}(h:∀ b,S.nx≤b→By p b)(hn:S'.nx=S.nx)(A:name<S.nx):∀ b,S'.nx≤b→By (p.set name x) b:=λb hb=>by
 have:=h b (by omega);exact ⟨by rw [M4n (by omega)];exact this.1,this.2⟩
variable {g:GB}
theorem RH.new(h:RH p S w){name:Nat}{o:Obj}(hp:S.put name (some g)=some S')(hn:By p name)(J:name<S.nx)
  (hb:∀ q,Le p q→RB q (w.alloc o) w.heap.size base n g) :
  RH (p.set name (w.heap.size,base,n)) S' (w.alloc o)∧Ch (· = name) p w (p.set name (w.heap.size,base,n)) (w.alloc o):=by
 obtain ⟨s1,_,s3⟩:=Ax hp;have A:=M4D (x:=(w.heap.size,base,n)) hn.1;have G:Ev [] w (w.alloc o):=⟨rfl,rfl,rfl,by rw [AT];omega,λk hk _=>heap_alloc_old w o k hk⟩
 refine ⟨⟨λb r H n' I h1 h2=>?_,λb b' x x' h1 h2 h3 B E=>?_,λb x h1=>?_,Z9 h.fr s1 J,?_,h.gl.mono A⟩,⟨A,VB,rfl,rfl,rfl,G.size,λk hk _=>heap_alloc_old w o k hk,λk hk=>(VC k hk).imp id λe=>M1O e.symm,λ_ _ h _=>h⟩⟩;rw [s3] at h2;by_cases e:b=name;subst e;rw [M1d rfl] at h2;cases h2;rw [M4j] at h1;cases h1;exact hb _ A
 rw [M1e e] at h2;rw [M4n e] at h1;exact (h.at_ b r H n' I h1 h2).mono A (heap_alloc_old w o _ (h.lt _ _ h1))
 rw [s3] at h3 B;by_cases e:b=name;by_cases e':b'=name;rw [e,e'];subst e;rw [M4j] at h1;rw [M4n e'] at h2;cases h1;have:=h.lt _ _ h2;simp only at E;omega
 by_cases e':b'=name;subst e';rw [M4j] at h2;rw [M4n e] at h1;cases h2;have:=h.lt _ _ h1;simp only at E;omega
 rw [M1e e] at h3;rw [M1e e'] at B;rw [M4n e] at h1;rw [M4n e'] at h2;exact h.inj b b' x x' h1 h2 h3 B E
 rw [AT];by_cases e:b=name;subst e;rw [M4j] at h1;cases h1;exact M3t _
 rw [M4n e] at h1;have:=h.lt _ _ h1;omega
 refine h.ro.next (λ_ _=>by rw [DB hp]) G (λ_ h=>by cases h) λb x h1 h2=>?_
 by_cases e:b=name;right;rw [M1d e] at h1;cases h1;exact M1g _
 left;rw [M1e e] at h1;rw [s3,M1e e] at h2;exact ⟨b,x,h1,h2,rfl⟩
variable {gs:List GV}
theorem C0{name:Nat}(h:newB S name gs=some S'):gs.all E0=true∧S.put name (some (.cells gs))=some S':=by
 unfold newB at h;split at h;rename_i h1;exact ⟨h1,h⟩;cases h
theorem RH.row(h:RH p S w){name:Nat}{vs:List Value}(A:List Value){ty:TypeId}{fz:Nat×Nat}(hp:newB S name gs=some S')(hn:By p name)(B:name<S.nx)
  (hv:RVs p gs vs)(hf:fz.1=fz.2∨(vs++A).length≤fz.1) :
  RH (p.set name (w.heap.size,0,(vs++A).length)) S' (w.alloc (.cells (vs++A).toArray ty fz))∧Ch (· = name) p w (p.set name (w.heap.size,0,(vs++A).length)) (w.alloc (.cells (vs++A).toArray ty fz)):=
 h.new (C0 hp).2 hn B λq hq=>⟨(vs++A).toArray,ty,fz,Aq _ _,by simp,by simpa using hf,vs,hv.mono hq,by simp⟩
theorem Bt (P:Program)(g o:Nat)(t:TypeId)(fz:Nat×Nat):∀ (vs:List Value) (i:Nat) (A:Array Value) (w:World),w.heap[g]? = some (.cells A t fz)→(fz.1=fz.2∨A.size≤fz.1)→o+i+vs.length≤A.size→(∀ v∈vs,v.oneCell'=true)→
  (storeCells ⟨g,o,none⟩ vs i).run P w=.ok () (w.setRow g (A.toList.take (o+i)++vs++A.toList.drop (o+i+vs.length)).toArray)
 | [],i,A,w,hg,_,_,_=>by
  simp only [storeCells,M1w,M2g,M1M,M2m,M1U];rw [setRow_self w g A t fz hg];rfl
 | v::rest,i,A,w,hg,hfz,hl,h1=>by
  have hi:o+i<A.size:=by simp at hl;omega
  have B:w.cell? ⟨g,o+i,none⟩=some A[o+i]:=by simp [World.cell?,hg,hi]
  have E:w.frozen? ⟨g,o+i,none⟩=false:=by
   obtain ⟨lo,up⟩:=fz;simp only [World.frozen?,hg,Bool.and_eq_false_iff,decide_eq_false_iff_not];simp only at hfz;omega
  have G:(store ((⟨g,o,none⟩:Addr).add i) v).run P w=.ok () (w.setRow g (A.setIfInBounds (o+i) v)):=by
   rw [AQ rfl,run_store P w _ v _ (h1 v (by simp)),B];simp [E,setCell_eq_setRow w g (o+i) A t fz v hg]
  have I:=Bt P g o t fz rest (i+1) (A.setIfInBounds (o+i) v) (w.setRow g (A.setIfInBounds (o+i) v)) (setRow_heap w g A _ t _ hg) (by simpa using hfz) (by simp at hl ⊢;omega) (λx H=>h1 x (by simp [H]));simp only [storeCells,Sem.run_bind,G,Result.andThen_ok,I,setRow_setRow];congr 3;have e:=list_seg_step A.toList (o+i) v rest (by simp at hl ⊢;omega)
  simpa [Array.toList_setIfInBounds,M1P] using e
theorem X3(A B t vs:List α)(off:Nat)(h:off+vs.length≤B.length) :
  B.take off++(vs++B.drop (off+vs.length))++t=((A++(B++t)).take (A.length+off)++vs++(A++(B++t)).drop (A.length+off+vs.length)).drop A.length:=by
 have E:(A++(B++t)).take (A.length+off)=A++B.take off:=by
  rw [List.take_length_add_append,List.take_append_of_le_length (by omega)]
 have G:(A++(B++t)).drop (A.length+off+vs.length)=B.drop (off+vs.length)++t:=by
  rw [M1P,List.drop_length_add_append,List.drop_append_of_le_length (by omega)]
 rw [E,G];simp only [M20,List.drop_left]
theorem Dn {A:List GV}(h:over l off gs=some A):off+gs.length≤l.length∧gs.all E0=true∧A=l.take off++(gs++l.drop (off+gs.length)):=by
 unfold over at h;split at h;rename_i h1;cases h;exact ⟨h1.1,h1.2,rfl⟩;cases h
theorem RH.updW(h:RH p S w)(hp:p b=some (r,base,n))(hs:S.h.get b≠none)(G:S.put b (some g)=some S')
  (B:w'.heap.size=w.heap.size)(A:∀ k,k≠r→w'.heap[k]? = w.heap[k]?)(h1:w'.os=w.os)(h2:w'.tape=w.tape)(h3:w'.output=w.output)(hb:RB p w' r base n g) :
  RH p S' w'∧Ch (λ_=>False) p w p w':=by
 obtain ⟨s1,_,s3⟩:=Ax G;have key:∀ i,S'.h.get i≠none→S.h.get i≠none:=λi hi=>by
  rw [s3] at hi;split at hi;rename_i e;rw [e];exact hs;exact hi
 have aa:Ev [r] w w':=⟨h1,h2,h3,M1O B.symm,λk _ hm=>A k (by simpa using hm)⟩
 refine ⟨⟨λb' E J n' U h1 h2=>?_,λH I x x' h1 h2 h3 Y Z=>h.inj H I x x' h1 h2 (key _ h3) (key _ Y) Z,λb' x h1=>by rw [B];exact h.lt b' x h1,λb' ad=>h.fr b' (by omega),
   h.ro.next (m':=p.m) (λ_ _=>by rw [DB G]) aa (λk hk=>⟨b,_,hp,hs,(M19.1 hk).symm⟩) λb' x k1 k2=>.inl ⟨b',x,k1,key _ k2,rfl⟩,h.gl⟩,
  ⟨Le.refl _,λ_ h=>.inl h,h1,h2,h3,M1O B.symm,λk hk ho=>A k (λe=>ho (.inl ⟨b,_,hp,e.symm⟩)),λ_ h=>.inl h,λ_ _ h _=>h⟩⟩
 rw [s3] at h2;by_cases e:b'=b;subst e;rw [M1d rfl] at h2;cases h2;rw [hp] at h1;cases h1;exact hb
 rw [M1e e] at h2;have hne:E≠r:=λO=>e (h.inj b' b _ _ h1 hp (by rw [h2];simp) hs O)
 exact (h.at_ b' E J n' U h1 h2).mono (Le.refl _) (A E hne)
theorem RH.upd(h:RH p S w){cs':Array Value}(hp:p b=some (r,base,n))(hs:S.h.get b≠none)(A:S.put b (some g)=some S')
  (hb:RB p (w.setRow r cs') r base n g):RH p S' (w.setRow r cs')∧Ch (λ_=>False) p w p (w.setRow r cs'):=
 h.updW hp hs A (by simp [World.setRow]) (λk hk=>setRow_other w r k cs' hk) rfl rfl rfl hb
theorem RH.kill(h:RH p S w)(A:S.put b none=some S'):RH p S' w:=by
 obtain ⟨s1,_,s3⟩:=Ax A;have key:∀ i,S'.h.get i≠none→S.h.get i≠none:=λi hi=>by
  rw [s3] at hi;split at hi;exact absurd rfl hi;exact hi
 exact ⟨λb' r base n g h1 h2=>h.at_ b' r base n g h1 (by rw [s3] at h2;split at h2;cases h2;exact h2),λB E x x' h1 h2 h3 G H=>h.inj B E x x' h1 h2 (key _ h3) (key _ G) H,h.lt,λi hi=>h.fr i (by omega),
  h.ro.next (m':=p.m) (λ_ _=>by rw [DB A]) (Ev.refl [] _) (λ_ h=>by cases h) λb' x I J=>.inl ⟨b',x,I,key _ J,rfl⟩,h.gl⟩
theorem Cm(h:Gb S b off gs=some S'):∃ l A,S.h.get b=some (.cells l)∧over l off gs=some A∧S.put b (some (.cells A))=some S':=by
 unfold Gb at h;split at h;rename_i l hl;split at h;rename_i A ho;exact ⟨l,A,hl,ho,h⟩;cases h;cases h
theorem RH.store {P:Program}(h:RH p S w){vs:List Value}(hp:p b=some (r,base,n))(G:Gb S b off gs=some S')(hv:RVs p gs vs) :
  ∃ w',(storeCells ⟨r,base+off,none⟩ vs).run P w=.ok () w'∧RH p S' w'∧Ch (λ_=>False) p w p w':=by
 obtain ⟨l,U,h1,h2,h3⟩:=Cm G;obtain ⟨o1,o2,rfl⟩:=Dn h2;obtain ⟨cs,ty,fz,E,I,c3,A,B,c5⟩:=h.at_ b r base n _ hp h1;have H:=hv.length;have O:=B.length;obtain ⟨t,ht⟩:=c5;have J:base+A.length+t.length=cs.size:=by
  have:=M1t List.length ht;simp only [M1l,M2f,M1u] at this;rcases M1V base cs.size with hb|hb
  omega;omega
 have hr:=Bt P r (base+off) ty fz vs 0 cs w E c3 (by omega) (hv.cell o2);refine ⟨_,hr,h.upd hp (by rw [h1];simp) h3 ⟨_,ty,fz,setRow_heap w r cs _ ty fz E,?_,?_,A.take off++(vs++A.drop (off+vs.length)),?_,?_⟩⟩;simp only [M1M,M2e,M1l,M1q,M2f,M1u];omega;simp only [M1M,M2e,M1l,M1q,M2f,M1u];omega;rw [H];exact (B.take off).append (hv.append (B.drop _));refine ⟨t,?_⟩;have e:cs.toList=cs.toList.take base++(A++t):=by rw [ht,M2m]
 have hb:(cs.toList.take base).length=base:=by simp;omega
 simp only [M1M];have:=X3 (cs.toList.take base) A t vs off (by omega);rw [←e,hb] at this;exact this
end
section
def Giv (P:Program) (N:Nat→Prop) (p:Ren) (w:World) (s:Sem Value) (g:GV) (S':St):Prop:=∃ q v w',s.run P w=.ok v w'∧RV q g v∧RH q S' w'∧Ch N p w q w'
variable {P:Program}{p:Ren}{S:St}{w:World}{g:GV}{v:Value}
theorem M4p{N:Nat→Prop}{s:Sem Value}(h:RH p S w)(hr:s.run P w=.ok v w)(hv:RV p g v):Giv P N p w s g S:=⟨p,v,w,hr,hv,h,Ch.refl _ _ _⟩
variable {t n:Nat}
theorem AL(h:BG P t=some n)(w:World):(sizeOf t).run P w=.ok n w:=by
 unfold BG at h;obtain ⟨i,h1,h2⟩:=M01.1 h;simp [sizeOf,typeInfo,h1,h2]
theorem CW{b:Bool}(h:Z4 P t=some b)(w:World):(isAgg t).run P w=.ok b w:=by
 unfold Z4 at h;unfold isAgg;cases A:P.underlying t with
 | none=>rw [A] at h;cases h
 | some d=>
  rw [A] at h;rw [run_bind,run_underlying A];cases d <;>(cases h;rfl)
variable {e:Nat}
theorem DC(h:pZ P t=some (e,n)):P.underlying t=some (.slice e)∧∃ i,P.info? e=some i∧i.size=n∧i.bytes≤4096:=by
 unfold pZ at h;split at h;rename_i e' A;split at h;rename_i i hi;split at h;rename_i hb;cases h;exact ⟨A,i,hi,rfl,M18 hb⟩;cases h;cases h;cases h
variable {z:List GV}
theorem Cc(h:Db P t=some z):∃ i A,P.info? t=some i∧i.zero=some A∧RVs p z A.cells.toList∧∀ w,(zeroValue t).run P w=.ok A w:=by
 unfold Db at h;split at h;rename_i i hi;split at h;rename_i A B;exact ⟨i,A,hi,B,CV h,λw=>by simp [zeroValue,typeInfo,hi,B]⟩;cases h;cases h
variable {off:Nat}
theorem K3{l:List GV}{vs:List Value}(h:part P t l off=some g)(hv:RVs p l vs)(w:World):∃ v,(Go.part t vs.toArray off).run P w=.ok v w∧RV p g v:=by
 unfold part at h;split at h;rename_i A;split at h;rename_i n hn;obtain ⟨m,h1,rfl⟩:=M01.1 h;obtain ⟨rfl,h2⟩:=HW h1;refine ⟨.agg (vs.toArray.extract off (off+n)),?_,(vs.drop off).take n,?_,(hv.drop off).take n⟩;unfold Go.part;rw [run_bind,CW A];simp only [M2K,Sem.run_bind,AL hn,Result.andThen_ok,Sem.run_pure];simp [List.extract_eq_take_drop];cases h;rename_i A;obtain ⟨v,h1,h2⟩:=hv.get h;refine ⟨v,?_,h2⟩;unfold Go.part;rw [run_bind,CW A];simp [h1];cases h
variable {b r base:Nat}
theorem KJ(h:RH p S w)(hl:KE P t S b off=some g)(hp:p b=some (r,base,n)) :
  ∃ v,(Instr.loadAt t (.pointer (some ⟨r,base+off,none⟩))).run P w=.ok v w∧RV p g v:=by
 unfold KE at hl;split at hl;rename_i l hg;unfold part at hl;split at hl;rename_i B;split at hl;rename_i k hk;obtain ⟨m,h1,rfl⟩:=M01.1 hl;obtain ⟨vs,h2,h3,A⟩:=h.cells hp hg h1;subst h3;exact ⟨_,OZ (Mo:=[]) (λw=>⟨CW B w,AL hk w⟩) A (λ_ h=>h) w (Ev.refl _ _),vs,rfl,h2⟩;cases hl;rename_i B;obtain ⟨v,h2,A⟩:=h.cell hp hg hl;refine ⟨v,?_,h2⟩;simp only [Instr.loadAt,Instr.sureAddr];show (loadVar t ⟨r,base+off,none⟩).run P w=_
 unfold loadVar;rw [run_bind,CW B];have:=A.at_ 0 v rfl;simp only [M1M] at this;simp [Go.load,Sem.run,this]
 cases hl;cases hl
theorem iK{N:Nat→Prop}(h:RH p S w)(hl:KE P t S b off=some g)(hp:p b=some (r,base,n)) :
  Giv P N p w (Instr.loadAt t (.pointer (some ⟨r,base+off,none⟩))) g S:=by
 obtain ⟨v,h1,h2⟩:=KJ h hl hp;exact M4p h h1 h2
variable {S':St}
theorem Rw(h:RH p S w){k:Nat}{x:GV}(A:BG P t=some k)(hk:x.ats.length=k)(hs:Gb S b off x.ats=some S')(hp:p b=some (r,base,n))(hv:RV p x v) :
  ∃ w',(Instr.storeAt t (.pointer (some ⟨r,base+off,none⟩)) v).run P w=.ok () w'∧RH p S' w'∧Ch (λ_=>False) p w p w':=by
 obtain ⟨w',h1,h2,h3⟩:=h.store (P:=P) hp hs hv.ats;refine ⟨w',?_,h2,h3⟩;simp only [Instr.storeAt,Instr.sureAddr];show (storeVar t ⟨r,base+off,none⟩ v).run P w=_
 unfold storeVar;rw [run_bind,AL A];simp only;rw [M1e (by have:=hv.ats.length;rw [M1u] at this;omega)];exact h1
theorem X4 (vs:List Value):∀ (k off:Nat) (cs:List Value),off+k+vs.length≤cs.length→
  ((vs.zipIdx k).foldl (λ(cs:Array Value)(x:Value×Nat)=>cs.setIfInBounds (off+x.2) x.1) cs.toArray)=(cs.take (off+k)++(vs++cs.drop (off+k+vs.length))).toArray:=by
 induction vs with
 | nil=>intro k off cs _;simp
 | cons v vs A=>
  intro k off cs h;simp only [M1N] at h;simp only [List.zipIdx_cons,List.foldl_cons,List.setIfInBounds_toArray];rw [A (k+1) off (cs.set (off+k) v) (by simp;omega)]
  congr 1;have:=list_seg_step cs (off+k) v vs (by omega);simp only [M1N,M20] at this ⊢
  simpa [M1P] using this
def qc (p:Ren):List (Nat×GV)→List (Nat×Value)→Prop
 | [],[]=>True
 | (i,g)::l,(j,v)::vs=>(i=j∧RV p g v)∧qc p l vs
 | [],_::_=>False
 | _::_,[]=>False
theorem K4 {p:Ren}{H:Nat→Option (Nat×Nat)}:∀ {l:List (Nat×GV)} {ps:List (Nat×Value)} {cells c:List GV} {vs:List Value},qc p l ps→RVs p cells vs→Gc H cells l=some c→
  ∃ A,Instr.fill H vs.toArray ps=some A.toArray∧RVs p c A
 | [],[],cells,c,vs,_,hv,h=>by cases h;exact ⟨vs,rfl,hv⟩
 | (i,g)::l,(j,v)::ps,cells,c,vs,⟨⟨e,h1⟩,h2⟩,hv,h=>by
  subst e;unfold Gc at h;unfold Instr.fill
  split at h;cases h;rename_i off size O;split at h;rename_i G;have G:=M0g G;split at h;rename_i c' J;obtain ⟨o1,o2,rfl⟩:=Dn J;have B:=h1.ats;have E:=B.length;rw [M1u] at E;have Y:=hv.length;have U:RVs p (cells.take off++(g.ats++cells.drop (off+g.ats.length))) (vs.take off++(v.cells.toList++vs.drop (off+g.ats.length))):=(hv.take off).append (B.append (hv.drop _));obtain ⟨A,h3,I⟩:=K4 h2 U h;refine ⟨A,?_,I⟩;rw [O];simp only;rw [M1e (by simp;omega)];rw [←h3]
  congr 1;have hf:=X4 v.cells.toList 0 off vs (by rw [M1u];omega);simp only [M1M,M1u] at hf;rw [←E,←hf,←Array.foldl_toList,Array.toList_zipIdx]
  cases h;cases h
 | [],_::_,_,_,_,h,_,_=>h.elim
 | _::_,[],_,_,_,h,_,_=>h.elim
theorem iL {α β:Type}(f:α→β)(s:Sem α)(w:World):(Functor.map f s).run P w=match s.run P w with | .ok a w'=>.ok (f a) w' | .halt h w'=>.halt h w':=by
 rw [map_eq_pure_bind,run_bind];cases s.run P w <;> rfl
theorem KK {P:Program}:∀ {A:List Field} {pl:List (Nat×Nat)},HS P A=some pl→∀ w,(A.mapM (λf=>do pure (f.offset,←sizeOf f.type):Field→Sem (Nat×Nat))).run P w=.ok pl w
 | [],pl,h,w=>by cases h;rfl
 | f::A,pl,h,w=>by
  unfold HS at h;split at h;rename_i n hn;split at h;rename_i r hr;cases h;rw [List.mapM_cons,run_bind,run_bind,AL hn];simp only [Sem.run_pure];rw [run_bind,KK hr];rfl;cases h;cases h
variable {c:List GV}{ps:List (Nat×GV)}
theorem PW{G:List (Nat×Value)}{A:Array Field}{pl:List (Nat×Nat)}(U:Db P t=some z)(hp:qc p ps G)(O:P.underlying t=some (.struct A))
  (J:HS P A.toList=some pl)(hf:Gc (λi=>pl[i]?) z ps=some c)(w:World):∃ v,(Instr.build t G.toArray).run P w=.ok v w∧RV p (.agg c) v:=by
 obtain ⟨i,Y,h1,h2,h3,H⟩:=Cc (p:=p) U;obtain ⟨E,B,I⟩:=K4 hp h3 hf;refine ⟨.agg E.toArray,?_,E,rfl,I⟩;unfold Instr.build;rw [run_bind,H];simp only;rw [run_bind,run_underlying O];simp only;have hm:(A.mapM (λf=>do pure (f.offset,←sizeOf f.type):Field→Sem (Nat×Nat))).run P w=.ok pl.toArray w:=by
  obtain ⟨l⟩:=A;rw [List.mapM_toArray,iL,KK J]
 rw [run_bind,hm];simp only;have e:(λ(x:Nat)=>pl.toArray[x]?)=λi=>pl[i]?:=by funext i;simp
 rw [e];simp only [M1U] at B;rw [B];rfl
theorem Rx{m:Nat}{E:List (Nat×Value)}(J:Db P t=some z)(hp:qc p ps E)(I:P.underlying t=some (.array m e))
  (hn:BG P e=some n)(hf:Gc (λi=>some (i*n,n)) z ps=some c)(w:World):∃ v,(Instr.build t E.toArray).run P w=.ok v w∧RV p (.agg c) v:=by
 obtain ⟨i,O,h1,h2,h3,G⟩:=Cc (p:=p) J;obtain ⟨B,A,H⟩:=K4 hp h3 hf;refine ⟨.agg B.toArray,?_,B,rfl,H⟩;unfold Instr.build;rw [run_bind,G];simp only;rw [run_bind,run_underlying I];simp only;rw [run_bind,AL hn];simp only [M1U] at A ⊢;rw [A];rfl
theorem P5 (zs:List Value):∀ (len n:Nat),zs.length=n→(List.range (len*n)).map (λi=>zs.toArray[i%zs.toArray.size]!)=(List.replicate len zs).flatten
 | 0,n,_=>by simp
 | len+1,n,h=>by
  have A:=P5 zs len n h;rw [M2p,M3z,Nat.add_comm,List.range_add,M1A,List.map_map,M3R,M2H];congr 1;apply List.ext_getElem (by simp [h]);intro i h1 h2;simp only [M2e,M3k,List.getElem_range];rw [M3K (by omega)];simp [h2];rw [←A];apply M3A;intro i hi;simp only [Function.comp,M2e];subst h;rw [Nat.add_mod_left]
theorem Uf{zs:List Value}(h:RVs p z zs){len:Nat}(hn:z.length=n):RVs p (rep len z) ((Array.range (len*n)).map (λi=>zs.toArray[i%zs.toArray.size]!)).toList:=by
 obtain ⟨A,h1,h2⟩:=h.rep len;have:=P5 zs len n (by rw [h.length,hn]);rw [M3s,Array.toList_range,this,←h2];exact h1
theorem Ry{len:Nat}(hn:z.length=n)(A:len*n=0):rep len z=[]:=by
 induction len with
 | zero=>rfl
 | succ k B=>
  have:n=0:=by
   rcases Nat.mul_eq_zero.1 A with h|h;omega;exact h
  subst this;unfold rep;rw [B (by simp),M1F.1 hn];rfl
theorem Ge{len:Nat}{G:List (Nat×Value)}(Y:P.underlying t=some (.slice e))(ab:BG P e=some n)(Z:Db P e=some z)(hl:len*n≤65536)(I:z.length=n)
  (hp:qc p ps G)(hf:Gc (λi=>some (i*n,n)) (rep len z) ps=some c) :
  ∃ B,RVs p c B∧(Instr.buildSlice t len G.toArray).run P w=.ok (.slice (some ⟨w.heap.size,0,none⟩) len len) (w.alloc (.cells B.toArray e (0,0))):=by
 obtain ⟨i',J,h1,h2,h3,O⟩:=Cc (p:=p) Z;have H:∀ zero:Array Value,RVs p (rep len z) ((Array.range (len*n)).map (zero[· % zero.size]!)).toList→((len*n=0∧zero = #[])∨(len*n≠0∧zero=J.cells))→
   ∃ B,RVs p c B∧(Instr.buildSlice t len G.toArray).run P w=.ok (.slice (some ⟨w.heap.size,0,none⟩) len len) (w.alloc (.cells B.toArray e (0,0))):=by
  intro zero hr aa;obtain ⟨B,E,U⟩:=K4 hp hr hf;refine ⟨B,U,?_⟩;rw [M1U] at E;unfold Instr.buildSlice;rw [run_bind,run_underlying Y];simp only;rw [run_bind,AL ab];simp only;rw [M1e (by omega)];rcases aa with ⟨A,rfl⟩|⟨A,rfl⟩
  rw [M1d A];simp only [pure_bind];rw [E];simp only [newRow,run_bind];rfl;rw [M1e A,run_bind,O];simp only [pure_bind];rw [E];simp only [newRow,run_bind];rfl
 by_cases A:len*n=0;refine H #[] ?_ (.inl ⟨A,rfl⟩);rw [Ry I A,A];simp [RVs];refine H J.cells ?_ (.inr ⟨A,rfl⟩);have:=Uf h3 I (len:=len)
 rwa [M1U] at this
theorem OL(h:RH p S w){len name:Nat}{B:List (Nat×Value)}(I:pZ P t=some (e,n))(Y:Db P e=some z)(hl:len*n≤65536)(Z:z.length=n)
  (hp:qc p ps B)(hf:Gc (λi=>some (i*n,n)) (rep len z) ps=some c)(H:newB S name c=some S')(hn:By p name)(U:name<S.nx) :
  Giv P (· = name) p w (Instr.buildSlice t len B.toArray) (.sl name 0 len (.kn len)) S':=by
 obtain ⟨O,i,hi,J,aa⟩:=DC I;obtain ⟨us,E,G⟩:=Ge (P:=P) (w:=w) O (show BG P e=some n by simp [BG,hi,J]) Y hl Z hp hf;obtain ⟨A,q2⟩:=h.row (ty:=e) (fz:=(0,0)) [] H hn U E (.inl rfl);rw [M1w] at A q2;exact ⟨_,.slice (some ⟨w.heap.size,0,none⟩) len len,_,G,⟨w.heap.size,0,_,len,M4j _ _ _,rfl,rfl,M1g _⟩,A,q2⟩
theorem PX(h:RH p S w){name:Nat}{k k':IntKind}{l c:Int}(ab:pZ P t=some (e,n))(hz:Db P e=some z)(hl:0≤l∧l≤c∧c≤65536∧z.length=n)
  (U:newB S name (rep c.toNat z)=some S')(hn:By p name)(hx:name<S.nx) :
  Giv P (· = name) p w (Instr.makeSlice t (.int k l) (.int k' c)) (.sl name 0 l.toNat (.kn c.toNat)) S':=by
 obtain ⟨hu,i,hi,ad,aa⟩:=DC ab;obtain ⟨i',E,h1,h2,h3,O⟩:=Cc (p:=p) hz;obtain ⟨l0,l1,l2,B⟩:=hl;have aj:BG P e=some n:=by simp [BG,hi,ad]
 have wr:∀ x:Int,0≤x→x≤65536→IntKind.i64.wrap x=x:=λx A h1=>by
  have ac:x<(2 ^ IntKind.i64.bits:Int):=by show x<18446744073709551616;omega
  have:x%(2 ^ IntKind.i64.bits:Int)=x:=Int.emod_eq_of_lt A ac;simp only [IntKind.wrap,this];rw [M1e];show ¬ ((true&&decide (x≥9223372036854775808))=true)
  simp only [Bool.true_and,M2R];omega
 obtain ⟨m,rfl⟩:=M1j (show 0≤c by omega);obtain ⟨j,rfl⟩:=M1j l0;have hm:m≤65536:=by omega
 have al:i.bytes*m≤4096*65536:=M32 aa hm;have am:m*i.bytes≤268435456:=by rw [M3e];omega
 have hrow:∀ zero:Array Value,RVs p (rep m z) ((Array.range (m*n)).map (zero[· % zero.size]!)).toList→((m*n=0∧zero = #[])∨(m*n≠0∧zero=E.cells))→
   Giv P (· = name) p w (Instr.makeSlice t (.int k j) (.int k' m)) (.sl name 0 j (.kn m)) S':=by
  intro zero hr ai;have Y:newB S name (rep m z)=some S':=by simpa using U
  obtain ⟨q1,q2⟩:=h.row (ty:=e) (fz:=(0,0)) [] Y hn hx hr (.inl rfl);refine ⟨_,.slice (some ⟨w.heap.size,0,none⟩) j m,_,?_,⟨w.heap.size,0,_,m,M4j _ _ _,rfl,rfl,by omega⟩,q1,q2⟩;unfold Instr.makeSlice;rw [run_bind,run_underlying hu];simp only;have ae:(typeInfo e).run P w=.ok i w:=by simp [typeInfo,hi]
  simp only [asInt,asIntOf,pure_bind];rw [run_bind,ae];simp only;have G:((i.bytes:Int)*(m:Int)>2 ^ 48)=False:=by
   simp only [eq_iff_iff,iff_false,Int.not_lt];have:((i.bytes*m:Nat):Int)≤2 ^ 48:=by omega
   simpa using this
  rw [wr m (by omega) (by omega),wr j (by omega) (by omega)];have H:¬ ((m:Int)<0):=by omega
  have I:¬ ((j:Int)<0):=by omega
  have J:¬ ((j:Int)>(m:Int)):=by omega
  simp only [G,H,I,J,M2C,Bool.or_false,M2v,M2V];have Z:(askRoom (m*i.bytes)).run P w=.ok () w:=by
   unfold askRoom roomBytes;rw [M1e (by omega)];rfl
  simp only [M1i];rw [run_bind,Z];simp only;rw [run_bind,AL aj];simp only;rcases ai with ⟨A,rfl⟩|⟨A,rfl⟩
  rw [M1d A];simp only [pure_bind,newRow,run_bind,M1w];rfl;rw [M1e A,run_bind,O];simp only [pure_bind,newRow,run_bind,M1w];rfl
 by_cases A:m*n=0;refine hrow #[] ?_ (.inl ⟨A,rfl⟩);rw [Ry B A,A];simp [RVs];refine hrow E.cells ?_ (.inr ⟨A,rfl⟩);have:=Uf h3 B (len:=m)
 rwa [M1U] at this
theorem Za(h:RH p S w){name:Nat}(G:Db P t=some z)(B:newB S name z=some S')(hn:By p name)(E:name<S.nx) :
  Giv P (· = name) p w (Instr.alloc t true (.tuple #[])) (.ptr name 0) S':=by
 obtain ⟨i,I,h1,h2,h3,A⟩:=Cc (p:=p) G;obtain ⟨H,q2⟩:=h.row (ty:=t) (fz:=(0,0)) [] B hn E h3 (.inl rfl);refine ⟨_,.pointer (some ⟨w.heap.size,0,none⟩),_,?_,⟨w.heap.size,0,_,M4j _ _ _,rfl⟩,H,q2⟩;simp only [Instr.alloc];rw [run_bind,A];simp only [newVar,newRow,run_bind,M1w,M1U];rfl
theorem qQ(h:RH p S w){name:Nat}(hv:RV p g v)(A:newB S name g.ats=some S')(hn:By p name)(B:name<S.nx) :
  Giv P (· = name) p w (Instr.box t v) (.ptr name 0) S':=by
 obtain ⟨E,q2⟩:=h.row (ty:=t) (fz:=(0,0)) [] A hn B hv.ats (.inl rfl);refine ⟨_,.pointer (some ⟨w.heap.size,0,none⟩),_,?_,⟨w.heap.size,0,_,M4j _ _ _,rfl⟩,E,q2⟩;simp only [Instr.box,newVar,newRow,run_bind,M1w,M1U];rfl
theorem Ug(h:RH p S w){name:Nat}(A:S.put name (some (.map []))=some S')(hn:By p name)(B:name<S.nx) :
  Giv P (· = name) p w (Instr.makeMap t none) (.map name) S':=by
 obtain ⟨E,q2⟩:=h.new (base:=0) (n:=0) (o:=.map #[] 0) A hn B λq hq=>⟨#[],0,Aq _ _,trivial⟩
 exact ⟨_,.map (some w.heap.size),_,rfl,⟨w.heap.size,M4j _ _ _,rfl⟩,E,q2⟩
end
section
variable {P:Program}{s o t:Nat}
theorem Hg{f:Nat}(h:DA P s f=some (o,t)):∃ B A,P.underlying s=some (.struct B)∧B[f]? = some A∧A.offset=o∧A.type=t:=by
 unfold DA at h;split at h;rename_i B G;split at h;rename_i A E;cases h;exact ⟨B,A,G,by simpa using E,rfl,rfl⟩;cases h;cases h
variable {n:Nat}
theorem EG{f:Nat}(h:DA P s f=some (o,t))(hn:BG P t=some (n+1))(r off:Nat)(w:World) :
  (Instr.fieldAt s (.pointer (some ⟨r,off,none⟩)) f).run P w=.ok (.pointer (some ⟨r,off+o,none⟩)) w:=by
 obtain ⟨E,B,h1,h2,h3,A⟩:=Hg h;unfold Instr.fieldAt;rw [run_bind,run_underlying h1];simp only [h2];rw [run_bind];simp only [Instr.sureAddr,Sem.run_pure];rw [run_bind];unfold fieldPlace;rw [run_bind,A,AL hn];simp only [Nat.add_eq_zero_iff,Nat.one_ne_zero,and_false,M2V,Sem.run_pure,h3];rw [AQ rfl]
variable {p:Ren}{g:GV}
theorem Zb{f:Nat}{l:List GV}{vs:List Value}(h:DA P s f=some (o,t))(hp:part P t l o=some g)(hv:RVs p l vs)(w:World) :
  ∃ v,(Instr.field s (.agg vs.toArray) f).run P w=.ok v w∧RV p g v:=by
 obtain ⟨H,G,h1,h2,h3,A⟩:=Hg h;subst h3 A;obtain ⟨v,B,E⟩:=K3 hp hv w;refine ⟨v,?_,E⟩;unfold Instr.field;rw [run_bind,run_underlying h1];simp only [h2];rw [run_bind];simp only [asAgg,Sem.run_pure];exact B
variable {i:GV}{k:Nat}
theorem J9{len:Nat}(h:X2 i len=some k):∃ q n,i=.int q n∧0≤n∧n<len∧n.toNat=k:=by
 unfold X2 at h;split at h;rename_i q n;split at h;rename_i A;cases h;exact ⟨q,n,rfl,A.1,A.2,rfl⟩;cases h;cases h
variable {x:GV}{vx:Value}
theorem HX{A:Value}(h:EE P t x i=some g)(H:RV p x vx)(hi:RV p i A)(w:World):∃ v,(Instr.indexAt t vx A).run P w=.ok v w∧RV p g v:=by
 unfold EE at h;split at h;rename_i e b off len c G;split at h;rename_i k es hk E;cases h;obtain ⟨q,n,rfl,B,h1,rfl⟩:=J9 hk;obtain ⟨r,base,m,cap,h2,rfl,h3⟩:=H;have hi:A=.int q n:=hi;subst hi;refine ⟨.pointer (some ⟨r,base+(off+n.toNat*es),none⟩),?_,r,base,m,h2,rfl⟩;simp only [Instr.indexAt,asIntOf,Sem.run_bind,Sem.run_pure,Result.andThen_ok,run_underlying G,B,h1,M3G,M2K,AL E,AQ,M1P];cases h;cases h
theorem KL{B:Value}(h:J5 P t x i=some g)(A:RV p x vx)(hi:RV p i B)(w:World):∃ v,(Instr.index t vx B).run P w=.ok v w∧RV p g v:=by
 unfold J5 at h;split at h;rename_i n e l G;split at h;rename_i k es hk I;obtain ⟨q,m,rfl,E,h1,rfl⟩:=J9 hk;obtain ⟨vs,rfl,hv⟩:=A;have hi:B=.int q m:=hi;subst hi;obtain ⟨v,h2,h3⟩:=K3 h hv w;refine ⟨v,?_,h3⟩;unfold Instr.index;simp only [asIntOf,pure_bind];rw [run_bind,run_underlying G];simp only [E,h1,M3G,M2K];rw [run_bind,AL I];exact h2;cases h;rename_i s G;split at h;rename_i k hk;split at h;rename_i b hb;cases h;obtain ⟨q,m,rfl,E,h1,rfl⟩:=J9 hk;have A:vx=Vs s:=A;subst A;have hi:B=.int q m:=hi;subst hi;refine ⟨.int .u8 b.toNat,?_,rfl⟩;rw [run_index_string w t _ q m G,dif_pos ⟨E,h1⟩];have h3:s[m.toNat]'(by omega)=b:=by rw [M00 (by omega)] at hb;exact M1x hb
 have H:(⟨⟨s⟩⟩:ByteArray)[m.toNat]'(by show m.toNat<s.length;omega)=b:=h3;rw [H];cases h;cases h;cases h
variable {d m:Nat}
theorem Ek{v:Value}(h:C4 (some x) d m=some k)(hv:RV p x v)(c:BoundsCode)(w:World):k≤m∧(Instr.sliceBound v m c).run P w=.ok k w:=by
 unfold C4 at h;split at h;rename_i e;cases e;rename_i q n e;cases e;split at h;rename_i A;cases h;have hv:v=.int q n:=hv;subst hv;refine ⟨by omega,?_⟩;simp only [Instr.sliceBound,asIntOf,Sem.run_bind,Sem.run_pure,Result.andThen_ok,A,M3G,M2K];cases h;cases h
theorem HY(h:C4 none d m=some k):k=d∧d≤m:=by
 by_cases hd:d≤m;simp only [C4,M1d hd,M1J] at h;exact ⟨h.symm,hd⟩
 simp only [C4,M1e hd] at h;cases h
theorem Rz{m':Nat}(h:C4 (some x) d m=some k)(hm:m≤m'):C4 (some x) d m'=some k∧k≤m:=by
 unfold C4 at h ⊢;cases x <;> simp only at h ⊢ <;> first | (cases h;done) | skip
 rename_i q n;by_cases A:0≤n∧n≤m;rw [M1d A] at h;cases h;exact ⟨by rw [M1d ⟨A.1,by omega⟩],by omega⟩
 rw [M1e A] at h;cases h
def RO (p:Ren):Option GV→Option Value→Prop
 | none,none=>True
 | some g,some v=>RV p g v
 | none,some _=>False
 | some _,none=>False
variable {l h kc:Nat}{isS:Bool}{lo hi:Option GV}{A:Option Value}
theorem HZ{len cap:Nat}{E:Option Value}(h1:C4 hi len kc=some h)(h2:C4 lo 0 h=some l)(hl:RO p lo A)(H:RO p hi E)(Y:kc≤cap)(w:World) :
  (Instr.sliceBounds isS len cap A E none).run P w=.ok (l,h,cap) w∧l≤h∧h≤kc:=by
 cases hi with
 | none=>
  cases E with
  | some _=>exact H.elim
  | none=>
   obtain ⟨e,B⟩:=HY h1;subst e;cases lo with
   | none=>
    cases A with
    | some _=>exact hl.elim
    | none=>
     obtain ⟨e,G⟩:=HY h2;subst e;exact ⟨rfl,G,B⟩
   | some x=>
    cases A with
    | none=>exact hl.elim
    | some v=>
     obtain ⟨I,J⟩:=Ek (P:=P) h2 hl .sliceB w;refine ⟨?_,I,B⟩;unfold Instr.sliceBounds;simp only [pure_bind,M3V,M2v,M2V];rw [run_bind,J];rfl
 | some y=>
  cases E with
  | none=>exact H.elim
  | some u=>
   obtain ⟨U,B⟩:=Rz h1 Y;have O:=λc=>(Ek (P:=P) U H c w).2
   cases lo with
   | none=>
    cases A with
    | some _=>exact hl.elim
    | none=>
     obtain ⟨e,G⟩:=HY h2;subst e;refine ⟨?_,G,B⟩;unfold Instr.sliceBounds;simp only [pure_bind];rw [run_bind,O];rfl
   | some x=>
    cases A with
    | none=>exact hl.elim
    | some v=>
     obtain ⟨I,J⟩:=Ek (P:=P) h2 hl .sliceB w;refine ⟨?_,I,B⟩;unfold Instr.sliceBounds;simp only [pure_bind,M3V,M2v,M2V];rw [run_bind,O];simp only;rw [run_bind,J];rfl
theorem VD{len cap:Nat}{hi mx:GV}{I vmx:Value}(U:C4 (some mx) 0 kc=some m)(h1:C4 (some hi) 0 m=some h)(h2:C4 lo 0 h=some l)(hl:RO p lo A)(Z:RV p hi I)
  (hm:RV p mx vmx)(Y:kc≤cap)(w:World):(Instr.sliceBounds isS len cap A (some I) (some vmx)).run P w=.ok (l,h,m) w∧l≤h∧h≤m∧m≤kc:=by
 obtain ⟨J,B⟩:=Rz U Y;have E:=λc=>(Ek (P:=P) J hm c w).2
 obtain ⟨G,H⟩:=Ek (P:=P) h1 Z .slice3B w;cases lo with
 | none=>
  cases A with
  | some _=>exact hl.elim
  | none=>
   obtain ⟨e,O⟩:=HY h2;subst e;refine ⟨?_,O,G,B⟩;unfold Instr.sliceBounds;simp only;rw [run_bind,E];simp only;rw [run_bind,H];rfl
 | some x=>
  cases A with
  | none=>exact hl.elim
  | some v=>
   obtain ⟨k3,k4⟩:=Ek (P:=P) h2 hl .slice3C w;refine ⟨?_,k3,G,B⟩;unfold Instr.sliceBounds;simp only [Option.isSome_some,M2K];rw [run_bind,E];simp only;rw [run_bind,H];simp only;rw [run_bind,k4];rfl
variable {e:Nat}{vmx:Option Value}
theorem X5{mx:Option GV}{G:Option Value}{Y Z x3:Nat}(U:P.underlying t=some (.slice e))(h1:C4 mx 0 0=some Y)(h2:C4 hi 0 0=some Z)(h3:C4 lo 0 0=some x3)
  (O:mx=none∨hi≠none)(hl:RO p lo G)(E:RO p hi A)(hm:RO p mx vmx)(B:∃ n,BG P e=some n)(w:World):(Instr.sliceAt t (.slice none 0 0) G A vmx).run P w=.ok (.slice none 0 0) w:=by
 obtain ⟨n,B⟩:=B;have z:∀ {o:Option GV} {k:Nat},C4 o 0 0=some k→k=0:=by
  intro o k h;unfold C4 at h;split at h;rw [M1d (M1g _)] at h;cases h;rfl
  split at h;cases h;omega;cases h;cases h
 have H:=z h1;have I:=z h2;have J:=z h3;subst H I J;have hb:(Instr.sliceBounds true 0 0 G A vmx).run P w=.ok (0,0,0) w:=by
  cases mx with
  | none=>
   cases vmx with
   | none=>exact (HZ (kc:=0) h2 h3 hl E (M1g _) w).1
   | some _=>exact hm.elim
  | some m=>
   cases vmx with
   | none=>exact hm.elim
   | some vm=>
    cases hi with
    | none=>rcases O with h|h;cases h;exact absurd rfl h
    | some hx=>
     cases A with
     | none=>exact E.elim
     | some vh=>exact (VD (kc:=0) h1 h2 h3 hl E hm (M1g _) w).1
 simp only [Instr.sliceAt,Instr.slice,Sem.run_bind,run_underlying U,Result.andThen_ok,hb,AL B,Sem.run_pure];rfl
variable {r:Nat}
theorem GG{es len cap off:Nat}{B:Option Value}(G:P.underlying t=some (.slice e))(E:BG P e=some es)(w:World)(hb:(Instr.sliceBounds true len cap B A vmx).run P w=.ok (l,h,m) w) :
  (Instr.sliceAt t (.slice (some ⟨r,off,none⟩) len cap) B A vmx).run P w=.ok (.slice (some ⟨r,if m=l then off else off+l*es,none⟩) (h-l) (m-l)) w:=by
 simp only [Instr.sliceAt,Instr.slice,Sem.run_bind,run_underlying G,Result.andThen_ok,hb,AL E,Sem.run_pure];split;rfl;simp only [Option.map,AQ]
variable {S:St}
theorem RH.known{w:World}(h:RH p S w){b base:Nat}{l:List GV}(hp:p b=some (r,base,n))(hg:S.h.get b=some (.cells l)):l.length≤n:=by
 obtain ⟨cs,ty,fz,h1,h2,h3,vs,A,B⟩:=h.at_ b r base n _ hp hg;have:=B.length_le;have:=A.length;simp only [M2f,M1u] at *;omega
theorem KM{w:World}(h:RH p S w){mx:Option GV}{ad Y:Option Value}(hs:ED P t S x lo hi mx=some g)(B:RV p x vx)(hl:RO p lo ad)(G:RO p hi Y)(hm:RO p mx vmx) :
  ∃ v,(Instr.sliceAt t vx ad Y vmx).run P w=.ok v w∧RV p g v:=by
 unfold ED at hs;split at hs
 ·
  rename_i s A;have B:vx=Vs s:=B;subst B;split at hs;cases hs;split at hs;rename_i hb h1;split at hs;rename_i l h2;cases hs;cases vmx with
  | some _=>exact hm.elim
  | none=>
   refine ⟨Vs ((s.drop l).take (hb-l)),?_,rfl⟩;have af:(⟨⟨s⟩⟩:ByteArray).size=s.length:=rfl;obtain ⟨h3,_⟩:=HZ (P:=P) (isS:=false) h1 h2 hl G (M1g _) w;have he:∀ a b,(⟨⟨s⟩⟩:ByteArray).extract a b=⟨⟨(s.drop a).take (b-a)⟩⟩:=λa b=>ByteArray.extract_mk s a b
   simp only [Instr.sliceAt,Instr.slice,Sem.run_bind,run_underlying A,Result.andThen_ok,M3V,M2v,M2V,Sem.run_pure,af,h3,he]
  cases hs;cases hs
 ·
  rename_i e A;split at hs;rename_i x1 x2 x3 h1 h2 h3;split at hs;cases hs;rename_i hne;split at hs;rename_i n hn;cases hs;have B:vx=.slice none 0 0:=B;subst B;refine ⟨.slice none 0 0,X5 A h1 h2 h3 ?_ hl G hm ⟨n,hn⟩ w,rfl⟩;cases mx with
  | none=>exact .inl rfl
  | some m=>
   cases hi with
   | none=>exact absurd rfl (hne m rfl)
   | some _=>exact .inr (by simp)
  cases hs;cases hs
 ·
  rename_i e b off len c A;obtain ⟨r,base,n,cap,h1,rfl,rfl,h3⟩:=B;split at hs;cases hs;rename_i es J;split at hs;cases vmx with
  | some _=>exact hm.elim
  | none=>
   split at hs;cases hs;rename_i hb H;split at hs;cases hs;rename_i l I;cases hs;obtain ⟨E,O,h8⟩:=HZ (P:=P) (isS:=true) H I hl G (M1g _) w;refine ⟨_,GG A J w E,r,base,n,cap-l,h1,?_,rfl,by omega⟩;congr 2;split <;> simp [M1P]
  cases hs
 ·
  rename_i e b off len es A;obtain ⟨r,base,n,cap,h1,rfl,h3,ai⟩:=B;split at hs;rename_i ag cs J hg;split at hs;rename_i U ac;have U:=M0g U;have ac:=M18 ac;subst U;have hk:=h.known h1 hg;have ab:(cs.length-off) / es≤cap:=by
   apply Nat.div_le_of_le_mul;rw [M3e];omega
  split at hs;rename_i mm;split at hs;cases hs;rename_i ak;split at hs;cases hs;rename_i m H;split at hs;cases hs;rename_i hb I;split at hs;cases hs;rename_i l E;cases hs;cases vmx with
  | none=>exact hm.elim
  | some vm=>
   cases Y with
   | none=>exact G.elim
   | some vh=>
    obtain ⟨O,h8,h9,ah⟩:=VD (P:=P) (isS:=true) (len:=len) (cap:=cap) H I E hl G hm ab w;refine ⟨_,GG A J w O,r,base,n,m-l,h1,?_,rfl,by omega⟩;congr 2;split <;> simp [M1P]
  cases vmx with
  | some _=>exact hm.elim
  | none=>
   split at hs;cases hs;rename_i hb H;split at hs;cases hs;rename_i l I;obtain ⟨E,O,h8⟩:=HZ (P:=P) (isS:=true) H I hl G ab w;split at hs;rename_i hc;cases hs;refine ⟨_,GG A J w E,r,base,n,cap-l,h1,?_,?_,by omega⟩;congr 2;split;rename_i Z;rcases hc with rfl|hc;simp;omega;simp [M1P];have:(cap-l)*es+l*es=cap*es:=by rw [←M2p];congr 1;omega
   omega;split at hs;rename_i Z;cases hs;refine ⟨_,GG A J w E,_,_,by rw [Z,M3B]⟩;cases hs
  cases hs;cases hs
 cases hs
end
section
theorem El (l:List UInt8):(⟨⟨l⟩⟩:ByteArray).toList=l:=by rw [ByteArray.toList_eq]
variable {p:Ren}{d:TypeDesc}{B:Value}
theorem RE{a b:GV}{E:Value}{r:Bool}(h:Z5 d a b=some r)(A:RV p a B)(hb:RV p b E):Instr.sameNow d B E=some r∧(r=true→B=E∧Instr.sameBits 10000 B E=true):=by
 unfold Z5 at h;split at h;have A:B=.int _ _:=A;have hb:E=.int _ _:=hb;subst A hb;split at h;rename_i e;subst e;cases h;refine ⟨by simp [Instr.sameNow],λh=>?_⟩;have:=eq_of_beq h;subst this;exact ⟨rfl,by simp [Instr.sameBits]⟩;cases h;have A:B=Vs _:=A;have hb:E=Vs _:=hb;subst A hb;cases h;rename_i x y;have e:((⟨⟨x⟩⟩:ByteArray)==⟨⟨y⟩⟩)=(x==y):=by rw [beq_toListBytes,El,El]
 refine ⟨by simp only [Instr.sameNow,e],λh=>?_⟩;have:=eq_of_beq h;subst this;exact ⟨rfl,by simp only [Instr.sameBits,e,h]⟩;have A:B=.bool _:=A;have hb:E=.bool _:=hb;subst A hb;cases h;refine ⟨rfl,λh=>?_⟩;have:=eq_of_beq h;subst this;exact ⟨rfl,by simp [Instr.sameBits]⟩;cases h
def RF (p:Ren):Option (Nat×GV)→Option (Nat×Value)→Prop
 | none,none=>True
 | some (i,g),some (j,v)=>i=j∧RV p g v
 | _,_=>False
theorem I0 {p:Ren}{d:TypeDesc}{k:GV}{E:Value}(hk:RV p k E):∀ {es:List (GV×GV)} {B:List MapEntry} {i:Nat} {r:Option (Nat×GV)},RM p es B→P2 d k es i=some r→
  ∃ A,Instr.findNow d E B i=some A∧RF p r A∧∀ j v,A=some (j,v)→i≤j∧∃ e,B[j-i]? = some e∧e.key=E∧Instr.sameBits 10000 e.key E=true
 | [],[],i,r,_,h=>by cases h;exact ⟨none,rfl,trivial,λj v h=>by cases h⟩
 | (a,v)::es,e::B,i,r,⟨⟨h1,h2⟩,h3⟩,h=>by
  unfold P2 at h;unfold Instr.findNow
  split at h;rename_i hq;cases h;obtain ⟨G,q2⟩:=RE hq hk h1;obtain ⟨H,I⟩:=q2 rfl;refine ⟨some (i,e.val),by simp only [G],⟨rfl,h2⟩,λj J hj=>?_⟩;cases hj;refine ⟨M1g _,e,by simp,H.symm,?_⟩;rw [←H] at I ⊢;exact I
  rename_i hq;obtain ⟨G,q2⟩:=RE hq hk h1;obtain ⟨A,r1,r2,r3⟩:=I0 hk h3 h;refine ⟨A,by simp only [G];exact r1,r2,λj J hj=>?_⟩;obtain ⟨s1,e',s2,s3⟩:=r3 j J hj;refine ⟨by omega,e',?_,s3⟩;rw [show j-i=(j-(i+1))+1 by omega,M2r];exact s2;cases h
 | [],_::_,_,_,h,_=>h.elim
 | _::_,[],_,_,h,_=>h.elim
variable {P:Program}{kt:Nat}
theorem E2{p:Ren}{k:GV}{b:Bool}(A:P.underlying kt=some d)(hd:qO d=true)(w:World):(Instr.checkKey b 10000 kt B).run P w=.ok () w:=by
 unfold Instr.checkKey;rw [run_bind,run_underlying A];cases d <;> first | (cases hd;done) | rfl
theorem EH{A:Value}{es:List MapEntry}{r:Option (Nat×Value)}(B:P.underlying kt=some d)(h:Instr.findNow d A es 0=some r)(w:World):(Instr.findKey kt A es).run P w=.ok r w:=by
 unfold Instr.findKey;rw [run_bind,run_underlying B];simp only [h];rfl
variable {g:GV}
theorem Zc{v:Value}(h:RV p g v)(ok b:Bool):RV p (okG ok g b) (if ok then .tuple #[v,.bool b] else v):=by
 cases ok;exact h;exact ⟨[v,.bool b],rfl,h,rfl,trivial⟩
variable {S:St}{w:World}{x:GV}{vx:Value}
theorem Zd(h:RH p S w){es:List (GV×GV)}(hm:P3 S x=some es)(E:RV p x vx) :
  ∃ A:Array MapEntry,RM p es A.toList∧((vx=.map none∧A = #[])∨∃ r B,vx=.map (some r)∧w.heap[r]? = some (.map A B)):=by
 unfold P3 at hm;split at hm;cases hm;exact ⟨#[],trivial,.inl ⟨E,rfl⟩⟩;rename_i b;split at hm;rename_i G hg;cases hm;obtain ⟨r,h1,rfl⟩:=E;obtain ⟨A,B,h2,h3⟩:=h.at_ b r 0 0 _ h1 hg;exact ⟨A,h3,.inr ⟨r,B,rfl,h2⟩⟩;cases hm;cases hm
variable {t:Nat}
theorem X6(h:RH p S w){i:GV}{E:Value}{ok:Bool}(hl:GE P t S x i ok=some g)(hx:RV p x vx)(hi:RV p i E) :
  ∃ v,(Instr.lookup t vx E ok).run P w=.ok v w∧RV p g v:=by
 unfold GE at hl;split at hl;rename_i kt O hu;split at hl;rename_i d hd;split at hl;rename_i es hk hm;obtain ⟨G,h1,h2⟩:=Zd h hm hx;have H:∀ r A,P2 d i es 0=some r→Instr.findNow d E G.toList 0=some A→∀ v b,((∃ j,A=some (j,v))∧b=true∨A=none∧b=false∧(zeroValue O).run P w=.ok v w)→(Instr.lookup t vx E ok).run P w=.ok (if ok then .tuple #[v,.bool b] else v) w:=by
  intro r A hr I v b hv;unfold Instr.lookup;rw [run_bind,run_underlying hu];simp only;rcases h2 with ⟨rfl,rfl⟩|⟨q,J,rfl,h2⟩
  simp only [pure_bind];rw [run_bind,E2 (p:=p) (k:=i) hd hk];simp only;rw [run_bind,EH hd I];rcases hv with ⟨⟨j,rfl⟩,rfl⟩|⟨rfl,rfl,B⟩
  rfl;simp only;rw [run_bind,B];rfl;have U:(getObj q).run P w=.ok (.map G J) w:=by simp only [getObj,Sem.run,h2]
  simp only;rw [run_bind,U];simp only [pure_bind];rw [run_bind,E2 (p:=p) (k:=i) hd hk];simp only;rw [run_bind,EH hd I];rcases hv with ⟨⟨j,rfl⟩,rfl⟩|⟨rfl,rfl,B⟩
  rfl;simp only;rw [run_bind,B];rfl
 split at hl;rename_i j v hf;cases hl;obtain ⟨A,r1,r2,_⟩:=I0 hi h1 hf;cases A with
 | none=>exact r2.elim
 | some q=>
  obtain ⟨j',v'⟩:=q;exact ⟨_,H _ _ hf r1 v' true (.inl ⟨⟨j',rfl⟩,rfl⟩),Zc r2.2 _ _⟩
 rename_i hf;split at hl;rename_i af Z;split at hl;rename_i z B;split at hl;rename_i gz Y;cases hl;obtain ⟨A,r1,r2,_⟩:=I0 hi h1 hf;cases A with
 | some q=>exact r2.elim
 | none=>
  exact ⟨_,H _ _ hf r1 z false (.inr ⟨rfl,rfl,by simp [zeroValue,typeInfo,Z,B]⟩),Zc (Ru Y) _ _⟩
 cases hl;cases hl;cases hl;cases hl;cases hl;cases hl;cases hl
theorem RM.setAt {p:Ren}:∀ {es:List (GV×GV)} {A:List MapEntry} {i:Nat} {k v:GV} {B E:Value},RM p es A→RV p k B→RV p v E→RM p (setAt es i k v) (A.modify i λe=>{ e with key:=B,val:=E })
 | [],[],i,_,_,_,_,_,_,_=>by cases i <;> trivial
 | (a,b)::es,e::A,0,_,_,_,_,⟨_,h⟩,hk,hv=>⟨⟨hk,hv⟩,h⟩
 | (a,b)::es,e::A,i+1,k,v,B,E,⟨h1,h⟩,hk,hv=>by
  have:=RM.setAt (i:=i) h hk hv;simp only [List.modify_succ_cons];exact ⟨h1,this⟩
 | [],_::_,_,_,_,_,_,h,_,_=>h.elim
 | _::_,[],_,_,_,_,_,h,_,_=>h.elim
theorem RM.snoc {p:Ren}:∀ {es:List (GV×GV)} {A:List MapEntry} {k v:GV} {e:MapEntry},RM p es A→RV p k e.key→RV p v e.val→RM p (es++[(k,v)]) (A++[e])
 | [],[],_,_,_,_,hk,hv=>⟨⟨hk,hv⟩,trivial⟩
 | (a,b)::es,e::A,_,_,_,⟨h1,h⟩,hk,hv=>⟨h1,RM.snoc h hk hv⟩
 | [],_::_,_,_,_,h,_,_=>h.elim
 | _::_,[],_,_,_,h,_,_=>h.elim
theorem PY{S':St}(h:RH p S w){m k v:GV}{vm J:Value}(A:HU P t S m k v=some S')(hm:RV p m vm)(hk:RV p k B)(hv:RV p v J) :
  ∃ w',(Instr.mapUpdate t vm B J).run P w=.ok () w'∧RH p S' w'∧Ch (λ_=>False) p w p w':=by
 unfold HU at A;split at A;rename_i kt et b ad;split at A;rename_i d es hd hg;obtain ⟨r,h1,rfl⟩:=hm;obtain ⟨E,H,h2,h3⟩:=h.at_ b r 0 0 _ h1 hg;have ab:(getObj r).run P w=.ok (.map E H) w:=by simp only [getObj,Sem.run,h2]
 have ai:r<w.heap.size:=Am h2;have ac:∀ o,(setObj r o).run P w=.ok () { w with heap:=w.heap.setIfInBounds r o }:=λo=>by simp only [setObj,Sem.run,h2]
 have fin:∀ (G:Array MapEntry) (I:Nat) (O:List (GV×GV)),S.put b (some (.map O))=some S'→RM p O G.toList→
   RH p S' { w with heap:=w.heap.setIfInBounds r (.map G I) }∧Ch (λ_=>False) p w p { w with heap:=w.heap.setIfInBounds r (.map G I) }:=λG I O hS hr=>
  h.updW h1 (by rw [hg];simp) hS (by simp) (λk hk=>by simp [M2z (M40 hk)]) rfl rfl rfl ⟨G,I,by simp [ai],hr⟩
 split at A;rename_i i v0 Y hf;obtain ⟨Z,r1,r2,r3⟩:=I0 hk h3 hf;cases Z with
 | none=>exact r2.elim
 | some q=>
  obtain ⟨j,v'⟩:=q;obtain ⟨rfl,_⟩:=r2;obtain ⟨_,e,e1,e2,e3⟩:=r3 i v' rfl;simp only [M3f] at e1;obtain ⟨f1,U⟩:=fin (E.modify i λe=>{ e with key:=B,val:=J }) H _ A (by
   rw [Array.toList_modify];exact h3.setAt hk hv)
  refine ⟨_,?_,f1,U⟩;unfold Instr.mapUpdate;rw [run_bind,run_underlying ad];simp only;rw [run_bind,ab];simp only;rw [run_bind,E2 (p:=p) (k:=k) hd Y];simp only;rw [run_bind,EH hd r1];simp only;have ah:(Instr.keyThatStays (((E[i]?).map (·.key)).getD B) B).run P w=.ok B w:=by
   have:E[i]? = some e:=by rw [←M1E];exact e1
   rw [this];simp only [M1W,M1G];unfold Instr.keyThatStays;rw [M1d e3];rfl
  rw [run_bind,ah];exact ac _
 rename_i Y hf;obtain ⟨Z,r1,r2,r3⟩:=I0 hk h3 hf;cases Z with
 | some q=>exact r2.elim
 | none=>
  obtain ⟨f1,U⟩:=fin (E.push { key:=B,val:=J,born:=H }) (H+1) _ A (by
   rw [Array.toList_push];exact h3.snoc hk hv)
  refine ⟨_,?_,f1,U⟩;unfold Instr.mapUpdate;rw [run_bind,run_underlying ad];simp only;rw [run_bind,ab];simp only;rw [run_bind,E2 (p:=p) (k:=k) hd Y];simp only;rw [run_bind,EH hd r1];exact ac _
 cases A;cases A;cases A
end
section
variable {w:World}
theorem CellsAt.get{ad:Addr}{vs:List Value}(h:CellsAt w [] ad vs){j:Nat}{u:Value}(hj:vs[j]? = some u):w.cell? (ad.add j)=some u:=by
 rw [AQ h.spot];exact h.at_ j u hj
variable {P:Program}{p:Ren}{S:St}{es n E:Nat}{x:GV}{vx:Value}
theorem qR(h:RH p S w){new:List GV}{G:TypeDesc}(hs:Z6 S es x=some (n,new))(A:RV p x vx)(B:P.underlying E=some G)(hd:yL G=true)(hp:0<es)
  (O:new.all E0=true)(h1:∀ s,x=.str s→es=1):∃ U,RVs p new U∧Src P es E vx n U w:=by
 have hk:(∃ e',P.underlying E=some (.slice e'))∨P.underlying E=some .string:=by
  cases G <;> first | (cases hd;done) | exact .inl ⟨_,B⟩ | exact .inr B
 unfold Z6 at hs;split at hs;cases hs;have A:vx=.slice none 0 0:=A;subst A;exact ⟨[],trivial,hk,λ_=>rfl,run_firstCells_none w es 0 0 0,run_firstCells_none w.drew es 0 0 0,by simp,λ_ h=>by cases h⟩;cases hs;obtain ⟨a,c,rfl⟩:=A;refine ⟨[],trivial,hk,λ_=>rfl,?_,?_,by simp,λ_ h=>by cases h⟩;simp [Builtin.firstCells,loadCells,loadCellsFrom];simp [Builtin.firstCells,loadCells,loadCellsFrom];rename_i b off m c;obtain ⟨l,h2,h3⟩:=M01.1 hs;cases h3;obtain ⟨r,base,k,cap,Y,rfl,h5⟩:=A;unfold Bc at h2;split at h2;rename_i cs hg;obtain ⟨vs,I,H,J⟩:=h.cells Y hg h2;refine ⟨vs,I,hk,λ_=>rfl,run_firstCells_some w es n _ n cap vs H (λj u hj=>CellsAt.get J hj),run_firstCells_some w.drew es n _ n cap vs H (λj u hj=>?_),H,I.cell O⟩;have:=CellsAt.get J hj
 simpa using this
 cases h2;rename_i s;cases hs;have A:vx=Vs s:=A;subst A;have h1:=h1 s rfl;subst h1;have hb:byteCells (⟨⟨s⟩⟩:ByteArray)=s.map λb=>Value.int .u8 b.toNat:=rfl
 refine ⟨byteCells ⟨⟨s⟩⟩,?_,hk,λ_=>rfl,firstCells_string _ _,firstCells_string _ _,?_,?_⟩;rw [hb];clear hb O A h1;induction s with
 | nil=>trivial
 | cons b s Z=>exact ⟨rfl,Z⟩
 rw [byteCells_length,M29];rfl;intro u B;obtain ⟨_,_,rfl⟩:=M1L.1 B;rfl;cases hs
theorem OM (z:Array Value)(n:Nat):(Builtin.zeroCells z n).toList.length=n*z.size:=by simp [Builtin.zeroCells]
variable {S':St}{t ty e:Nat}{i:TypeInfo}
theorem PZ(h:RH p S w){len cap name:Nat}{z:Value}{base:Option Addr}{old new:List GV}{A B:List Value}
  (ht:P.underlying t=some (.slice e))(hi:P.info? e=some i)(hz:i.zero=some z)(ad:i.size=es)(I:i.bytes≤4096)(ag:z.cells.size=es)(ab:(Builtin.firstCells es len (.slice base len cap)).run P w.drew=.ok A.toArray w.drew)(aa:A.length=len*es)(ac:RVs p old A)
  (hs:Src P es E vx n B w)(Z:RVs p new B)(hg:cap<len+n)(hm:len≤1000000)(hn:n≤1000000)(H:newB S name (old++new)=some S')(Y:By p name)(hx:name<S.nx) :
  Giv P (· = name) p w (Builtin.append_ #[t,E] ty #[.slice base len cap,vx]) (.sl name 0 (len+n) (.op es)) S':=by
 subst ad;have J:(len+n)*i.bytes≤140737488355328:=by
  have:=M32 (show len+n≤2000000 by omega) I;omega
 have hr:=run_append_grow_src w t E ty e i z ht hi hz base len cap A ab vx n B hs hg (by omega) (growslice_fits hg J);have O:=grownCap_ge w (len+n) cap e;obtain ⟨q1,q2⟩:=h.drew.row (ty:=e) (fz:=(0,0)) (Builtin.zeroCells z.cells (grownCap w (len+n) cap e-(len+n))).toList H Y hx (ac.append Z) (.inl rfl);have G:((A++B).toArray++Builtin.zeroCells z.cells (grownCap w (len+n) cap e-(len+n)))=((A++B)++(Builtin.zeroCells z.cells (grownCap w (len+n) cap e-(len+n))).toList).toArray:=by
  apply Array.ext';simp
 rw [G] at hr;have U:0+grownCap w (len+n) cap e*i.size=((A++B)++(Builtin.zeroCells z.cells (grownCap w (len+n) cap e-(len+n))).toList).length:=by
  rw [M1l,M1l,OM,aa,hs.newsLen,ag,←M2p,←M2p,M25];congr 1;omega
 generalize ((A++B)++(Builtin.zeroCells z.cells (grownCap w (len+n) cap e-(len+n))).toList)=L at *;exact ⟨p.set name (w.heap.size,0,L.length),_,_,hr,⟨w.heap.size,0,L.length,_,M4j _ _ _,rfl,U,O⟩,q1,(Ch.drew _ _ _).trans q2⟩
variable {B:Nat}
theorem JF{len cap:Nat}{base:Option Addr}{A:List Value}(ht:P.underlying t=some (.slice e))(hi:P.info? e=some i)(G:i.size=es)(hs:Src P es B vx 0 A w)(hl:len≤cap) :
  (Builtin.append_ #[t,B] ty #[.slice base len cap,vx]).run P w=.ok (.slice base len cap) w:=by
 subst G;have hn:A=[]:=M1F.1 (by rw [hs.newsLen];simp);subst hn;have E:=hs.cells;rcases hs.kind with ⟨e',hk⟩|hk <;> cases base <;> simp [Builtin.append_,run_underlying ht,run_underlying hk,sizeOf,typeInfo,hi,hs.len,hl,E,storeCells]
variable {r off:Nat}
theorem RG{w':World}{len cap:Nat}{A:List Value}(ht:P.underlying t=some (.slice e))(hi:P.info? e=some i)(G:i.size=es)(hs:Src P es B vx n A w)(hl:len+n≤cap)
  (E:(storeCells ⟨r,off+len*es,none⟩ A).run P w=.ok () w') :
  (Builtin.append_ #[t,B] ty #[.slice (some ⟨r,off,none⟩) len cap,vx]).run P w=.ok (.slice (some ⟨r,off,none⟩) (len+n) cap) w':=by
 subst G;rcases hs.kind with ⟨e',hk⟩|hk <;> simp [Builtin.append_,run_underlying ht,run_underlying hk,sizeOf,typeInfo,hi,hs.len,hl,hs.cells,Addr.add_lit,E]
theorem RH.rename{S1 S2:St}(h:RH p S w){b base name:Nat}{g:GB}{cs':Array Value}(hp:p b=some (r,base,n))(hs:S.h.get b≠none)(hk:S.put b none=some S1)(O:S1.put name (some g)=some S2)(hn:By p name)(hx:name<S.nx)
  (hb:∀ q,Le p q→RB q (w.setRow r cs') r (base+off) (n-off) g) :
  RH (p.set name (r,base+off,n-off)) S2 (w.setRow r cs')∧Ch (· = name) p w (p.set name (r,base+off,n-off)) (w.setRow r cs'):=by
 obtain ⟨k1,_,k3⟩:=Ax hk;obtain ⟨s1,_,s3⟩:=Ax O;have B:=M4D (x:=(r,base+off,n-off)) hn.1;have I:(w.setRow r cs').heap.size=w.heap.size:=by simp [World.setRow]
 have A:∀ i,i≠name→S2.h.get i≠none→i≠b∧S.h.get i=S2.h.get i:=λi hi h2=>by
  rw [s3,M1e hi,k3] at h2 ⊢;by_cases e:i=b;rw [M1d e] at h2;exact absurd rfl h2
  rw [M1e e];exact ⟨e,rfl⟩
 have E:∀ i x,i≠name→p i=some x→S2.h.get i≠none→x.1≠r:=λi x hi ac h2 Z=>by
  obtain ⟨a1,a2⟩:=A i hi h2;exact a1 (h.inj i b x _ ac hp (by rw [a2];exact h2) hs Z)
 have ab:Ev [r] w (w.setRow r cs'):=⟨rfl,rfl,rfl,M1O I.symm,λk _ hm=>setRow_other w r k cs' (by simpa using hm)⟩
 refine ⟨⟨λi U Y n' g' h1 h2=>?_,λi j x x' h1 h2 h3 G H=>?_,λi x h1=>?_,Z9 h.fr (s1.trans k1) hx,?_,h.gl.mono B⟩,
  ⟨B,VB,rfl,rfl,rfl,M1O I.symm,λk hk ho=>setRow_other w r k cs' (λe=>ho (.inl ⟨b,_,hp,e.symm⟩)),λk hk=>?_,λ_ _ h _=>h⟩⟩
 by_cases e:i=name;subst e;rw [s3,M1d rfl] at h2;cases h2;rw [M4j] at h1;cases h1;exact hb _ B
 rw [M4n e] at h1;have J:S2.h.get i≠none:=by rw [h2];simp
 exact (h.at_ i U Y n' g' h1 (by rw [(A i e J).2];exact h2)).mono B (setRow_other w r U cs' (E i _ e h1 J));by_cases e:i=name;by_cases e':j=name;rw [e,e'];subst e;rw [M4j] at h1;rw [M4n e'] at h2;cases h1;exact absurd H.symm (E j _ e' h2 G)
 by_cases e':j=name;subst e';rw [M4j] at h2;rw [M4n e] at h1;cases h2;exact absurd H (E i _ e h1 h3)
 rw [M4n e] at h1;rw [M4n e'] at h2;exact h.inj i j x x' h1 h2 (by rw [(A i e h3).2];exact h3) (by rw [(A j e' G).2];exact G) H
 rw [I];by_cases e:i=name;subst e;rw [M4j] at h1;cases h1;show r<_;exact h.lt b _ hp
 rw [M4n e] at h1;exact h.lt _ _ h1
 refine h.ro.next (λ_ _=>by rw [DB O,DB hk]) ab (λk hk=>⟨b,_,hp,hs,(M19.1 hk).symm⟩) λi x h1 h2=>.inl ?_
 by_cases e:i=name;rw [M1d e] at h1;cases h1;exact ⟨b,_,hp,hs,rfl⟩
 rw [M1e e] at h1;exact ⟨i,x,h1,by rw [(A i e h2).2];exact h2,rfl⟩
 rcases VC k hk with e|e;exact .inl e;exact .inl (.inl ⟨b,_,hp,e.symm⟩)
theorem Ze {α:Type}(l A vs:List α)(a:Nat)(E:a+A.length≤l.length)(B:∀ j u,A[j]? = some u→l[a+j]? = some u) :
  A++vs <+: (l.take (a+A.length)++vs++l.drop (a+A.length+vs.length)).drop a:=by
 have e:l.take (a+A.length)=l.take a++A:=by
  apply M23;intro i;by_cases h1:i<a;rw [M1r,M1d (by omega),M1f (by simp;omega),M1r,M1d h1];have hl:(l.take a).length=a:=by simp;omega
  rw [M1a (by omega),hl,M1r];by_cases h2:i<a+A.length;rw [M1d h2];have h3:i-a<A.length:=by omega
  have:=B (i-a) _ (M00 h3);rw [show a+(i-a)=i by omega] at this;rw [this,M00 h3]
  rw [M1e h2,M1h (by omega)]
 rw [e];have hl:(l.take a).length=a:=by simp;omega
 refine ⟨l.drop (a+A.length+vs.length),?_⟩;simp only [M20];rw [List.drop_left' hl]
theorem P6{new:List GV}(h:Z6 S es x=some (0,new)):new=[]:=by
 unfold Z6 at h;split at h;cases h;rfl;cases h;rfl;obtain ⟨l,h1,h2⟩:=M01.1 h;cases h2;unfold Bc at h1;split at h1;obtain ⟨_,h3⟩:=HW h1;exact M1F.1 (by omega);cases h1;simp only [M1J,M3O,M1F] at h;obtain ⟨rfl,rfl⟩:=h;rfl
 cases h
theorem X7(h:RH p S w){t2 name:Nat}{s g:GV}{vs:Value}(A:EF P name t t2 S s x=some (g,S'))(hs:RV p s vs)(hx:RV p x vx)(hn:By p name)(am:name<S.nx) :
  Giv P (· = name) p w (Builtin.append_ #[t,t2] ty #[vs,vx]) g S':=by
 unfold EF at A;split at A;rename_i e es d2 aC aB;obtain ⟨Y,i,hi,U,ae⟩:=DC aC;split at A;rename_i z n new hb hz al;simp only [M05] at hb;obtain ⟨⟨ax,az⟩,ay⟩:=hb;have aD:=M18 ay;obtain ⟨i',zv,z1,z2,z3,z4⟩:=Cc (p:=p) hz;have:i'=i:=by rw [hi] at z1;cases z1;rfl
 subst this;split at A;cases A;rename_i ai;simp only [M05] at ai;have ak:=M18 ai.1;have aZ:=M0g ai.2;have an:zv.cells.size=es:=by have:=z3.length;rw [M1u] at this;omega
 have aG:∀ s,x=.str s→es=1:=λs hs=>by
  subst hs;exact M0g (by simpa [q9] using az)
 have ab:∀ {m:List GV},m.all E0=true→m=new→∃ B,RVs p new B∧Src P es t2 vx n B w:=λhm e=>by
  subst e;exact qR h al hx aB ax aD hm aG
 split at A;rename_i G;cases A;have G:=M0g G;subst G;have hs:vs=.slice none 0 0:=hs;subst hs;have aj:new=[]:=P6 al;subst aj;obtain ⟨B,J,E⟩:=ab (m:=[]) rfl rfl;exact M4p h (JF Y hi U E (M1g _)) rfl;rename_i b off len c G;cases A;have G:=M0g G;subst G;obtain ⟨r,base,k,cap,s1,rfl,s2⟩:=hs;have aj:new=[]:=P6 al;subst aj;obtain ⟨B,J,E⟩:=ab (m:=[]) rfl rfl;refine M4p h (JF Y hi U E ?_) ⟨r,base,k,cap,s1,rfl,s2⟩;cases c with
 | kn c=>obtain ⟨rfl,s2⟩:=s2;exact s2
 | op es=>exact s2.2
 cases A
 ·
  rename_i G;obtain ⟨S1,a1,a2⟩:=M01.1 A;cases a2;have hs:vs=.slice none 0 0:=hs;subst hs;obtain ⟨B,J,E⟩:=ab (C0 a1).1 rfl;have aY:n≠0:=λe=>by subst e;simp at G
  have:=PZ (t:=t) (ty:=ty) (old:=[]) h Y hi z2 U ae an (run_firstCells_none w.drew es 0 0 0) (by simp) trivial E J (by omega) (by omega) ak a1 hn am
  simpa using this
 ·
  rename_i b off len c G;obtain ⟨r,base,k,cap,s1,rfl,rfl,s2⟩:=hs;split at A;rename_i O;simp only [M05] at O;have af:=M18 O.1;have ag:=M18 O.2
  split at A;rename_i old H;obtain ⟨S1,a1,a2⟩:=M01.1 A;cases a2;have Z:=(C0 a1).1;rw [List.all_append,M05] at Z;obtain ⟨B,J,E⟩:=ab Z.2 rfl;unfold Bc at H
  split at H;rename_i cs hg;obtain ⟨aa,o1,o2,o3⟩:=h.cells s1 hg H;exact PZ (t:=t) (ty:=ty) h Y hi z2 U ae an (run_firstCells_some w.drew es len _ len cap aa o2 (λj u hj=>by have:=CellsAt.get o3 hj;simpa using this)) o2 o1 E J af ag ak a1 hn am;cases H;cases A;cases A
 ·
  rename_i b off len aU G;obtain ⟨r,base,k,cap,s1,rfl,s2,s3⟩:=hs;split at A;rename_i old O H;simp only [M05] at O;have af:=M0g O.1;have ag:=M18 O.2;subst af
  split at A;rename_i S1 ah;obtain ⟨S2,a1,a2⟩:=M01.1 A;cases a2;have Z:=(C0 a1).1;rw [List.all_append,M05] at Z;obtain ⟨B,J,E⟩:=ab Z.2 rfl;unfold Bc at H
  split at H;rename_i cs hg;obtain ⟨aa,o1,o2,o3⟩:=h.cells s1 hg H;obtain ⟨p1,_,p3⟩:=Ax ah;have h1:=h.kill ah;by_cases av:len+n≤cap
  ·
   obtain ⟨I,ap,fz,c1,c2,c3,us,c4,c5⟩:=h.at_ b r base k _ s1 hg;have aA:(len+n)*es≤cap*es:=M1S _ av;rw [M2p] at aA;have aX:=E.newsLen;have aF:=Bt P r (base+off+len*es) ap fz B 0 I w c1 c3 (by omega) E.one;have aE:=RG (t:=t) (ty:=ty) (off:=base+off) Y hi U E av aF;have au:=Ze I.toList aa B (base+off) (by rw [o2,M1u];omega) (λj u hj=>by
    have:=o3.at_ j u hj;rw [Af c1] at this;rw [M1E];exact this)
   rw [o2] at au;have ar:(I.toList.take (base+off+len*es+0)++B++I.toList.drop (base+off+len*es+0+B.length)).length=I.size:=by
    simp only [M1l,M1q,M2f,M1u];omega
   obtain ⟨q1,q2⟩:=h.rename (off:=off) (cs':=(I.toList.take (base+off+len*es+0)++B++I.toList.drop (base+off+len*es+0+B.length)).toArray) s1 (by rw [hg];simp) ah (C0 a1).2 hn am
    (λq hq=>⟨_,ap,fz,setRow_heap w r I _ ap fz c1,by rw [M2e,ar];omega,by rw [M2e,ar];exact c3,aa++B,(o1.append J).mono hq,au⟩)
   exact ⟨_,_,_,aE,⟨r,base+off,k-off,cap,M4j _ _ _,rfl,by omega,by omega⟩,q1,q2⟩
  exact PZ (t:=t) (ty:=ty) h1 Y hi z2 U ae an (run_firstCells_some w.drew es len _ len cap aa o2 (λj u hj=>by have:=CellsAt.get o3 hj;simpa using this)) o2 o1 E J (by omega) ag ak a1 hn (by omega);cases H;cases A;cases A
 cases A;cases A;cases A
end
section
variable {P:Program}{p:Ren}{S S':St}{x g:GV}{vx:Value}
theorem Zf{w:World}(h:RH p S w){t ty:Nat}(A:J6 P t S x=some (g,S'))(H:RV p x vx) :
  ∃ v w',(Builtin.clear_ #[t] ty #[vx]).run P w=.ok v w'∧RV p g v∧RH p S' w'∧Ch (λ_=>False) p w p w':=by
 have I:∀ {v:Value} {e:Nat},P.underlying t=some (.slice e)→(v=.slice none 0 0∨∃ a c,v=.slice (some a) 0 c)→(Builtin.clear_ #[t] ty #[v]).run P w=.ok (.tuple #[]) w:=by
  intro v e B hv;rcases hv with rfl|⟨a,c,rfl⟩ <;> simp [Builtin.clear_,run_underlying B]
 unfold J6 at A;split at A;rename_i e es b off len c E;obtain ⟨B,i,hi,af,ae⟩:=DC E;split at A;rename_i z Z;split at A;rename_i aa;obtain ⟨S1,O,U⟩:=M01.1 A;cases U;obtain ⟨r,base,k,cap,h1,rfl,h2⟩:=H;obtain ⟨i',G,z1,z2,J,z4⟩:=Cc (p:=p) Z;have hr:=Uf J aa (len:=len+1);rw [M1U] at hr;obtain ⟨w',s1,s2,s3⟩:=h.store (P:=P) h1 O hr;refine ⟨.tuple #[],w',?_,⟨[],rfl,trivial⟩,s2,s3⟩;have ab:G.cells.size=es:=by have:=J.length;rw [M1u] at this;omega
 have Y:(Builtin.zeroCells G.cells (len+1)).toList=((Array.range ((len+1)*es)).map (λi=>G.cells[i%G.cells.size]!)).toList:=by
  unfold Builtin.zeroCells;rw [ab]
 rw [←Y] at s1;unfold Builtin.clear_;simp only [M26,M2a];rw [run_bind,run_underlying B];simp only;rw [run_bind,z4];simp only;rw [run_bind];have ac:(storeCells ⟨r,base+off,none⟩ (Builtin.zeroCells G.cells len.succ).toList).run P w=.ok () w':=s1;simp only [ac];rfl
 cases A;cases A;rename_i e es b off c E;obtain ⟨B,_⟩:=DC E;cases A;obtain ⟨r,base,k,cap,h1,rfl,h2⟩:=H;exact ⟨_,w,I B (.inr ⟨_,_,rfl⟩),⟨[],rfl,trivial⟩,h,Ch.refl _ _ _⟩;rename_i q E;obtain ⟨e,es⟩:=q;obtain ⟨B,_⟩:=DC E;cases A;exact ⟨_,w,I B (.inr H),⟨[],rfl,trivial⟩,h,Ch.refl _ _ _⟩;rename_i q E;obtain ⟨e,es⟩:=q;obtain ⟨B,_⟩:=DC E;cases A;exact ⟨_,w,I B (.inl H),⟨[],rfl,trivial⟩,h,Ch.refl _ _ _⟩;cases A
theorem KN {p:Ren}:∀ {l:List GV} {vs:List Value} {bs:List UInt8},K2 l=some bs→RVs p l vs→∃ A:List Int,vs=A.map (Value.int .u8)∧A.map (λn=>UInt8.ofNat n.toNat)=bs
 | [],[],bs,h,_=>by cases h;exact ⟨[],rfl,rfl⟩
 | g::l,v::vs,bs,h,⟨h1,h2⟩=>by
  unfold K2 at h;split at h;rename_i b hb;split at h;rename_i r hr;cases h;obtain ⟨A,B,E⟩:=KN hr h2;unfold byteOf at hb;split at hb;rename_i n;cases hb;have h1:v=.int .u8 n:=h1;exact ⟨n::A,by rw [h1,B];rfl,by rw [M1X,E]⟩;cases hb;cases h;cases h
 | [],_::_,_,_,h=>h.elim
 | _::_,[],_,_,h=>h.elim
theorem Hv:∀ (A:List Int) (r:ByteArray),A.foldl (λr n=>r.push (UInt8.ofNat n.toNat)) r=⟨r.data++(A.map λn=>UInt8.ofNat n.toNat).toArray⟩
 | [],r=>by simp
 | n::A,r=>by
  rw [List.foldl_cons,Hv A];simp [ByteArray.push]
theorem Q1{w:World}(h:RH p S w){s d name:Nat}(A:C7 P name s d x S=some (g,S'))(B:RV p x vx)(hn:By p name)(af:name<S.nx) :
  Giv P (· = name) p w (convert s d vx) g S':=by
 unfold C7 at A;split at A;rename_i k1 k k2 n hs hd;cases A;have B:vx=.int k2 n:=B;subst B;refine M4p h ?_ rfl;simp [convert,run_underlying hs,run_underlying hd,Conv.intToInt];rename_i l hs hd;cases A;have B:vx=Vs l:=B;subst B;refine M4p h ?_ rfl;simp [convert,run_underlying hs,run_underlying hd];rename_i e l hs hd;split at A;rename_i E;split at A;obtain ⟨S1,G,H⟩:=M01.1 A;cases H;have B:vx=Vs l:=B;subst B;have hr:=run_bytes_of_string w s d e ⟨⟨l⟩⟩ hs hd E;have O:=grownCap_ge w l.length 0 e;have J:(⟨⟨l⟩⟩:ByteArray).size=l.length:=rfl;have hrow:bytesRow ⟨⟨l⟩⟩ (grownCap w l.length 0 e)=((l.map λ(b:UInt8)=>Value.int .u8 b.toNat)++List.replicate (grownCap w l.length 0 e-l.length) (Value.int .u8 0)).toArray:=by
  unfold bytesRow;rw [J];apply Array.ext';simp
 have hv:RVs p (l.map λ(b:UInt8)=>GV.int .u8 b.toNat) (l.map λ(b:UInt8)=>Value.int .u8 b.toNat):=by
  clear hr O J hrow A G B;rename_i ad;clear ad;induction l with
  | nil=>trivial
  | cons b l ih=>exact ⟨rfl,ih⟩
 have I:((l.map λ(b:UInt8)=>Value.int .u8 b.toNat)++List.replicate (grownCap w l.length 0 e-l.length) (Value.int .u8 0)).length=grownCap w l.length 0 e:=by simp;omega
 obtain ⟨Z,q2⟩:=h.drew.row (ty:=e) (fz:=(grownCap w l.length 0 e,grownCap w l.length 0 e+1)) (List.replicate (grownCap w l.length 0 e-l.length) (Value.int .u8 0)) G hn af hv (.inr (by rw [I];exact M1g _));have ae:((l.map λ(b:UInt8)=>Value.int .u8 b.toNat)++List.replicate (grownCap w l.length 0 e-l.length) (Value.int .u8 0)).toArray.size=grownCap w l.length 0 e:=by rw [M2e];exact I
 rw [J,hrow,ae] at hr;rw [I] at Z q2;exact ⟨p.set name (w.heap.size,0,grownCap w l.length 0 e),_,_,hr,⟨w.heap.size,0,grownCap w l.length 0 e,grownCap w l.length 0 e,M4j _ _ _,rfl,by omega,O⟩,Z,(Ch.drew _ _ _).trans q2⟩
 cases A;cases A;rename_i e hs hd;split at A;rename_i E;cases A;have B:vx=.slice none 0 0:=B;subst B;refine M4p h ?_ rfl;rw [run_convert_bytes_string w s d e none 0 0 hs E hd];rfl;cases A;rename_i e b off n c hs hd;split at A;rename_i E;split at A;rename_i l hl;obtain ⟨bs,G,H⟩:=M01.1 A;cases H;obtain ⟨r,base,k,cap,h1,rfl,h2⟩:=B;unfold Bc at hl;split at hl;rename_i cs hg;obtain ⟨vs,h6,h7,h8⟩:=h.cells h1 hg hl;obtain ⟨Y,n1,n2⟩:=KN G h6;subst n1;refine M4p h ?_ rfl;rw [run_convert_bytes_string w s d e _ n cap hs E hd];have U:=run_loadCells_list (P:=P) w ⟨r,base+off,none⟩ (Y.map (Value.int .u8)) (λj u hj=>CellsAt.get h8 hj);rw [h7] at U;rw [run_bytesToString w _ n cap Y U,Hv,n2];simp [Vs]
 cases hl;cases A;cases A;cases A
theorem Zg{v:Value}(h:JD v=some g):RV p g v:=by
 unfold JD at h;split at h <;> first | (cases h;rfl) | cases h
theorem X8{op:BinOp}{a b:List UInt8}(h:KG op a b=some g)(w:World):∃ v,(Op.stringOp op ⟨⟨a⟩⟩ ⟨⟨b⟩⟩).run P w=.ok v w∧RV p g v:=by
 have A:∀ l:List UInt8,(⟨⟨l⟩⟩:ByteArray).toList=l:=El;have B:∀ l:List UInt8,(⟨⟨l⟩⟩:ByteArray).size=l.length:=λ_=>rfl
 unfold KG at h;split at h;split at h;rename_i hl;cases h;refine ⟨Vs (a++b),?_,rfl⟩;unfold Op.stringOp;simp only [B];rw [M1e (by show ¬ ((a.length+b.length:Nat):Int)>9223372036854775807;omega)];show Result.ok (Value.string (⟨⟨a⟩⟩++⟨⟨b⟩⟩)) w=_
 congr 2;cases h;all_goals first
  | (cases h;done)
  | (cases h;exact ⟨_,by simp only [Op.stringOp,A];rfl,rfl⟩)
theorem Zh {P:Program}{p:Ren}{d:Nat}{H:TypeId→GV→GV→Option Bool}{xs ys:List GV}{I J:List Value}(G:RVs p xs I)(hy:RVs p ys J)
  (B:∀ t x y b vx E w,H t x y=some b→RV p x vx→RV p y E→(Op.equalIn d t vx E).run P w=.ok b w) :
  ∀ (A:List Field) (b:Bool) (w:World),Ub P H xs ys A=some b→(Op.eqFields d I.toArray J.toArray A).run P w=.ok b w
 | [],b,w,h=>by cases h;rfl
 | f::A,b,w,h=>by
  unfold Ub at h;split at h;cases h;rename_i hf;unfold Op.eqFields;rw [M1d hf];split at h;rename_i x y h1 h2;obtain ⟨vx,Y,O⟩:=K3 h1 G w;obtain ⟨E,Z,U⟩:=K3 h2 hy w;rw [run_bind,Y];simp only;rw [run_bind,Z];simp only;split at h;rename_i hr;rw [run_bind,B _ _ _ _ _ _ w hr O U];simp only [Bool.not_true,M2v,M2V];exact Zh G hy B A b w h;rename_i hr;cases b with
  | true=>exact absurd h hr
  | false=>
   rw [run_bind,B _ _ _ _ _ _ w h O U];rfl
  cases h
theorem Zi {P:Program}{p:Ren}:∀ (k d t:Nat) (x y:GV) (b:Bool) (vx E:Value) (w:World),k≤d→iy P k t x y=some b→RV p x vx→RV p y E→(Op.equalIn d t vx E).run P w=.ok b w
 | 0,d,t,x,y,b,vx,E,w,hk,h,A,hy=>by cases h
 | k+1,0,t,x,y,b,vx,E,w,hk,h,A,hy=>by omega
 | k+1,d+1,t,x,y,b,vx,E,w,hk,h,A,hy=>by
  unfold iy at h;split at h;rename_i a c B;have A:vx=.bool a:=A;have hy:E=.bool c:=hy;subst A hy;cases h;exact run_equalIn_bool w d t a c B;rename_i G Y a Z c B;have A:vx=.int Y a:=A;have hy:E=.int Z c:=hy;subst A hy;split at h;rename_i e;subst e;cases h;exact run_equalIn_int w d t _ _ a c B;cases h;rename_i a c B;have A:vx=Vs a:=A;have hy:E=Vs c:=hy;subst A hy;cases h;rw [run_equalIn_string w d t _ _ B,El,El];rename_i e B;have A:vx=.pointer none:=A;have hy:E=.pointer none:=hy;subst A hy;cases h;simp [Op.equalIn,run_underlying B];rename_i e b' off B;have A:vx=.pointer none:=A;obtain ⟨r,base,n,h1,rfl⟩:=hy;subst A;cases h;simp [Op.equalIn,run_underlying B];rename_i e b' off B;have hy:E=.pointer none:=hy;obtain ⟨r,base,n,h1,rfl⟩:=A;subst hy;cases h;simp [Op.equalIn,run_underlying B];rename_i e B;have A:vx=.slice none 0 0:=A;have hy:E=.slice none 0 0:=hy;subst A hy;cases h;simp [Op.equalIn,run_underlying B];rename_i e b' off n c B;have A:vx=.slice none 0 0:=A;obtain ⟨r,base,n',cap,h1,rfl,_⟩:=hy;subst A;cases h;simp [Op.equalIn,run_underlying B];rename_i e b' off n c B;have hy:E=.slice none 0 0:=hy;obtain ⟨r,base,n',cap,h1,rfl,_⟩:=A;subst hy;cases h;simp [Op.equalIn,run_underlying B];rename_i e B;have A:vx=.slice none 0 0:=A;obtain ⟨a,c,rfl⟩:=hy;subst A;cases h;simp [Op.equalIn,run_underlying B];rename_i e B;have hy:E=.slice none 0 0:=hy;obtain ⟨a,c,rfl⟩:=A;subst hy;cases h;simp [Op.equalIn,run_underlying B];rename_i G H B;have A:vx=.map none:=A;have hy:E=.map none:=hy;subst A hy;cases h;simp [Op.equalIn,run_underlying B];rename_i G H m B;have A:vx=.map none:=A;obtain ⟨r,h1,rfl⟩:=hy;subst A;cases h;simp [Op.equalIn,run_underlying B];rename_i G H m B;have hy:E=.map none:=hy;obtain ⟨r,h1,rfl⟩:=A;subst hy;cases h;simp [Op.equalIn,run_underlying B];rename_i J xs ys B;split at h;cases h;rename_i O;obtain ⟨aa,rfl,A⟩:=A;obtain ⟨ab,rfl,hy⟩:=hy;have I:P.fieldsOf t=J:=by unfold Program.fieldsOf;rw [B]
  have U:P.stoodInHeld t=false:=by
   cases hb:P.stoodInHeld t with
   | false=>rfl
   | true=>exact absurd (.inl hb) O
  rw [run_equalIn_struct w d t _ _ (by rw [I];exact B) U,I];exact Zh A hy (λt x y b vx E w h1 h2 h3=>Zi k d t x y b vx E w (by omega) h1 h2 h3) _ b w h;cases h
end
section
def iM (P:Program) (t:TypeId) (xo yo:Operand) (vx A:Value) (w:World):Prop:=
 (do eqGuard .eql t xo yo vx A;binOp .eql t vx A:Sem Value).run P w=(do pure (.bool (←Op.equal t vx A)):Sem Value).run P w∧
 (do eqGuard .neq t xo yo vx A;binOp .neq t vx A:Sem Value).run P w=(do pure (.bool (!(←Op.equal t vx A))):Sem Value).run P w
variable {P:Program}{p:Ren}{t:Nat}{x:GV}{vx:Value}
theorem RI{k:Nat}{y:GV}{b:Bool}{B:Value}{xo yo:Operand}(h:iy P (k+1) t x y=some b)(A:RV p x vx)(hy:RV p y B)(w:World)
  (hi:∀ k n k' n',x=.int k n→y=.int k' n'→False)(hs:∀ s G,x=.str s→y=.str G→False):iM P t xo yo vx B w:=by
 unfold iy at h;split at h;have A:vx=.bool _:=A;have hy:B=.bool _:=hy;subst A hy;exact ⟨rfl,rfl⟩;exact (hi _ _ _ _ rfl rfl).elim;exact (hs _ _ rfl rfl).elim;have A:vx=.pointer none:=A;have hy:B=.pointer none:=hy;subst A hy;exact ⟨rfl,rfl⟩;have A:vx=.pointer none:=A;obtain ⟨r,base,n,h1,rfl⟩:=hy;subst A;exact ⟨rfl,rfl⟩;have hy:B=.pointer none:=hy;obtain ⟨r,base,n,h1,rfl⟩:=A;subst hy;exact ⟨rfl,rfl⟩;have A:vx=.slice none 0 0:=A;have hy:B=.slice none 0 0:=hy;subst A hy;exact ⟨rfl,rfl⟩;have A:vx=.slice none 0 0:=A;obtain ⟨r,base,n',cap,h1,rfl,_⟩:=hy;subst A;exact ⟨rfl,rfl⟩;have hy:B=.slice none 0 0:=hy;obtain ⟨r,base,n',cap,h1,rfl,_⟩:=A;subst hy;exact ⟨rfl,rfl⟩;have A:vx=.slice none 0 0:=A;obtain ⟨a,c,rfl⟩:=hy;subst A;exact ⟨rfl,rfl⟩;have hy:B=.slice none 0 0:=hy;obtain ⟨a,c,rfl⟩:=A;subst hy;exact ⟨rfl,rfl⟩;have A:vx=.map none:=A;have hy:B=.map none:=hy;subst A hy;exact ⟨rfl,rfl⟩;have A:vx=.map none:=A;obtain ⟨r,h1,rfl⟩:=hy;subst A;exact ⟨rfl,rfl⟩;have hy:B=.map none:=hy;obtain ⟨r,h1,rfl⟩:=A;subst hy;exact ⟨rfl,rfl⟩;rename_i H xs ys I;split at h;cases h;rename_i E;obtain ⟨J,rfl,A⟩:=A;obtain ⟨O,rfl,hy⟩:=hy;have hg:P.eqGuardType P.depth t=false:=by
  cases hb:P.eqGuardType P.depth t with
  | false=>rfl
  | true=>exact absurd (.inr hb) E
 refine ⟨?_,?_⟩;rw [run_bind,run_eqGuard_agg w .eql t xo yo _ _ hg];rfl;rw [run_bind,run_eqGuard_agg w .neq t xo yo _ _ hg];rfl;cases h
variable {g:GV}
theorem Zj{op:BinOp}{y:GV}{B:Value}{xo yo:Operand}(h:HT P op t x y=some g)(A:RV p x vx)(hy:RV p y B)(w:World) :
  ∃ v,(do eqGuard op t xo yo vx B;binOp op t vx B:Sem Value).run P w=.ok v w∧RV p g v:=by
 unfold HT at h;split at h;rename_i k a k' b;have A:vx=.int k a:=A;have hy:B=.int k' b:=hy;subst A hy;split at h;rename_i v hv;obtain ⟨u,h1,h2⟩:=R7 (J1 (P:=P) (t:=t) (xo:=xo) (yo:=yo) hv (λu=>u=v) rfl);subst h2;exact ⟨u,h1 w,Zg h⟩;cases h;rename_i a b;have A:vx=Vs a:=A;have hy:B=Vs b:=hy;subst A hy;obtain ⟨v,h1,h2⟩:=X8 (P:=P) h w;refine ⟨v,?_,h2⟩;rw [←h1];cases op <;> rfl
 rename_i h1 h2;have hi:∀ k n k' n',x=.int k n→y=.int k' n'→False:=λk n k' n' E G=>h1 k n k' n' E G
 have hs:∀ s H,x=.str s→y=.str H→False:=λs H E G=>h2 s H E G
 split at h;obtain ⟨b,h3,rfl⟩:=M01.1 h;refine ⟨.bool b,?_,rfl⟩;rw [(RI h3 A hy w hi hs).1,run_bind];unfold Op.equal;rw [Zi 20 Op.maxDepth t x y b vx B w (by decide) h3 A hy];rfl;obtain ⟨b,h3,rfl⟩:=M01.1 h;refine ⟨.bool (!b),?_,rfl⟩;rw [(RI h3 A hy w hi hs).2,run_bind];unfold Op.equal;rw [Zi 20 Op.maxDepth t x y b vx B w (by decide) h3 A hy];rfl;cases h
theorem yO{op:UnOp}(h:gUn op x=some g)(A:RV p x vx)(w:World):∃ v,(Op.unary op vx).run P w=.ok v w∧RV p g v:=by
 unfold gUn at h;split at h;cases h;have A:vx=.bool _:=A;subst A;exact ⟨_,rfl,rfl⟩;cases h;have A:vx=.int _ _:=A;subst A;exact ⟨_,rfl,rfl⟩;cases h
variable {S:St}{w:World}{ty:Nat}
theorem Zk(h:RH p S w){n:Nat}(hl:Uc P t S x=some n)(A:RV p x vx):(Builtin.len_ #[t] ty #[vx]).run P w=.ok (.int .i64 n) w:=by
 unfold Uc at hl;split at hl;rename_i s B;cases hl;have A:vx=Vs s:=A;subst A;exact run_len_string w t ty _ B;rename_i e B;cases hl;have A:vx=.slice none 0 0:=A;subst A;simp only [Builtin.len_];show Sem.run P (underlying t >>= _) w=_
 rw [run_bind,run_underlying B];rfl;rename_i e B;cases hl;obtain ⟨a,c,rfl⟩:=A;simp only [Builtin.len_];show Sem.run P (underlying t >>= _) w=_
 rw [run_bind,run_underlying B];rfl;rename_i e b off m c B;cases hl;obtain ⟨r,base,k,cap,h1,rfl,h2⟩:=A;simp only [Builtin.len_];show Sem.run P (underlying t >>= _) w=_
 rw [run_bind,run_underlying B];rfl;rename_i U G B;cases hl;have A:vx=.map none:=A;subst A;simp only [Builtin.len_];show Sem.run P (underlying t >>= _) w=_
 rw [run_bind,run_underlying B];rfl;rename_i U G b B;split at hl;rename_i es hg;cases hl;obtain ⟨r,h1,rfl⟩:=A;obtain ⟨H,E,h2,h3⟩:=h.at_ b r 0 0 _ h1 hg;have J:∀ {es:List (GV×GV)} {l:List MapEntry},RM p es l→l.length=es.length:=by
  intro es;induction es with
  | nil=>intro l hl;cases l with
   | nil=>rfl
   | cons _ _=>exact hl.elim
  | cons e es O=>intro l hl;cases l with
   | nil=>exact hl.elim
   | cons _ _=>simp [O hl.2]
 have:=J h3;simp only [Builtin.len_];show Sem.run P (underlying t >>= _) w=_
 rw [run_bind,run_underlying B];have I:(getObj r).run P w=.ok (.map H E) w:=by simp only [getObj,Sem.run,h2]
 show Sem.run P (getObj r >>= _) w=_
 rw [run_bind,I];simp only [goInt,Sem.run_pure];rw [←this,M1u];cases hl;cases hl
theorem RJ {P:Program}{p:Ren}:∀ {l:List GV} {vs:List Value} {x g:GV} {vx:Value} {w:World},Rq x l=some g→RV p x vx→RVs p l vs→∃ v,(vs.foldlM Builtin.max2 vx).run P w=.ok v w∧RV p g v
 | [],[],x,g,vx,w,h,A,_=>by
  unfold Rq at h;cases h;exact ⟨vx,rfl,A⟩
 | y::l,u::vs,x,g,vx,w,h,A,⟨h1,h2⟩=>by
  unfold Rq at h;split at h;rename_i e;cases e;rename_i k a k' b E e;cases e;have A:vx=.int k a:=A;have h1:u=.int k' b:=h1;subst A h1;obtain ⟨v,h3,B⟩:=RJ (P:=P) (vx:=.int k (if b>a then b else a)) (w:=w) h rfl h2;refine ⟨v,?_,B⟩;rw [List.foldlM_cons,run_bind];exact h3;cases h
 | [],_::_,_,_,_,_,_,_,h=>h.elim
 | _::_,[],_,_,_,_,_,_,h=>h.elim
theorem qS{ts:Array TypeId}{l:List GV}{vs:List Value}(h:Rq x l=some g)(hv:RVs p (x::l) vs)(w:World):∃ v,(Builtin.max_ ts ty vs.toArray).run P w=.ok v w∧RV p g v:=by
 cases vs with
 | nil=>exact hv.elim
 | cons v vs=>exact RJ (P:=P) h hv.1 hv.2
def OpsOK (p:Ren) (f:GF) (fr:Fr) (xs:List Operand):Prop:=∀ x∈xs,∀ g,Bo f x=some g→RV p g (ev fr x)
theorem GH {p:Ren}{f:GF}{fr:Fr}:∀ {l:List Operand} {gs:List GV},EC f l=some gs→OpsOK p f fr l→RVs p gs (l.map (ev fr))
 | [],gs,h,_=>by cases h;trivial
 | x::l,gs,h,ho=>by
  unfold EC at h;split at h;rename_i g hg;split at h;rename_i r hr;cases h;exact ⟨ho x (by simp) g hg,GH hr λy hy=>ho y (by simp [hy])⟩;cases h;cases h
theorem I2 {p:Ren}{f:GF}{fr:Fr}:∀ {l:List (Nat×Operand)} {gs:List (Nat×GV)},KD f l=some gs→OpsOK p f fr (l.map (·.2))→qc p gs (l.map λ(i,x)=>(i,ev fr x))
 | [],gs,h,_=>by cases h;trivial
 | (i,x)::l,gs,h,ho=>by
  unfold KD at h;split at h;rename_i g hg;split at h;rename_i r hr;cases h;exact ⟨⟨rfl,ho x (by simp) g hg⟩,I2 hr λy hy=>ho y (by simp only [M1X,M1y];exact .inr hy)⟩;cases h;cases h
variable {fr:Fr}
theorem GI{f:GF}{o:Option Operand}{r:Option GV}(h:KH f o=some r)(ho:OpsOK p f fr o.toList):RO p r (o.map (ev fr)):=by
 cases o with
 | none=>cases h;trivial
 | some x=>
  obtain ⟨g,h1,rfl⟩:=M01.1 h;exact ho x (by simp) g h1
def DF:List Deferred→List FuncId→Prop
 | [],[]=>True
 | d::ds,g::gs=>(∃ a c,d=⟨.fn (.func g) c,a⟩)∧DF ds gs
 | [],_::_=>False
 | _::_,[]=>False
def Ja (P:Program) (call:Cl):Prop:=∀ g args S v S',call g args S=some (v,S')→S'.df=S.df∧S.nx≤S'.nx∧∀ p w vargs,RVs p args vargs→RH p S w→
 CallVC P g vargs w λu w'=>∃ q,RV q v u∧RH q S' w'∧Ch (λb=>S.nx≤b∧b<S'.nx) p w q w'
variable {o:Oper}{a:Act}{w':World}
theorem AE{v:Value}{N:Act→World→Prop}{Q:Exit→Act→World→Prop}(h:(execOp a.eval o).run P w=.ok (.value v) w')(A:N (a.put o.dst v) w'):o.wp P a w N Q:=by
 unfold Oper.wp;rw [h];exact A
theorem Hw{N:Act→World→Prop}{Q:Exit→Act→World→Prop}(h:(execOp a.eval o).run P w=.ok .skip w')(A:N (a.put o.dst undef) w'):o.wp P a w N Q:=by
 unfold Oper.wp;rw [h];exact A
variable {S':St}
theorem X9{name H:Nat}{s:GV}(A:EF P name t H S s x=some (g,S')):S'.df=S.df:=by
 have B:∀ {E S1:St} {nm:Nat} {vs:List GV},newB E nm vs=some S1→S1.df=E.df:=λG=>(Ax (C0 G).2).2.1
 unfold EF at A;split at A;split at A;split at A;cases A;split at A;cases A;rfl;cases A;rfl;cases A;obtain ⟨S1,h1,h2⟩:=M01.1 A;cases h2;exact B h1;split at A;split at A;obtain ⟨S1,h1,h2⟩:=M01.1 A;cases h2;exact B h1;cases A;cases A;split at A;split at A;rename_i hk;obtain ⟨S1,h1,h2⟩:=M01.1 A;cases h2;rw [B h1];exact (Ax hk).2.1;cases A;cases A;cases A;cases A;cases A
theorem Zl(A:J6 P t S x=some (g,S')):S'.df=S.df:=by
 unfold J6 at A;split at A;split at A;split at A;obtain ⟨S1,h1,h2⟩:=M01.1 A;cases h2;obtain ⟨l,E,_,_,B⟩:=Cm h1;exact (Ax B).2.1;cases A;cases A;cases A;rfl;cases A;rfl;cases A;rfl;cases A
theorem Jb{call:Cl}(aG:Ja P call){name:Nat}{f:GF}(hg:J7 P call name o f S=some (g,S'))(I:a.eval=ev fr)
  (ho:OpsOK p f fr o.op.operands.toList)(h:RH p S w)(hn:By p name)(hx:name<S.nx){N:Act→World→Prop}{Q:Exit→Act→World→Prop}
  (H:∀ q u w' ds,RV q g u→RH q S' w'→Ch (λb=>b=name∨S.nx≤b∧b<S'.nx) p w q w'→(DF a.defers S.df→DF ds S'.df)→N (({ a with defers:=ds }:Act).put o.dst u) w'):o.wp P a w N Q:=by
 obtain ⟨dst,op,ty,pos,U,Y⟩:=o;have O:∀ {s:Sem Value} {v:Value},(execOp (ev fr) ⟨dst,op,ty,pos,U,Y⟩)=(do pure (.value (←s)):Sem Next)→S'=S→s.run P w=.ok v w→RV p g v→Oper.wp P ⟨dst,op,ty,pos,U,Y⟩ a w N Q:=by
  intro s v he e h1 h2;subst e;refine AE (v:=v) (w':=w) (by rw [I,he];exact CH s v w w h1) ?_;exact H p v w a.defers h2 h (Ch.refl _ _ _) id
 have ac:∀ {s:Sem Value} {S1:St},(execOp (ev fr) ⟨dst,op,ty,pos,U,Y⟩)=(do pure (.value (←s)):Sem Next)→S'=S1→S1.df=S.df→Giv P (· = name) p w s g S1→Oper.wp P ⟨dst,op,ty,pos,U,Y⟩ a w N Q:=by
  intro s S1 he e ad ⟨q,v,w',h1,h2,h3,A⟩;subst e;refine AE (v:=v) (w':=w') (by rw [I,he];exact CH s v w w' h1) ?_;exact H q v w' a.defers h2 h3 (A.mono λb hb=>.inl hb) (by rw [ad];exact id)
 have au:∀ {s:Sem Unit} {w':World} {S1:St},(execOp (ev fr) ⟨dst,op,ty,pos,U,Y⟩)=(do s;pure .skip:Sem Next)→S'=S1→S1.df=S.df→g=.tup []→s.run P w=.ok () w'→RH p S1 w'→Ch (λ_=>False) p w p w'→Oper.wp P ⟨dst,op,ty,pos,U,Y⟩ a w N Q:=by
  intro s w' S1 he e ad eg h1 h2 h3;subst e eg;refine Hw (w':=w') (by rw [I,he,run_bind,h1];rfl) ?_;exact H p undef w' a.defers ⟨[],rfl,trivial⟩ h2 (h3.mono λb hb=>hb.elim) (by rw [ad];exact id)
 have al:∀ {S0 S1:St} {nm:Nat} {vs:List GV},newB S0 nm vs=some S1→S1.df=S0.df:=λhh=>(Ax (C0 hh).2).2.1
 have a4:∀ {x y:Operand},x∈[y]↔x=y:=by simp
 unfold J7 at hg;cases op <;> simp only at hg <;> simp only [Op.operands] at ho
 case move x=>
  obtain ⟨v,h1,h2⟩:=M01.1 hg;cases h2;exact AE (v:=ev fr x) (w':=w) (by rw [I];rfl) (H p _ w a.defers (ho x (by simp) _ h1) h (Ch.refl _ _ _) id)
 case assign x=>
  obtain ⟨v,h1,h2⟩:=M01.1 hg;cases h2;exact AE (v:=ev fr x) (w':=w) (by rw [I];rfl) (H p _ w a.defers (ho x (by simp) _ h1) h (Ch.refl _ _ _) id)
 case pick c x y=>
  split at hg;rename_i hc;obtain ⟨v,h1,h2⟩:=M01.1 hg;cases h2;have aj:ev fr c=.bool true:=ho c (by simp) _ hc;exact AE (v:=ev fr x) (w':=w) (by rw [I];simp only [execOp,aj];rfl) (H p _ w a.defers (ho x (by simp) _ h1) h (Ch.refl _ _ _) id);rename_i hc;obtain ⟨v,h1,h2⟩:=M01.1 hg;cases h2;have aj:ev fr c=.bool false:=ho c (by simp) _ hc;exact AE (v:=ev fr y) (w':=w) (by rw [I];simp only [execOp,aj];rfl) (H p _ w a.defers (ho y (by simp) _ h1) h (Ch.refl _ _ _) id);cases hg
 case alloc t=>
  split at hg;rename_i z J;obtain ⟨S1,h1,h2⟩:=M01.1 hg;cases h2;exact ac rfl rfl (al h1) (Za h J h1 hn hx);cases hg
 case box t x=>
  split at hg;rename_i v hv;obtain ⟨S1,h1,h2⟩:=M01.1 hg;cases h2;exact ac rfl rfl (al h1) (qQ h (ho x (by simp) _ hv) h1 hn hx);cases hg
 case build t parts=>
  split at hg;rename_i z ps fs J ak hu;split at hg;rename_i pl aU;obtain ⟨c,h1,h2⟩:=M01.1 hg;cases h2;obtain ⟨v,h3,A⟩:=PW J (I2 ak (by simpa using ho)) hu aU h1 w;exact O rfl rfl (by rw [De] at h3;exact h3) A;cases hg;rename_i z ps m e J ak hu;split at hg;rename_i n aQ;obtain ⟨c,h1,h2⟩:=M01.1 hg;cases h2;obtain ⟨v,h3,A⟩:=Rx J (I2 ak (by simpa using ho)) hu aQ h1 w;exact O rfl rfl (by rw [De] at h3;exact h3) A;cases hg;cases hg
 case buildSlice t len parts=>
  split at hg;rename_i e n ps an ak;split at hg;rename_i z J;split at hg;rename_i hc;split at hg;rename_i c hf;obtain ⟨S1,h1,h2⟩:=M01.1 hg;cases h2;have:=OL h an J hc.1 hc.2 (I2 ak (by simpa using ho)) hf h1 hn hx;rw [De] at this;exact ac rfl rfl (al h1) this
  cases hg;cases hg;cases hg;cases hg
 case load t x=>
  split at hg;rename_i b off hv;obtain ⟨v,h1,h2⟩:=M01.1 hg;cases h2;obtain ⟨r,base,n,h3,A⟩:=ho x (by simp) _ hv;refine ac rfl rfl rfl ?_;rw [A];exact iK h h1 h3;cases hg
 case store t x y=>
  split at hg;rename_i b off v n E hy J;split at hg;rename_i hl;obtain ⟨S1,h1,h2⟩:=M01.1 hg;cases h2;obtain ⟨r,base,k,h3,A⟩:=ho x (by simp) _ E;obtain ⟨w',Z,h6,h7⟩:=Rw (P:=P) h J (M0g hl) h1 h3 (ho y (by simp) _ hy);obtain ⟨l,l',_,_,h8⟩:=Cm h1;exact au rfl rfl (Ax h8).2.1 rfl (by rw [A];exact Z) h6 h7;cases hg;cases hg
 case nilCheck x=>
  split at hg
  ·rename_i v hv;split at hg
   ·rename_i aS;cases hg;have hr:=ho x (by simp) _ hv;refine AE (v:=ev fr x) (w':=w) ?_ (H p _ w a.defers hr h (Ch.refl _ _ _) id);rw [I];cases g <;> first
     | (cases aS;done)
     | (obtain ⟨r,base,n,h1,h2⟩:=hr;simp only [execOp,h2];rfl)
     | (obtain ⟨va,vc,h1,h2,h3⟩:=hr;simp only [execOp,h1];rfl)
   cases hg
  cases hg
 case binOp op t x y yt=>
  split at hg;rename_i vx vy E hy;obtain ⟨v,h1,h2⟩:=M01.1 hg;cases h2;obtain ⟨u,h3,A⟩:=Zj (xo:=x) (yo:=y) h1 (ho x (by simp) _ E) (ho y (by simp) _ hy) w;exact O rfl rfl h3 A;cases hg
 case unOp op t x=>
  split at hg;rename_i vx E;obtain ⟨v,h1,h2⟩:=M01.1 hg;cases h2;obtain ⟨u,h3,A⟩:=yO (P:=P) h1 (ho x (by simp) _ E) w;exact O rfl rfl h3 A;cases hg
 case convert s d x=>
  split at hg;rename_i vx E;have ad:S'.df=S.df:=by
   unfold C7 at hg;split at hg;cases hg;rfl;cases hg;rfl;split at hg;split at hg;obtain ⟨S1,h1,h2⟩:=M01.1 hg;cases h2;exact al h1;cases hg;cases hg;split at hg;cases hg;rfl;cases hg;split at hg;split at hg;obtain ⟨S1,h1,h2⟩:=M01.1 hg;cases h2;rfl;cases hg;cases hg;cases hg
  exact ac rfl rfl ad (Q1 h hg (ho x (by simp) _ E) hn hx);cases hg
 case makeFunc fn first cap=>
  cases fn <;> simp only at hg <;> first | (cases hg;done) | skip
  split at hg
  ·rename_i a' c' h1 h2;cases hg;refine AE (w':=w) (by rw [I];rfl) (H p _ w a.defers ⟨first.toList.map (ev fr),cap.toList.map (ev fr),?_,GH h1 λy hy=>ho y (by simp only [M1Y,M1b];exact .inl hy),GH h2 λy hy=>ho y (by simp only [M1Y,M1b];exact .inr hy)⟩ h (Ch.refl _ _ _) id);rw [DX,DX]
  cases hg
 case makeMap t r=>
  cases r with
  | none=>
   simp only at hg;obtain ⟨S1,h1,h2⟩:=M01.1 hg;cases h2;exact ac rfl rfl (Ax h1).2.1 (Ug h h1 hn hx)
  | some x=>simp only at hg;cases hg
 case makeSlice t l c=>
  split at hg;rename_i e n q1 l' q2 c' an hl hc;split at hg;rename_i z J;split at hg;rename_i hb;obtain ⟨S1,h1,h2⟩:=M01.1 hg;cases h2;have aL:ev fr l=.int q1 l':=ho l (by simp) _ hl;have aj:ev fr c=.int q2 c':=ho c (by simp) _ hc;have:=PX (P:=P) (k:=q1) (k':=q2) h an J hb h1 hn hx;rw [←aL,←aj] at this;exact ac rfl rfl (al h1) this
  cases hg;cases hg;cases hg
 case slice t x lo hi mx=>
  split at hg;rename_i vx a8 a6 vmx E aN aK aO;obtain ⟨v,h1,h2⟩:=M01.1 hg;cases h2;have hm:∀ y,y∈lo.toList∨y∈hi.toList∨y∈mx.toList→y∈(#[x]++lo.toArray++hi.toArray++mx.toArray).toList:=λy hy=>by
   have e:∀ o:Option Operand,o.toArray.toList=o.toList:=λo=>by cases o <;> rfl
   simp only [M1Y,M1b,e];rcases hy with hy|hy|hy
   exact .inl (.inl (.inr hy));exact .inl (.inr hy);exact .inr hy
  obtain ⟨u,h3,A⟩:=KM (P:=P) h h1 (ho x (by simp) _ E) (GI aN λy hy=>ho y (hm y (.inl hy))) (GI aK λy hy=>ho y (hm y (.inr (.inl hy)))) (GI aO λy hy=>ho y (hm y (.inr (.inr hy))));exact O rfl rfl h3 A;cases hg
 case fieldAddr s x i=>
  split at hg;rename_i b off o t hv ao;split at hg;rename_i n aY;cases hg;obtain ⟨r,base,k,h3,A⟩:=ho x (by simp) _ hv;refine O rfl rfl (v:=.pointer (some ⟨r,base+off+o,none⟩)) ?_ ⟨r,base,k,h3,by rw [M1P]⟩;rw [A];exact EG ao aY r (base+off) w;cases hg;cases hg
 case field s x i=>
  split at hg;rename_i l o t hv ao;obtain ⟨v,h1,h2⟩:=M01.1 hg;cases h2;obtain ⟨vs,h3,A⟩:=ho x (by simp) _ hv;obtain ⟨u,Z,h6⟩:=Zb ao h1 A w;exact O rfl rfl (by rw [h3];exact Z) h6;cases hg
 case indexAddr t x i=>
  split at hg;rename_i vx vi E hi;obtain ⟨v,h1,h2⟩:=M01.1 hg;cases h2;obtain ⟨u,h3,A⟩:=HX h1 (ho x (by simp) _ E) (ho i (by simp) _ hi) w;exact O rfl rfl h3 A;cases hg
 case index t x i=>
  split at hg;rename_i vx vi E hi;obtain ⟨v,h1,h2⟩:=M01.1 hg;cases h2;obtain ⟨u,h3,A⟩:=KL h1 (ho x (by simp) _ E) (ho i (by simp) _ hi) w;exact O rfl rfl h3 A;cases hg
 case lookup t x i ok=>
  split at hg;rename_i vx vi E hi;obtain ⟨v,h1,h2⟩:=M01.1 hg;cases h2;obtain ⟨u,h3,A⟩:=X6 (P:=P) h h1 (ho x (by simp) _ E) (ho i (by simp) _ hi);exact O rfl rfl h3 A;cases hg
 case mapUpdate t m k v=>
  split at hg;rename_i vm vk vv hm hk hv;obtain ⟨S1,h1,h2⟩:=M01.1 hg;cases h2;obtain ⟨w',h3,A,Z⟩:=PY (P:=P) h h1 (ho m (by simp) _ hm) (ho k (by simp) _ hk) (ho v (by simp) _ hv);have ad:S'.df=S.df:=by
   unfold HU at h1;split at h1;split at h1;split at h1;exact (Ax h1).2.1;exact (Ax h1).2.1;cases h1;cases h1;cases h1
  exact au rfl rfl ad rfl h3 A Z;cases hg
 case extract x i=>
  split at hg;rename_i l hv;obtain ⟨v,h1,h2⟩:=M01.1 hg;cases h2;obtain ⟨vs,h3,A⟩:=ho x (by simp) _ hv;obtain ⟨u,Z,h6⟩:=A.get h1;refine O rfl rfl (v:=u) ?_ h6;rw [h3];simp [Instr.extract,Z];cases hg
 case defer c=>
  obtain ⟨callee,args,argTypes⟩:=c;split at hg;rename_i x av aF;simp only at av aF;subst av
  split at hg;rename_i k a' c' hv;cases hg;obtain ⟨va,vc,h1,h2,h3⟩:=ho x (by simp [Call.operands]) _ hv;have he:(execOp (ev fr) ⟨dst,.defer ⟨.value x,args,argTypes⟩,ty,pos,U,Y⟩).run P w=.ok (.defer ⟨.fn (.func k) vc.toArray,va.toArray++args.map (ev fr)⟩) w:=by
   simp only [execOp,resolve,h1,Deferred.ofValue,pure_bind];rfl
  unfold Oper.wp;rw [I,he];exact H p undef w (⟨.fn (.func k) vc.toArray,va.toArray++args.map (ev fr)⟩::a.defers) ⟨[],rfl,trivial⟩ (h.congr (λ_ _=>rfl) (M1g _) λ_ _=>rfl) (Ch.refl _ _ _) λhd=>⟨⟨_,_,rfl⟩,hd⟩
  cases hg;cases hg
 case call c=>
  obtain ⟨callee,args,argTypes⟩:=c;split at hg
  ·rename_i gs ap;simp only at ap hg;split at hg;rename_i x;split at hg;rename_i k a' c' hv;obtain ⟨va,vc,h1,h2,h3⟩:=ho x (by simp [Call.operands]) _ hv;have B:=GH ap λy hy=>ho y (by simp only [Call.operands,M1Y,M1b];exact .inr hy)
   obtain ⟨c1,c2,c3⟩:=aG _ _ _ _ _ hg;obtain ⟨aX,fn,aI,n1,n2⟩:=c3 p w _ (h2.append (B.append h3)) h;have he:(execOp (ev fr) ⟨dst,.call ⟨.value x,args,argTypes⟩,ty,pos,U,Y⟩).run P w=.ok (.enter k (va++(args.toList.map (ev fr)++vc)).toArray) w:=by
    have e:(va++(args.toList.map (ev fr)++vc)).toArray=va.toArray++args.map (ev fr)++vc.toArray:=by
     apply Array.ext';simp
    rw [e];simp only [execOp,resolve,h1,Deferred.ofValue,pure_bind,invoke];exact Df _ _ aI n1 n2
   unfold Oper.wp;rw [I,he];refine Calls.mono aX λe w' ⟨v,aH,q,hq⟩=>?_
   subst aH;exact H q v w' a.defers hq.1 hq.2.1 (hq.2.2.mono λb hb=>.inr hb) (by rw [c1];exact id);cases hg
   ·rename_i b;have B:=GH ap λy hy=>ho y (by simp only [Call.operands,M1Y,M1b];exact .inr hy)
    have bi:∀ {s:Sem Value} {v:Value} {w':World} {q:Ren},(∀ cs:Array Bool,builtin b argTypes ty cs (args.map (ev fr))=(do pure (.value (←s)):Sem Next))→s.run P w=.ok v w'→RV q g v→RH q S' w'→Ch (· = name) p w q w'→S'.df=S.df→
      Oper.wp P ⟨dst,.call ⟨.builtin b,args,argTypes⟩,ty,pos,U,Y⟩ a w N Q:=by
     intro s v w' q hb h1 h2 h3 A Z;refine AE (v:=v) (w':=w') ?_ (H q v w' a.defers h2 h3 (A.mono λb hb=>.inl hb) (by rw [Z];exact id));rw [I];simp only [execOp,resolve,pure_bind,invoke];refine (M1t (λs=>Sem.run P s w) (hb _)).trans ?_;exact CH s v w w' h1
    unfold CU at hg;have G:args.map (ev fr)=(args.toList.map (ev fr)).toArray:=(DX _ _).symm
    split at hg
    ·rename_i t x aw;obtain ⟨n,h1,h2⟩:=M01.1 hg;cases h2;have ai:argTypes = #[t]:=by cases argTypes;simp_all
     subst ai;generalize hl:args.toList.map (ev fr)=vs at B G
     match vs,B,G with
     | [v],B,G=>
      exact bi (λ_=>rfl) (by rw [G];exact Zk h h1 B.1) rfl h (Ch.refl _ _ _) rfl
    ·rename_i t t2 x y aw;have ai:argTypes = #[t,t2]:=by cases argTypes;simp_all
     subst ai;generalize hl:args.toList.map (ev fr)=vs at B G
     match vs,B,G with
     | [v,u],B,G=>
      obtain ⟨q,v',w',h1,h2,h3,A⟩:=X7 (P:=P) (ty:=ty) h hg B.1 B.2.1 hn hx;exact bi (λ_=>rfl) (by rw [G];exact h1) h2 h3 A (X9 hg)
    ·rename_i t x aw;have ai:argTypes = #[t]:=by cases argTypes;simp_all
     subst ai;generalize hl:args.toList.map (ev fr)=vs at B G
     match vs,B,G with
     | [v],B,G=>
      obtain ⟨v',w',h1,h2,h3,A⟩:=Zf (P:=P) (ty:=ty) h hg B.1;exact bi (λ_=>rfl) (by rw [G];exact h1) h2 h3 (A.mono λb hb=>hb.elim) (Zl hg)
    rename_i x l;obtain ⟨v0,h1,h2⟩:=M01.1 hg;cases h2;obtain ⟨v',h3,A⟩:=qS (P:=P) (ts:=argTypes) (ty:=ty) h1 B w;exact bi (λ_=>rfl) (by rw [G];exact h3) A h (Ch.refl _ _ _) rfl;cases hg
   cases hg
  cases hg
 all_goals (cases hg)
end
section
structure RA (n:Nat) (a:Act) (fr:Fr):Prop where
 size:a.tmps.size=n
 at_:∀ i,a.tmps.getD i undef=fr i
variable {n:Nat}{a:Act}{fr:Fr}
theorem RA.eval(h:RA n a fr):a.eval=ev fr:=by
 funext x;cases x <;> simp only [Act.eval,ev]
 exact h.at_ _
theorem RA.put(h:RA n a fr){d:Option Tmp}(hd:∀ t,d=some t→t<n)(v:Value):RA n (a.put d v) (R5 fr d v):=by
 cases d with
 | none=>exact h
 | some t=>
  have ht:=hd t rfl;refine ⟨by simp [Act.put,h.size],λi=>?_⟩;simp only [Act.put,R5,V.put];by_cases hi:i=t;subst hi;simp [h.size,ht];rw [Kz hi];simp only [M2D];rw [←h.at_ i];simp [M2z (M40 hi)]
theorem RA.defers(h:RA n a fr)(ds:List Deferred):RA n { a with defers:=ds } fr:=⟨h.size,h.at_⟩
theorem KO (fr:Fr)(d:Option Tmp)(v:Value)(t:Nat):R5 fr d v t=if d=some t then v else fr t:=by
 cases d with
 | none=>simp [R5]
 | some d=>
  unfold R5 V.put;by_cases h:t=d;subst h;simp;simp only [Kz h];rw [M1e (by simpa using λe=>h e.symm)];rfl
def RF' (p:Ren) (f:GF) (fr:Fr):Prop:=∀ t g,f.get t=some g→RV p g (fr t)
variable {p:Ren}
theorem RF'.mono {q:Ren}{f:GF}(h:RF' p f fr)(hl:Le p q):RF' q f fr:=λt g hg=>(h t g hg).mono hl
variable {f':GF}{g:GV}
theorem RF'.put{f:GF}(h:RF' p f fr){d:Option Tmp}{v:Value}(hp:PV n f d g=some f')(hv:RV p g v):RF' p f' (R5 fr d v):=λt A hg=>by
 rw [(BZ hp).2] at hg;rw [KO]
 by_cases e:d=some t;rw [M1d e] at hg ⊢;cases hg;exact hv
 rw [M1e e] at hg ⊢;exact h t A hg
theorem KP{f:GF}{x:Operand}(h:Bo f x=some g)(ht:∀ t,x=.tmp t→∀ g,f.get t=some g→RV p g (fr t)):RV p g (ev fr x):=by
 cases x with
 | tmp t=>exact ht t rfl g h
 | const v=>exact Ru h
 | global k=>cases h
 | func k=>cases h;exact ⟨[],[],rfl,trivial,trivial⟩
theorem OpsOK.of{f:GF}{xs:List Operand}(h:∀ t,.tmp t∈xs→∀ g,f.get t=some g→RV p g (fr t)):OpsOK p f fr xs:=λx A g hg=>KP hg λt e=>h t (e ▸ A)
theorem Uh(h:RA n a fr)(all:List Oper)(j:Nat) :
  yielded all.toArray a.tmps j=match (all[j]?).bind (·.dst) with
   | some d=>(match fr d with | .bool b=>some b | _=>none)
   | none=>none:=by
 unfold yielded;simp only [M26];cases hd:(all[j]?).bind (·.dst) with
 | none=>rfl
 | some d=>
  simp only [M2O];have:=h.at_ d;cases ht:a.tmps[d]? with
  | none=>
   have e:fr d=undef:=by rw [←this];simp [ht]
   simp only [e,undef]
  | some v=>
   have e:fr d=v:=by rw [←this];simp [ht]
   simp only [e];cases v <;> rfl
theorem RV.notBool{v:Value}(h:RV p g v)(hg:∀ b,g≠.bool b):(match v with | .bool b=>some b | _=>(none:Option Bool))=none:=by
 cases g <;> simp only [RV] at h <;> first
  | (exact absurd rfl (hg _))
  | (subst h;rfl)
  | (obtain ⟨a,m,c,k,h1,h2,h3,A,B,E,rfl⟩:=h;rfl)
  | (obtain ⟨r,base,n,h1,rfl⟩:=h;rfl)
  | (obtain ⟨r,base,n,cap,h1,rfl,h2⟩:=h;rfl)
  | (obtain ⟨a,c,rfl⟩:=h;rfl)
  | (obtain ⟨r,h1,rfl⟩:=h;rfl)
  | (obtain ⟨G,H,rfl,h1,h2⟩:=h;rfl)
  | (obtain ⟨vs,rfl,h1⟩:=h;rfl)
  | (obtain ⟨g,n,c,h1,h2,rfl⟩:=h;rfl)
  | (obtain ⟨ad,vs,rfl,h⟩:=h;rfl)
  | (obtain ⟨a,n,c,rfl,h⟩:=h;rfl)
  | (obtain ⟨a,c,e,h⟩:=h;cases e;rfl)
def Do (ops:List Oper) (o:Oper):List Tmp:=match o.guard with
 | some (j,_)=>((ops[j]?).bind (·.dst)).toList
 | none=>[]
variable {ops:List Oper}{o:Oper}
theorem I3(hr:RA n a fr){f:GF}{b:Bool}(h:Gd ops o f=some b)(hs:∀ d∈Do ops o,∀ g,f.get d=some g→RV p g (fr d)) :
  Region.wanted o (yielded ops.toArray a.tmps)=b:=by
 unfold Gd at h;unfold Region.wanted;unfold Do at hs
 split at h;rename_i hg;cases h;rw [hg];rename_i j E hg;rw [hg] at hs;rw [hg];simp only [Uh hr]
 split at h;rename_i q hq;split at h;rename_i d hd;have hb:(ops[j]?).bind (·.dst)=some d:=by rw [hq];exact hd
 simp only [hb] at hs;simp only [hb]
 split at h;rename_i c B;cases h;have:=hs d (by simp) _ B;have this:fr d=.bool c:=this;rw [this];simp;rename_i g hne A;cases h;have hv:=hs d (by simp) _ A;have:=hv.notBool (λb e=>hne b (by rw [e] at A;exact e));rw [this];rfl;cases h;cases h;cases h
def Same (name:Nat) (S S':St):Prop:=S'.nx=S.nx∧S'.df=S.df∧∀ b,b≠name→S'.h.get b=S.h.get b∧S'.ow.get b=S.ow.get b
theorem Same.rfl' (name:Nat)(S:St):Same name S S:=⟨rfl,rfl,λ_ _=>⟨rfl,rfl⟩⟩
variable {S S':St}
theorem Same.put {name:Nat}{g:Option GB}(h:S.put name g=some S'):Same name S S':=let ⟨h1,h2,h3⟩:=Ax h;⟨h1,h2,λb hb=>⟨by rw [h3,M1e hb],by rw [DB h]⟩⟩
variable {l:List GV}
theorem Same.newB {name:Nat}(h:newB S name l=some S'):Same name S S':=.put (C0 h).2
theorem P7{b off:Nat}(h:Gb S b off l=some S'):S'.nx=S.nx:=by
 obtain ⟨_,_,_,_,h⟩:=Cm h;exact (Ax h).1
variable {P:Program}{x:GV}
theorem Ui{name t B:Nat}{s:GV}(A:EF P name t B S s x=some (g,S')):S'.nx=S.nx:=by
 unfold EF at A;split at A;split at A;split at A;cases A;split at A;cases A;rfl;cases A;rfl;cases A;obtain ⟨S1,h1,h2⟩:=M01.1 A;cases h2;exact (Same.newB h1).1;split at A;split at A;obtain ⟨S1,h1,h2⟩:=M01.1 A;cases h2;exact (Same.newB h1).1;cases A;cases A;split at A;split at A;rename_i hk;obtain ⟨S1,h1,h2⟩:=M01.1 A;cases h2;rw [(Same.newB h1).1];exact (Ax hk).1;cases A;cases A;cases A;cases A;cases A
theorem KQ{name s d:Nat}(hg:C7 P name s d x S=some (g,S')):Same name S S':=by
 unfold C7 at hg;split at hg;cases hg;exact .rfl' _ _;cases hg;exact .rfl' _ _;split at hg;split at hg;obtain ⟨S1,h1,h2⟩:=M01.1 hg;cases h2;exact .newB h1;cases hg;cases hg;split at hg;cases hg;exact .rfl' _ _;cases hg;split at hg;split at hg;obtain ⟨S1,h1,h2⟩:=M01.1 hg;cases h2;exact .rfl' _ _;cases hg;cases hg;cases hg
theorem Bh {α:Type}{name:Nat}{o:Option α}{c:α→GV}(h:(o.map λv=>(c v,S))=some (g,S')):Same name S S':=by
 obtain ⟨_,_,h2⟩:=M01.1 h;cases h2;exact .rfl' _ _
theorem GJ {name:Nat}{c:GV}(h:((newB S name l).map λS=>(c,S))=some (g,S')):Same name S S':=by
 obtain ⟨_,h1,h2⟩:=M01.1 h;cases h2;exact .newB h1
variable {call:Cl}
theorem KR(E:Ja P call){name:Nat}{f:GF}(hg:J7 P call name o f S=some (g,S')):S.nx≤S'.nx∧(Cy o.op=true→Same name S S'):=by
 obtain ⟨dst,op,ty,pos,G,H⟩:=o;have A:Same name S S'→S.nx≤S'.nx∧(Cy op=true→Same name S S'):=λh=>⟨M1O h.1.symm,λ_=>h⟩
 have B:S'.nx=S.nx→Cy op=false→S.nx≤S'.nx∧(Cy op=true→Same name S S'):=λh h2=>⟨M1O h.symm,λh3=>by rw [h2] at h3;cases h3⟩
 unfold J7 at hg;cases op <;> simp only at hg
 case move=>exact A (Bh hg)
 case assign=>exact A (Bh hg)
 case pick=>split at hg <;> first | exact A (Bh hg) | cases hg
 case alloc=>split at hg <;> first | exact A (GJ hg) | cases hg
 case box=>split at hg <;> first | exact A (GJ hg) | cases hg
 case build=>
  split at hg
  ·split at hg <;> first | exact A (Bh hg) | cases hg
  ·split at hg <;> first | exact A (Bh hg) | cases hg
  cases hg
 case buildSlice=>
  split at hg
  ·split at hg
   ·split at hg
    ·split at hg <;> first | exact A (GJ hg) | cases hg
    cases hg
   cases hg
  cases hg
 case load=>split at hg <;> first | exact A (Bh hg) | cases hg
 case store=>
  split at hg;split at hg;obtain ⟨S1,h1,h2⟩:=M01.1 hg;cases h2;exact B (P7 h1) rfl;cases hg;cases hg
 case nilCheck=>
  split at hg;split at hg;cases hg;exact A (.rfl' _ _);cases hg;cases hg
 case binOp=>split at hg <;> first | exact A (Bh hg) | cases hg
 case unOp=>split at hg <;> first | exact A (Bh hg) | cases hg
 case convert=>split at hg <;> first | exact A (KQ hg) | cases hg
 case makeFunc fn _ _=>
  cases fn <;> simp only at hg <;> first | (cases hg;done) | skip
  split at hg;cases hg;exact A (.rfl' _ _);cases hg
 case makeMap t r=>
  cases r with
  | none=>
   simp only at hg;obtain ⟨S1,h1,h2⟩:=M01.1 hg;cases h2;exact A (.put h1)
  | some x=>simp only at hg;cases hg
 case makeSlice=>
  split at hg
  ·split at hg
   ·split at hg <;> first | exact A (GJ hg) | cases hg
   cases hg
  cases hg
 case slice=>split at hg <;> first | exact A (Bh hg) | cases hg
 case fieldAddr=>
  split at hg;split at hg;cases hg;exact A (.rfl' _ _);cases hg;cases hg
 case field=>split at hg <;> first | exact A (Bh hg) | cases hg
 case indexAddr=>split at hg <;> first | exact A (Bh hg) | cases hg
 case index=>split at hg <;> first | exact A (Bh hg) | cases hg
 case lookup=>split at hg <;> first | exact A (Bh hg) | cases hg
 case mapUpdate=>
  split at hg;obtain ⟨S1,h1,h2⟩:=M01.1 hg;cases h2;refine B ?_ rfl;unfold HU at h1;split at h1;split at h1;split at h1;exact (Ax h1).1;exact (Ax h1).1;cases h1;cases h1;cases h1;cases hg
 case extract=>split at hg <;> first | exact A (Bh hg) | cases hg
 case defer c=>
  obtain ⟨callee,args,argTypes⟩:=c;split at hg;split at hg;cases hg;exact B rfl rfl;cases hg;cases hg
 case call c=>
  obtain ⟨callee,args,argTypes⟩:=c;split at hg;simp only at hg;split at hg;split at hg;exact ⟨(E _ _ _ _ _ hg).2.1,λh=>by cases h⟩;cases hg;unfold CU at hg;split at hg;exact A (Bh hg);exact B (Ui hg) rfl;refine B ?_ rfl;unfold J6 at hg;split at hg;split at hg;split at hg;obtain ⟨S1,h1,h2⟩:=M01.1 hg;cases h2;exact P7 h1;cases hg;cases hg;cases hg;rfl;cases hg;rfl;cases hg;rfl;cases hg;exact A (Bh hg);cases hg;cases hg;cases hg
 all_goals (cases hg)
structure D6 (P:Program) (op:GO):Prop where
 sound:∀ {name:Nat} {o:Oper} {f:GF} {S S':St} {g:GV},op.run name o f S=some (g,S')→∀ {p:Ren} {a:Act} {fr:Fr} {w:World},a.eval=ev fr→OpsOK p f fr o.op.operands.toList→RH p S w→By p name→name<S.nx→∀ {N:Act→World→Prop} {Q:Exit→Act→World→Prop},
  (∀ q u w' ds,RV q g u→RH q S' w'→Ch (λb=>b=name∨S.nx≤b∧b<S'.nx) p w q w'→(DF a.defers S.df→DF ds S'.df)→N (({ a with defers:=ds }:Act).put o.dst u) w')→o.wp P a w N Q
 keep:∀ {name:Nat} {o:Oper} {f:GF} {S S':St} {g:GV},op.run name o f S=some (g,S')→S.nx≤S'.nx∧(op.fl o f=true→Same name S S')
theorem Zm(A:Ja P call):D6 P ⟨J7 P call,λo _=>Cy o.op⟩:=⟨λh=>Jb A h,λh=>KR A h⟩
variable {op:GO}{base i:Nat}
theorem RK(I:D6 P op){f:GF}(hs:stepG op n ops base i o f S=some (f',S')){w:World}(hr:RA n a fr)
  (ho:OpsOK p f fr o.op.operands.toList)(B:∀ d∈Do ops o,∀ g,f.get d=some g→RV p g (fr d))(h:RH p S w)(hn:By p (base+i))(J:base+i<S.nx)(hd:DF a.defers S.df)
  {N:Act→World→Prop} {Q:Exit→Act→World→Prop}
  (A:∀ q g u a' fr' w',PV n f o.dst g=some f'→RV q g u→fr'=R5 fr o.dst u→RA n a' fr'→RH q S' w'→Ch (λb=>b=base+i∨S.nx≤b∧b<S'.nx) p w q w'→DF a'.defers S'.df→N a' w') :
  if Region.wanted o (yielded ops.toArray a.tmps) then o.wp P a w N Q else N (a.put o.dst undef) w:=by
 unfold stepG at hs;split at hs;rename_i hw;rw [I3 hr hw B];simp only [M2K];split at hs;rename_i g S1 hg;obtain ⟨f1,h1,h2⟩:=M01.1 hs;cases h2;refine I.sound hg hr.eval ho h hn J λq u w' ds h3 E G H=>?_
 refine A q g u _ _ w' h1 h3 rfl ((hr.defers ds).put (BZ h1).1 u) E G ?_;have:=H hd;cases o.dst <;> exact this
 cases hs;rename_i hw;rw [I3 hr hw B];simp only [M2v,M2V];obtain ⟨f1,h1,h2⟩:=M01.1 hs;cases h2;refine A p (.tup []) undef _ _ w h1 ⟨[],rfl,trivial⟩ rfl (hr.put (BZ h1).1 undef) h (Ch.refl _ _ _) ?_;cases o.dst <;> exact hd
 cases hs
theorem CX(A:D6 P op){f:GF}(hs:stepG op n ops base i o f S=some (f',S')):S.nx≤S'.nx:=by
 unfold stepG at hs;split at hs;split at hs;rename_i g S1 hg;obtain ⟨f1,h1,h2⟩:=M01.1 hs;cases h2;exact (A.keep hg).1;cases hs;obtain ⟨f1,h1,h2⟩:=M01.1 hs;cases h2;exact M1g _;cases hs
theorem EI {P:Program}{op:GO}(A:D6 P op){n base:Nat}{ops:List Oper}:∀ (l:List Oper) (i:Nat) {f f':GF} {S S':St},OK op n ops base l i f S=some (f',S')→S.nx≤S'.nx
 | [],i,f,f',S,S',hs=>by cases hs;exact M1g _
 | o::l,i,f,f',S,S',hs=>by
  unfold OK at hs;split at hs;rename_i f1 S1 B;exact M1B (CX A B) (EI A l _ hs);cases hs
theorem K5 {P:Program}{op:GO}(A:D6 P op){n base:Nat}{ops:List Oper}{QA:Exit→Act→World→Prop}:∀ (l:List Oper) (i:Nat) {f f':GF} {S S':St},OK op n ops base l i f S=some (f',S')→
  ∀ {p:Ren} {a:Act} {fr:Fr} {w:World},RA n a fr→RF' p f fr→RH p S w→(∀ j,i≤j→j<i+l.length→By p (base+j))→base+(i+l.length)≤S.nx→DF a.defers S.df→
  (∀ q a' fr' w',RA n a' fr'→RF' q f' fr'→RH q S' w'→Ch (λb=>base≤b∧b<S'.nx) p w q w'→DF a'.defers S'.df→QA .normal a' w')→wpList P ops.toArray QA l a w
 | [],i,f,f',S,S',hs,p,a,fr,w,hr,hf,h,_,_,hd,hQ=>by
  cases hs;exact hQ p a fr w hr hf h (Ch.refl _ _ _) hd
 | o::l,i,f,f',S,S',hs,p,a,fr,w,hr,hf,h,hn,hx,hd,hQ=>by
  unfold OK at hs;split at hs;rename_i f1 S1 E;have af:=CX A E;have ag:S1.nx≤S'.nx:=EI A l _ hs;simp only [M1N] at hn hx;have key:=RK (Q:=QA) (N:=wpList P ops.toArray QA l) A E hr (.of λt _ g hg=>hf t g hg) (λd _ g hg=>hf d g hg) h (hn i (M1g _) (by omega)) (by omega) hd
   (λq g u a' fr' w' h1 h2 h3 I J B O=>by
    subst h3;refine K5 A l (i+1) hs I ((hf.mono B.le).put h1 h2) J (λj ad ae=>?_) (by omega) O λq' G H ac U Y Z k4 k5=>?_
    refine M3r λhq=>?_
    rcases B.new (base+j) hq with e|e|e;exact e (hn j (by omega) (by omega));omega;omega;refine hQ q' G H ac U Y Z (Ch.trans (B.mono λb hb=>?_) k4) k5;rcases hb with rfl|hb
    exact ⟨by omega,by omega⟩;exact ⟨by omega,by omega⟩)
  unfold wpList;split;rename_i hw;rw [M1d hw] at key;exact .inl key;rename_i hw;rw [M1e hw] at key;exact key;cases hs
end
section
theorem qT:∀ (c d:GC),gcb c d=true→c=d
 | .kn c,.kn d,h=>by rw [M0g h]
 | .op c,.op d,h=>by rw [M0g h]
 | .kn _,.op _,h=>by cases h
 | .op _,.kn _,h=>by cases h
mutual
theorem M4A:∀ (x y:GV),GV.beq x y=true→x=y
 | .bool a,y,h=>by cases y <;> simp only [GV.beq] at h <;> first | (cases h;done) | (rw [eq_of_beq h])
 | .int k a,y,h=>by
  cases y <;> simp only [GV.beq] at h <;> first | (cases h;done) | skip
  split at h;rename_i e;rw [M1s e,M1s h];cases h
 | .str s,y,h=>by cases y <;> simp only [GV.beq] at h <;> first | (cases h;done) | (rw [M1s h])
 | .nilp,y,h=>by cases y <;> simp only [GV.beq] at h <;> first | (cases h;done) | rfl
 | .ptr b i,y,h=>by
  cases y <;> simp only [GV.beq] at h <;> first | (cases h;done) | skip
  simp only [M05] at h;rw [M0g h.1,M0g h.2]
 | .nils,y,h=>by cases y <;> simp only [GV.beq] at h <;> first | (cases h;done) | rfl
 | .sl b i l c,y,h=>by
  cases y <;> simp only [GV.beq] at h <;> first | (cases h;done) | skip
  simp only [M05] at h;rw [M0g h.1.1.1,M0g h.1.1.2,M0g h.1.2,qT _ _ h.2]
 | .sle,y,h=>by cases y <;> simp only [GV.beq] at h <;> first | (cases h;done) | rfl
 | .nilm,y,h=>by cases y <;> simp only [GV.beq] at h <;> first | (cases h;done) | rfl
 | .map b,y,h=>by cases y <;> simp only [GV.beq] at h <;> first | (cases h;done) | (rw [M0g h])
 | .nilf,y,h=>by cases y <;> simp only [GV.beq] at h <;> first | (cases h;done) | rfl
 | .func f a c,y,h=>by
  cases y <;> simp only [GV.beq] at h <;> first | (cases h;done) | skip
  simp only [M05] at h;rw [M0g h.1.1,GK _ _ h.1.2,GK _ _ h.2]
 | .agg l,y,h=>by cases y <;> simp only [GV.beq] at h <;> first | (cases h;done) | (rw [GK _ _ h])
 | .tup l,y,h=>by cases y <;> simp only [GV.beq] at h <;> first | (cases h;done) | (rw [GK _ _ h])
theorem GK:∀ (l m:List GV),Rs l m=true→l=m
 | [],[],_=>rfl
 | x::l,y::m,h=>by
  simp only [Rs,M05] at h;rw [M4A x y h.1,GK l m h.2]
 | [],_::_,h=>by cases h
 | _::_,[],h=>by cases h
end
theorem iN:∀ (a b:Option GB),yM a b=true→a=b
 | none,none,_=>rfl
 | some (.cells a),some (.cells b),h=>by rw [GK a b h]
 | some (.map []),some (.map []),_=>rfl
 | none,some _,h=>by cases h
 | some (.cells _),none,h=>by cases h
 | some (.cells _),some (.map _),h=>by cases h
 | some (.map []),none,h=>by cases h
 | some (.map (_::_)),none,h=>by cases h
 | some (.map []),some (.cells _),h=>by cases h
 | some (.map (_::_)),some (.cells _),h=>by cases h
 | some (.map []),some (.map (_::_)),h=>by cases h
 | some (.map (_::_)),some (.map _),h=>by cases h
variable {i:Nat}
theorem B4 {l:List Nat}:Bx l i=true↔i∈l:=by
 unfold Bx;rw [M2P];constructor;rintro ⟨x,A,h⟩;rw [M0g h];exact A;intro h;exact ⟨i,h,by simp⟩
variable {j:Nat}
theorem AV {l:List Nat}:Bx (j::l) i=true↔i=j∨Bx l i=true:=by rw [B4,B4,M1y]
def Cz (op:GO) (ops:Array Oper) (base:Nat) (f:GF) (S:St) (i:Nat):Prop:=∃ o,ops[i]? = some o∧HV ops i o=true∧
 ((Gd ops.toList o f=some true∧op.fl o f=true∧∃ v S',op.run (base+i) o f S=some (v,S')∧(S'.h.get (base+i)=S.h.get (base+i)∧S'.ow.get (base+i)=S.ow.get (base+i))∧∀ d,o.dst=some d→∀ u,f.get d=some u→u=v)∨
  (Gd ops.toList o f=some false∧∀ d,o.dst=some d→∀ u,f.get d=some u→u=.tup []))
inductive RegD (op:GO) (n:Nat) (ops:Array Oper) (base:Nat) (f':GF) (S':St):List (Nat×Oper)→List Nat→List Nat→GF→St→Prop where
 | fin {done loose:List Nat}:(∀ i,Bx loose i=true→Cz op ops base f' S' i)→RegD op n ops base f' S' [] done loose f' S'
 | flt {rem:List (Nat×Oper)} {done loose:List Nat} {f f1:GF} {S S1:St} {i:Nat} {o:Oper}:(i,o)∈rem→(BU o done&&Rt op ops i o f)=true→stepG op n ops.toList base i o f S=some (f1,S1)→
   RegD op n ops base f' S' (rem.filter λp=>!(Nat.beq p.1 i)) (i::done) (i::loose) f1 S1→RegD op n ops base f' S' rem done loose f S
 | mov {rem:List (Nat×Oper)} {done loose:List Nat} {f f1:GF} {S S1:St} {i:Nat} {o:Oper}:(∀ i,Bx loose i=true→Cz op ops base f S i)→rem.filter (λp=>BU p.2 done)=[(i,o)]→stepG op n ops.toList base i o f S=some (f1,S1)→
   RegD op n ops base f' S' (rem.filter λp=>!(Nat.beq p.1 i)) (i::done) (loose.filter λj=>!(HQ ops 8 i j)) f1 S1→RegD op n ops base f' S' rem done loose f S
theorem CY {α:Type}{x:Option α}(h:JE x=true):x=none:=by cases x with | none=>rfl | some _=>cases h
variable {op:GO}{ops:Array Oper}{base:Nat}{S:St}
theorem Xg{f:GF}(h:Ud op ops base f S i=true):Cz op ops base f S i:=by
 unfold Ud at h;split at h;cases h;rename_i o ho;simp only [M05] at h;refine ⟨o,ho,h.1,?_⟩;have h2:=h.2
 split at h2;rename_i hw;simp only [M05] at h2;obtain ⟨E,h3⟩:=h2
 split at h3;rename_i v S' hg;simp only [M05] at h3;refine .inl ⟨hw,E,v,S',hg,⟨iN _ _ h3.1.1.1,by rw [CY h3.1.1.2,CY h3.1.2]⟩,λd hd u B=>?_⟩;have A:=h3.2;rw [hd] at A;simp only [B] at A;exact (M4A _ _ A).symm
 cases h3;rename_i hw;refine .inr ⟨hw,λd hd u B=>?_⟩;rw [hd] at h2;simp only [B] at h2;exact (M4A _ _ h2).symm
 cases h2
theorem VE {l:List (Nat×Oper)}(h:∀ x∈l,x.1≠i):l.filter (λp=>!(Nat.beq p.1 i))=l:=List.filter_eq_self.2 λx A=>by simp [Kz (h x A)]
theorem Uj {op:GO}{n base:Nat}{ops:Array Oper}{f':GF}{S':St}:∀ (l pre:List (Nat×Oper)) {rem:List (Nat×Oper)} {done A loose B:List Nat} {f f1:GF} {S S1:St},
  Ue op n ops base l done loose f S=some (rem,A,B,f1,S1)→((pre++l).map (·.1)).Nodup→RegD op n ops base f' S' (pre++rem) A B f1 S1→RegD op n ops base f' S' (pre++l) done loose f S
 | [],pre,rem,done,A,loose,B,f,f1,S,S1,h,_,hd=>by cases h;exact hd
 | (i,o)::l,pre,rem,done,A,loose,B,f,f1,S,S1,h,hnd,hd=>by
  unfold Ue at h;split at h;rename_i H;split at h;rename_i J S2 I;rw [M1A,M1X] at hnd;have G:=M2X.1 hnd;have hi:=M3C.1 G.2.1;have e:(pre++(i,o)::l).filter (λp=>!(Nat.beq p.1 i))=pre++l:=by
   rw [M2n,M2A (by simp),VE (λx E e=>?_),VE (λx E e=>?_)];exact hi.1 (M1L.2 ⟨x,E,e⟩);exact G.2.2 x.1 (M1L.2 ⟨x,E,rfl⟩) i (by simp) e
  refine .flt (i:=i) (o:=o) (by simp) H I ?_;rw [e];refine Uj l pre h ?_ hd;rw [M1A];exact hnd.sublist (List.Sublist.append (M34 _) (List.sublist_cons_self _ _));cases h;split at h;rename_i O r hr;cases h;have:=Uj l (pre++[(i,o)]) hr (by simpa using hnd) (by simpa using hd)
  simpa using this
  cases h
theorem Q2 {op:GO}{n base:Nat}{ops:Array Oper}:∀ (l:List (Nat×Oper)) {rem:List (Nat×Oper)} {done A loose B:List Nat} {f f1:GF} {S S1:St},Ue op n ops base l done loose f S=some (rem,A,B,f1,S1)→rem.Sublist l
 | [],rem,done,A,loose,B,f,f1,S,S1,h=>by cases h;exact M34 _
 | (i,o)::l,rem,done,A,loose,B,f,f1,S,S1,h=>by
  unfold Ue at h;split at h;split at h;exact (Q2 l h).cons _;cases h;split at h;rename_i hr;cases h;exact (Q2 l hr).cons_cons _;cases h
theorem Uk {op:GO}{n base:Nat}{ops:Array Oper}{f':GF}{S':St}:∀ (k:Nat) {rem:List (Nat×Oper)} {done loose:List Nat} {f:GF} {S:St},iH op n ops base k rem done loose f S=some (f',S')→(rem.map (·.1)).Nodup→RegD op n ops base f' S' rem done loose f S
 | 0,rem,done,loose,f,S,h,_=>by cases h
 | k+1,rem,done,loose,f,S,h,hnd=>by
  unfold iH at h;split at h;rename_i O U J f1 S1 B;split at h;cases h;rename_i E;have A:∀ j,Bx J j=true→Cz op ops base f1 S1 j:=λj hj=>Xg (M1R.1 E j (B4.1 hj))
  refine Uj rem [] B hnd ?_;simp only [M2L];have H:(O.map (·.1)).Nodup:=hnd.sublist ((Q2 _ B).map _);split at h;split at h;cases h;exact .fin A;cases h;rename_i m o G;split at h;rename_i Y S2 I;exact .mov A G I (Uk k h (H.sublist (M2Y.map _)));cases h;cases h;cases h
structure RInv (ops:Array Oper) (n base:Nat) (p0:Ren) (w0:World) (done loose:List Nat) (f:GF) (S:St) (D:Array Bool) (p:Ren) (a:Act) (fr:Fr) (w:World):Prop where
 ra:RA n a fr
 cl:Closed ops D
 sz:D.size=ops.size
 sub:∀ i,D.getD i false=true→Bx done i=true
 sup:∀ i,Bx done i=true→D.getD i false=true∨Bx loose i=true
 ls:∀ i,Bx loose i=true→Bx done i=true
 slot:∀ t,(∀ i o,Bx loose i=true→D.getD i false=false→ops[i]? = some o→o.dst≠some t)→∀ g,f.get t=some g→RV p g (fr t)
 rh:RH p S w
 nm:∀ i,i<ops.size→D.getD i false=false→By p (base+i)
 df:DF a.defers S.df
 ch:Ch (λb=>base≤b∧b<S.nx) p0 w0 p w
 bn:base+ops.size≤S.nx
variable {D:Array Bool}
theorem Hx(h:D.getD i true=false):i<D.size∧D.getD i false=false:=by
 rcases M1V i D.size with h'|h';refine ⟨h',?_⟩;simp [h'] at h ⊢;exact h
 simp [M28 h'] at h
theorem Xh(h1:i<D.size)(h:D.getD i false=false):D.getD i true=false:=by
 simp [h1] at h ⊢;exact h
variable {n t:Nat}{p0 p:Ren}{w0 w:World}{a:Act}{fr:Fr}{o:Oper}
theorem RInv.reads{done loose:List Nat}{f:GF}(h:RInv ops n base p0 w0 done loose f S D p a fr w)
  (G:∀ j,Bx loose j=true→∀ o,ops[j]? = some o→HV ops j o=true)(ho:ops[i]? = some o)(E:∀ e∈o.after,Region.binds .any e=true→D.getD e.on false=true)(ht:t∈o.looksAt ops) :
  ∀ g,f.get t=some g→RV p g (fr t):=by
 refine h.slot t λj O hj hd J H=>?_
 have A:=G j hj O J;unfold HV at A;rw [H] at A;simp only at A;have I:i<ops.size:=(M2q.1 ho).1;have:=M1R.1 A i (M2i.2 I);rw [ho] at this;simp only [M2t,M2u,M05] at this;rcases this with e|e
 have hm:(o.looksAt ops).any (Nat.beq t)=true:=M2P.2 ⟨t,ht,by simp⟩;rw [hm] at e;cases e
 have:=Ga h.cl 8 i e.2 (λo' B=>by rw [ho] at B;cases B;exact E);rw [hd] at this;cases this
theorem KS(h:.tmp t∈o.op.operands.toList):t∈o.looksAt ops:=by
 unfold Oper.looksAt;rw [M1b];exact .inl (M3W.2 ⟨.tmp t,h,rfl⟩)
theorem E3{d:Nat}(h:d∈Do ops.toList o):d∈o.looksAt ops:=by
 unfold Oper.looksAt;rw [M1b];right;unfold Do at h;cases hg:o.guard with
 | none=>rw [hg] at h;cases h
 | some q=>
  obtain ⟨j,A⟩:=q;rw [hg] at h
  simpa using h
theorem JG(h:Closed ops D)(hj:j∈Region.ready .any ops D):Closed ops (D.setIfInBounds j true):=V.Closed.set h hj
theorem count_set(h1:i<D.size)(h:D.getD i false=false):(D.setIfInBounds i true).toList.count false+1=D.toList.count false:=by
 rw [Array.toList_setIfInBounds,List.count_set (by simpa using h1)];have hg:D.toList[i]'(by simpa using h1)=false:=by simpa [h1] using h
 rw [hg];have:0<D.toList.count false:=List.count_pos_iff.2 (by rw [←hg];exact M03 _);rw [M1d (by decide),M1e (by decide)];omega
theorem Ul(h:D.toList.count false=0)(h1:i<D.size):D.getD i false=true:=by
 have:=List.count_eq_zero.1 h;have hm:D.toList[i]'(by simpa using h1)∈D.toList:=M03 _;simp only [Array.getElem_toList] at hm;have:D[i]=true:=by
  cases hb:D[i] with
  | true=>rfl
  | false=>rw [hb] at hm;exact absurd hm this
 simp [h1,this]
theorem Zn(hb:KI ops=true)(hs:D.size=ops.size)(A:Region.ready .any ops D=[]):∀ i,i<ops.size→D.getD i false=true:=by
 intro i;induction i using Nat.strongRecOn with
 | _ i G=>
  intro hi;cases hd:D.getD i false with
  | true=>rfl
  | false=>
   have ho:ops[i]? = some ops[i]:=M2b hi;have hm:i∈Region.ready .any ops D:=mem_ready.2 ⟨Xh (by omega) hd,ops[i],ho,λe E B=>by
    have h1:=M1R.1 hb i (M2i.2 hi);rw [ho] at h1;have h2:=M1R.1 h1 e (by simpa using E);rw [B] at h2;have h3:e.on<i:=by simpa using h2
    exact G e.on h3 (by omega)⟩
   rw [A] at hm;cases hm
structure RL (ops:Array Oper) (rem:List (Nat×Oper)) (done:List Nat):Prop where
 at_:∀ x∈rem,ops[x.1]? = some x.2∧Bx done x.1=false
 nd:(rem.map (·.1)).Nodup
 all:∀ i o,ops[i]? = some o→Bx done i=true∨(i,o)∈rem
theorem RN(h:(D.setIfInBounds i true).getD j false=false):D.getD j false=false:=by
 by_cases e:i=j;subst e;rcases M1V i D.size with h'|h'
 simp [h'] at h;simp [M28 h']
 rwa [getD_set_ne false e] at h
theorem KT(h:i<D.size):(D.setIfInBounds i true).getD i false=true:=by simp [h]
theorem Zo(h:(D.setIfInBounds i true).getD j false=true):j=i∨D.getD j false=true:=by
 by_cases e:i=j;exact .inl e.symm;rw [getD_set_ne false e] at h;exact .inr h
variable {P:Program}
theorem RInv.loose(Z:D6 P op){done loose:List Nat}{f:GF}(h:RInv ops n base p0 w0 done loose f S D p a fr w)
  (O:∀ j,Bx loose j=true→Cz op ops base f S j)(aj:∀ (i:Nat)(o:Oper),ops[i]? = some o→∀ t,o.dst=some t→t<n)(ho:ops[i]? = some o)(hi:i∈Region.ready .any ops D)(hl:Bx loose i=true){N:Act→World→Prop}{Q:Exit→Act→World→Prop}
  (I:∀ q a' fr' w',RInv ops n base p0 w0 done loose f S (D.setIfInBounds i true) q a' fr' w'→N a' w'):wpOp P ops Q i N a w:=by
 obtain ⟨ao,o',U,ae⟩:=mem_ready.1 hi;rw [ho] at U;cases U;obtain ⟨av,ah⟩:=Hx ao;have al:∀ j,Bx loose j=true→∀ o,ops[j]? = some o→HV ops j o=true:=λj hj o A=>by
  obtain ⟨o2,G,e2,_⟩:=O j hj;rw [A] at G;cases G;exact e2
 have hsl:∀ t,t∈o.looksAt ops→∀ g,f.get t=some g→RV p g (fr t):=λt ht=>h.reads al ho ae ht
 obtain ⟨o2,Y,au,af⟩:=O i hl;rw [ho] at Y;cases Y;have next:∀ q u a' w',a'.tmps=(a.put o.dst u).tmps→RH q S w'→Ch (λb=>b=base+i) p w q w'→DF a'.defers S.df→(∀ d,o.dst=some d→∀ g,f.get d=some g→RV q g u)→
   RInv ops n base p0 w0 done loose f S (D.setIfInBounds i true) q a' (R5 fr o.dst u) w':=by
  intro q u a' w' ht am B ai hv;have aa:=h.ra.put (d:=o.dst) (λt e=>aj i o ho t e) u;refine ⟨⟨by rw [ht];exact aa.size,λj=>by rw [ht];exact aa.at_ j⟩,JG h.cl hi,by rw [Array.size_setIfInBounds];exact h.sz,λj hj=>?_,λj hj=>?_,h.ls,λt an g hg=>?_,am,λj hj hd=>?_,ai,h.ch.trans (B.mono λb hb=>?_),h.bn⟩;rcases Zo hj with rfl|hj;exact h.ls _ hl;exact h.sub j hj;rcases h.sup j hj with e|e;exact .inl (getD_set_true e);exact .inr e;rw [KO];by_cases e:o.dst=some t;rw [M1d e];exact hv t e g hg;rw [M1e e];refine (h.slot t (λj oj hj hd A=>?_) g hg).mono B.le;by_cases H:j=i;subst H;rw [ho] at A;cases A;exact e
  exact an j oj hj (by rw [getD_set_ne false (M40 H)];exact hd) A;have ag:=RN hd;have hne:j≠i:=λe=>by
   subst e;rw [KT (by rw [h.sz];exact hj)] at hd;cases hd
  refine M3r λhq=>?_
  rcases B.new (base+j) hq with e|e;exact e (h.nm j hj ag);omega;have:=h.bn;have:=h.sz;omega
 unfold wpOp;rw [ho];simp only;rcases af with ⟨hw,ak,v,S1,hg,J,E⟩|⟨hw,E⟩
 ·have hwt:=I3 (p:=p) h.ra hw (λd hd=>hsl d (E3 hd));rw [M1U] at hwt;rw [hwt];simp only [M2K];obtain ⟨k1,k2,k3⟩:=(Z.keep hg).2 ak;refine .inl (Z.sound hg h.ra.eval (.of λt ht=>hsl t (KS ht)) h.rh (h.nm i (by have:=h.sz;omega) ah) (by have:=h.bn;have:=h.sz;omega) λq u w' ds h1 h2 h3 h4=>?_);refine I q _ _ w' (next q u _ w' ?_ (h2.congr (λb _=>?_) (M1O k1) λb _=>?_) (h3.mono λb hb=>?_) ?_ λd hd g hg=>?_)
  cases o.dst <;> rfl
  by_cases e:b=base+i;subst e;exact J.1.symm;exact (k3 b e).1.symm;by_cases e:b=base+i;subst e;exact J.2.symm;exact (k3 b e).2.symm;rcases hb with e|e;exact e;omega;have:=h4 h.df;rw [k2] at this;cases o.dst <;> exact this
  rw [E d hd g hg];exact h1
 ·have hwt:=I3 (p:=p) h.ra hw (λd hd=>hsl d (E3 hd));rw [M1U] at hwt;rw [hwt];simp only [M2v,M2V];refine I p _ _ w (next p undef _ w rfl h.rh (Ch.refl _ _ _) (by cases o.dst <;> exact h.df) λd hd g hg=>?_);rw [E d hd g hg];exact ⟨[],rfl,trivial⟩
variable {rem:List (Nat×Oper)}
theorem iO(Z:D6 P op){done loose:List Nat}{f f1:GF}{S1:St}(aa:RL ops rem done)(hm:(i,o)∈rem)(E:(BU o done&&Rt op ops i o f)=true)
  (A:stepG op n ops.toList base i o f S=some (f1,S1))(h:RInv ops n base p0 w0 done loose f S D p a fr w):RInv ops n base p0 w0 (i::done) (i::loose) f1 S1 D p a fr w:=by
 simp only [M05] at E;obtain ⟨h1,h2⟩:=aa.at_ _ hm;simp only at h1 h2;have U:=(M2q.1 h1).1;have B:D.getD i false=false:=by
  cases hd:D.getD i false with
  | false=>rfl
  | true=>have:=h.sub i hd;rw [h2] at this;cases this
 have O:(∀ t,f1.get t=f.get t∨o.dst=some t)∧(∀ b,(S1.h.get b=S.h.get b∧S1.ow.get b=S.ow.get b)∨b=base+i)∧S1.nx=S.nx∧S1.df=S.df:=by
  unfold stepG at A;have H:∀ {g:GV},PV n f o.dst g=some f1→∀ t,f1.get t=f.get t∨o.dst=some t:=λhp t=>by
   rw [(BZ hp).2];by_cases e:o.dst=some t;exact .inr e;rw [M1e e];exact .inl rfl
  split at A;rename_i hw;have J:op.fl o f=true:=by
   have:=E.2;unfold Rt at this;rw [M05,M2t] at this;rcases this.2 with e|e
   exact e;rw [hw] at e;cases e
  split at A;rename_i g S2 hg;obtain ⟨I,h1,h2⟩:=M01.1 A;cases h2;obtain ⟨k1,k2,k3⟩:=(Z.keep hg).2 J;exact ⟨H h1,λb=>by by_cases e:b=base+i;exact .inr e;exact .inl (k3 b e),k1,k2⟩;cases A;obtain ⟨I,h1,h2⟩:=M01.1 A;cases h2;exact ⟨H h1,λb=>.inl ⟨rfl,rfl⟩,rfl,rfl⟩;cases A
 obtain ⟨a1,a2,a3,a4⟩:=O;have G:=h.nm i U B;refine ⟨h.ra,h.cl,h.sz,λj hj=>AV.2 (.inr (h.sub j hj)),λj hj=>?_,λj hj=>?_,λt ht g hg=>?_,h.rh.congr (λb hb=>?_) (M1O a3.symm) (λb hb=>?_),h.nm,by rw [a4];exact h.df,by rw [a3];exact h.ch,by rw [a3];exact h.bn⟩;rcases AV.1 hj with e|e;exact .inr (AV.2 (.inl e));exact (h.sup j e).imp id λe=>AV.2 (.inr e)
 rcases AV.1 hj with e|e;exact AV.2 (.inl e);exact AV.2 (.inr (h.ls j e));rcases a1 t with e|e;rw [e] at hg;exact h.slot t (λj oj hj hd Y=>ht j oj (AV.2 (.inr hj)) hd Y) g hg
 exact absurd e (ht i o (AV.2 (.inl rfl)) B h1);rcases a2 b with e|e;exact e.1;subst e;exact absurd G.1 hb;rcases a2 b with e|e;exact e.2;subst e;exact absurd G.2 hb
theorem RP{done:List Nat}(h:RL ops rem done):RL ops (rem.filter λp=>!(Nat.beq p.1 i)) (i::done):=by
 refine ⟨λx G=>?_,?_,λj H hj=>?_⟩
 ·obtain ⟨I,B⟩:=M1Z.1 G;obtain ⟨J,O⟩:=h.at_ x I;refine ⟨J,?_⟩;cases E:Bx (i::done) x.1 with
  | false=>rfl
  | true=>
   rcases AV.1 E with e|e;rw [e] at B;simp at B
   rw [O] at e;cases e
 exact List.Nodup.sublist (List.Sublist.map _ M2Y) h.nd;rcases h.all j H hj with e|e;exact .inl (AV.2 (.inr e));by_cases A:j=i;exact .inl (AV.2 (.inl A));exact .inr (M1Z.2 ⟨e,by simp [Kz A]⟩)
theorem RQ(ag:D6 P op)(hb:KI ops=true)(ad:∀ (i:Nat) (o:Oper),ops[i]? = some o→∀ t,o.dst=some t→t<n){QA:Exit→Act→World→Prop}{done loose:List Nat}{f:GF}
  (Y:RL ops rem done)(ab:∀ j,Bx loose j=true→Cz op ops base f S j)
  (ae:rem=[]→∀ D p a fr w,RInv ops n base p0 w0 done loose f S D p a fr w→(∀ i,i<ops.size→D.getD i false=true)→QA .normal a w)
  (af:∀ (i:Nat)(o:Oper),(i,o)∈rem.filter (λp=>BU p.2 done)→ops[i]? = some o→Bx done i=false→∀ (A:Nat) D p a fr w,RInv ops n base p0 w0 done loose f S D p a fr w→i∈Region.ready .any ops D→(∀ e∈o.after,Region.binds .any e=true→D.getD e.on false=true)→D.getD i false=false→i<D.size→
   D.toList.count false≤A+1→wpOp P ops QA i (wpAny P .any ops QA A (D.setIfInBounds i true)) a w) :
  ∀ (A:Nat) (D:Array Bool) (p:Ren) (a:Act) (fr:Fr) (w:World),RInv ops n base p0 w0 done loose f S D p a fr w→D.toList.count false≤A→wpAny P .any ops QA A D a w:=by
 have I:∀ D p a fr w,RInv ops n base p0 w0 done loose f S D p a fr w→(∀ i,i<ops.size→D.getD i false=true)→QA .normal a w:=λD p a fr w hi B=>by
  refine ae ?_ D p a fr w hi B;cases ai:rem with
  | nil=>rfl
  | cons x l=>
   obtain ⟨h1,h2⟩:=Y.at_ x (by rw [ai];simp);have:=hi.sub x.1 (B _ (M2q.1 h1).1);rw [h2] at this;cases this
 intro A;induction A with
 | zero=>
  intro D p a fr w hinv J;have B:∀ i,i<ops.size→D.getD i false=true:=λi hi=>Ul (Nat.le_zero.1 J) (by rw [hinv.sz];exact hi)
  refine ⟨?_,I D p a fr w hinv B⟩;cases ah:Region.ready .any ops D with
  | nil=>rfl
  | cons i l=>
   have hm:i∈Region.ready .any ops D:=by rw [ah];simp
   obtain ⟨H,_⟩:=mem_ready.1 hm;obtain ⟨h1,h2⟩:=Hx H;rw [B i (by rw [←hinv.sz];exact h1)] at h2;cases h2
 | succ A ih=>
  intro D p a fr w hinv J;refine ⟨λZ=>I D p a fr w hinv (Zn hb hinv.sz Z),λi hi=>?_⟩;obtain ⟨H,o,ho,O⟩:=mem_ready.1 hi;obtain ⟨U,G⟩:=Hx H;have al:=count_set U G;cases E:Bx done i with
  | true=>
   rcases hinv.sup i E with e|e;rw [G] at e;cases e
   exact hinv.loose ag ab ad ho hi e λq a' fr' w' hq=>ih _ q a' fr' w' hq (by omega)
  | false=>
   rcases Y.all i o ho with e|e;rw [E] at e;cases e
   ·have ac:BU o done=true:=M1R.2 λx hx=>by
     cases aa:Region.binds .any x with
     | false=>rfl
     | true=>rw [hinv.sub x.on (O x (by simpa using hx) aa)];rfl
    exact af i o (M1Z.2 ⟨e,ac⟩) ho E A D p a fr w hinv hi O G U (by omega)
theorem iP(I:D6 P op)(hb:KI ops=true)(ao:OY n ops.toList=true){QA:Exit→Act→World→Prop}{f':GF}{S':St}
  (hQ:∀ q a' fr' w',RA n a' fr'→RF' q f' fr'→RH q S' w'→Ch (λb=>base≤b∧b<S'.nx) p0 w0 q w'→DF a'.defers S'.df→QA .normal a' w'){done loose:List Nat}{f:GF}(hr:RegD op n ops base f' S' rem done loose f S) :
  RL ops rem done→∀ (B:Nat) (D:Array Bool) (p:Ren) (a:Act) (fr:Fr) (w:World),RInv ops n base p0 w0 done loose f S D p a fr w→D.toList.count false≤B→wpAny P .any ops QA B D a w:=by
 have af:∀ (i:Nat) (o:Oper),ops[i]? = some o→∀ t,o.dst=some t→t<n:=λi o ho t ht=>U6 ao (M1k (by rw [M1E];exact ho)) ht
 induction hr with
 | fin O=>
  intro E;refine RQ I hb af E O (λ_ D p a fr w hi hD=>hQ p a fr w hi.ra (λt g hg=>hi.slot t (λj o hj hd ho=>?_) g hg) hi.rh hi.ch hi.df) λi o hm=>by cases hm
  rw [hD j (M2q.1 ho).1] at hd;cases hd
 | flt hm hc U _ J=>
  intro E B D p a fr w hinv ab;exact J (RP E) B D p a fr w (iO I E hm hc U hinv) ab
 | @mov rem done loose f f1 S S1 m om O hfe U _ J=>
  intro E;have J:=J (RP E);refine RQ I hb af E O (λh0=>by rw [h0] at hfe;cases hfe) λi o hm ho ac B D p a fr w A hi ad ae ar ab=>?_
  rw [hfe] at hm;simp only [M19,M3O] at hm;obtain ⟨rfl,rfl⟩:=hm;have ap:∀ j,Bx loose j=true→∀ o,ops[j]? = some o→HV ops j o=true:=λj hj o Y=>by
   obtain ⟨o2,e1,e2,_⟩:=O j hj;rw [Y] at e1;cases e1;exact e2
  have hsl:∀ t,t∈o.looksAt ops→∀ g,f.get t=some g→RV p g (fr t):=λt ht=>A.reads ap ho ad ht
  have av:=A.sz;have aD:=A.bn;have aF:=CX I U;have aE:=count_set ar ae;have au:Bx loose i=false:=by
   cases hb:Bx loose i with
   | false=>rfl
   | true=>rw [A.ls i hb] at ac;cases ac
  have qM:∀ j,HQ ops 8 i j=true→D.getD j false=true:=λj hj=>Ga A.cl 8 i hj (λo' ag=>by rw [ho] at ag;cases ag;exact ad)
  have key:=RK (Q:=QA) (N:=wpAny P .any ops QA B (D.setIfInBounds i true)) I U A.ra (.of λt ht=>hsl t (KS ht)) (λd hd=>hsl d (E3 hd)) A.rh (A.nm i (by omega) ae) (by omega) A.df
   (λq g u a' fr' w' k1 k2 k3 k4 k5 Z k7=>by
    subst k3;refine J B _ q a' _ w' ⟨k4,JG A.cl hi,by rw [Array.size_setIfInBounds];exact av,λj hj=>?_,λj hj=>?_,λj hj=>?_,λt ht g' H=>?_,k5,λj hj hd=>?_,k7,(A.ch.mono λb hb=>⟨hb.1,by omega⟩).trans (Z.mono λb hb=>?_),by omega⟩ (by omega);rcases Zo hj with e|e;exact AV.2 (.inl e);exact AV.2 (.inr (A.sub j e));rcases AV.1 hj with e|e;subst e;exact .inl (KT (by omega));rcases A.sup j e with e|e;exact .inl (getD_set_true e);cases G:HQ ops 8 i j with
    | true=>exact .inl (getD_set_true (qM j G))
    | false=>exact .inr (B4.2 (M1Z.2 ⟨B4.1 e,by rw [G];rfl⟩))
    exact AV.2 (.inr (A.ls j (B4.2 (M1Z.1 (B4.1 hj)).1)));rw [(BZ k1).2] at H;rw [KO]
    by_cases e:o.dst=some t;rw [M1d e] at H ⊢;cases H;exact k2
    rw [M1e e] at H ⊢;refine (A.slot t (λj oj hj hd Y=>?_) g' H).mono Z.le;have aq:j≠i:=λe=>by subst e;rw [au] at hj;cases hj
    have G:HQ ops 8 i j=false:=by
     cases G:HQ ops 8 i j with
     | false=>rfl
     | true=>rw [qM j G] at hd;cases hd
    exact ht j oj (B4.2 (M1Z.2 ⟨B4.1 hj,by rw [G];rfl⟩)) (by rw [getD_set_ne false (M40 aq)];exact hd) Y;have an:=RN hd;have hne:j≠i:=λe=>by
     subst e;rw [KT (by omega)] at hd;cases hd
    refine M3r λhq=>?_
    rcases Z.new (base+j) hq with e|e;exact e (A.nm j hj an);omega;omega)
  unfold wpOp;rw [ho];simp only;rw [M1U] at key;split;rename_i hw;rw [M1d hw] at key;exact .inl key;rename_i hw;rw [M1e hw] at key;exact key
end
section
variable {P:Program}{op:GO}{n:Nat}{f':GF}{S' S:St}
theorem I4(E:D6 P op){base:Nat}{ops:Array Oper}{rem:List (Nat×Oper)}{done loose:List Nat}{f:GF}(h:RegD op n ops base f' S' rem done loose f S):S.nx≤S'.nx:=by
 induction h with
 | fin=>exact M1g _
 | flt _ _ A _ B=>exact M1B (CX E A) B
 | mov _ _ A _ B=>exact M1B (CX E A) B
theorem BH:∀ (l:List Oper) (k:Nat) (x:Nat×Oper),x∈B1 l k→k≤x.1∧l[x.1-k]? = some x.2
 | [],k,x,h=>by cases h
 | o::l,k,x,h=>by
  unfold B1 at h;rcases M1y.1 h with rfl|h
  simp;obtain ⟨h1,h2⟩:=BH l (k+1) x h;refine ⟨by omega,?_⟩;rw [show x.1-k=(x.1-(k+1))+1 by omega,M2r];exact h2
theorem I5:∀ (l:List Oper) (k i:Nat) (o:Oper),l[i]? = some o→(k+i,o)∈B1 l k
 | [],k,i,o,h=>by cases h
 | a::l,k,0,o,h=>by cases h;simp [B1]
 | a::l,k,i+1,o,h=>by
  unfold B1;have:=I5 l (k+1) i o (by simpa using h);rw [show k+(i+1)=k+1+i by omega];exact M1c _ this
theorem E4:∀ (l:List Oper) (k:Nat),((B1 l k).map (·.1)).Nodup
 | [],k=>by simp [B1]
 | a::l,k=>by
  unfold B1;rw [M1X,M3C];refine ⟨λh=>?_,E4 l (k+1)⟩;obtain ⟨x,A,e⟩:=M1L.1 h;have:=(BH l (k+1) x A).1;simp only at e;omega
theorem KU {body:GF→St→Option (GX×GF×St)}(hb:∀ f S e f' S',body f S=some (e,f',S')→S.nx≤S'.nx):∀ (L:Nat) {f f':GF} {S S':St} {e:GX},P4 body L f S=some (e,f',S')→S.nx≤S'.nx
 | 0,f,f',S,S',e,h=>by cases h
 | L+1,f,f',S,S',e,h=>by
  unfold P4 at h;split at h;rename_i A;exact M1B (hb _ _ _ _ _ A) (KU hb L h);exact hb _ _ _ _ _ h
theorem G0 {P:Program}{op:GO}(A:D6 P op){L n:Nat}:∀ (c:Code) {f f':GF} {S S':St} {e:GX},gC op L n c f S=some (e,f',S')→S.nx≤S'.nx
 | .skip,f,f',S,S',e,h=>by unfold gC at h;cases h;exact M1g _
 | .label _,f,f',S,S',e,h=>by unfold gC at h;cases h;exact M1g _
 | .ret,f,f',S,S',e,h=>by unfold gC at h;cases h;exact M1g _
 | .exit _,f,f',S,S',e,h=>by unfold gC at h;cases h;exact M1g _
 | .seq a b,f,f',S,S',e,h=>by
  unfold gC at h;split at h;rename_i h1;exact M1B (G0 A a h1) (G0 A b h);exact G0 A a h
 | .cond c x y,f,f',S,S',e,h=>by
  unfold gC at h;split at h;exact G0 A x h;exact G0 A y h;cases h
 | .block id c,f,f',S,S',e,h=>by
  unfold gC at h;split at h;rename_i h1;have:=G0 A c h1;split at h;cases h;exact this;cases h;exact this;exact G0 A c h
 | .loop c,f,f',S,S',e,h=>by
  unfold gC at h;exact KU (λf S e f' S' h=>G0 A c h) L h
 | .region _ ops false,f,f',S,S',e,h=>by
  unfold gC at h;split at h;rename_i h1;cases h;exact M1B (M1H _ _) (EI A _ _ h1);cases h
 | .region _ ops true,f,f',S,S',e,h=>by
  unfold gC at h;split at h;split at h;rename_i h1;cases h;exact M1B (M1H _ _) (I4 A (Uk _ h1 (E4 _ _)));cases h;cases h
 | .rangeFunc ..,f,f',S,S',e,h=>by unfold gC at h;cases h
 | .scope ..,f,f',S,S',e,h=>by unfold gC at h;cases h
 | .goto ..,f,f',S,S',e,h=>by unfold gC at h;cases h
 | .refuse ..,f,f',S,S',e,h=>by unfold gC at h;cases h
def Gf:GX→Exit
 | .nrm=>.normal
 | .exit id=>.exit id
 | .ret=>.ret
def VF (n:Nat) (f':GF) (S S':St) (p:Ren) (w:World) (Q:Act→World→Prop):Prop:=
 ∀ q a' fr' w',RA n a' fr'→RF' q f' fr'→RH q S' w'→Ch (λb=>S.nx≤b∧b<S'.nx) p w q w'→DF a'.defers S'.df→Q a' w'
variable {p:Ren}{a:Act}{fr:Fr}
theorem Jc(J:P.follows .mixedOrders=true)(O:D6 P op){id:Nat}{ops:Array Oper}{f:GF}(hb:KI ops=true)(I:OY n ops.toList=true)
  (h:RegD op n ops S.nx f' S' (B1 ops.toList 0) [] [] f ⟨S.h,S.nx+ops.size,S.df,S.ow,S.lg⟩){w:World}(hr:RA n a fr)(hf:RF' p f fr)(A:RH p S w)(hd:DF a.defers S.df){QA:Exit→Act→World→Prop}
  (H:VF n f' S S' p w (QA .normal)):(Code.region id ops true).wp P QA a w:=by
 refine wp_region_any J ?_;have B:∀ i,(Array.replicate ops.size false).getD i false=false:=λi=>by
  rcases M1V i ops.size with h'|h';simp [h'];simp [M28,h']
 refine iP O hb I (p0:=p) (w0:=w.drew) (λq a' fr' w' h1 h2 h3 E G=>H q a' fr' w' h1 h2 h3 ((Ch.drew _ _ _).trans E) G) h ⟨λx U=>?_,E4 _ _,λi o ho=>?_⟩ ops.size _ p a fr w.drew
  ⟨hr,M4H _,by simp,λi hi=>?_,λi hi=>?_,λi hi=>?_,λt _ g hg=>hf t g hg,(A.drew.congr (λ_ _=>rfl) (M1H _ _) λ_ _=>rfl),λi hi _=>A.fr _ (M1H _ _),hd,Ch.refl _ _ _,M1g _⟩ ?_
 obtain ⟨_,h2⟩:=BH _ _ x U;exact ⟨by simpa using h2,rfl⟩;right;have:=I5 ops.toList 0 i o (by rw [M1E];exact ho)
 simpa using this
 rw [B] at hi;cases hi
 cases hi;cases hi;simp
theorem VG {P:Program}{c:Code}{n:Nat}{body:GF→St→Option (GX×GF×St)}(E:∀ {f f':GF} {S S':St} {e:GX},body f S=some (e,f',S')→∀ {p:Ren} {a:Act} {fr:Fr} {w:World} {QA:Exit→Act→World→Prop},RA n a fr→RF' p f fr→RH p S w→DF a.defers S.df→VF n f' S S' p w (QA (Gf e))→c.wp P QA a w)
  (G:∀ f S e f' S',body f S=some (e,f',S')→S.nx≤S'.nx):∀ (L:Nat) {f f':GF} {S S':St}{e:GX},P4 body L f S=some (e,f',S')→∀ {p:Ren}{a:Act}{fr:Fr}{w:World}{QA:Exit→Act→World→Prop},RA n a fr→RF' p f fr→RH p S w→DF a.defers S.df→
   VF n f' S S' p w (QA (Gf e))→Code.rounds P c QA L a w
 | 0,f,f',S,S',e,h,_,_,_,_,_,_,_,_,_,_=>by cases h
 | L+1,f,f',S,S',e,h,p,a,fr,w,QA,hr,hf,hh,hd,hQ=>by
  unfold P4 at h;rw [rounds_succ]
  split at h;rename_i f1 S1 hb;have aa:=G _ _ _ _ _ hb;have ab:=KU G L h;refine E hb hr hf hh hd λq a' fr' w' h1 h2 h3 A B=>?_
  exact VG E G L h h1 h2 h3 B λq2 a2 H Z I J O U Y=>
   hQ q2 a2 H Z I J O ((A.mono λb hb=>⟨hb.1,by omega⟩).trans (U.mono λb hb=>⟨by omega,hb.2⟩)) Y
  rename_i r hne;refine E h hr hf hh hd λq a' fr' w' h1 h2 h3 A B=>?_
  have:=hQ q a' fr' w' h1 h2 h3 A B;cases e with
  | nrm=>exact absurd h (hne _ _)
  | exit id=>exact this
  | ret=>exact this
theorem Hh {P:Program}(U:P.follows .mixedOrders=true){op:GO}(E:D6 P op){L n:Nat}:∀ (c:Code) {f f':GF} {S S':St} {e:GX},gC op L n c f S=some (e,f',S')→
  ∀ {p:Ren} {a:Act} {fr:Fr} {w:World} {QA:Exit→Act→World→Prop},RA n a fr→RF' p f fr→RH p S w→DF a.defers S.df→VF n f' S S' p w (QA (Gf e))→c.wp P QA a w
 | .skip,f,f',S,S',e,h,p,a,fr,w,QA,hr,hf,A,hd,B=>by
  unfold gC at h;cases h;exact wp_skip (B p a fr w hr hf A (Ch.refl _ _ _) hd)
 | .label _,f,f',S,S',e,h,p,a,fr,w,QA,hr,hf,A,hd,B=>by
  unfold gC at h;cases h;exact wp_label (B p a fr w hr hf A (Ch.refl _ _ _) hd)
 | .ret,f,f',S,S',e,h,p,a,fr,w,QA,hr,hf,A,hd,B=>by
  unfold gC at h;cases h;exact wp_ret (B p a fr w hr hf A (Ch.refl _ _ _) hd)
 | .exit id,f,f',S,S',e,h,p,a,fr,w,QA,hr,hf,A,hd,B=>by
  unfold gC at h;cases h;exact wp_exit (B p a fr w hr hf A (Ch.refl _ _ _) hd)
 | .seq x y,f,f',S,S',e,h,p,a,fr,w,QA,hr,hf,A,hd,B=>by
  unfold gC at h;split at h;rename_i f1 S1 h1;have aj:=G0 E x h1;have ak:=G0 E y h;refine wp_seq (Hh U E x h1 hr hf A hd λq a' fr' w' G H I J O=>?_);exact Hh U E y h G H I O λq2 a2 ac w2 j1 j2 j3 j4 j5=>
   B q2 a2 ac w2 j1 j2 j3 ((J.mono λb hb=>⟨hb.1,by omega⟩).trans (j4.mono λb hb=>⟨by omega,hb.2⟩)) j5
  rename_i r hne;refine wp_seq (Hh U E x h hr hf A hd λq a' fr' w' G H I J O=>?_);have:=B q a' fr' w' G H I J O;cases e with
  | nrm=>exact absurd h (hne _ _)
  | exit id=>exact this
  | ret=>exact this
 | .cond c x y,f,f',S,S',e,h,p,a,fr,w,QA,hr,hf,A,hd,B=>by
  unfold gC at h;split at h;rename_i Z;have aa:ev fr c=.bool true:=KP Z λt _ g hg=>hf t g hg
  exact wp_cond_true (by rw [hr.eval];exact aa) (Hh U E x h hr hf A hd B);rename_i Z;have aa:ev fr c=.bool false:=KP Z λt _ g hg=>hf t g hg
  exact wp_cond_false (by rw [hr.eval];exact aa) (Hh U E y h hr hf A hd B);cases h
 | .block id c,f,f',S,S',e,h,p,a,fr,w,QA,hr,hf,A,hd,B=>by
  unfold gC at h;split at h;rename_i ab f1 S1 h1;split at h;rename_i Y;have Y:=M0g Y;cases h;refine wp_block (Hh U E c h1 hr hf A hd λq a' fr' w' G H I J O=>?_);show Exit.inBlock id QA (.exit ab) a' w'
  unfold Exit.inBlock;simp only;rw [M1d Y];exact B q a' fr' w' G H I J O;rename_i Y;cases h;refine wp_block (Hh U E c h1 hr hf A hd λq a' fr' w' G H I J O=>?_);show Exit.inBlock id QA (.exit ab) a' w'
  unfold Exit.inBlock;simp only;rw [M1e (λe=>by subst e;simp at Y)];exact B q a' fr' w' G H I J O;rename_i r hne;refine wp_block (Hh U E c h hr hf A hd λq a' fr' w' G H I J O=>?_);have:=B q a' fr' w' G H I J O;cases e with
  | nrm=>exact this
  | exit id=>exact absurd h (hne _ _ _)
  | ret=>exact this
 | .loop c,f,f',S,S',e,h,p,a,fr,w,QA,hr,hf,A,hd,B=>by
  unfold gC at h;exact wp_loop_rounds L (VG (λ{f f' S S' e} h {p a fr w QA} hr hf A hd B=>Hh U E c h hr hf A hd B) (λf S e f' S' h=>G0 E c h) L h hr hf A hd B)
 | .region _ ops false,f,f',S,S',e,h,p,a,fr,w,QA,hr,hf,A,hd,B=>by
  unfold gC at h;split at h;rename_i f1 S1 h1;cases h;refine wp_region_list ?_;have:=K5 E (QA:=QA) ops.toList 0 h1 hr hf (A.congr (λ_ _=>rfl) (M1H _ _) λ_ _=>rfl) (λj _ _=>A.fr _ (M1H _ _)) (by simp) hd (λq a' fr' w' G H I J O=>B q a' fr' w' G H I J O)
  rwa [M1U] at this
  cases h
 | .region _ ops true,f,f',S,S',e,h,p,a,fr,w,QA,hr,hf,A,hd,B=>by
  unfold gC at h;split at h;rename_i hb;simp only [M05] at hb;split at h;rename_i f1 S1 h1;cases h;exact Jc U E hb.1 hb.2 (Uk _ h1 (E4 _ _)) hr hf A hd B;cases h;cases h
 | .rangeFunc ..,f,f',S,S',e,h,p,a,fr,w,QA,hr,hf,A,hd,B=>by unfold gC at h;cases h
 | .scope ..,f,f',S,S',e,h,p,a,fr,w,QA,hr,hf,A,hd,B=>by unfold gC at h;cases h
 | .goto ..,f,f',S,S',e,h,p,a,fr,w,QA,hr,hf,A,hd,B=>by unfold gC at h;cases h
 | .refuse ..,f,f',S,S',e,h,p,a,fr,w,QA,hr,hf,A,hd,B=>by unfold gC at h;cases h
theorem P8:∀ (l:List GV) (i:Nat) (f:GF) (t:Nat),i+l.length≤100000→(BL l i f).get t=if i≤t∧t<i+l.length then l[t-i]? else f.get t
 | [],i,f,t,_=>by
  unfold BL;rw [M1e (by simp only [M2g];omega)]
 | v::l,i,f,t,h=>by
  simp only [M1N] at h;unfold BL;rw [P8 l (i+1) _ t (by omega),M4m _ _ _ _ _ (by unfold AD;omega)];simp only [M1N]
  by_cases h1:t=i;subst h1;rw [M1e (by omega),M1d rfl,M1d (by omega)];simp;by_cases h2:i+1≤t∧t<i+1+l.length;rw [M1d h2,M1d (by omega),show t-i=(t-(i+1))+1 by omega,M2r];rw [M1e h2,M1e h1,M1e (by omega)]
variable {vs:List Value}
theorem KV{l:List GV}(h:RVs p l vs)(hl:l.length≤1000):RF' p (BL l 0 .lf) (BC vs):=λt g hg=>by
 rw [P8 l 0 _ t (by omega)] at hg;split at hg;obtain ⟨v,h1,h2⟩:=h.get hg;simp only [M3f] at h1;rw [Ky,h1];exact h2
 cases hg
theorem Q3(h:vs.length≤n):RA n ⟨vs.toArray++Array.replicate (n-vs.toArray.size) undef,[]⟩ (BC vs):=by
 refine ⟨by simp;omega,λi=>?_⟩;rw [Ky];by_cases hi:i<vs.length;simp [Array.getElem?_append,hi];simp only [Array.getD_eq_getD_getElem?,Array.getElem?_append,M2e,hi,M2V,Array.getElem?_replicate];rw [M1h (by omega)];split <;> rfl
theorem K6 {P:Program}{p:Ren}{f:GF}{fr:Fr}{S:St}{w:World}(hf:RF' p f fr)(A:RH p S w):∀ {rs:List ResultVar} {gs:List GV},J8 P f S rs=some gs→∃ vs,Kx P fr w rs vs∧RVs p gs vs
 | [],gs,h=>by cases h;exact ⟨[],trivial,trivial⟩
 | .tmp t::rs,gs,h=>by
  unfold J8 at h;split at h;rename_i v hv;split at h;rename_i r hr;cases h;obtain ⟨vs,h1,h2⟩:=K6 hf A hr;exact ⟨fr t::vs,⟨rfl,h1⟩,hf t v hv,h2⟩;cases h;cases h
 | .cell c t::rs,gs,h=>by
  unfold J8 at h;split at h;rename_i b off hv;split at h;rename_i v hl;split at h;rename_i r hr;cases h;obtain ⟨vs,h1,h2⟩:=K6 hf A hr;obtain ⟨H,base,n,h3,B⟩:=hf c _ hv;obtain ⟨u,E,G⟩:=KJ (P:=P) A hl h3;exact ⟨u::vs,⟨⟨_,B,E⟩,h1⟩,G,h2⟩;cases h;cases h;cases h
theorem KW{gs:List GV}(h:RVs p gs vs):RV p (EZ gs) (Hd vs):=by
 match gs,vs,h with
 | [],[],h=>exact ⟨[],rfl,trivial⟩
 | [g],[v],h=>exact h.1
 | g::g2::gs,v::v2::vs,h=>exact ⟨v::v2::vs,rfl,h⟩
theorem KX{fn:Func}{f:GF}{w:World}(hr:RA n a fr)(hf:RF' p f fr)(B:RH p S w){gs:List GV}(h:J8 P f S fn.results.toList=some gs) :
  ∃ v,(results fn a.tmps).run P w=.ok v w∧RV p (EZ gs) v:=by
 obtain ⟨vs,h1,h2⟩:=K6 hf B h;obtain ⟨v,h3,A⟩:=R8 (P:=P) (fn:=fn) (rs:=fn.results.toList) (by simp) (a:=⟨a.tmps,[]⟩) ⟨rfl,hr.size,hr.at_⟩ (R:=λv _=>v=Hd vs) ⟨vs,h1,rfl⟩;subst A;exact ⟨_,h3,KW h2⟩
theorem qU(d:Nat){ty:Nat}{B:Array (String×TypeId)}(A:P.underlying ty=some (.interface B))(w:World):(Op.equalIn (d+1) ty .nilIface .nilIface).run P w=.ok true w:=by
 simp [Op.equalIn,run_underlying A]
theorem Zp{g:FuncId}(h:Hf P g=true)(args:Array Value)(w:World){R:Ending→FrameMode→World→Prop}(hR:R (.returned (.tuple #[])) .returning w):CallsD P g args .returning w R:=by
 unfold Hf at h;split at h
 ·rename_i fn ag;split at h
  ·rename_i id o q t X H ab;split at h
   ·rename_i ats ty d yt d' t' ah ai ho hq G O;simp only [M05] at h;obtain ⟨⟨⟨⟨h1,h2⟩,h3⟩,E⟩,B⟩:=h;have h1:=M0g h1;have h2:=M0g h2;subst h1 h2;have h3:d<fn.ntmps:=M18 h3;have E:t<fn.ntmps:=M18 E;refine callsD_of_wpS ag ab λU cs hm=>?_
    generalize hT:(args++Array.replicate (fn.ntmps-args.size) undef)=T;have J:fn.ntmps≤T.size:=by rw [←hT];simp;omega
    have Z:d<T.size:=M1D h3 J;have aa:t<T.size:=M1D E J;have an:recoverD (U::cs)=none:=by simp [recoverD,hm]
    have am:(execOp (({ tmps:=T,defers:=[] }:Act).put o.dst .nilIface).eval q).run P w=.ok (.value (.bool false)) w:=by
     have ae:(({ tmps:=T,defers:=[] }:Act).put o.dst .nilIface).eval (.tmp d)=.nilIface:=by
      rw [G];simp [Act.eval,Act.put,Z]
     have af:(({ tmps:=T,defers:=[] }:Act).put o.dst .nilIface).eval (.const .nilIface)=.nilIface:=rfl;unfold execOp;rw [hq];simp only [ae,af];refine CH _ _ w w ?_;show (do eqGuard .neq ty (.tmp d) (.const .nilIface) .nilIface .nilIface;binOp .neq ty .nilIface .nilIface:Sem Value).run P w=_
     have ad:(Op.equal ty .nilIface .nilIface).run P w=.ok true w:=by
      unfold Op.equal Op.maxDepth;cases I:P.underlying ty with
      | none=>rw [I] at B;cases B
      | some Y=>
       rw [I] at B;cases Y <;> first | (cases B;done) | skip
       exact qU 9999 I w
     have aj:(eqGuard .neq ty (.tmp d) (.const .nilIface) .nilIface .nilIface).run P w=.ok () w:=rfl;rw [run_bind,aj];simp only [binOp];rw [run_bind,ad];rfl
    refine wpS_seq (wpS_region ?_);show wpOpsS P ⟨[o,q]⟩ _ [0,1] _ _ _
    have ao:∀ A,Region.wanted o (yielded ⟨[o,q]⟩ A)=true:=λA=>by simp [Region.wanted,ah]
    have ap:∀ A,Region.wanted q (yielded ⟨[o,q]⟩ A)=true:=λA=>by simp [Region.wanted,ai]
    have al:∀ a:Act,(execOp a.eval o).run P w=.ok .recover w:=λa=>by
     unfold execOp;rw [ho];rfl
    unfold wpOpsS;simp only [M26,M2a,ao,M2K,al,an];unfold wpOpsS;simp only [M26,M2r,M2a,ap,M2K,am];unfold Oper.upon wpOpsS Exit.thenS;simp only;have ac:((({ tmps:=T,defers:=[] }:Act).put o.dst .nilIface).put q.dst (.bool false)).eval (.tmp t)=.bool false:=by
     rw [G,O];simp [Act.eval,Act.put,aa]
    refine wpS_cond (t:=false) ac ?_;simp only [M2v,M2V];refine wpS_of_wp (wp_skip ?_);refine ⟨by rw [G,O];rfl,.returning,?_,.tuple #[],?_,hR⟩;rw [←hm];exact results_none (by cases hh:fn.results with | mk l=>rw [hh] at H;simp only at H;rw [H]) _ _ _
   cases h
  cases h
 cases h
theorem GM {P : Program} {fn : Func} {tmps : Array Value} {R : Ending → World → Prop} {w : World} (BS : ∀ (g : Nat) (fn : Func), P.funcs[g]? = some fn → (fn.name == "runtime.NumGoroutine") = false) (hres : ∃ v, (results fn tmps).run P w = .ok v w ∧ R (.returned v) w) :
  ∀ (ds:List Deferred) (gs:List FuncId),DF ds gs→gs.all (Hf P)=true→Leaves P fn tmps R ds .returning w
 | [],[],_,_=>hres
 | d::ds,g::gs,⟨⟨a,c,hd⟩,h⟩,hall=>by
  subst hd;simp only [M44,M05] at hall;have ih:=GM BS hres ds gs h hall.2;have hfn:∃ fn,P.funcs[g]? = some fn∧fn.body.isNone=false:=by
   have:=hall.1;unfold Hf at this;split at this;rename_i fn hf;refine ⟨fn,hf,?_⟩;split at this;rename_i hb;rw [hb];rfl;cases this;cases this
  obtain ⟨fn',hf,hb⟩:=hfn;exact leaves_cons (by simp) (Df _ _ hf (BS g fn' hf) hb) (Zp hall.1 _ w ih)
 | [],_::_,h,_=>h.elim
 | _::_,[],h,_=>h.elim
theorem VH {P : Program} (hmx : P.follows .mixedOrders = true) (BS : ∀ (g : Nat) (fn : Func), P.funcs[g]? = some fn → (fn.name == "runtime.NumGoroutine") = false) (L : Nat) : ∀ k, Ja P (iI P L k)
 | 0,g,args,S,v,S',h=>by cases h
 | k+1,g,args,S,v,S',h=>by
  have ih:=VH hmx BS L k;unfold iI at h;split at h;cases h;rename_i fn hfn;split at h;cases h;rename_i c hc;split at h;cases h;rename_i hle;simp only [M05] at hle;have hle1:=M18 hle.1;have hle2:=M18 hle.2
  split at h;cases h;rename_i e f S1 hne hg;have hnx:=G0 (Zm ih) c hg;split at h;rename_i hrec;split at h;rename_i vs hres;cases h;refine ⟨rfl,hnx,λp w vargs hargs hh=>⟨?_,fn,hfn,BS g fn hfn,by rw [hc];rfl⟩⟩;refine calls_of_wp_defers hfn hc ?_;have hal:=hargs.length;have hra:=Q3 (n:=fn.ntmps) (vs:=vargs) (by omega);refine Hh hmx (Zm ih) c hg hra (KV hargs hle2) (hh.congr (λ_ _=>rfl) (M1g _) λ_ _=>rfl) trivial λq a' fr' w' k1 k2 k3 k4 k5=>?_
  obtain ⟨u,u1,u2⟩:=KX k1 k2 k3 hres;have hlv:=GM (fn:=fn) (tmps:=a'.tmps) (R:=λe w'=>∃ v,e=.returned v∧∃ q,RV q (EZ vs) v∧RH q ⟨S1.h,S1.nx,S.df,S1.ow,S1.lg⟩ w'∧Ch (λb=>S.nx≤b∧b<S1.nx) p w q w') BS ⟨u,u1,u,rfl,q,u2,k3.congr (λ_ _=>rfl) (M1g _) λ_ _=>rfl,k4⟩ a'.defers S1.df k5 hrec;cases e with
  | nrm=>exact hlv
  | exit id=>exact (hne id rfl).elim
  | ret=>exact hlv
  cases h;cases h;cases h
theorem qV(hmx:P.follows .mixedOrders=true)(hn:qa P=true){L k g:Nat}(h:yN P L k g=true)(w:World)(hgl:GlP ⟨λ_=>none,λ_=>none,w,[]⟩):CallVC P g [] w λv w'=>v=.bool true∧Ev [] w w':=by
 have BS : ∀ (g : Nat) (fn : Func), P.funcs[g]? = some fn → (fn.name == "runtime.NumGoroutine") = false := λg fn hg => by
  have:=M1R.1 hn fn (M1k (by rw [M1E];exact hg))
  simpa using this
 unfold yN at h;split at h;rename_i b S' hr;subst h;obtain ⟨_,_,hc⟩:=VH hmx BS L k _ _ _ _ _ hr;refine (hc ⟨λ_=>none,λ_=>none,w,[]⟩ w [] trivial ⟨λb r base n g hb=>(by cases hb),λb b' x x' hb=>(by cases hb),λb x hb=>(by cases hb),λb hb=>⟨rfl,rfl⟩,⟨Ev.refl _ _,λb x hb=>(by cases hb),λb o a n c _ _ hb=>(by cases hb),λb o a n c _ _ hb=>(by cases hb),λb b' o o' y y' _ _ _ _ hb=>(by cases hb),λb o y b' x _ _ hb=>(by cases hb)⟩,hgl⟩).mono λv w' ⟨q,h1,h2,h3⟩=>⟨h1,h3.os,h3.tape,h3.output,h3.size,λi hi _=>h3.out i hi λhb=>?_⟩
 rcases hb with ⟨b,x,hb,_⟩|⟨b,y,hb,_⟩ <;> cases hb
 cases h
end
end Go.E
