
/- Maps in memory, with keys that are numbers or strings or pairs of numbers. Conditions: those of each theorem. -/
import Derived.Test.YtlihkahbjlnbbaaGreatQ
import Derived.Lib.AppendZerosOnto
set_option linter.unusedSimpArgs false
set_option linter.unusedVariables false
namespace Go.V
open Go
def Mu {K V:Type} [BEq K]:List (K×V)→K→Option V
  | [],_=>none
  | (a,v)::l,k=>if (k==a)=true then some v else Mu l k
def P4 {K V:Type} [BEq K]:List (K×V)→K→V→List (K×V)
  | [],k,v=>[(k,v)]
  | (a,u)::l,k,v=>if (k==a)=true then (k,v)::l else (a,u)::P4 l k v
theorem Y1 {K V:Type} [BEq K] [LawfulBEq K] (k:K)(v:V)(j:K):∀ (l:List (K×V)),Mu (P4 l k v) j=if (j==k)=true then some v else Mu l j
  | []=>by simp only [P4,Mu]
  | (a,u)::l=>by
    simp only [P4]
    by_cases h:(k==a)=true
    · rw [if_pos h];have e:=eq_of_beq h;subst e;simp only [Mu]
      by_cases g:(j==k)=true
      · rw [if_pos g,if_pos g]
      · rw [if_neg g,if_neg g,if_neg g]
    · rw [if_neg h];simp only [Mu,Y1 k v j l]
      by_cases g:(j==a)=true
      · rw [if_pos g,if_pos g];have e:=eq_of_beq g;subst e;rw [if_neg (fun q=>h (by rw [eq_of_beq q]; exact beq_self_eq_true _))]
      · rw [if_neg g,if_neg g]
def PK {K:Type} [BEq K] (k:K):List K→List MapEntry→Nat→Option (Nat×Value)
  | a::ks,e::es,i=>if (k==a)=true then some (i,e.val) else PK k ks es (i+1)
  | _,_,_=>none
structure WP (P:Program) (kt:Nat) {K:Type} [BEq K] (kv:K→Value):Prop where
  chk:∀ (b:Bool) (k:K) (w:World),(Instr.checkKey b 10000 kt (kv k)).run P w=.ok () w
  find:∀ (k:K) (ks:List K) (es:List MapEntry) (w:World),es.map (·.key)=ks.map kv→(Instr.findKey kt (kv k) es).run P w=.ok (PK k ks es 0) w
  bits:∀ k,Instr.sameBits 10000 (kv k) (kv k)=true
theorem M22 {P:Program}{kt:Nat}{d:TypeDesc}{g:Value}{es:List MapEntry}{r:Option (Nat×Value)}(j:P.underlying kt=some d)(h:Instr.findNow d g es 0=some r)(w:World):(Instr.findKey kt g es).run P w=.ok r w:=by
  unfold Instr.findKey;rw [run_bind,run_underlying j];simp only [h];rfl
theorem M0m {K:Type} [BEq K] {d:TypeDesc}{kv:K→Value}(hs:∀ a b,Instr.sameNow d (kv a) (kv b)=some (a==b))(k:K):∀ (ks:List K) (es:List MapEntry) (i:Nat),es.map (·.key)=ks.map kv→Instr.findNow d (kv k) es i=some (PK k ks es i)
  | [],[],i,_=>rfl
  | a::ks,e::es,i,h=>by
    simp only [List.map_cons,List.cons.injEq] at h;simp only [Instr.findNow,PK,h.1,hs];cases g:(k==a) with
    | true=>simp
    | false=>simp only [Bool.false_eq_true,if_false]; exact M0m hs k ks es (i+1) h.2
  | [],_::_,_,h=>by simp at h
  | _::_,[],_,h=>by simp at h
theorem M0O {P:Program}{kt:Nat}{d:TypeDesc}{v:Value}{b:Bool}(g:P.underlying kt=some d)(hd:(match d with | .int _=>true | .string=>true | _=>false)=true)(w:World):(Instr.checkKey b 10000 kt v).run P w=.ok () w:=by
  unfold Instr.checkKey;rw [run_bind,run_underlying g];cases d <;> first | (cases hd; done) | rfl
theorem M9Y {P:Program}{kt:Nat}{j:IntKind}(g:P.underlying kt=some (.int j)):WP P kt (fun n:Int=>.int j n) where
  chk b k w:=M0O g rfl w
  find k ks es w h:=M22 g (M0m (fun a b=>by simp [Instr.sameNow]) k ks es 0 h) w
  bits k:=by simp [Instr.sameBits]
theorem M9Z {P:Program}{kt:Nat}(g:P.underlying kt=some .string):WP P kt Vs where
  chk b k w:=M0O g rfl w
  find k ks es w h:=M22 g (M0m (fun a b=>by
    have e:((⟨⟨a⟩⟩:ByteArray)==⟨⟨b⟩⟩)=(a==b):=by
      show ((⟨a⟩:Array UInt8)==⟨b⟩)=(a==b)
      simp
    show Instr.sameNow .string (Vs a) (Vs b)=_
    simp only [Vs,Instr.sameNow,e]) k ks es 0 h) w
  bits k:=by
    simp only [Instr.sameBits,Vs];show ((⟨k⟩:Array UInt8)==⟨k⟩)=true
    simp
def PA {K V:Type} (kv:K→Value) (g:V→Value) (w:World) (b:Nat) (l:List (K×V)):Prop:=
  ∃ (es:Array MapEntry) (clock:Nat),w.heap[b]? = some (.map es clock)∧es.toList.map (fun e=>(e.key,e.val))=l.map fun x=>(kv x.1,g x.2)
theorem PA.mk {K V:Type}{kv:K→Value}{g:V→Value}{w:World}{b:Nat}(h:w.heap[b]? = some (.map #[] 0)):PA kv g w b []:=⟨#[],0,h,rfl⟩
theorem PA.step {K V:Type}{kv:K→Value}{g:V→Value}{w w':World}{b:Nat}{l:List (K×V)}{M:List Nat}(h:PA kv g w b l)(j:Ev M w w')(q:b∉M):PA kv g w' b l:=
  let ⟨es,c,h1,h2⟩:=h; ⟨es,c,j.box h1 q,h2⟩
theorem PA.lt {K V:Type}{kv:K→Value}{g:V→Value}{w:World}{b:Nat}{l:List (K×V)}(h:PA kv g w b l):b<w.heap.size:=let ⟨_,_,h1,_⟩:=h; MA h1
theorem M2S {K V:Type} [BEq K] {kv:K→Value}{j:V→Value}(k:K):∀ (l:List (K×V)) (es:List MapEntry) (i:Nat),es.map (fun e=>(e.key,e.val))=l.map (fun x=>(kv x.1,j x.2))→
    (match PK k (l.map (·.1)) es i with | some (_,v)=>some v | none=>none)=(Mu l k).map j
  | [],[],i,_=>rfl
  | (a,u)::l,e::es,i,h=>by
    simp only [List.map_cons,List.cons.injEq,Prod.mk.injEq] at h;simp only [List.map_cons,PK,Mu]
    by_cases g:(k==a)=true
    · simp only [g,if_true,h.1.2,Option.map]
    · simp only [if_neg g]; exact M2S k l es (i+1) h.2
  | [],_::_,_,h=>by simp at h
  | _::_,[],_,h=>by simp at h
theorem M2u {K V:Type}{kv:K→Value}{g:V→Value}{l:List (K×V)}{es:List MapEntry}(h:es.map (fun e=>(e.key,e.val))=l.map (fun x=>(kv x.1,g x.2))):es.map (·.key)=(l.map (·.1)).map kv:=by
  have:=congrArg (List.map Prod.fst) h
  simpa [List.map_map,Function.comp_def] using this
theorem PA.look {P:Program}{t kt r:Nat}{K V:Type} [BEq K] {kv:K→Value}{q:V→Value}{w:World}{b:Nat}{l:List (K×V)}{Mo:List Nat}(G:P.underlying t=some (.map kt r))(B:WP P kt kv)(k:K)(z:V)
    (H:∀ w,(zeroValue r).run P w=.ok (q z) w) (h:PA kv q w b l) (F:b∉Mo) (ok:Bool) :
    ME P Mo (Instr.lookup t (.map (some b)) (kv k) ok) w (if ok then .tuple #[q ((Mu l k).getD z),.bool (Mu l k).isSome] else q ((Mu l k).getD z)):=by
  intro w' D;obtain ⟨es,c,h1,A⟩:=h.step D F;have E:(getObj b).run P w'=.ok (.map es c) w':=by simp only [getObj,Sem.run,h1]
  unfold Instr.lookup;rw [run_bind,run_underlying G];simp only;rw [run_bind,E];simp only [pure_bind];rw [run_bind,B.chk];simp only;rw [run_bind,B.find k _ _ w' (M2u A)];have g:=M2S k l es.toList 0 A;simp only
  split at g
  · rename_i i v hv
    rw [hv];simp only [pure_bind];cases j:Mu l k with
    | none=>rw [j] at g; cases g
    | some u=>
      rw [j] at g;cases g;cases ok <;> rfl
  · rename_i hv
    rw [hv];simp only;cases j:Mu l k with
    | some u=>rw [j] at g; cases g
    | none=>
      simp only [Sem.run_bind,H,Result.andThen_ok,Sem.run_pure];cases ok <;> rfl
theorem PA.get {P:Program}{t kt j:Nat}{K V:Type} [BEq K] {kv:K→Value}{g:V→Value}{w:World}{b:Nat}{l:List (K×V)}{Mo:List Nat}(u:P.underlying t=some (.map kt j))(q:WP P kt kv)(k:K)(z:V)
    (A:∀ w,(zeroValue j).run P w=.ok (g z) w) (h:PA kv g w b l) (r:b∉Mo) :
    ME P Mo (Instr.lookup t (.map (some b)) (kv k) false) w (g ((Mu l k).getD z)):=PA.look u q k z A h r false
theorem PA.getok {P:Program}{t kt j:Nat}{K V:Type} [BEq K] {kv:K→Value}{g:V→Value}{w:World}{b:Nat}{l:List (K×V)}{Mo:List Nat}(u:P.underlying t=some (.map kt j))(q:WP P kt kv)(k:K)(z:V)
    (A:∀ w,(zeroValue j).run P w=.ok (g z) w) (h:PA kv g w b l) (r:b∉Mo) :
    ME P Mo (Instr.lookup t (.map (some b)) (kv k) true) w (.tuple #[g ((Mu l k).getD z),.bool (Mu l k).isSome]):=PA.look u q k z A h r true
theorem M2T {K:Type} [BEq K] [LawfulBEq K] {kv:K→Value}(k:K):∀ (ks:List K) (es:List MapEntry) (i j:Nat) (v:Value),es.map (·.key)=ks.map kv→PK k ks es i=some (j,v)→i≤j∧∃ e,es[j-i]? = some e∧e.key=kv k
  | a::ks,e::es,i,j,v,h,hf=>by
    simp only [List.map_cons,List.cons.injEq] at h;simp only [PK] at hf
    split at hf
    · rename_i u
      cases hf;refine ⟨Nat.le_refl _,e,by simp,?_⟩;rw [h.1,eq_of_beq u]
    · obtain ⟨h1,g,q,r⟩:=M2T k ks es (i+1) j v h.2 hf;refine ⟨by omega,g,?_,r⟩;rw [show j-i=(j-(i+1))+1 by omega,List.getElem?_cons_succ];exact q
  | [],_,_,_,_,_,hf=>by simp only [PK] at hf; cases hf
  | _::_,[],_,_,_,h,_=>by simp at h
theorem M5l {K V:Type} [BEq K] [LawfulBEq K] {kv:K→Value}{r:V→Value}(k:K)(v:V):∀ (l:List (K×V)) (es:List MapEntry) (i j:Nat) (u:Value),es.map (fun e=>(e.key,e.val))=l.map (fun x=>(kv x.1,r x.2))→PK k (l.map (·.1)) es i=some (j,u)→
    (es.modify (j-i) fun e=>{ e with key:=kv k,val:=r v }).map (fun e=>(e.key,e.val))=(P4 l k v).map (fun x=>(kv x.1,r x.2))
  | (a,q)::l,e::es,i,j,u,h,hf=>by
    simp only [List.map_cons,List.cons.injEq,Prod.mk.injEq] at h;simp only [List.map_cons,PK] at hf;simp only [P4]
    split at hf
    · rename_i g
      cases hf;rw [if_pos g];simp only [Nat.sub_self,List.modify_zero_cons,List.map_cons,h.2]
    · rename_i g
      have A:=(M2T k (l.map (·.1)) es (i+1) j u (M2u h.2) hf).1;have:=M5l k v l es (i+1) j u h.2 hf;rw [if_neg g,show j-i=(j-(i+1))+1 by omega];simp only [List.modify_succ_cons,List.map_cons,this,h.1.1,h.1.2]
  | [],_,_,_,_,_,hf=>by simp only [List.map_nil,PK] at hf; cases hf
  | _::_,[],_,_,_,h,_=>by simp at h
theorem M5m {K V:Type} [BEq K] {kv:K→Value}{g:V→Value}(k:K)(v:V)(c:Nat):∀ (l:List (K×V)) (es:List MapEntry) (i:Nat),es.map (fun e=>(e.key,e.val))=l.map (fun x=>(kv x.1,g x.2))→PK k (l.map (·.1)) es i=none→
    (es++[({ key:=kv k,val:=g v,born:=c }:MapEntry)]).map (fun e:MapEntry=>(e.key,e.val))=(P4 l k v).map (fun x=>(kv x.1,g x.2))
  | [],[],_,_,_=>rfl
  | (a,q)::l,e::es,i,h,hf=>by
    simp only [List.map_cons,List.cons.injEq,Prod.mk.injEq] at h;simp only [List.map_cons,PK] at hf;simp only [P4]
    split at hf
    · cases hf
    · rename_i j
      have:=M5m k v c l es (i+1) h.2 hf;rw [if_neg j];simp only [List.cons_append,List.map_cons,this,h.1.1,h.1.2]
  | [],_::_,_,h,_=>by simp at h
  | _::_,[],_,h,_=>by simp at h
theorem PA.upd {P:Program}{t kt Z:Nat}{K V:Type} [BEq K] [LawfulBEq K] {kv:K→Value}{g:V→Value}{w:World}{b:Nat}{l:List (K×V)}(X:P.underlying t=some (.map kt Z))(E:WP P kt kv)(k:K)(v:V)(h:PA kv g w b l) :
    ∃ w',(Instr.mapUpdate t (.map (some b)) (kv k) (g v)).run P w=.ok () w'∧PA kv g w' b (P4 l k v)∧Ev [b] w w':=by
  obtain ⟨es,c,h1,D⟩:=h;have I:(getObj b).run P w=.ok (.map es c) w:=by simp only [getObj,Sem.run,h1]
  have ac:b<w.heap.size:=MA h1;have U:∀ o,(setObj b o).run P w=.ok () { w with heap:=w.heap.setIfInBounds b o }:=fun o=>by simp only [setObj,Sem.run,h1]
  have fin:∀ (r:Array MapEntry) (B:Nat),r.toList.map (fun e=>(e.key,e.val))=(P4 l k v).map (fun x=>(kv x.1,g x.2))→
      PA kv g { w with heap:=w.heap.setIfInBounds b (.map r B) } b (P4 l k v)∧Ev [b] w { w with heap:=w.heap.setIfInBounds b (.map r B) }:=by
    intro r B hh;refine ⟨⟨r,B,by simp [ac],hh⟩,⟨rfl,rfl,rfl,by simp,fun j hj J=>?_⟩⟩;simp only [List.mem_singleton] at J;exact Array.getElem?_setIfInBounds_ne (Ne.symm J)
  have H:=E.find k _ _ w (M2u D);cases A:PK k (l.map (·.1)) es.toList 0 with
  | some q=>
    obtain ⟨j,u⟩:=q;obtain ⟨_,e,G,Y⟩:=M2T k _ _ 0 j u (M2u D) A;have O:=M5l k v l es.toList 0 j u D A;simp only [Nat.sub_zero] at G O;obtain ⟨f1,F⟩:=fin (es.modify j fun e=>{ e with key:=kv k,val:=g v }) c (by rw [Array.toList_modify]; exact O);refine ⟨_,?_,f1,F⟩;unfold Instr.mapUpdate;rw [run_bind,run_underlying X];simp only;rw [run_bind,I];simp only;rw [run_bind,E.chk];simp only;rw [run_bind,H,A];simp only;have ab:(Instr.keyThatStays (((es[j]?).map (·.key)).getD (kv k)) (kv k)).run P w=.ok (kv k) w:=by
      have:es[j]? = some e:=by rw [← Array.getElem?_toList]; exact G
      rw [this];simp only [Option.map_some,Option.getD_some,Y];unfold Instr.keyThatStays;rw [if_pos (E.bits k)];rfl
    rw [run_bind,ab];exact U _
  | none=>
    have ad:=M5m k v c l es.toList 0 D A;obtain ⟨f1,F⟩:=fin (es.push { key:=kv k,val:=g v,born:=c }) (c+1) (by rw [Array.toList_push]; exact ad);refine ⟨_,?_,f1,F⟩;unfold Instr.mapUpdate;rw [run_bind,run_underlying X];simp only;rw [run_bind,I];simp only;rw [run_bind,E.chk];simp only;rw [run_bind,H,A];exact U _
theorem run_makeMap {P:Program}{t kt g:Nat}(j:P.underlying t=some (.map kt g))(w:World)(r:Option Int)(k:IntKind):(Instr.makeMap t (r.map (.int k))).run P w=.ok (.map (some w.heap.size)) (w.alloc (.map #[] 0)):=by
  unfold Instr.makeMap;cases r with
  | none=>rfl
  | some n=>
    simp only [Option.map];rw [run_bind,run_underlying j];rfl
theorem Y2 {P:Program}{all:List Oper}{M:List Nat}{Q:Fr→World→Prop}{dst:Option Tmp}{ty:TypeId}{pos:String}{g:Array Edge}{guard:Option (Nat×Bool)}{al:Bool}{l j:List (Oper×Bool)}{fr:Fr}{w:World}{t kt q:TypeId}{x:Option Operand}(A:P.underlying t=some (.map kt q))(r:Option Int)(k:IntKind)
    (u:j=(⟨dst,.makeMap t x,ty,pos,g,guard⟩,al)::l) (B:Mn all ⟨dst,.makeMap t x,ty,pos,g,guard⟩ fr=some true) (D:x.map (ev fr)=r.map (.int k))
    (h:∀ b w',b=w.heap.size→w'.heap[b]? = some (.map #[] 0)→Ev [] w w'→w'.heap.size=b+1→(al=true∨Ev M w w')∧P9 P all M Q l (MI fr dst (.map (some b))) w'):P9 P all M Q j fr w:=by
  refine XJ u B rfl ?_;simp only [vcL,D];exact ⟨run_makeMap A w r k,h⟩
theorem WQ {P:Program}{all:List Oper}{M:List Nat}{Q:Fr→World→Prop}{dst:Option Tmp}{ty:TypeId}{pos:String}{g:Array Edge}{guard:Option (Nat×Bool)}{al:Bool}{l j:List (Oper×Bool)}{fr:Fr}{w:World}{t:TypeId}{x y:Operand}{ok:Bool}{xv yv:Value}(v:Value)
    (q:j=(⟨dst,.lookup t x y ok,ty,pos,g,guard⟩,al)::l) (u:Mn all ⟨dst,.lookup t x y ok,ty,pos,g,guard⟩ fr=some true) (A:ev fr x=xv) (B:ev fr y=yv)
    (r:ME P (qm al M) (Instr.lookup t xv yv ok) w v) (h:P9 P all M Q l (MI fr dst v) w):P9 P all M Q j fr w:=by
  refine TQ q u rfl ?_;simp only [vcQ,MH,Pf,Pw, *];exact ⟨v,r,h⟩
theorem Wc {P:Program}{all:List Oper}{M:List Nat}{Q:Fr→World→Prop}{dst:Option Tmp}{ty:TypeId}{pos:String}{g:Array Edge}{guard:Option (Nat×Bool)}{al:Bool}{l j:List (Oper×Bool)}{fr:Fr}{w:World}{t:TypeId}{x y z:Operand}{xv yv zv:Value}(w':World)
    (q:j=(⟨dst,.mapUpdate t x y z,ty,pos,g,guard⟩,al)::l) (r:Mn all ⟨dst,.mapUpdate t x y z,ty,pos,g,guard⟩ fr=some true) (A:ev fr x=xv) (B:ev fr y=yv) (D:ev fr z=zv) (u:(Instr.mapUpdate t xv yv zv).run P w=.ok () w')
    (h:(al=true∨Ev M w w')∧P9 P all M Q l (MI fr dst undef) w'):P9 P all M Q j fr w:=by
  refine XJ q r rfl ?_;simp only [vcL,MH,Pf,Pw, *];exact ⟨w',rfl,h⟩
theorem M8E {P:Program}{all:List Oper}{M:List Nat}{Q:Fr→World→Prop}{dst:Option Tmp}{ty:TypeId}{pos:String}{q:Array Edge}{guard:Option (Nat×Bool)}{j:Operand}{args:Array Operand}{ats:Array TypeId}
    {al:Bool} {l r:List (Oper×Bool)} {fr:Fr} {w:World} (g:FuncId) (first cap:Array Value) (vs:List Value)
    (B:r=(⟨dst,.call ⟨.value j,args,ats⟩,ty,pos,q,guard⟩,al)::l) (D:Mn all ⟨dst,.call ⟨.value j,args,ats⟩,ty,pos,q,guard⟩ fr=some true)
    (A:ev fr j=.func (.func g) first cap) (hv:first.toList++args.toList.map (ev fr)++cap.toList=vs)
    (u:Md P g vs w fun v w'=>(al=true∨Ev M w w')∧P9 P all M Q l (MI fr dst v) w'):P9 P all M Q r fr w:=
  M6f g first cap vs _ B D A hv u fun _ _ h=>h
inductive ZO where
  | none
  | zero
def ZO.i:ZO→Option Int
  | .none=>Option.none
  | .zero=>some 0
def kv2 (g j:IntKind) (p:Int×Int):Value:=.agg #[.int g p.1,.int j p.2]
theorem XK {P:Program}{t:TypeId}{k:IntKind}(h:P.underlying t=some (.int k))(w:World):(isAgg t).run P w=.ok false w:=by
  unfold isAgg;rw [run_bind,run_underlying h];rfl
theorem M5n {P:Program}{t:TypeId}{k:IntKind}(h:P.underlying t=some (.int k)){xs:Array Value}{i:Nat}{v:Value}(hv:xs[i]? = some v)(w:World):(part t xs i).run P w=.ok v w:=by
  unfold part;simp only [Sem.run_bind,XK h,Result.andThen_ok,Bool.false_eq_true,if_false,hv,Sem.run_pure]
theorem M8F {P:Program}{kt:Nat}{K:Type} [BEq K] {kv:K→Value}(g:∀ a b w,(Op.equal kt (kv a) (kv b)).run P w=.ok (a==b) w)(k:K):∀ (ks:List K) (es:List MapEntry) (i:Nat) (w:World),es.map (·.key)=ks.map kv→
    (Instr.findAsking kt (kv k) es i).run P w=.ok (PK k ks es i) w
  | [],[],i,w,_=>rfl
  | a::ks,e::es,i,w,h=>by
    simp only [List.map_cons,List.cons.injEq] at h;simp only [Instr.findAsking,PK,h.1];rw [run_bind,g];cases j:(k==a) with
    | true=>simp only [if_true]; rfl
    | false=>simp only [Bool.false_eq_true,if_false]; exact M8F g k ks es (i+1) w h.2
  | [],_::_,_,_,h=>by simp at h
  | _::_,[],_,_,h=>by simp at h
theorem M8G {P : Program} {kt : Nat} {f1 f2 : Field} {k1 k2 : IntKind} (ht : P.underlying kt = some (.struct #[f1, f2])) (hs : P.stoodInHeld kt = false) (n1 : (f1.name != "_") = true) (n2 : (f2.name != "_") = true) (o1 : f1.offset = 0) (o2 : f2.offset = 1)
    (u1:P.underlying f1.type=some (.int k1)) (u2:P.underlying f2.type=some (.int k2)):WP P kt (kv2 k1 k2) where
  chk b k w:=by
    have n1' : f1.name ≠ "_" := by simpa using n1
    have n2' : f2.name ≠ "_" := by simpa using n2
    have p1:=fun w=>M5n (xs:=#[.int k1 k.1,.int k2 k.2]) (i:=f1.offset) (v:=.int k1 k.1) u1 (by rw [o1]; rfl) w
    have p2:=fun w=>M5n (xs:=#[.int k1 k.1,.int k2 k.2]) (i:=f2.offset) (v:=.int k2 k.2) u2 (by rw [o2]; rfl) w
    have c1:=fun w=>M0O (v:=.int k1 k.1) (b:=b) u1 rfl w
    have c2:=fun w=>M0O (v:=.int k2 k.2) (b:=b) u2 rfl w
    have e:∀ (n:Nat) (t:Nat) (kd:IntKind) (v:Value),P.underlying t=some (.int kd)→∀ w,(Instr.checkKey b (n+1) t v).run P w=.ok () w:=fun n t kd v hu w=>by
      unfold Instr.checkKey;rw [run_bind,run_underlying hu];cases v <;> rfl
    unfold Instr.checkKey kv2;rw [run_bind,run_underlying ht];simp only [List.forIn_cons,List.forIn_nil,← Array.forIn_toList,if_pos n1',if_pos n2',Sem.run_bind,p1,p2,Result.andThen_ok,e _ _ _ _ u1,e _ _ _ _ u2,Sem.run_pure]
  find k ks es w h:=by
    have heq:∀ a b w,(Op.equal kt (kv2 k1 k2 a) (kv2 k1 k2 b)).run P w=.ok (a==b) w:=fun a b w=>by
      show (Op.equalIn (9999+1) kt (.agg _) (.agg _)).run P w=_
      rw [Y0 ht hs];have:=TD (P:=P) (d:=9999) (xs:=#[.int k1 a.1,.int k2 a.2]) (ys:=#[.int k1 b.1,.int k2 b.2]) (f:=f1) (fs:=[f2]) (w:=w) n1 (XK u1) (by rw [o1]; rfl) (by rw [o1]; rfl) (fun w=>YB u1 a.1 b.1 w)
        (TD n2 (XK u2) (by rw [o2]; rfl) (by rw [o2]; rfl) (fun w=>YB u2 a.2 b.2 w) M7f)
      rw [show ((#[f1,f2]:Array Field).toList)=[f1,f2] from rfl,this,Bool.and_true];rfl
    unfold Instr.findKey;rw [run_bind,run_underlying ht];cases es with
    | nil=>
      cases ks with
      | nil=>rfl
      | cons=>simp at h
    | cons e es=>exact M8F heq k ks (e::es) 0 w h
  bits k:=by simp [kv2,Instr.sameBits]
end Go.V
