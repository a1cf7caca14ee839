
/- Maps that are only read, maps of own slices, ends of own slices. Conditions: those of each theorem. -/
import Derived.Test.YtlihkahbjlnbbaaGreatMa
import Derived.ArgAppend
set_option linter.unusedSimpArgs false
set_option linter.unusedVariables false
namespace Go.V
open Go
def Ph {K V:Type} (kv:K→Value) (e:MN V) (w:World) (M:List Nat):List MapEntry→List (K×V)→Prop
  | [],[]=>True
  | en::es,x::l=>en.key=kv x.1∧e.R w M [en.val] x.2∧Ph kv e w M es l
  | _,_=>False
theorem Ph.step {K V:Type}{kv:K→Value}{e:MN V}{w w':World}{M M':List Nat}(hs:Ro M w M' w'):∀ (es:List MapEntry) (l:List (K×V)),Ph kv e w M es l→Ph kv e w' M' es l
  | [],[],h=>h
  | en::es,x::l,h=>⟨h.1,e.step h.2.1 hs,Ph.step hs es l h.2.2⟩
  | [],_::_,h=>h
  | _::_,[],h=>h
theorem Ph.keys {K V:Type}{kv:K→Value}{e:MN V}{w:World}{M:List Nat}:∀ (es:List MapEntry) (l:List (K×V)),Ph kv e w M es l→es.map (·.key)=(l.map (·.1)).map kv
  | [],[],_=>rfl
  | en::es,x::l,h=>by simp only [List.map_cons,h.1,Ph.keys es l h.2.2]
  | [],_::_,h=>h.elim
  | _::_,[],h=>h.elim
theorem Ph.find {K V:Type} [BEq K] {kv:K→Value}{e:MN V}{w:World}{M:List Nat}(k:K):∀ (l:List (K×V)) (es:List MapEntry) (i:Nat),Ph kv e w M es l→
    (match PK k (l.map (·.1)) es i with | some (_,v)=>∃ x,Mu l k=some x∧e.R w M [v] x | none=>Mu l k=none)
  | [],[],i,_=>rfl
  | (a,u)::l,en::es,i,h=>by
    simp only [List.map_cons,PK,Mu]
    by_cases g:(k==a)=true
    · simp only [g,if_true]; exact ⟨u,rfl,h.2.1⟩
    · simp only [if_neg g]; exact Ph.find k l es (i+1) h.2.2
  | [],_::_,_,h=>h.elim
  | _::_,[],_,h=>h.elim
def P5 {K V:Type} (kv:K→Value) (e:MN V) (w:World) (M:List Nat) (b:Nat) (l:List (K×V)):Prop:=
  b∉M∧∃ (es:Array MapEntry) (clock:Nat),w.heap[b]? = some (.map es clock)∧Ph kv e w M es.toList l
theorem P5.step {K V:Type}{kv:K→Value}{e:MN V}{w w':World}{M M':List Nat}{b:Nat}{l:List (K×V)}(h:P5 kv e w M b l)(hs:Ro M w M' w'):P5 kv e w' M' b l:=by
  obtain ⟨g,es,c,h1,j⟩:=h;refine ⟨fun q=>?_,es,c,hs.ev.box h1 g,Ph.step hs _ _ j⟩;rcases hs.new _ q with h | h
  · exact g h
  · exact absurd (MA h1) (by omega)
theorem P5.sub {K V:Type}{kv:K→Value}{e:MN V}{w:World}{M M':List Nat}{b:Nat}{l:List (K×V)}(h:P5 kv e w M b l)(hs:∀ b∈M',b∈M):P5 kv e w M' b l:=h.step (Ro.sub w hs)
theorem P5.look {P:Program}{t kt A:Nat}{K V:Type} [BEq K] {kv:K→Value}{e:MN V}{w:World}{M Mo:List Nat}{b:Nat}{l:List (K×V)}(O:P.underlying t=some (.map kt A))(D:WP P kt kv)(k:K)(z:V)(g:Value)
    (U:∀ w,(zeroValue A).run P w=.ok g w) (X:e.R w M [g] z) (h:P5 kv e w M b l) (J:∀ x∈Mo,x∈M) (ok:Bool) :
    ∃ cs,e.R w M cs ((Mu l k).getD z)∧ME P Mo (Instr.lookup t (.map (some b)) (kv k) ok) w (if ok then .tuple #[cs.headD undef,.bool (Mu l k).isSome] else cs.headD undef):=by
  obtain ⟨F,es,c,h1,B⟩:=h;have j:=Ph.find k l es.toList 0 B;have key:∀ (v:Value) (o:Bool),(match PK k (l.map (·.1)) es.toList 0 with | some (_,u)=>v=u∧o=true | none=>v=g∧o=false)→ME P Mo (Instr.lookup t (.map (some b)) (kv k) ok) w (if ok then .tuple #[v,.bool o] else v):=by
    intro v o hv w' H;have G:b∉Mo:=fun q=>F (J b q)
    have I:(getObj b).run P w'=.ok (.map es c) w':=by simp only [getObj,Sem.run,H.box h1 G]
    unfold Instr.lookup;rw [run_bind,run_underlying O];simp only;rw [run_bind,I];simp only [pure_bind];rw [run_bind,D.chk];simp only;rw [run_bind,D.find k _ _ w' (Ph.keys _ _ B)];simp only
    split at hv
    · rename_i i u r
      rw [r];obtain ⟨rfl,rfl⟩:=hv;simp only [pure_bind];cases ok <;> rfl
    · rename_i r
      rw [r];obtain ⟨rfl,rfl⟩:=hv;cases ok <;> simp only [Sem.run_bind,U,Result.andThen_ok,Sem.run_pure] <;> rfl
  split at j
  · rename_i i v hv
    obtain ⟨x,q,E⟩:=j;refine ⟨[v],by rw [q]; exact E,?_⟩;have:=key v true (by rw [hv]; exact ⟨rfl,rfl⟩);rw [q];exact this
  · rename_i hv
    refine ⟨[g],by rw [j]; exact X,?_⟩;have:=key g false (by rw [hv]; exact ⟨rfl,rfl⟩);rw [j];exact this
theorem P5.get {P:Program}{t kt j:Nat}{K V:Type} [BEq K] {kv:K→Value}{e:MN V}{w:World}{M Mo:List Nat}{b:Nat}{l:List (K×V)}(u:P.underlying t=some (.map kt j))(q:WP P kt kv)(k:K)(z:V)(g:Value)
    (A:∀ w,(zeroValue j).run P w=.ok g w) (B:e.R w M [g] z) (h:P5 kv e w M b l) (r:∀ x∈Mo,x∈M) :
    ∃ cs,e.R w M cs ((Mu l k).getD z)∧ME P Mo (Instr.lookup t (.map (some b)) (kv k) false) w (cs.headD undef):=P5.look u q k z g A B h r false
theorem P5.getok {P:Program}{t kt j:Nat}{K V:Type} [BEq K] {kv:K→Value}{e:MN V}{w:World}{M Mo:List Nat}{b:Nat}{l:List (K×V)}(u:P.underlying t=some (.map kt j))(q:WP P kt kv)(k:K)(z:V)(g:Value)
    (A:∀ w,(zeroValue j).run P w=.ok g w) (B:e.R w M [g] z) (h:P5 kv e w M b l) (r:∀ x∈Mo,x∈M) :
    ∃ cs,e.R w M cs ((Mu l k).getD z)∧ME P Mo (Instr.lookup t (.map (some b)) (kv k) true) w (.tuple #[cs.headD undef,.bool (Mu l k).isSome]):=P5.look u q k z g A B h r true
theorem M7g {K V:Type}{kv:K→Value}{j:V→Value}{e:MN V}(g:∀ w M x,e.R w M [j x] x){w:World}{M:List Nat}:∀ (es:List MapEntry) (l:List (K×V)),es.map (fun e=>(e.key,e.val))=l.map (fun x=>(kv x.1,j x.2))→Ph kv e w M es l
  | [],[],_=>trivial
  | en::es,x::l,h=>by
    simp only [List.map_cons,List.cons.injEq,Prod.mk.injEq] at h;exact ⟨h.1.1,by rw [h.1.2]; exact g _ _ _,M7g g es l h.2⟩
  | [],_::_,h=>by simp at h
  | _::_,[],h=>by simp at h
theorem PA.ro {K V:Type}{kv:K→Value}{g:V→Value}{e:MN V}(q:∀ w M x,e.R w M [g x] x){w:World}{M:List Nat}{b:Nat}{l:List (K×V)}(h:PA kv g w b l)(r:b∉M):P5 kv e w M b l:=by
  obtain ⟨es,c,h1,j⟩:=h;exact ⟨r,es,c,h1,M7g q _ _ j⟩
structure Ve {K α:Type} (kv:K→Value) (e:MN α) (T:TypeId) (w:World) (B:List Nat) (b:Nat) (l:List (K×List α)) (skip:Option K):Prop where
  mem:b∈B
  lt:b<w.heap.size
  nd:(l.map (·.1)).Nodup
  ex:∃ (es:Array MapEntry) (clock:Nat) (hs:List (Option Addr×Nat)),w.heap[b]? = some (.map es clock)∧es.toList.map (·.key)=(l.map (·.1)).map kv∧hs.length=l.length∧
    (∀ (i:Nat) (en:MapEntry) (x:K×List α) (h:Option Addr×Nat),es.toList[i]? = some en→l[i]? = some x→hs[i]? = some h→some x.1≠skip→en.val=.slice h.1 x.2.length h.2∧M9 e T w [] h.1 h.2 x.2∧∀ y∈ML h.1,y∈B∧y≠b)∧
    (∀ (i j:Nat) (x y:K×List α) (h g:Option Addr×Nat),i≠j→l[i]? = some x→l[j]? = some y→hs[i]? = some h→hs[j]? = some g→some x.1≠skip→some y.1≠skip→∀ z∈ML h.1,z∉ML g.1)
theorem Ve.mk0 {K α:Type}{kv:K→Value}(e:MN α)(T:TypeId){w:World}{b:Nat}(h:w.heap[b]? = some (.map #[] 0)):Ve kv e T w [b] b [] none:=
  ⟨List.mem_singleton.2 rfl,MA h,List.nodup_nil,#[],0,[],h,rfl,rfl,fun i en x h h1=>by simp at h1,fun i j x y h g _ h1=>by simp at h1⟩
theorem Ve.step {K α:Type}{kv:K→Value}{e:MN α}(U:e.Plain){T:TypeId}{w w':World}{B Mo:List Nat}{b:Nat}{l:List (K×List α)}{skip:Option K}(h:Ve kv e T w B b l skip)(g:Ev Mo w w')(j:∀ x∈B,x∉Mo):Ve kv e T w' B b l skip:=by
  obtain ⟨h1,E,F,es,c,hs,G,H,I,J,O⟩:=h;refine ⟨h1,g.lt E,F,es,c,hs,g.box G (j b h1),H,I,fun i en x h r u A D=>?_,O⟩;obtain ⟨Y,Z,q⟩:=J i en x h r u A D;exact ⟨Y,Z.evp U g (fun y X=>j y (q y X).1),q⟩
theorem Ve.ro {K α:Type}{kv:K→Value}{e:MN α}(I:e.Plain){T:TypeId}{w:World}{B M:List Nat}{b:Nat}{l:List (K×List α)}(h:Ve kv e T w B b l none)(D:∀ x∈B,x∉M):P5 kv (Mi e) w M b l:=by
  obtain ⟨h1,Z,h3,es,c,hs,E,F,G,H,h8⟩:=h;refine ⟨D b h1,es,c,E,?_⟩;have key:∀ (es:List MapEntry) (l:List (K×List α)) (hs:List (Option Addr×Nat)),es.map (·.key)=(l.map (·.1)).map kv→hs.length=l.length→
      (∀ (i:Nat) (en:MapEntry) (x:K×List α) (h:Option Addr×Nat),es[i]? = some en→l[i]? = some x→hs[i]? = some h→en.val=.slice h.1 x.2.length h.2∧M9 e T w [] h.1 h.2 x.2∧∀ y∈ML h.1,y∈B∧y≠b)→Ph kv (Mi e) w M es l:=by
    intro es
    induction es with
    | nil=>intro l hs g u A; cases l with | nil=>trivial | cons=>simp at g
    | cons en es O=>
      intro l hs g u A;cases l with
      | nil=>simp at g
      | cons x l=>
        cases hs with
        | nil=>simp at u
        | cons h hs=>
          simp only [List.map_cons,List.cons.injEq] at g;obtain ⟨U,X,Y⟩:=A 0 en x h rfl rfl rfl;refine ⟨g.1,⟨h.1,h.2,by rw [U],M9.ro (M9.plain (M':=M) I X) (fun _ h=>h) (fun y J=>D y (Y y J).1)⟩,O l hs g.2 (by simpa using u) fun i en x h j q r=>?_⟩;exact A (i+1) en x h (by simpa using j) (by simpa using q) (by simpa using r)
  exact key es.toList l hs F G fun i en x h j q r=>H i en x h j q r (by simp)
def M2U {K:Type} [BEq K] (kv:K→Value) (w:World) (b:Nat) (k:K) (v:Value):Prop:=
  ∃ (es:Array MapEntry) (clock:Nat) (ks:List K),w.heap[b]? = some (.map es clock)∧es.toList.map (·.key)=ks.map kv∧(match PK k ks es.toList 0 with | some (_,u)=>v=u | none=>v=.slice none 0 0)
theorem M2U.step {K:Type} [BEq K] {kv:K→Value}{w w':World}{b:Nat}{k:K}{v:Value}{Mo:List Nat}(h:M2U kv w b k v)(q:Ev Mo w w')(r:b∉Mo):M2U kv w' b k v:=by
  obtain ⟨es,c,ks,h1,g,j⟩:=h;exact ⟨es,c,ks,q.box h1 r,g,j⟩
theorem M2U.look {P:Program}{t kt j:Nat}{K:Type} [BEq K] {kv:K→Value}{w:World}{b:Nat}{k:K}{v:Value}{Mo:List Nat}(F:P.underlying t=some (.map kt j))(q:WP P kt kv)
    (G:∀ w,(zeroValue j).run P w=.ok (.slice none 0 0) w) (h:M2U kv w b k v) (E:b∉Mo):ME P Mo (Instr.lookup t (.map (some b)) (kv k) false) w v:=by
  obtain ⟨es,c,ks,r,A,hv⟩:=h;intro w' B;have D:(getObj b).run P w'=.ok (.map es c) w':=by simp only [getObj,Sem.run,B.box r E]
  unfold Instr.lookup;rw [run_bind,run_underlying F];simp only;rw [run_bind,D];simp only [pure_bind];rw [run_bind,q.chk];simp only;rw [run_bind,q.find k _ _ w' A];simp only
  split at hv
  · rename_i i u g
    rw [g];subst hv;simp only [pure_bind];rfl
  · rename_i g
    rw [g];subst hv;simp only [Sem.run_bind,G,Result.andThen_ok,Sem.run_pure];rfl
theorem Ve.opn {K α:Type} [BEq K] [LawfulBEq K] {kv:K→Value}{e:MN α}{T:TypeId}{w:World}{B:List Nat}{b:Nat}{l:List (K×List α)}(k:K)(h:Ve kv e T w B b l none) :
    ∃ a c X,M2U kv w b k (.slice a ((Mu l k).getD []).length c)∧Ve kv e T w X b l (some k)∧M9 e T w [] a c ((Mu l k).getD [])∧(∀ x∈X,x∈B)∧(∀ x∈ML a,x∈B)∧(∀ x∈ML a,x∉X):=by
  obtain ⟨h1,h2,h3,es,c,hs,h4,Z,h6,h7,h8⟩:=h;have ai:∀ v,(match PK k (l.map (·.1)) es.toList 0 with | some (_,u)=>v=u | none=>v=.slice none 0 0)→M2U kv w b k v:=fun v hv=>⟨es,c,l.map (·.1),h4,Z,hv⟩
  have ar:∀ (l:List (K×List α)) (es:List MapEntry) (n:Nat),es.map (·.key)=(l.map (·.1)).map kv→(match PK k (l.map (·.1)) es n with
      | some (_,u)=>∃ (i:Nat) (en:MapEntry) (xs:List α),es[i]? = some en∧l[i]? = some (k,xs)∧Mu l k=some xs∧u=en.val
      | none=>Mu l k=none):=by
    intro l
    induction l with
    | nil=>intro es n q; cases es with | nil=>simp [PK,Mu] | cons=>simp at q
    | cons x l ih=>
      intro es n q;cases es with
      | nil=>simp at q
      | cons en es=>
        simp only [List.map_cons,List.cons.injEq] at q;obtain ⟨a,u⟩:=x;simp only [List.map_cons,PK,Mu]
        by_cases A:(k==a)=true
        · simp only [A,if_true];have:=eq_of_beq A;subst this;exact ⟨0,en,u,rfl,rfl,rfl,rfl⟩
        · simp only [if_neg A];have:=ih es (n+1) q.2
          split at this
          · obtain ⟨i,ak,xs,I,D,F,J⟩:=this;exact ⟨i+1,ak,xs,by simpa using I,by simpa using D,F,J⟩
          · exact this
  have aq:∃ a O,M2U kv w b k (.slice a ((Mu l k).getD []).length O)∧M9 e T w [] a O ((Mu l k).getD [])∧(∀ x∈ML a,x∈B∧x≠b)∧
      (∀ (j:Nat) (y:K×List α) (g:Option Addr×Nat),l[j]? = some y→hs[j]? = some g→y.1≠k→∀ z∈ML g.1,z∉ML a):=by
    have A:=ar l es.toList 0 Z
    split at A
    · rename_i n u hu
      obtain ⟨i,en,xs,I,D,F,J⟩:=A;obtain ⟨h,hh⟩:∃ h,hs[i]? = some h:=⟨_,List.getElem?_eq_getElem (by have:=(List.getElem?_eq_some_iff.1 D).1; omega)⟩
      obtain ⟨q1,q2,U⟩:=h7 i en (k,xs) h I D hh (by simp);refine ⟨h.1,h.2,ai _ ?_,?_,U,fun j y g E G H=>?_⟩
      · rw [hu,F]; simp only [Option.getD_some]; rw [J,q1]
      · rw [F]; exact q2
      · have au:j≠i:=by
          intro av; subst av; rw [D] at E; cases E; exact H rfl
        exact h8 j i y (k,xs) g h au E D G hh (by simp) (by simp)
    · rename_i hu
      refine ⟨none,0,ai _ ?_,?_,(fun x r=>by cases r),(fun j y g _ _ _ z _ hz=>by cases hz)⟩
      · rw [hu,A]; rfl
      · rw [A]; exact M9.nil _ _ _ _
  obtain ⟨a,O,I,D,F,J⟩:=aq;refine ⟨a,O,B.filter (fun x=>!((ML a).contains x)),I,⟨?_,h2,h3,es,c,hs,h4,Z,h6,fun i en x h E G H Y=>?_,fun i j x y h g E G H Y e5 e6 e7=>h8 i j x y h g E G H Y e5 (by simp) (by simp)⟩,D,fun x r=>(List.mem_filter.1 r).1,fun x r=>(F x r).1,fun x r aw=>?_⟩
  · refine List.mem_filter.2 ⟨h1,?_⟩;simp only [Bool.not_eq_true',List.contains_eq_mem,decide_eq_false_iff_not];intro hb; exact (F b hb).2 rfl
  · obtain ⟨q1,q2,U⟩:=h7 i en x h E G H (by simp);refine ⟨q1,q2,fun y hy=>⟨List.mem_filter.2 ⟨(U y hy).1,?_⟩,(U y hy).2⟩⟩;simp only [Bool.not_eq_true',List.contains_eq_mem,decide_eq_false_iff_not];exact J i x h G H (fun r=>Y (by rw [r])) y hy
  · have:=(List.mem_filter.1 aw).2;simp only [Bool.not_eq_true',List.contains_eq_mem,decide_eq_false_iff_not] at this;exact this r
theorem M1C {K V:Type} [BEq K] [LawfulBEq K] (k:K)(v:V):∀ (l:List (K×V)),(l.map (·.1)).Nodup→((P4 l k v).map (·.1)).Nodup∧∀ x,x∈(P4 l k v).map (·.1)↔x=k∨x∈l.map (·.1)
  | [],_=>by simp [P4]
  | (a,u)::l,h=>by
    simp only [P4]
    by_cases g:(k==a)=true
    · rw [if_pos g];have:=eq_of_beq g;subst this;refine ⟨h,fun x=>?_⟩;simp only [List.map_cons,List.mem_cons];constructor
      · intro h; rcases h with h | h
        · exact .inl h
        · exact .inr (.inr h)
      · intro h; rcases h with h | h | h
        · exact .inl h
        · exact .inl h
        · exact .inr h
    · rw [if_neg g];simp only [List.map_cons,List.nodup_cons] at h;obtain ⟨r,j⟩:=M1C k v l h.2;refine ⟨?_,fun x=>?_⟩
      · simp only [List.map_cons,List.nodup_cons];refine ⟨fun q=>?_,r⟩;rcases (j a).1 q with h1 | h1
        · apply g; rw [h1]; simp
        · exact h.1 h1
      · simp only [List.map_cons,List.mem_cons,j];constructor
        · intro h; rcases h with h | h | h
          · exact .inr (.inl h)
          · exact .inl h
          · exact .inr (.inr h)
        · intro h; rcases h with h | h | h
          · exact .inr (.inl h)
          · exact .inl h
          · exact .inr (.inr h)
theorem Ve.cls {P:Program}{t kt et:Nat}{K α:Type} [BEq K] [LawfulBEq K] {kv:K→Value}{e:MN α}(hp:e.Plain){T:TypeId}{w:World}{B M:List Nat}{b:Nat}{l:List (K×List α)}(ht:P.underlying t=some (.map kt et))(hk:WP P kt kv)
    (k:K) {a:Option Addr} {c:Nat} {ys:List α} (h:Ve kv e T w B b l (some k)) (ho:M9 e T w M a c ys) (hd:∀ x∈ML a,x∉B) :
    ∃ w',(Instr.mapUpdate t (.map (some b)) (kv k) (.slice a ys.length c)).run P w=.ok () w'∧Ev [b] w w'∧Ve kv e T w' (ML a++B) b (P4 l k ys) none:=by
  obtain ⟨h1,h2,h3,es,cl,hs,h4,h5,h6,h7,h8⟩:=h;have aJ:(getObj b).run P w=.ok (.map es cl) w:=by simp only [getObj,Sem.run,h4]
  have aS:∀ o,(setObj b o).run P w=.ok () { w with heap:=w.heap.setIfInBounds b o }:=fun o=>by simp only [setObj,Sem.run,h4]
  have aH:∀ x∈ML a,x≠b:=fun x D e=>hd x D (e ▸ h1)
  have key:∀ (l:List (K×List α)) (es:List MapEntry) (hs:List (Option Addr×Nat)) (n:Nat),es.map (·.key)=(l.map (·.1)).map kv→hs.length=l.length→(l.map (·.1)).Nodup→
      ∃ Z:List (Option Addr×Nat),Z.length=(P4 l k ys).length∧
        (∀ (i:Nat) (x:K×List α) (h:Option Addr×Nat),(P4 l k ys)[i]? = some x→Z[i]? = some h→(x=(k,ys)∧h=(a,c))∨(x.1≠k∧l[i]? = some x∧hs[i]? = some h))∧
        (match PK k (l.map (·.1)) es n with
          | some (j,_)=>n≤j∧(∃ en,es[j-n]? = some en∧en.key=kv k)∧(es.modify (j-n) fun e=>{ e with key:=kv k,val:=.slice a ys.length c }).map (·.key)=((P4 l k ys).map (·.1)).map kv∧
              (∀ (i:Nat) (en:MapEntry) (x:K×List α),(es.modify (j-n) fun e=>{ e with key:=kv k,val:=.slice a ys.length c })[i]? = some en→(P4 l k ys)[i]? = some x→(x.1=k→en.val=.slice a ys.length c)∧(x.1≠k→es[i]? = some en))
          | none=>∀ bn,(es++[({ key:=kv k,val:=.slice a ys.length c,born:=bn }:MapEntry)]).map (·.key)=((P4 l k ys).map (·.1)).map kv∧
              (∀ (i:Nat) (en:MapEntry) (x:K×List α),(es++[({ key:=kv k,val:=.slice a ys.length c,born:=bn }:MapEntry)])[i]? = some en→(P4 l k ys)[i]? = some x→(x.1=k→en.val=.slice a ys.length c)∧(x.1≠k→es[i]? = some en))):=by
    intro l
    induction l with
    | nil=>
      intro es hs n G q2 q3;cases es with
      | cons=>simp at G
      | nil=>
        refine ⟨[(a,c)],rfl,fun i x h r A=>?_,?_⟩
        · cases i with
          | zero=>simp only [P4,List.getElem?_cons_zero,Option.some.injEq] at r A; exact .inl ⟨r.symm,A.symm⟩
          | succ i=>simp [P4] at r
        · simp only [List.map_nil,PK];intro bn;refine ⟨rfl,fun i en x r A=>?_⟩;cases i with
          | zero=>
            simp only [List.nil_append,P4,List.getElem?_cons_zero,Option.some.injEq] at r A;subst r A;exact ⟨fun _=>rfl,fun D=>absurd rfl D⟩
          | succ i=>simp [P4] at A
    | cons x l ih=>
      intro es hs n G q2 q3;cases es with
      | nil=>simp at G
      | cons en es=>
        cases hs with
        | nil=>simp at q2
        | cons h hs=>
          obtain ⟨ka,u⟩:=x;simp only [List.map_cons,List.cons.injEq] at G;simp only [List.map_cons,List.nodup_cons] at q3
          by_cases Y:(k==ka)=true
          · have a4:=eq_of_beq Y;subst a4;have E:P4 ((k,u)::l) k ys=(k,ys)::l:=by simp only [P4]; rw [if_pos Y]
            have aO:∀ (i:Nat) (x:K×List α),l[i]? = some x→x.1≠k:=fun i x D e=>q3.1 (List.mem_map.2 ⟨x,List.mem_of_getElem? D,e⟩)
            refine ⟨(a,c)::hs,by rw [E]; simpa using q2,fun i x h' r A=>?_,?_⟩
            · rw [E] at r;cases i with
              | zero=>simp only [List.getElem?_cons_zero,Option.some.injEq] at r A; exact .inl ⟨r.symm,A.symm⟩
              | succ i=>simp only [List.getElem?_cons_succ] at r A ⊢; exact .inr ⟨aO i x r,r,A⟩
            · simp only [List.map_cons,PK,Y,if_true];refine ⟨Nat.le_refl _,⟨en,by simp,G.1⟩,?_,fun i ai x r A=>?_⟩
              · rw [E]; simp only [Nat.sub_self,List.modify_zero_cons,List.map_cons,G.2]
              · rw [E] at A;simp only [Nat.sub_self,List.modify_zero_cons] at r;cases i with
                | zero=>
                  simp only [List.getElem?_cons_zero,Option.some.injEq] at r A;subst r A;exact ⟨fun _=>rfl,fun D=>absurd rfl D⟩
                | succ i=>
                  simp only [List.getElem?_cons_succ] at r A ⊢;exact ⟨fun D=>absurd D (aO i x A),fun _=>r⟩
          · have E:P4 ((ka,u)::l) k ys=(ka,u)::P4 l k ys:=by simp only [P4]; rw [if_neg Y]
            have aw:ka≠k:=fun e=>by apply Y; rw [e]; simp
            obtain ⟨Z,r1,r2,F⟩:=ih es hs (n+1) G.2 (by simpa using q2) q3.2;refine ⟨h::Z,by rw [E]; simpa using r1,fun i x h' r A=>?_,?_⟩
            · rw [E] at r;cases i with
              | zero=>simp only [List.getElem?_cons_zero,Option.some.injEq] at r A ⊢; subst r A; exact .inr ⟨aw,rfl,rfl⟩
              | succ i=>simp only [List.getElem?_cons_succ] at r A ⊢; exact r2 i x h' r A
            · simp only [List.map_cons,PK,if_neg Y]
              split at F
              · rename_i j v hj
                obtain ⟨I,⟨aY,H,J⟩,s4,s5⟩:=F;have av:j-n=(j-(n+1))+1:=by omega
                refine ⟨by omega,⟨aY,by rw [av,List.getElem?_cons_succ]; exact H,J⟩,?_,fun i ai x r A=>?_⟩
                · rw [E,av]; simp only [List.modify_succ_cons,List.map_cons,s4,G.1]
                · rw [E] at A;rw [av] at r;simp only [List.modify_succ_cons] at r;cases i with
                  | zero=>
                    simp only [List.getElem?_cons_zero,Option.some.injEq] at r A ⊢;subst r A;exact ⟨fun D=>absurd D aw,fun _=>rfl⟩
                  | succ i=>simp only [List.getElem?_cons_succ] at r A ⊢; exact s5 i ai x r A
              · rename_i hj
                intro bn;obtain ⟨s4,s5⟩:=F bn;refine ⟨by rw [E]; simp only [List.cons_append,List.map_cons,s4,G.1],fun i ai x r A=>?_⟩;rw [E] at A;simp only [List.cons_append] at r;cases i with
                | zero=>
                  simp only [List.getElem?_cons_zero,Option.some.injEq] at r A ⊢;subst r A;exact ⟨fun D=>absurd D aw,fun _=>rfl⟩
                | succ i=>simp only [List.getElem?_cons_succ] at r A ⊢; exact s5 i ai x r A
  obtain ⟨Z,r1,r2,F⟩:=key l es.toList hs 0 h5 h6 h3;have aI:=hk.find k _ _ w h5;have fin:∀ (O:Array MapEntry) (c':Nat),O.toList.map (·.key)=((P4 l k ys).map (·.1)).map kv→(∀ (i:Nat) (en:MapEntry) (x:K×List α),O.toList[i]? = some en→(P4 l k ys)[i]? = some x→(x.1=k→en.val=.slice a ys.length c)∧(x.1≠k→es.toList[i]? = some en))→
      Ev [b] w { w with heap:=w.heap.setIfInBounds b (.map O c') }∧Ve kv e T { w with heap:=w.heap.setIfInBounds b (.map O c') } (ML a++B) b (P4 l k ys) none:=by
    intro O c' f1 f2;have au:Ev [b] w { w with heap:=w.heap.setIfInBounds b (.map O c') }:=⟨rfl,rfl,rfl,by simp,fun j hj aN=>by
      simp only [List.mem_singleton] at aN;exact Array.getElem?_setIfInBounds_ne (Ne.symm aN)⟩
    refine ⟨au,List.mem_append_right _ h1,by simpa using h2,(M1C k ys l h3).1,O,c',Z,by simp [h2],f1,r1,fun i en x h r A e3 _=>?_,fun i j x y h g aK r A e3 e4 _ _=>?_⟩
    · obtain ⟨g1,g2⟩:=f2 i en x r A;rcases r2 i x h A e3 with ⟨rfl,rfl⟩ | ⟨I,H,J⟩
      · exact ⟨g1 rfl,M9.evp (M':=[]) hp ho au (fun x D=>by simp only [List.mem_singleton]; exact aH x D),fun y U=>⟨List.mem_append_left _ U,aH y U⟩⟩
      · obtain ⟨t1,t2,X⟩:=h7 i en x h (g2 I) H J (by simpa using I);exact ⟨t1,t2.evp hp au (fun y U=>by simp only [List.mem_singleton]; exact (X y U).2),fun y U=>⟨List.mem_append_right _ (X y U).1,(X y U).2⟩⟩
    · have WD:∀ (i:Nat) (x:K×List α) (h:Option Addr×Nat),x.1≠k→l[i]? = some x→hs[i]? = some h→∀ z∈ML h.1,z∈B:=fun i x h I H J=>by
        obtain ⟨en,he⟩:∃ en,es.toList[i]? = some en:=⟨_,List.getElem?_eq_getElem (by
          have:=congrArg List.length h5;simp only [List.length_map] at this;have:=(List.getElem?_eq_some_iff.1 H).1;omega)⟩
        exact fun z hz=>((h7 i en x h he H J (by simpa using I)).2.2 z hz).1
      rcases r2 i x h r e3 with ⟨rfl,rfl⟩ | ⟨I,H,J⟩
      · rcases r2 j y g A e4 with ⟨rfl,rfl⟩ | ⟨t1,t2,X⟩
        · exfalso;have a6:=(M1C k ys l h3).1;have aB:((P4 l k ys).map (·.1))[i]? = some k:=by rw [List.getElem?_map,r]; rfl
          have aX:((P4 l k ys).map (·.1))[j]? = some k:=by rw [List.getElem?_map,A]; rfl
          have hi:=(List.getElem?_eq_some_iff.1 aB).1;exact aK ((List.getElem?_inj hi a6).1 (aB.trans aX.symm))
        · intro z hz ax;exact hd z hz (WD j y g t1 t2 X z ax)
      · rcases r2 j y g A e4 with ⟨rfl,rfl⟩ | ⟨t1,t2,X⟩
        · intro z hz ax;exact hd z ax (WD i x h I H J z hz)
        · exact h8 i j x y h g aK H t2 J X (by simpa using I) (by simpa using t1)
  cases hf:PK k (l.map (·.1)) es.toList 0 with
  | some q=>
    obtain ⟨j,u⟩:=q;rw [hf] at F;simp only [Nat.sub_zero] at F;obtain ⟨_,⟨en,r,A⟩,f1,f2⟩:=F;obtain ⟨g1,g2⟩:=fin (es.modify j fun e=>{ e with key:=kv k,val:=.slice a ys.length c }) cl (by rw [Array.toList_modify]; exact f1) (by rw [Array.toList_modify]; exact f2);refine ⟨_,?_,g1,g2⟩;unfold Instr.mapUpdate;rw [run_bind,run_underlying ht];simp only;rw [run_bind,aJ];simp only;rw [run_bind,hk.chk];simp only;rw [run_bind,aI,hf];simp only;have a5:(Instr.keyThatStays (((es[j]?).map (·.key)).getD (kv k)) (kv k)).run P w=.ok (kv k) w:=by
      have:es[j]? = some en:=by rw [← Array.getElem?_toList]; exact r
      rw [this];simp only [Option.map_some,Option.getD_some,A];unfold Instr.keyThatStays;rw [if_pos (hk.bits k)];rfl
    rw [run_bind,a5];exact aS _
  | none=>
    rw [hf] at F;simp only at F;obtain ⟨f1,f2⟩:=F cl;obtain ⟨g1,g2⟩:=fin (es.push { key:=kv k,val:=.slice a ys.length c,born:=cl }) (cl+1) (by rw [Array.toList_push]; exact f1) (by rw [Array.toList_push]; exact f2);refine ⟨_,?_,g1,g2⟩;unfold Instr.mapUpdate;rw [run_bind,run_underlying ht];simp only;rw [run_bind,aJ];simp only;rw [run_bind,hk.chk];simp only;rw [run_bind,aI,hf];exact aS _
def M0n {α:Type} (e:MN α) (T:TypeId) (w:World) (M:List Nat) (a:Option Addr) (c:Nat) (xs:List α):Prop:=
  (a=none∧c=0∧xs=[])∨
  ∃ g o C zs,a=some ⟨g,o*e.n,none⟩∧c+o≤C∧zs.length≤c+o∧o≤zs.length∧xs=zs.drop o∧M9 e T w M (some ⟨g,0,none⟩) C zs
theorem M9.tail {α:Type}{e:MN α}{T:TypeId}{w:World}{M:List Nat}{a:Option Addr}{c:Nat}{xs:List α}(h:M9 e T w M a c xs):M0n e T w M a c xs:=by
  rcases h with h | ⟨g,cur,rfl,u,h1,j,q,r⟩
  · exact .inl h
  · exact .inr ⟨g,0,c,xs,by simp,by simp,by simpa using h1,Nat.zero_le _,rfl,.inr ⟨g,cur,rfl,u,h1,j,q,r⟩⟩
theorem M0n.nil {α:Type}(e:MN α)(T:TypeId)(w:World)(M:List Nat):M0n e T w M none 0 []:=.inl ⟨rfl,rfl,rfl⟩
theorem M0n.step {α:Type}{e:MN α}{T:TypeId}{w w':World}{M M' Mo:List Nat}{a:Option Addr}{c:Nat}{xs:List α}(h:M0n e T w M a c xs)(hs:Ro M w M' w')(A:Ev Mo w w')(B:∀ b∈ML a,b∉Mo):M0n e T w' M' a c xs:=by
  rcases h with h | ⟨g,o,C,zs,rfl,h1,j,q,r,u⟩
  · exact .inl h
  · exact .inr ⟨g,o,C,zs,rfl,h1,j,q,r,u.step hs A B⟩
theorem M0n.sub {α:Type}{e:MN α}{T:TypeId}{w:World}{M M':List Nat}{a:Option Addr}{c:Nat}{xs:List α}(h:M0n e T w M a c xs)(hs:∀ b∈M',b∈M):M0n e T w M' a c xs:=
  h.step (Ro.sub w hs) (Ev.refl [] w) (fun _ _ h=>by cases h)
theorem M6m {P:Program}{Mo M:List Nat}{α:Type}{e:MN α}{t T:Nat}{w:World}{a:Option Addr}{c:Nat}{xs:List α}{i:Int}{x:α}(q:MJ P t T e.n)(h:M0n e T w M a c xs)(D:idx xs i=some x) :
    ∃ ad cs,ME P Mo (Instr.indexAt t (.slice a xs.length c) (.int .i64 i)) w (.pointer (some ad))∧ML a=[ad.block]∧Ms w [] ad cs∧e.R w M cs x:=by
  obtain ⟨A,h1,j⟩:=R7 D;rcases h with ⟨_,_,rfl⟩ | ⟨g,o,C,zs,rfl,G,H,I,rfl,B⟩
  · simp at j
  · rw [List.getElem?_drop] at j;have E:idx zs ((o:Int)+i)=some x:=by
      unfold idx;rw [if_pos (by omega),show ((o:Int)+i).toNat=o+i.toNat by omega];exact j
    obtain ⟨cs,r,u⟩:=M5i B E;refine ⟨⟨g,((o:Int)+i).toNat*e.n,none⟩,cs,fun w' _=>?_,rfl,r,u⟩;have F:=q.2 w';simp only [Instr.indexAt,asIntOf,Sem.run_bind,Sem.run_pure,Result.andThen_ok,run_underlying q.1,A,h1,and_self,if_true,F];rw [MM rfl];simp only;rw [show ((o:Int)+i).toNat=o+i.toNat by omega,Nat.add_mul]
theorem M8H {P:Program}{Mo M:List Nat}{α:Type}{e:MN α}{t el T:Nat}{w:World}{a:Option Addr}{c:Nat}{xs:List α}(O:MJ P t el e.n)(h:M0n e T w M a c xs)(j:Int)(I:0≤j∧j≤xs.length) :
    ∃ a' r,ME P Mo (Instr.sliceAt t (.slice a xs.length c) (some (.int .i64 j)) none none) w (.slice a' (xs.drop j.toNat).length r)∧ML a'=ML a∧M0n e T w M a' r (xs.drop j.toNat):=by
  obtain ⟨U,A⟩:=I;have J:xs.length≤c:=by
    rcases h with ⟨_,_,rfl⟩ | ⟨g,o,C,zs,rfl,B,D,E,rfl,q⟩
    · simp
    · rw [List.length_drop]; omega
  have u:=Xt (P:=P) (Mo:=Mo) (w:=w) O a xs.length c (some j) none none (by simp) (by simpa [Ml] using U) (by simpa [Ml] using A) (by simp [Ml]; omega) (by simp [Ml]);have F:(Ml (some j) 0).toNat=j.toNat:=rfl;have G:(Ml none xs.length).toNat=xs.length:=by simp [Ml]
  have H:(Ml none c).toNat=c:=by simp [Ml]
  rw [F,G,H] at u;refine ⟨_,_,by rw [List.length_drop]; exact u,?_,?_⟩
  · split
    · rfl
    · rcases h with ⟨rfl,rfl,rfl⟩ | ⟨g,o,C,zs,rfl,B,D,E,rfl,q⟩
      · rfl
      · simp only [Option.map_some];rw [MM rfl];rfl
  · rcases h with ⟨rfl,rfl,rfl⟩ | ⟨g,o,C,zs,rfl,B,D,E,rfl,q⟩
    · refine .inl ⟨by simp,by simp,by simp⟩
    · rw [List.length_drop] at J A;right
      split
      · rename_i X
        refine ⟨g,o,C,zs.take o,rfl,by omega,by rw [List.length_take]; omega,by rw [List.length_take]; omega,?_,q.trunc o⟩;rw [List.drop_take,Nat.sub_self,List.take_zero,List.drop_drop];exact List.drop_eq_nil_of_le (by omega)
      · refine ⟨g,o+j.toNat,C,zs,?_,by omega,by omega,by omega,by rw [List.drop_drop],q⟩;simp only [Option.map_some];rw [MM rfl,Nat.add_mul]
theorem M5o {P:Program}{α:Type}{e:MN α}{t T bytes:Nat}{z:Value}(D:Pa P t T e.n bytes z)(ty:TypeId){w:World}{M:List Nat}{a b:Option Addr}{c d:Nat}{xs ys:List α}
    (h:M0n e T w M a c xs) (aF:∀ x∈ML a,x∈M) (hy:Ma e w M b d ys) (hl:xs.length+ys.length≤4294967296) :
    ∃ a' U w',(Builtin.append_ #[t,t] ty [.slice a xs.length c,.slice b ys.length d].toArray).run P w=.ok (.slice a' (xs++ys).length U) w'∧Ev (ML a) w w'∧
      (∀ x∈ML a',(x∈ML a∨w.heap.size≤x)∧x<w'.heap.size)∧(∀ M',(∀ x∈M',x∈M∨w.heap.size≤x)→M0n e T w' M' a' U (xs++ys)):=by
  rcases h with ⟨rfl,rfl,rfl⟩ | ⟨g,o,C,zs,rfl,r1,r2,r3,rfl,ak⟩
  · obtain ⟨a',U,w',h1,h2,h3,h4,h5⟩:=Mb (P:=P) D ty (M9.nil e T w M) aF hy hl;exact ⟨a',U,w',h1,h2,h3,fun M' F=>(h5 M' F).tail⟩
  · obtain ⟨i,hi,hz,hn,aN⟩:=D.info;have aD:0<e.n:=Nat.le_of_ble_eq_true D.pos;have a1:bytes≤4096:=Nat.le_of_ble_eq_true D.small;have az:=ak.lt g (by simp [ML])
    by_cases hm:ys=[]
    · subst hm;refine ⟨some ⟨g,o*e.n,none⟩,c,w,?_,Ev.refl _ _,fun x q=>⟨.inl q,by simp only [ML,List.mem_singleton] at q; subst q; exact az⟩,fun M' F=>?_⟩
      · have bh:(zs.drop o).length≤c:=by rw [List.length_drop]; omega
        have ab:zs.length-o≤c:=by omega
        cases b <;> simp [Builtin.append_,run_underlying D.und,sizeOf,typeInfo,hi,Builtin.lenOf,Builtin.firstCells,ab,storeCells,loadCells,loadCellsFrom]
      · rw [List.append_nil];exact .inr ⟨g,o,C,zs,rfl,r1,r2,r3,rfl,ak.step ⟨Ev.refl _ _,F⟩ (Ev.refl [] _) (fun _ _ h=>by cases h)⟩
    · have a4:0<ys.length:=List.length_pos_iff.2 hm;cases b with
      | none=>exact absurd (hy.nil rfl) hm
      | some ad=>
        obtain ⟨r,aj,aB,aY,aC⟩:=hy.cells aD a4;rcases ak with ⟨hh,_,_⟩ | ⟨g',cur,aS,hg,s1,s2,s3,s4⟩
        · cases hh
        cases aS;have a3:(zs.drop o).length=zs.length-o:=List.length_drop;have elem:∀ (j:Nat) (x:α),zs[j]? = some x→∃ cs,e.R w M cs x∧∀ (k:Nat) (v:Value),cs[k]? = some v→j*e.n+k<zs.length*e.n∧cur[j*e.n+k]? = some v:=fun j x q=>by
          obtain ⟨cs,A,B⟩:=s4 j x q;refine ⟨cs,A,fun k v hv=>⟨?_,B k v hv⟩⟩;have hk:k<e.n:=by rw [← e.len A]; exact (List.getElem?_eq_some_iff.1 hv).1
          have I:=(List.getElem?_eq_some_iff.1 q).1;have:(j+1)*e.n≤zs.length*e.n:=Nat.mul_le_mul_right _ I;rw [Nat.add_mul] at this; omega
        by_cases bi:(zs.drop o).length+ys.length≤c
        · -- in place
          have aa:zs.length*e.n+r.length≤cur.size:=by
            rw [aj,s3,← Nat.add_mul]; exact Nat.mul_le_mul_right _ (by omega)
          have ae:(cur.toList.take (zs.length*e.n)).length=zs.length*e.n:=by
            rw [List.length_take,(Array.length_toList (xs:=cur))];exact Nat.min_eq_left (Nat.le_trans (Nat.le_add_right _ _) aa)
          have ax:o*e.n+(zs.length-o)*e.n=zs.length*e.n:=by rw [← Nat.add_mul]; congr 1; omega
          have J:=run_storeCells_at P g (zs.length*e.n) T r 0 cur w hg (by simpa using aa) (by simpa using fun v hv=>aY v hv);simp only [Nat.add_zero] at J;have au:=run_firstCells_some (P:=P) w e.n ys.length ad ys.length d r aj aB;have G:Ev [g] w (w.setRow g (cur.toList.take (zs.length*e.n)++r++cur.toList.drop (zs.length*e.n+r.length)).toArray):=Ev.setRow g _;refine ⟨some ⟨g,o*e.n,none⟩,c,w.setRow g (cur.toList.take (zs.length*e.n)++r++cur.toList.drop (zs.length*e.n+r.length)).toArray,?_,G,fun x q=>⟨.inl q,?_⟩,fun M' F=>?_⟩
          · have am:zs.length-o+ys.length≤c:=by omega
            have aQ:(Builtin.firstCells e.n ys.length (.slice (some ad) ys.length d)).run P w=.ok r.toArray w:=au;simp [Builtin.append_,run_underlying D.und,sizeOf,typeInfo,hi,hn,Builtin.lenOf,am,aQ,Addr.add_lit,ax,J]
          · simp only [ML,List.mem_singleton] at q;subst q;exact Nat.lt_of_lt_of_le az G.size
          · have aE:Ro M w M' (w.setRow g (cur.toList.take (zs.length*e.n)++r++cur.toList.drop (zs.length*e.n+r.length)).toArray):=⟨G.sub aF,F⟩
            refine .inr ⟨g,o,C,zs++ys,rfl,r1,by rw [List.length_append]; omega,by rw [List.length_append]; omega,by rw [List.drop_append_of_le_length r3],.inr ⟨g,_,rfl,setRow_heap w g cur _ T (0,0) hg,by rw [List.length_append]; omega,s2,?_,fun j x q=>?_⟩⟩
            · rw [List.size_toArray,List.length_append,List.length_append,ae,List.length_drop,(Array.length_toList (xs:=cur)),← s3];generalize zs.length*e.n=Z at *
              generalize r.length=Y at *
              generalize cur.size=X at *
              clear ax J au G;omega
            · by_cases I:j<zs.length
              · rw [List.getElem?_append_left I] at q;obtain ⟨cs,A,B⟩:=elem j x q;refine ⟨cs,e.step A aE,fun k v hv=>?_⟩;obtain ⟨E,t4⟩:=B k v hv;rw [List.getElem?_toArray,List.append_assoc,List.getElem?_append_left (by rw [ae]; exact E),List.getElem?_take,if_pos E]
                simpa using t4
              · rw [List.getElem?_append_right (by omega)] at q;obtain ⟨cs,A,B⟩:=aC _ x q;refine ⟨cs,e.step A aE,fun k v hv=>?_⟩;have E:=B k v hv;have ab:zs.length*e.n≤j*e.n:=Nat.mul_le_mul_right _ (by omega);have aX:=(List.getElem?_eq_some_iff.1 E).1;have a2:j*e.n+k-zs.length*e.n=(j-zs.length)*e.n+k:=by rw [Nat.sub_mul]; omega
                rw [List.getElem?_toArray,List.append_assoc,List.getElem?_append_right (by rw [ae]; exact Nat.le_trans ab (Nat.le_add_right _ _)),ae,a2,List.getElem?_append_left aX];exact E
        · -- a new block
          have aO:((zs.drop o).length+ys.length)*bytes≤140737488355328:=by
            have:=Nat.mul_le_mul hl a1;omega
          have aa:zs.length*e.n≤cur.size:=by rw [s3]; exact Nat.mul_le_mul_right _ s1
          have ac:((cur.toList.drop (o*e.n)).take ((zs.drop o).length*e.n)).length=(zs.drop o).length*e.n:=by
            rw [List.length_take,a3,List.length_drop,(Array.length_toList (xs:=cur)),Nat.sub_mul]; exact Nat.min_eq_left (Nat.sub_le_sub_right aa _)
          have aZ:∀ (j:Nat) (u:Value),((cur.toList.drop (o*e.n)).take ((zs.drop o).length*e.n))[j]? = some u→cur[o*e.n+j]? = some u:=fun j u H=>by
            rw [List.getElem?_take] at H
            split at H
            · rw [List.getElem?_drop] at H; simpa using H
            · cases H
          obtain ⟨v',w',hr,am,O⟩:=run_append_arg_grows (P:=P) w t ty T i z e.n bytes D.und hi hz hn aN D.zs aD ⟨g,o*e.n,none⟩ (zs.drop o).length c _ ac (fun j u H=>by
            rw [MM rfl,PG hg]; exact aZ j u H) ad ys.length d r aj aB (by omega) (by unfold maxLen; omega) aO
          have G:Ev [] w w':=⟨O.os,O.tape,O.output,O.size,fun k hk _=>O.block k hk (by simp)⟩
          rcases am.2 with ⟨_,h0⟩ | ⟨g2,cap,aq,rfl,aL,av,u1,u2,u3,u4⟩
          · omega
          refine ⟨some ⟨g2,0,none⟩,cap,w',by rw [List.length_append]; exact hr,(G.nil),fun x q=>?_,fun M' F=>?_⟩
          · simp only [ML,List.mem_singleton] at q;subst q;exact ⟨.inr aL,MA av⟩
          · have J:Ro M w M' w':=⟨G.nil,F⟩
            have fin:∀ (j:Nat) (v:Value),((cur.toList.drop (o*e.n)).take ((zs.drop o).length*e.n)++r)[j]? = some v→aq[j]? = some v:=by
              intro j v hv;rw [← u4,List.getElem?_take] at hv
              split at hv
              · simpa using hv
              · cases hv
            refine M9.tail (.inr ⟨g2,aq,rfl,av,by rw [List.length_append]; exact u1,u2,u3,fun j x q=>?_⟩)
            by_cases I:j<(zs.drop o).length
            · rw [List.getElem?_append_left I,List.getElem?_drop] at q;obtain ⟨cs,A,B⟩:=elem _ x q;refine ⟨cs,e.step A J,fun k v hv=>fin _ _ ?_⟩;obtain ⟨E,t4⟩:=B k v hv;have hk:k<e.n:=by rw [← e.len A]; exact (List.getElem?_eq_some_iff.1 hv).1
              have aw:j*e.n+k<(zs.drop o).length*e.n:=by
                have:(j+1)*e.n≤(zs.drop o).length*e.n:=Nat.mul_le_mul_right _ I;rw [Nat.add_mul] at this; omega
              rw [List.getElem?_append_left (by rw [ac]; exact aw),List.getElem?_take,if_pos aw,List.getElem?_drop];rw [show o*e.n+(j*e.n+k)=(o+j)*e.n+k by rw [Nat.add_mul]; omega]
              simpa using t4
            · rw [List.getElem?_append_right (by omega)] at q;obtain ⟨cs,A,B⟩:=aC _ x q;refine ⟨cs,e.step A J,fun k v hv=>fin _ _ ?_⟩;have E:=B k v hv;have ab:(zs.drop o).length*e.n≤j*e.n:=Nat.mul_le_mul_right _ (by omega);rw [List.getElem?_append_right (by rw [ac]; omega),ac,show j*e.n+k-(zs.drop o).length*e.n=(j-(zs.drop o).length)*e.n+k by rw [Nat.sub_mul]; omega];exact E
structure M02 {α:Type} (e:MN α) (T:TypeId) (w:World) (M B:List Nat) (a:Option Addr) (c:Nat) (xs:List α):Prop where
  own:M0n e T w M a c xs
  inb:∀ x∈ML a,x∈B
theorem M9.tailB {α:Type}{e:MN α}{T:TypeId}{w:World}{M:List Nat}{a:Option Addr}{c:Nat}{xs:List α}(h:M9 e T w M a c xs):M02 e T w M (ML a) a c xs:=⟨h.tail,fun _ h=>h⟩
theorem M02.step {α:Type}{e:MN α}{T:TypeId}{w w':World}{M M' Mo B:List Nat}{a:Option Addr}{c:Nat}{xs:List α}(h:M02 e T w M B a c xs)(hs:Ro M w M' w')(j:Ev Mo w w')(q:∀ b∈B,b∉Mo):M02 e T w' M' B a c xs:=
  ⟨h.own.step hs j fun b g=>q b (h.inb b g),h.inb⟩
theorem M02.sub {α:Type}{e:MN α}{T:TypeId}{w:World}{M M' B:List Nat}{a:Option Addr}{c:Nat}{xs:List α}(h:M02 e T w M B a c xs)(hs:∀ b∈M',b∈M):M02 e T w M' B a c xs:=⟨h.own.sub hs,h.inb⟩
theorem M6n {P:Program}{Mo M B:List Nat}{α:Type}{e:MN α}{t T:Nat}{w:World}{a:Option Addr}{c:Nat}{xs:List α}{i:Int}{x:α}(g:MJ P t T e.n)(h:M02 e T w M B a c xs)(j:idx xs i=some x) :
    ∃ ad cs,ME P Mo (Instr.indexAt t (.slice a xs.length c) (.int .i64 i)) w (.pointer (some ad))∧ML a=[ad.block]∧Ms w [] ad cs∧e.R w M cs x:=M6m g h.own j
theorem M8I {P:Program}{Mo M B:List Nat}{α:Type}{e:MN α}{t el T:Nat}{w:World}{a:Option Addr}{c:Nat}{xs:List α}(A:MJ P t el e.n)(h:M02 e T w M B a c xs)(g:Int)(q:0≤g∧g≤xs.length) :
    ∃ a' j,ME P Mo (Instr.sliceAt t (.slice a xs.length c) (some (.int .i64 g)) none none) w (.slice a' (xs.drop g.toNat).length j)∧M02 e T w M B a' j (xs.drop g.toNat):=by
  obtain ⟨a',j,h1,r,u⟩:=M8H (P:=P) (Mo:=Mo) A h.own g q;exact ⟨a',j,h1,u,by rw [r]; exact h.inb⟩
theorem M5p {P:Program}{α:Type}{e:MN α}{t T bytes:Nat}{z:Value}(G:Pa P t T e.n bytes z)(ty:TypeId){w:World}{M B:List Nat}{a b:Option Addr}{c d:Nat}{xs ys:List α}
    (h:M02 e T w M B a c xs) (F:∀ x∈B,x∈M) (H:Ma e w M b d ys) (E:xs.length+ys.length≤4294967296) :
    ∃ a' g w',(Builtin.append_ #[t,t] ty [.slice a xs.length c,.slice b ys.length d].toArray).run P w=.ok (.slice a' (xs++ys).length g) w'∧Ev B w w'∧
      (∀ x∈ML a',(x∈B∨w.heap.size≤x)∧x<w'.heap.size)∧(∀ M',(∀ x∈M',x∈M∨w.heap.size≤x)→M02 e T w' M' (ML a') a' g (xs++ys)):=by
  obtain ⟨a',g,w',h1,u,r,A⟩:=M5o (P:=P) G ty h.own (fun x j=>F x (h.inb x j)) H E;exact ⟨a',g,w',h1,u.sub h.inb,fun x j=>⟨(r x j).1.elim (fun q=>.inl (h.inb x q)) .inr,(r x j).2⟩,fun M' D=>⟨A M' D,fun _ h=>h⟩⟩
theorem V7 {P:Program}{Mo:List Nat}{t el n:Nat}(j:P.underlying t=some (.array n el))(hs:MT P el)(b off:Nat)(i:Int)(g:0≤i∧i<n)(w:World) :
    ME P Mo (Instr.indexAt t (.pointer (some ⟨b,off,none⟩)) (.int .i64 i)) w (.pointer (some ⟨b,off+i.toNat,none⟩)):=by
  intro w' _;have q:=(hs w').2;simp only [Instr.indexAt,asIntOf,Sem.run_bind,Sem.run_pure,Result.andThen_ok,run_underlying j,Instr.sureAddr,g.1,g.2,and_self,if_true,q];rw [MM rfl];simp
theorem MX {α:Type}{xs:List α}{i:Int}{x:α}(h:idx xs i=some x)(y:α):idx (xs.set i.toNat y) i=some y:=by
  obtain ⟨g,h1,j⟩:=R7 h;unfold idx;rw [if_pos g,List.getElem?_set_self (by omega)]
structure Ts {α:Type} (e:MN α) (T:TypeId) (w:World) (M:List Nat) (a:Option Addr) (g c:Nat) (xs:List α) (i:Nat) (raw:List Value):Prop where
  ha:a=some ⟨g,0,none⟩
  ex:∃ cur:Array Value,w.heap[g]? = some (.cells cur T (0,0))∧xs.length≤c∧c≤maxLen∧cur.size=c*e.n∧i<xs.length∧raw.length=e.n∧
    (∀ (k:Nat) (v:Value),raw[k]? = some v→cur[i*e.n+k]? = some v)∧
    ∀ (j:Nat) (x:α),j≠i→xs[j]? = some x→∃ cs,e.R w M cs x∧∀ (k:Nat) (v:Value),cs[k]? = some v→cur[j*e.n+k]? = some v
theorem Ts.opn {α:Type}{e:MN α}{T:TypeId}{w:World}{M:List Nat}{a:Option Addr}{g c:Nat}{xs:List α}{i:Int}{x:α}(ha:a=some ⟨g,0,none⟩)(h:M9 e T w M a c xs)(J:idx xs i=some x) :
    ∃ cs,e.R w M cs x∧Ts e T w M a g c xs i.toNat cs:=by
  obtain ⟨U,h1,B⟩:=R7 J;rcases h with ⟨A,_,_⟩ | ⟨O,cur,u,H,D,E,F,q⟩
  · rw [ha] at A; cases A
  · rw [ha] at u;cases u;obtain ⟨cs,r,G⟩:=q _ _ B;exact ⟨cs,r,ha,cur,H,D,E,F,by omega,e.len r,G,fun j x _ I=>q j x I⟩
theorem Ts.step {α:Type}{e:MN α}{T:TypeId}{w w':World}{M M' Mo:List Nat}{a:Option Addr}{g c:Nat}{xs:List α}{i:Nat}{raw:List Value}(h:Ts e T w M a g c xs i raw)(hs:Ro M w M' w')(E:Ev Mo w w')(H:∀ b∈ML a,b∉Mo):Ts e T w' M' a g c xs i raw:=by
  obtain ⟨ha,cur,F,h1,q,r,u,A,B,D⟩:=h;refine ⟨ha,cur,E.box F (H g (by rw [ha]; simp [ML])),h1,q,r,u,A,B,fun j x G I=>?_⟩;obtain ⟨cs,J,O⟩:=D j x G I;exact ⟨cs,e.step J hs,O⟩
theorem Ts.sub {α:Type}{e:MN α}{T:TypeId}{w:World}{M M':List Nat}{a:Option Addr}{g c:Nat}{xs:List α}{i:Nat}{raw:List Value}(h:Ts e T w M a g c xs i raw)(hs:∀ b∈M',b∈M):Ts e T w M' a g c xs i raw:=
  h.step (Ro.sub w hs) (Ev.refl [] w) (fun _ _ h=>by cases h)
theorem Ts.cells {α:Type}{e:MN α}{T:TypeId}{w:World}{M:List Nat}{a:Option Addr}{g c:Nat}{xs:List α}{i:Nat}{raw:List Value}(h:Ts e T w M a g c xs i raw):Ms w [] ⟨g,i*e.n,none⟩ raw:=by
  obtain ⟨ha,cur,j,h1,r,u,A,B,q,D⟩:=h;exact ⟨rfl,by simp,MA j,fun k v hv=>by rw [PG j]; exact q k v hv⟩
theorem Ts.store {P:Program}{α:Type}{e:MN α}{I T:TypeId}{w:World}{M:List Nat}{a:Option Addr}{g c:Nat}{xs:List α}{i:Nat}{raw:List Value}(o:Nat)(v:Value)(ht:MT P I)(h:Ts e T w M a g c xs i raw)(Z:∀ x∈ML a,x∈M)
    (h1:v.oneCell'=true) (E:Nat.blt o e.n=true) :
    ∃ w',(Instr.storeAt I (.pointer (some ⟨g,i*e.n+o,none⟩)) v).run P w=.ok () w'∧Ev (ML a) w w'∧Ts e T w' M a g c xs i (raw.set o v):=by
  have E:=Nat.le_of_ble_eq_true E;obtain ⟨ha,cur,O,q1,q2,G,q4,q5,q6,q7⟩:=h;have J:i*e.n+o<cur.size:=by
    rw [G];have:(i+1)*e.n≤c*e.n:=Nat.mul_le_mul_right _ (by omega);rw [Nat.add_mul] at this; omega
  obtain ⟨w',X,r,B⟩:=M1y (P:=P) (i*e.n+o) v (cur.setIfInBounds (i*e.n+o) v) ht O (Nat.ble_eq ▸ J) h1 rfl;have A:ML a=[g]:=by rw [ha]; rfl
  have Y:Ro M w M w':=Ro.same B (fun b r=>Z b (by rw [A]; exact r));refine ⟨w',X,by rw [A]; exact B,ha,_,r,q1,q2,by rw [Array.size_setIfInBounds]; exact G,q4,by rw [List.length_set]; exact q5,fun k u q=>?_,fun j x D hx=>?_⟩
  · rw [List.getElem?_set] at q;rw [Array.getElem?_setIfInBounds]
    split at q
    · rename_i F
      subst F
      split at q
      · cases q; rw [if_pos (by omega),if_pos (by omega)]
      · cases q
    · rename_i F
      rw [if_neg (by omega)];exact q6 k u q
  · obtain ⟨cs,H,r2⟩:=q7 j x D hx;refine ⟨cs,e.step H Y,fun k u q=>?_⟩;have hk:k<e.n:=by rw [← e.len H]; exact (List.getElem?_eq_some_iff.1 q).1
    rw [Array.getElem?_setIfInBounds_ne]
    · exact r2 k u q
    · intro aj;rcases Nat.lt_or_gt_of_ne D with U | hgt
      · have:(j+1)*e.n≤i*e.n:=Nat.mul_le_mul_right _ U;rw [Nat.add_mul] at this; omega
      · have:(i+1)*e.n≤j*e.n:=Nat.mul_le_mul_right _ hgt;rw [Nat.add_mul] at this; omega
theorem Ts.cls {α:Type}{e:MN α}{T:TypeId}{w:World}{M:List Nat}{a:Option Addr}{g c:Nat}{xs:List α}{i:Nat}{raw:List Value}(h:Ts e T w M a g c xs i raw){y:α}(u:e.R w M raw y):M9 e T w M a c (xs.set i y):=by
  obtain ⟨ha,cur,B,D,E,F,H,I,A,G⟩:=h;refine .inr ⟨g,cur,ha,B,by rw [List.length_set]; exact D,E,F,fun j x q=>?_⟩;rw [List.getElem?_set] at q
  split at q
  · rename_i r
    subst r
    first
    | (cases q; exact ⟨raw,u,A⟩)
    | (split at q; (· cases q; exact ⟨raw,u,A⟩); (· cases q))
  · rename_i r
    exact G j x (Ne.symm r) q
end Go.V
