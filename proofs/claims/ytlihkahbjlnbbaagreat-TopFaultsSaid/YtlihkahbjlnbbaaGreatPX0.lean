
/- Plain laws of the functions that the statement reaches, text by text. Conditions: those of each theorem. -/
import Derived.Test.YtlihkahbjlnbbaaGreatGX0
import Derived.Test.YtlihkahbjlnbbaaGreatGX1
import Derived.Test.YtlihkahbjlnbbaaGreatGX2
import Derived.Test.YtlihkahbjlnbbaaGreatGX3
set_option linter.unusedVariables false
set_option linter.unusedSimpArgs false
set_option linter.unusedSectionVars false
set_option maxRecDepth 100000
namespace Go.Proofs.YtlihkahbjlnbbaaGreat
open Go Go.V Go.Proofs
theorem MD {n:Int}(h1:-9223372036854775808≤n)(g:n<9223372036854775808):M4 n=n:=by
  have e:∀ n:Int,M4 n=if n%18446744073709551616≥9223372036854775808 then n%18446744073709551616-18446744073709551616 else n%18446744073709551616:=by
    intro n;show (if (IntKind.i64.signed&&decide (n%(2 ^ IntKind.i64.bits:Int)≥(2 ^ (IntKind.i64.bits-1):Int)))=true then _ else _)=_
    have h1:(2 ^ IntKind.i64.bits:Int)=18446744073709551616:=by decide
    have g:(2 ^ (IntKind.i64.bits-1):Int)=9223372036854775808:=by decide
    rw [h1,g];simp [IntKind.signed]
  rw [e]
  split <;> omega
theorem M6W (x n:Int)(g:0<n):-n<Int.tmod x n∧Int.tmod x n<n:=by
  rcases Int.le_total 0 x with h | h
  · have h1:=Int.tmod_lt_of_pos x g;have j:0≤Int.tmod x n:=Int.tmod_nonneg n h;omega
  · have q:Int.tmod x n = -(Int.tmod (-x) n):=by rw [Int.neg_tmod]; omega
    have h1:=Int.tmod_lt_of_pos (-x) g;have j:0≤Int.tmod (-x) n:=Int.tmod_nonneg n (by omega);omega
theorem M9h {α:Type}(xs:List α)(i:Int)(j:0≤i)(h1:i<xs.length):∃ x,x∈xs∧idx xs i=some x:=by
  have g:i.toNat<xs.length:=by omega
  refine ⟨xs[i.toNat],List.getElem_mem g,?_⟩;unfold idx;rw [if_pos j];exact List.getElem?_eq_getElem g
theorem M7A (l:List Int)(k n:Int)(q:0≤k)(D:k<4611686018427387904)(r:0<n)(E:n≤4611686018427387904) :
    ∃ v,Mr l k n=some (v,k+1)∧0≤v∧v<n:=by
  have u:M4 (k+1)=k+1:=MD (by omega) (by omega);have fin:∀ y:Int,∃ v,PR k n y=some (v,k+1)∧0≤v∧v<n:=by
    intro y;unfold PR;rw [if_pos (by omega)];obtain ⟨h1,B⟩:=M6W y n r;rw [u]
    by_cases j:Int.tmod y n<0
    · rw [if_pos (by simpa using j),MD (by omega) (by omega)];exact ⟨_,rfl,by omega,by omega⟩
    · rw [if_neg (by simpa using j)];exact ⟨_,rfl,by omega,by omega⟩
  unfold Mr
  by_cases g:((l.length:Int)>0)
  · rw [if_pos (by simpa using g),if_pos (by omega)];obtain ⟨x,_,A⟩:=M9h l (Int.tmod k l.length) (Int.tmod_nonneg _ q) (Int.tmod_lt_of_pos k (by omega));rw [A];simp only [Option.bind_some];rw [if_pos (by omega)];exact fin _
  · rw [if_neg (by simpa using g)];exact fin 0
theorem Mag (l:List Int)(k:Int)(xs:List Int)(r:0≤k)(u:k<4611686018427387904)(g:0<xs.length)(B:xs.length≤4611686018427387904) :
    ∃ v,Mj l k xs=some (v,k+1)∧v∈xs:=by
  obtain ⟨i,q,j,h1⟩:=M7A l k xs.length r u (by omega) (by omega);obtain ⟨x,A,g⟩:=M9h xs i j h1;refine ⟨x,?_,A⟩;unfold Mj;rw [q];simp only [Option.bind_some,g]
theorem M4a {S D:Type}{step:S→Option (Mm S D)}(I:S→Prop)(mu:S→Nat)(P:D→Prop)
    (h:∀ s,I s→(∃ g,step s=some (.next g)∧I g∧mu g<mu s)∨(∃ d,step s=some (.done d)∧P d)) :
    ∀ (n:Nat) (s:S),I s→mu s<n→∃ d,Mh step n s=some d∧P d
  | 0,s,_,hm=>absurd hm (Nat.not_lt_zero _)
  | n+1,s,hi,hm=>by
    rcases h s hi with ⟨g,h1,j,u⟩ | ⟨d,h1,j⟩
    · obtain ⟨d,q,r⟩:=M4a I mu P h n g j (by omega);exact ⟨d,by simp only [Mh,h1,Option.bind_some,q],r⟩
    · exact ⟨d,by simp only [Mh,h1,Option.bind_some],j⟩
theorem M5V {S D:Type}{step:S→Option (Mm S D)}(I:S→Prop)(mu:S→Nat)(P:D→Prop)
    (h:∀ s,I s→(∃ g,step s=some (.next g)∧I g∧mu g<mu s)∨(∃ d,step s=some (.done d)∧P d))
    (s:S) (j:I s) (q:mu s<18446744073709551616):∃ d,loop step s=some d∧P d:=
  M4a I mu P h _ s j q
theorem Wj {p:Prop} [Decidable p] (h:p):decide p=true:=decide_eq_true h
theorem Z8 {p:Prop} [Decidable p] (h:¬ p):¬ decide p=true:=fun g=>h (of_decide_eq_true g)
theorem Mc {α:Type}(xs:List α)(i:Nat):idx xs (i:Int)=xs[i]?:=by
  unfold idx;rw [if_pos (by omega)];simp
theorem M8 {α β:Type}(a:α)(f:α→Option β):(some a).bind f=f a:=by
  have h:∀ o,o=some a→o.bind f=f a:=fun o h=>by subst h; rfl
  exact h _ rfl
def M6 {α:Type} (r:Option α) (P:α→Prop):Prop:=∃ v,r=some v∧P v
theorem M6.pure {α:Type}{v:α}{P:α→Prop}(h:P v):M6 (some v) P:=⟨v,rfl,h⟩
theorem M6.bind {α β:Type}{r:Option α}{f:α→Option β}{P:α→Prop}{Q:β→Prop}(h:M6 r P)(A:∀ v,P v→M6 (f v) Q):M6 (r.bind f) Q:=by
  obtain ⟨v,h1,g⟩:=h;obtain ⟨u,j,q⟩:=A v g;exact ⟨u,by rw [h1,M8]; exact j,q⟩
theorem M6.ite {α:Type}{c:Prop} [Decidable c] {x y:Option α}{P:α→Prop}(h1:c→M6 x P)(g:¬ c→M6 y P):M6 (if c then x else y) P:=by
  by_cases h:c
  · rw [if_pos h]; exact h1 h
  · rw [if_neg h]; exact g h
theorem M6.ifd {α:Type}{c:Prop} [Decidable c] {x y:Option α}{P:α→Prop}(h1:c→M6 x P)(g:¬ c→M6 y P):M6 (if decide c=true then x else y) P:=
  M6.ite (fun h=>h1 (of_decide_eq_true h)) (fun h=>g (fun j=>h (decide_eq_true j)))
theorem M6.guard {α:Type}{c:Prop} [Decidable c] {x:Option α}{P:α→Prop}(h1:c)(g:M6 x P):M6 (if c then x else none) P:=by rw [if_pos h1]; exact g
theorem M6.mono {α:Type}{r:Option α}{P Q:α→Prop}(h:M6 r P)(g:∀ v,P v→Q v):M6 r Q:=let ⟨v,h1,h2⟩:=h; ⟨v,h1,g v h2⟩
theorem M6.of {α:Type}{r:Option α}{v:α}{P:α→Prop}(h:r=some v)(g:P v):M6 r P:=⟨v,h,g⟩
theorem M6.idx {α:Type}{xs:List α}{i:Int}(j:0≤i)(h1:i<xs.length):M6 (idx xs i) fun x=>x∈xs∧xs[i.toNat]? = some x:=by
  have g:i.toNat<xs.length:=by omega
  exact ⟨xs[i.toNat],by unfold Go.V.idx; rw [if_pos j]; exact List.getElem?_eq_getElem g,List.getElem_mem g,List.getElem?_eq_getElem g⟩
def M0c {S D:Type} (I:S→Prop) (mu:S→Nat) (m:Nat) (P:D→Prop):Mm S D→Prop
  | .next s=>I s∧mu s<m
  | .done d=>P d
theorem M6.loop {S D:Type}{step:S→Option (Mm S D)}(I:S→Prop)(mu:S→Nat){P:D→Prop}{s:S}(j:I s)(q:mu s<18446744073709551616)(h:∀ s,I s→M6 (step s) (M0c I mu (mu s) P)):M6 (Go.V.loop step s) P:=by
  obtain ⟨d,h1,g⟩:=M5V (step:=step) I mu P (fun s hs=>by
    obtain ⟨r,h1,g⟩:=h s hs;cases r with
    | next u=>exact .inl ⟨u,h1,g.1,g.2⟩
    | done d=>exact .inr ⟨d,h1,g⟩) s j q
  exact ⟨d,h1,g⟩
theorem M6.count {D:Type}{step:Int→Option (Mm Int D)}{P:D→Prop}(n:Nat)(j:n<4000000000000000000)(h:∀ i:Nat,i≤n→M6 (step (i:Int)) fun r=>(i<n∧r=.next ((i:Int)+1))∨∃ d,r=.done d∧P d):M6 (Go.V.loop step 0) P:=
  M6.loop (fun s=>∃ i:Nat,s=(i:Int)∧i≤n) (fun s=>n-s.toNat) ⟨0,rfl,by omega⟩ (by simp; omega) (by
    rintro s ⟨i,rfl,g⟩;refine (h i g).mono ?_;rintro r (⟨h1,rfl⟩ | ⟨d,rfl,hd⟩)
    · exact ⟨⟨i+1,rfl,by omega⟩,by simp only [M0c]; omega⟩
    · exact hd)
theorem M6.st {T S D:Type}(mk:S→Int→T)(un:T→S×Int)(q:∀ s c,un (mk s c)=(s,c)){step:T→Option (Mm T D)}{P:D→Prop}(n:Nat)(G:n<4000000000000000000)(I:Nat→S→Prop){s0:S}(g:Nat)(F:g≤n)(u:I g s0)
    (h:∀ (i:Nat) (s:S),i≤n→I i s→M6 (step (mk s (i:Int))) fun r=>(∃ j,i<n∧r=.next (mk j ((i:Int)+1))∧I (i+1) j)∨∃ d,r=.done d∧P d):M6 (Go.V.loop step (mk s0 (g:Int))) P:=
  M6.loop (fun t=>∃ (i:Nat) (s:S),t=mk s (i:Int)∧i≤n∧I i s) (fun t=>n-(un t).2.toNat) ⟨g,s0,rfl,F,u⟩ (by simp only [q]; omega) (by
    rintro t ⟨i,s,rfl,E,B⟩;refine (h i s E B).mono ?_;rintro r (⟨j,h1,rfl,A⟩ | ⟨d,rfl,hd⟩)
    · exact ⟨⟨i+1,j,rfl,by omega,A⟩,by simp only [q]; omega⟩
    · exact hd)
theorem M6.st2 {S D:Type}{step:S×Int→Option (Mm (S×Int) D)}{P:D→Prop}(n:Nat)(q:n<4000000000000000000)(I:Nat→S→Prop){s0:S}(j:I 0 s0)
    (h:∀ (i:Nat) (s:S),i≤n→I i s→M6 (step (s,(i:Int))) fun r=>(∃ g,i<n∧r=.next (g,(i:Int)+1)∧I (i+1) g)∨∃ d,r=.done d∧P d):M6 (Go.V.loop step (s0,0)) P:=
  M6.st (fun s c=>(s,c)) (fun t=>t) (fun _ _=>rfl) n q I 0 (Nat.zero_le _) j h
theorem M6.st3 {A B D:Type}{step:A×B×Int→Option (Mm (A×B×Int) D)}{P:D→Prop}(n:Nat)(F:n<4000000000000000000)(I:Nat→A→B→Prop){g:A}{j:B}(q:I 0 g j)
    (h:∀ (i:Nat) (a:A) (b:B),i≤n→I i a b→M6 (step (a,b,(i:Int))) fun r=>(∃ a' b',i<n∧r=.next (a',b',(i:Int)+1)∧I (i+1) a' b')∨∃ d,r=.done d∧P d):M6 (Go.V.loop step (g,j,0)) P:=
  M6.st (S:=A×B) (s0:=(g,j)) (fun s c=>(s.1,s.2,c)) (fun t=>((t.1,t.2.1),t.2.2)) (fun _ _=>rfl) n F (fun i s=>I i s.1 s.2) 0 (Nat.zero_le _) q (fun i s E hs=>(h i s.1 s.2 E hs).mono (by
    rintro r (⟨a',b',h1,rfl,u⟩ | h3)
    · exact .inl ⟨(a',b'),h1,rfl,u⟩
    · exact .inr h3))
theorem M6.st4 {A B C D:Type}{step:A×B×C×Int→Option (Mm (A×B×C×Int) D)}{P:D→Prop}(n:Nat)(G:n<4000000000000000000)(I:Nat→A→B→C→Prop){j:A}{q:B}{c0:C}(u:I 0 j q c0)
    (h:∀ (i:Nat) (a:A) (b:B) (c:C),i≤n→I i a b c→M6 (step (a,b,c,(i:Int))) fun r=>(∃ a' b' g,i<n∧r=.next (a',b',g,(i:Int)+1)∧I (i+1) a' b' g)∨∃ d,r=.done d∧P d):M6 (Go.V.loop step (j,q,c0,0)) P:=
  M6.st (S:=A×B×C) (s0:=(j,q,c0)) (fun s c=>(s.1,s.2.1,s.2.2,c)) (fun t=>((t.1,t.2.1,t.2.2.1),t.2.2.2)) (fun _ _=>rfl) n G (fun i s=>I i s.1 s.2.1 s.2.2) 0 (Nat.zero_le _) u (fun i s F hs=>(h i s.1 s.2.1 s.2.2 F hs).mono (by
    rintro r (⟨a',b',g,h1,rfl,E⟩ | h3)
    · exact .inl ⟨(a',b',g),h1,rfl,E⟩
    · exact .inr h3))
theorem R5 {i n:Nat}(g:i<n)(j:n<4000000000000000000):M4 ((i:Int)+1)=(i:Int)+1:=MD (by omega) (by omega)
theorem M6.next {l:List Int}{k n:Int}(q:0≤k)(u:k<4611686018427387904)(A:0<n)(B:n≤4611686018427387904):M6 (Mr l k n) fun r=>0≤r.1∧r.1<n∧r.2=k+1:=by
  obtain ⟨v,h1,g,j⟩:=M7A l k n q u A B;exact ⟨_,h1,g,j,rfl⟩
theorem M6.pick {l:List Int}{k:Int}{xs:List Int}(j:0≤k)(q:k<4611686018427387904)(u:0<xs.length)(A:xs.length≤1000):M6 (Mj l k xs) fun r=>r.1∈xs∧r.2=k+1:=by
  obtain ⟨v,h1,g⟩:=Mag l k xs j q u (by omega);exact ⟨_,h1,g,rfl⟩
theorem Mz {a b:Int}:(a==b)=true↔a=b:=by simp
theorem MV {a b:Int}:(a != b)=true↔a≠b:=by simp
abbrev El:Type:=Int×List UInt8×Int×Int×Int×Int×Int×Int
def wd (i:Nat):List UInt8:=(Yd (i:Int)).getD []
theorem Mah (i:Nat):Yd (i:Int)=some (wd i):=rfl
theorem M6X {i j:Nat}(q:i<40)(r:j<40)(h:wd i=wd j):i=j:=by
  have key:(List.range 40).all (fun i=>(List.range 40).all fun j=>decide (wd i=wd j→i=j))=true:=by decide +kernel
  have h1:=List.all_eq_true.1 key i (List.mem_range.2 q);have g:=List.all_eq_true.1 h1 j (List.mem_range.2 r);exact of_decide_eq_true g h
structure M2e (l:List El) (i:Nat) (x:El):Prop where
  kind:1≤x.1∧x.1≤4
  nm:x.2.1=wd i
  par:0≤x.2.2.1∧x.2.2.1<i
  side:0≤x.2.2.2.1∧x.2.2.2.1≤2
  len:1≤x.2.2.2.2.1∧x.2.2.2.2.1≤1000000
  grade:-10000≤x.2.2.2.2.2.1∧x.2.2.2.2.2.1≤10000
  curve:0≤x.2.2.2.2.2.2.1∧x.2.2.2.2.2.2.1≤5000
  ret:x.1=2→1≤x.2.2.2.2.2.2.2∧x.2.2.2.2.2.2.2≤1000000000
  nret:x.1≠2→x.2.2.2.2.2.2.2=0
  up:∃ y:El,l[x.2.2.1.toNat]? = some y∧y.1≠4∧(y.1=3↔x.2.2.2.1≠0)
def MbK (l:List El) (p:Int×Int):Prop:=∀ (j:Nat) (y:El),0<j→l[j]? = some y→¬ (y.2.2.1=p.1∧y.2.2.2.1=p.2)
def Mbm (l:List El) (p:Int×Int):Prop:=∃ (j:Nat) (y:El),0<j∧l[j]? = some y∧y.2.2.1=p.1∧y.2.2.2.1=p.2
def Xf (i:Nat) (k:Int):List (Int×Int):=if k=4 then [] else if k=3 then [((i:Int),1),((i:Int),2)] else [((i:Int),0)]
def P8:El:=(0,wd 0,-1,0,0,0,0,0)
def ntr (l:List El):Nat:=(l.filter fun x=>x.1==4).length
structure LI (l:List El) (o:List (Int×Int)):Prop where
  h1:1≤l.length
  hd:l[0]? = some P8
  el:∀ (i:Nat) (x:El),0<i→l[i]? = some x→M2e l i x
  un:∀ (i j:Nat) (x y:El),0<i→0<j→i≠j→l[i]? = some x→l[j]? = some y→¬ (x.2.2.1=y.2.2.1∧x.2.2.2.1=y.2.2.2.1)
  kid:∀ (i:Nat) (x:El),l[i]? = some x→∀ p∈Xf i x.1,Mbm l p∨p∈o
  op:∀ p∈o,MbK l p∧0≤p.1∧0≤p.2∧p.2≤2∧∃ y:El,l[p.1.toNat]? = some y∧y.1≠4∧(y.1=3↔p.2≠0)
  nd:o.Nodup
theorem li0:LI [P8] [(0,0)]:=by
  refine ⟨by simp,rfl,fun i x r g=>?_,fun i j x y r u _ g=>?_,fun i x g p q=>?_,fun p q=>?_,by simp⟩
  · have:=(List.getElem?_eq_some_iff.1 g).1; simp at this; omega
  · have:=(List.getElem?_eq_some_iff.1 g).1; simp at this; omega
  · have r:=(List.getElem?_eq_some_iff.1 g).1;simp only [List.length_singleton] at r;have:i=0:=by omega
    subst this;simp only [List.getElem?_cons_zero,Option.some.injEq] at g;subst g;right
    simpa [Xf,P8] using q
  · simp only [List.mem_singleton] at q;subst q;refine ⟨fun j y u A=>?_,by simp,by simp,by simp,P8,rfl,by simp [P8],by simp [P8]⟩;have:=(List.getElem?_eq_some_iff.1 A).1; simp at this; omega
theorem YY {l:List El}{x:El}{i:Nat}{y:El}(h:(l++[x])[i]? = some y):(i<l.length∧l[i]? = some y)∨(i=l.length∧y=x):=by
  by_cases g:i<l.length
  · rw [List.getElem?_append_left g] at h; exact .inl ⟨g,h⟩
  · have j:=(List.getElem?_eq_some_iff.1 h).1;simp at j;have:i=l.length:=by omega
    subst this;simp at h;exact .inr ⟨rfl,h.symm⟩
theorem M1l {l:List El}{x y:El}{i:Nat}(h:l[i]? = some y):(l++[x])[i]? = some y:=by
  rw [List.getElem?_append_left (List.getElem?_eq_some_iff.1 h).1]; exact h
theorem M2e.app {l:List El}{i:Nat}{x z:El}(h:M2e l i x):M2e (l++[z]) i x:=
  ⟨h.kind,h.nm,h.par,h.side,h.len,h.grade,h.curve,h.ret,h.nret,let ⟨y,h1,h2,h3⟩:=h.up; ⟨y,M1l h1,h2,h3⟩⟩
theorem LI.add {l:List El}{o:List (Int×Int)}{p:Int×Int}{x:El}(h:LI l (p::o))(hk:1≤x.1∧x.1≤4)(hn:x.2.1=wd l.length)(r:x.2.2.1=p.1∧x.2.2.2.1=p.2)
    (hl:1≤x.2.2.2.2.1∧x.2.2.2.2.1≤1000000) (hg:-10000≤x.2.2.2.2.2.1∧x.2.2.2.2.2.1≤10000) (hc:0≤x.2.2.2.2.2.2.1∧x.2.2.2.2.2.2.1≤5000) (hr:x.1=2→1≤x.2.2.2.2.2.2.2∧x.2.2.2.2.2.2.2≤1000000000) (ao:x.1≠2→x.2.2.2.2.2.2.2=0)
    {o':List (Int×Int)} (E:o'.Perm (Xf l.length x.1++o)):LI (l++[x]) o':=by
  obtain ⟨H,aD,aF,aG,y,F,av,au⟩:=h.op p List.mem_cons_self;have aE:p.1.toNat<l.length:=(List.getElem?_eq_some_iff.1 F).1;have an:p∉o:=(List.nodup_cons.1 h.nd).1;have O:∀ q∈Xf l.length x.1,q.1=(l.length:Int)∧0≤q.2∧q.2≤2∧(x.1≠4∧(x.1=3↔q.2≠0)):=by
    intro q hq;unfold Xf at hq
    split at hq
    · cases hq
    · split at hq
      · simp only [List.mem_cons,List.not_mem_nil,or_false] at hq;rcases hq with rfl | rfl <;> simp [*]
      · simp only [List.mem_cons,List.not_mem_nil,or_false] at hq;subst hq; simp [*]
  have ap:∀ q∈o,q.1.toNat<l.length:=fun q hq=>by
    obtain ⟨_,_,_,_,y,F,_⟩:=h.op q (List.mem_cons_of_mem _ hq);exact (List.getElem?_eq_some_iff.1 F).1
  refine ⟨by simp,M1l h.hd,fun i z D A=>?_,fun i j u v D B I hu hv=>?_,fun i z A q hq=>?_,fun q hq=>?_,?_⟩
  · rcases YY A with ⟨_,A⟩ | ⟨rfl,rfl⟩
    · exact (h.el i z D A).app
    · refine ⟨hk,hn,by omega,by omega,hl,hg,hc,hr,ao,y,M1l (by rw [r.1]; exact F),av,by rw [r.2]; exact au⟩
  · rcases YY hu with ⟨aB,J⟩ | ⟨rfl,rfl⟩
    · rcases YY hv with ⟨_,G⟩ | ⟨rfl,rfl⟩
      · exact h.un i j u v D B I J G
      · intro g; exact H i u D J ⟨g.1.trans r.1,g.2.trans r.2⟩
    · rcases YY hv with ⟨_,G⟩ | ⟨rfl,rfl⟩
      · intro g; exact H j v B G ⟨g.1.symm.trans r.1,g.2.symm.trans r.2⟩
      · exact absurd rfl I
  · rcases YY A with ⟨_,A⟩ | ⟨rfl,rfl⟩
    · rcases h.kid i z A q hq with ⟨j,v,h1,h2,h3⟩ | hm
      · exact .inl ⟨j,v,h1,M1l h2,h3⟩
      · cases hm with
        | head=>exact .inl ⟨l.length,x,by omega,by simp,r⟩
        | tail _ hm=>exact .inr (E.mem_iff.2 (List.mem_append_right _ hm))
    · exact .inr (E.mem_iff.2 (List.mem_append_left _ hq))
  · rcases List.mem_append.1 (E.mem_iff.1 hq) with hq | hq
    · obtain ⟨w1,w2,w3,w4,w5⟩:=O q hq;refine ⟨fun j v B hv g=>?_,by omega,w2,w3,x,by rw [w1]; simp,w4,w5⟩;rcases YY hv with ⟨aC,hv⟩ | ⟨rfl,rfl⟩
      · have:=(h.el j v B hv).par;omega
      · omega
    · obtain ⟨Y,Z,g3,g4,z,g5,g6⟩:=h.op q (List.mem_cons_of_mem _ hq);refine ⟨fun j v B hv g=>?_,Z,g3,g4,z,M1l g5,g6⟩;rcases YY hv with ⟨_,hv⟩ | ⟨rfl,rfl⟩
      · exact Y j v B hv g
      · apply an;have U:q.1=p.1:=g.1.symm.trans r.1;have X:q.2=p.2:=g.2.symm.trans r.2;have:q=p:=Prod.ext U X
        rwa [← this]
  · rw [E.nodup_iff];refine List.nodup_append.2 ⟨?_,(List.nodup_cons.1 h.nd).2,fun a ha b hb e=>?_⟩
    · unfold Xf
      split
      · exact List.nodup_nil
      · split <;> simp
    · subst e;have:=(O a ha).1;have:=ap a hb;omega
theorem LI.head {l:List El}{o:List (Int×Int)}{p:Int×Int}(h:LI l (p::o)):0≤p.1:=(h.op p List.mem_cons_self).2.1
theorem ZX (l:List El)(x:El):ntr (l++[x])=ntr l+if x.1=4 then 1 else 0:=by
  unfold ntr;rw [List.filter_append,List.length_append]
  by_cases g:x.1=4 <;> simp [g]
theorem M0z {ts:List Int}{k kind par side:Int}{n:Nat}(G:0≤k)(U:k<4000000000000000000)(X:1≤kind∧kind≤4) :
    M6 (Pv ts k kind (n:Int) par side) fun r=>(r.1.1=kind∧r.1.2.1=wd n∧r.1.2.2.1=par∧r.1.2.2.2.1=side∧(1≤r.1.2.2.2.2.1∧r.1.2.2.2.2.1≤1000000)∧(-10000≤r.1.2.2.2.2.2.1∧r.1.2.2.2.2.2.1≤10000)∧(0≤r.1.2.2.2.2.2.2.1∧r.1.2.2.2.2.2.2.1≤5000)∧
      (kind=2→1≤r.1.2.2.2.2.2.2.2∧r.1.2.2.2.2.2.2.2≤1000000000)∧(kind≠2→r.1.2.2.2.2.2.2.2=0))∧k≤r.2∧r.2≤k+5:=by
  unfold Pv;rw [Mah,M8];refine M6.bind (M6.pick G (by omega) (by simp) (by simp)) fun a ⟨u,H⟩=>?_
  refine M6.bind (M6.pick (by omega) (by omega) (by simp) (by simp)) fun b ⟨A,I⟩=>?_
  refine M6.bind (M6.pick (by omega) (by omega) (by simp) (by simp)) fun c ⟨B,J⟩=>?_
  have ha:1≤a.1∧a.1≤1000000:=by simp at u; omega
  have q:-10000≤b.1∧b.1≤10000:=by simp at A; omega
  have j:0≤c.1∧c.1≤5000:=by simp at B; omega
  refine M6.ite (fun h=>?_) (fun h=>?_)
  · rw [Mz] at h;refine M6.bind (M6.pick (by omega) (by omega) (by simp) (by simp)) fun d ⟨d1,d2⟩=>?_
    have hd:1≤d.1∧d.1≤1000000000:=by simp at d1; omega
    exact M6.pure ⟨⟨rfl,rfl,rfl,rfl,ha,q,j,fun _=>hd,fun g=>absurd h g⟩,by simp only; omega,by simp only; omega⟩
  · rw [Mz] at h;refine M6.ite (fun E=>?_) (fun E=>?_)
    · refine M6.bind (M6.pick (by omega) (by omega) (by simp) (by simp)) fun d ⟨d1,d2⟩=>?_
      refine M6.bind (M6.pick (by omega) (by omega) (by simp) (by simp)) fun e ⟨D,O⟩=>?_
      have hd:1≤d.1∧d.1≤1000000:=by simp at d1; omega
      have F:-10000≤e.1∧e.1≤10000:=by simp at D; omega
      exact M6.pure ⟨⟨rfl,rfl,rfl,rfl,hd,F,j,fun g=>absurd g h,fun _=>rfl⟩,by simp only; omega,by simp only; omega⟩
    · exact M6.pure ⟨⟨rfl,rfl,rfl,rfl,ha,q,j,fun g=>absurd g h,fun _=>rfl⟩,by simp only; omega,by simp only; omega⟩
theorem M9i {ts:List Int}{k:Int}{l:List El}{o:List (Int×Int)}{p q r:Int}(hk:0≤k)(am:k<3000000000000000000)(hr:0≤r)(ao:r≤2)(h:LI l ((p,q)::o))(hl:l.length≤1000) :
    M6 (loop (PS ts) (k,l,p,q,r)) fun u=>k≤u.1∧u.1≤k+12∧LI u.2.1 ((u.2.2.1,u.2.2.2)::o)∧u.2.1.length≤l.length+2∧ntr u.2.1=ntr l:=by
  refine M6.loop (fun s:Int×List El×Int×Int×Int=>0≤s.2.2.2.2∧s.2.2.2.2≤r∧k≤s.1∧s.1+6*s.2.2.2.2≤k+6*r∧LI s.2.1 ((s.2.2.1,s.2.2.2.1)::o)∧(s.2.1.length:Int)+s.2.2.2.2≤l.length+r∧ntr s.2.1=ntr l) (fun s=>s.2.2.2.2.toNat) ⟨hr,by simp,by simp,by simp,h,by simp,rfl⟩ (by simp only; omega) ?_;rintro ⟨k1,g,p1,q1,E⟩ ⟨i1,i2,D,i4,A,i6,B⟩;simp only at i1 i2 D i4 A i6 B;unfold PS;simp only;refine M6.ifd (fun hg=>?_) (fun hg=>?_)
  · refine M6.bind (M6.pick (by omega) (by omega) (by simp) (by simp)) fun a ⟨F,a2⟩=>?_
    have ha:a.1=1∨a.1=2:=by simp at F; omega
    refine M6.bind (M0z (n:=g.length) (by omega) (by omega) (by omega)) fun b ⟨⟨j,G,H,I,J,O,U,X,Y⟩,ai,aj⟩=>?_
    refine M6.guard (by simp; omega) (M6.pure ?_);have Z:M4 (((g++[(b.1.1,b.1.2.1,b.1.2.2.1,b.1.2.2.2.1,b.1.2.2.2.2.1,b.1.2.2.2.2.2.1,b.1.2.2.2.2.2.2.1,b.1.2.2.2.2.2.2.2)]).length:Int)-1)=(g.length:Int):=by
      rw [MD (by simp only [List.length_append,List.length_singleton]; omega) (by simp only [List.length_append,List.length_singleton]; omega),List.length_append,List.length_singleton]; omega
    have e2:M4 (E-1)=E-1:=MD (by omega) (by omega);rw [Z,e2];refine ⟨⟨by simp only; omega,by simp only; omega,by simp only; omega,by simp only; omega,?_,by simp only [List.length_append,List.length_singleton]; omega,?_⟩,by simp only; omega⟩
    · refine A.add (by simp only [j]; omega) G ⟨H,I⟩ J O U (by simp only [j]; exact X) (by simp only [j]; exact Y) ?_;have:Xf g.length b.1.1=[((g.length:Int),0)]:=by
        unfold Xf; rw [if_neg (by omega),if_neg (by omega)]
      rw [this]; exact List.Perm.refl _
    · simp only [ZX];rw [if_neg (by omega)]; exact B
  · refine M6.pure ⟨D,by simp only; omega,A,by simp only; omega,B⟩
theorem M5W {ts:List Int}{k n:Int}(hk:0≤k)(ax:k<2000000000000000000)(hn:0≤n)(az:n≤5) :
    M6 (Tb ts k n) fun r=>LI r.1 []∧r.1.length≤34∧1≤ntr r.1∧ntr r.1≤6∧k≤r.2∧r.2≤k+300:=by
  unfold Tb;rw [show Yd 0=some (wd 0) from rfl,M8,MD (n:=n+1) (by omega) (by omega)];refine M6.bind (M6.next hk (by omega) (by omega) (by omega)) fun s ⟨s1,s2,s3⟩=>?_
  refine M6.bind (P:=fun u:Int×List El=>LI u.2 []∧u.2.length≤34∧1≤ntr u.2∧ntr u.2≤6∧k≤u.1∧u.1≤k+300) ?_ (by rintro ⟨a,b⟩ h; exact M6.pure h);refine M6.loop (fun t:Int×List El×List (Int×Int)×Int=>LI t.2.1 t.2.2.1∧0≤t.2.2.2∧t.2.2.2≤5∧(t.2.1.length:Int)+3*(2*t.2.2.2+t.2.2.1.length)≤34∧(ntr t.2.1:Int)+t.2.2.1.length+t.2.2.2≤6∧1≤(ntr t.2.1:Int)+t.2.2.1.length∧k≤t.1∧t.1+20*(2*t.2.2.2+t.2.2.1.length)≤k+1+220) (fun t=>(2*t.2.2.2+t.2.2.1.length).toNat)
    ⟨li0,s1,by simp only; omega,by simp only [List.length_singleton]; omega,by simp only [List.length_singleton]; show (0:Int)+1+s.1≤6; omega,by simp only [List.length_singleton]; show (1:Int)≤0+1; omega,by simp only; omega,by simp only [List.length_singleton]; omega⟩ (by simp only [List.length_singleton]; omega) ?_
  rintro ⟨k1,l1,A,w1⟩ ⟨Y,i2,i3,Z,i5,i6,i7,i8⟩;simp only at Y i2 i3 Z i5 i6 i7 i8;unfold T2;simp only;refine M6.ifd (fun X=>?_) (fun X=>?_)
  · obtain ⟨⟨p,q⟩,o,rfl⟩:∃ a b,A=a::b:=by
      cases A with
      | nil=>simp at X
      | cons a b=>exact ⟨a,b,rfl⟩
    simp only [List.length_cons] at Z i5 i6 i8;rw [show idx ((p,q)::o) 0=some (p,q) from rfl,M8];refine M6.guard (by simp only [List.length_cons]; omega) ?_;refine M6.bind (M6.next (by omega) (by omega) (by omega) (by omega)) fun s' ⟨t1,t2,t3⟩=>?_
    simp only;refine M6.bind (M9i (by omega) (by omega) t1 (by omega) Y (by omega)) ?_;rintro ⟨k2,g,p2,q2⟩ ⟨c1,c2,O,c4,c5⟩;simp only at c1 c2 O c4 c5;have U:((p,q)::o).drop (Int.toNat 1)=o:=rfl;refine M6.ifd (fun hw=>?_) (fun hw=>?_)
    · refine M6.bind (M0z (n:=g.length) (by omega) (by omega) (by omega)) fun b ⟨⟨j,B,D,E,F,G,H,I,J⟩,af,ag⟩=>?_
      refine M6.guard (by simp; omega) (M6.guard (by rw [U]; simp; omega) (M6.pure ?_));have e1:M4 (((g++[(b.1.1,b.1.2.1,b.1.2.2.1,b.1.2.2.2.1,b.1.2.2.2.2.1,b.1.2.2.2.2.2.1,b.1.2.2.2.2.2.2.1,b.1.2.2.2.2.2.2.2)]).length:Int)-1)=(g.length:Int):=by
        rw [MD (by simp only [List.length_append,List.length_singleton]; omega) (by simp only [List.length_append,List.length_singleton]; omega),List.length_append,List.length_singleton]; omega
      have e2:M4 (w1-1)=w1-1:=MD (by omega) (by omega);rw [e1,e2,U];refine ⟨⟨?_,by simp only; omega,by simp only; omega,by simp only [List.length_append,List.length_cons,List.length_nil]; omega,?_,?_,by simp only; omega,by simp only [List.length_append,List.length_cons,List.length_nil]; omega⟩,by simp only [List.length_append,List.length_cons,List.length_nil]; omega⟩
      · refine O.add (by simp only [j]; omega) B ⟨D,E⟩ F G H (by simp only [j]; exact I) (by simp only [j]; exact J) ?_;have:Xf g.length b.1.1=[((g.length:Int),1),((g.length:Int),2)]:=by
          unfold Xf; rw [if_neg (by omega),if_pos (by omega)]
        rw [this];exact List.perm_append_comm
      · simp only [ZX,List.length_append,List.length_cons,List.length_nil];rw [if_neg (by omega)]; omega
      · simp only [ZX,List.length_append,List.length_cons,List.length_nil];rw [if_neg (by omega)]; omega
    · refine M6.bind (M0z (n:=g.length) (by omega) (by omega) (by omega)) fun b ⟨⟨j,B,D,E,F,G,H,I,J⟩,af,ag⟩=>?_
      refine M6.guard (by simp; omega) (M6.pure ?_);rw [U];refine ⟨⟨?_,by simp only; omega,by simp only; omega,by simp only [List.length_append,List.length_cons,List.length_nil]; omega,?_,?_,by simp only; omega,by simp only; omega⟩,by simp only [List.length_cons]; omega⟩
      · refine O.add (by simp only [j]; omega) B ⟨D,E⟩ F G H (by simp only [j]; exact I) (by simp only [j]; exact J) ?_;have:Xf g.length b.1.1=[]:=by
          unfold Xf; rw [if_pos (by omega)]
        rw [this]; exact List.Perm.refl _
      · simp only [ZX];rw [if_pos (by omega)]; omega
      · simp only [ZX];rw [if_pos (by omega)]; omega
  · have ho:A=[]:=by
      cases A with
      | nil=>rfl
      | cons a b=>exact absurd X (by simp only [List.length_cons]; omega)
    subst ho;simp only [List.length_nil] at Z i5 i6 i8;exact M6.pure ⟨Y,by simp only; omega,by simp only; omega,by simp only; omega,i7,by simp only; omega⟩
structure WF (l:List El):Prop where
  li:LI l []
  le:l.length≤34
  tr:ntr l≤6
theorem M5X {i:Nat}(g:i<40):XA (wd i)=some true∧M12 (wd i)=some true:=by
  have key:(List.range 40).all (fun i=>decide (XA (wd i)=some true∧M12 (wd i)=some true))=true:=by decide +kernel
  exact of_decide_eq_true (List.all_eq_true.1 key i (List.mem_range.2 g))
def cnt (l:List El) (i p:Nat):Nat:=((List.range i).filter fun j=>decide (0<j)&&decide ((l.getD j P8).2.2.1=(p:Int))).length
theorem M1m (l:List El)(i p:Nat):cnt l (i+1) p=cnt l i p+if 0<i∧(l.getD i P8).2.2.1=(p:Int) then 1 else 0:=by
  unfold cnt;rw [List.range_succ,List.filter_append,List.length_append]
  by_cases h:0<i∧(l.getD i P8).2.2.1=(p:Int)
  · rw [if_pos h];simp only [List.filter_cons,List.filter_nil,decide_eq_true h.1,decide_eq_true h.2,Bool.and_self,if_true,List.length_cons,List.length_nil]
  · rw [if_neg h]
    by_cases g:0<i
    · have:¬ (l.getD i P8).2.2.1=(p:Int):=fun j=>h ⟨g,j⟩
      simp only [List.filter_cons,List.filter_nil,decide_eq_false this,Bool.and_false,Bool.false_eq_true,if_false,List.length_nil]
    · simp [g]
theorem M2D {l:List El}{i:Nat}{x:El}(h:l[i]? = some x):l.getD i P8=x:=by simp [List.getD,h]
theorem Mbn {α:Type}{l:List α}{a b:α}(ha:a∈l)(g:b∈l)(h:a≠b):2≤l.length:=by
  match l with
  | []=>cases ha
  | [c]=>
    simp only [List.mem_singleton] at ha g;exact absurd (ha.trans g.symm) h
  | _::_::l=>simp
theorem M4O {l:List El}{j p:Nat}{y:El}(q:0<j)(g:l[j]? = some y)(r:y.2.2.1=(p:Int)):j∈(List.range l.length).filter fun j=>decide (0<j)&&decide ((l.getD j P8).2.2.1=(p:Int)):=by
  refine List.mem_filter.2 ⟨List.mem_range.2 (List.getElem?_eq_some_iff.1 g).1,?_⟩;rw [M2D g]; simp [q,r]
theorem LI.at0 {l:List El}{o:List (Int×Int)}(h:LI l o){x:El}(g:l[0]? = some x):x=P8:=by
  have:=h.hd; rw [g] at this; exact Option.some.inj this
theorem WF.one {l:List El}(h:WF l){i:Nat}{x:El}(A:l[i]? = some x)(u:x.1≠4):1≤cnt l l.length i:=by
  have q:=h.li.kid i x A;unfold Xf at q;rw [if_neg u] at q;have key:∀ s,((i:Int),s)∈(if x.1=3 then [((i:Int),1),((i:Int),2)] else [((i:Int),(0:Int))])→1≤cnt l l.length i:=fun s hs=>by
    rcases q _ hs with ⟨j,y,h1,r,g,_⟩ | hm
    · exact List.length_pos_of_mem (M4O h1 r g)
    · cases hm
  by_cases g:x.1=3
  · exact key 1 (by rw [if_pos g]; simp)
  · exact key 0 (by rw [if_neg g]; simp)
theorem WF.two {l:List El}(h:WF l){i:Nat}{x:El}(G:l[i]? = some x)(A:x.1=3):2≤cnt l l.length i:=by
  have g:=h.li.kid i x G;unfold Xf at g;rw [if_neg (by omega),if_pos A] at g;rcases g ((i:Int),1) (by simp) with ⟨j,y,h1,r,B,E⟩ | hm
  · rcases g ((i:Int),2) (by simp) with ⟨H,y',u,q,D,F⟩ | hm
    · refine Mbn (M4O h1 r B) (M4O u q D) (fun e=>?_);subst e;rw [r] at q;cases q;simp only at E F;omega
    · cases hm
  · cases hm
theorem WF.child {l:List El}(h:WF l){i:Nat}{x:El}(A:l[i]? = some x){s:Int}(r:x.1=3→s=1∨s=2)(q:x.1≠3→s=0)(u:x.1≠4):Mbm l ((i:Int),s):=by
  have g:=h.li.kid i x A;unfold Xf at g;rw [if_neg u] at g
  by_cases j:x.1=3
  · rw [if_pos j] at g;rcases g ((i:Int),s) (by rcases r j with rfl | rfl <;> simp) with h | h
    · exact h
    · cases h
  · rw [if_neg j] at g;rcases g ((i:Int),s) (by rw [q j]; simp) with h | h
    · exact h
    · cases h
theorem M9j {l:List El}{i:Nat}{x:El}(h:M2e l i x)(A:i<40):Vn x.1 x.2.1 x.2.2.1 x.2.2.2.1 x.2.2.2.2.1 x.2.2.2.2.2.1 x.2.2.2.2.2.2.1 x.2.2.2.2.2.2.2=some true:=by
  obtain ⟨I,J⟩:=h.kind;obtain ⟨G,H⟩:=h.side;obtain ⟨B,D⟩:=h.len;obtain ⟨r,u⟩:=h.grade;obtain ⟨j,q⟩:=h.curve;have fin:PM x.2.2.2.1 x.2.2.2.2.1 x.2.2.2.2.2.1 x.2.2.2.2.2.2.1 true=some true:=by
    unfold PM;rw [if_pos rfl,if_pos (Wj B),if_pos (Wj D),if_pos (Wj r),if_pos (Wj u),if_pos (Wj j),if_pos (Wj q),if_pos (Wj G),Wj H]
  unfold Vn;rw [if_neg (Z8 (by omega)),if_neg (Z8 (by omega)),h.nm,(M5X A).1,M8];simp only [Bool.not_true,Bool.false_eq_true,if_false];rw [if_neg (by rw [Mz]; omega)]
  by_cases g:x.1=2
  · obtain ⟨E,F⟩:=h.ret g;rw [if_pos (Mz.2 g),if_pos (Wj E),Wj F]; exact fin
  · rw [if_neg (by rw [Mz]; exact g),h.nret g]; exact fin
theorem M8b {l:List El}{i:Nat}{x:El}(h:M2e l i x)(j:i<40):Yh x.1 x.2.1 x.2.2.1 x.2.2.2.1 x.2.2.2.2.1 x.2.2.2.2.2.1 x.2.2.2.2.2.2.1 x.2.2.2.2.2.2.2=some true:=by
  obtain ⟨E,F⟩:=h.kind;obtain ⟨I,J⟩:=h.side;obtain ⟨G,H⟩:=h.len;obtain ⟨B,D⟩:=h.grade;obtain ⟨u,A⟩:=h.curve;unfold Yh;rw [h.nm,(M5X j).2,M8];simp only [Bool.not_true,Bool.false_eq_true,if_false];rw [if_neg (by rw [Mz]; omega),if_neg (Z8 (by omega)),if_neg (Z8 (by omega)),if_neg (Z8 (by omega)),if_neg (Z8 (by omega)),if_neg (Z8 (by omega)),if_neg (Z8 (by omega)),if_neg (Z8 (by omega)),if_neg (Z8 (by omega)),if_neg (Z8 (by omega)),if_neg (Z8 (by omega))]
  by_cases g:x.1=2
  · obtain ⟨q,r⟩:=h.ret g;rw [if_pos (Mz.2 g),if_pos (Wj q),Wj r]
  · rw [if_neg (by rw [Mz]; exact g),h.nret g]; rfl
theorem M2f:Vn P8.1 P8.2.1 P8.2.2.1 P8.2.2.2.1 P8.2.2.2.2.1 P8.2.2.2.2.2.1 P8.2.2.2.2.2.2.1 P8.2.2.2.2.2.2.2=some true∧Yh P8.1 P8.2.1 P8.2.2.1 P8.2.2.2.1 P8.2.2.2.2.1 P8.2.2.2.2.2.1 P8.2.2.2.2.2.2.1 P8.2.2.2.2.2.2.2=some true:=by decide +kernel
theorem Yt {l:List El}{i:Nat}{x:El}(h:l[i]? = some x):ntr (l.take (i+1))=ntr (l.take i)+if x.1=4 then 1 else 0:=by
  have j:=(List.getElem?_eq_some_iff.1 h).1;have g:=(List.getElem?_eq_some_iff.1 h).2;rw [List.take_succ_eq_append_getElem j,ZX,g]
theorem M6Y {l:List El}(i:Nat):ntr (l.take i)≤ntr l:=by
  unfold ntr;exact ((List.take_sublist i l).filter _).length_le
theorem M0A {K:Type} [BEq K] [LawfulBEq K] {l:List (K×Bool)}{k j:K}(h:j≠k)(g:(Mu l j).getD false=false):(Mu (P4 l k true) j).getD false=false:=by
  rw [Y1];rw [if_neg (by simpa using h)];exact g
theorem M4P {l:List El}(h:WF l):Vo l=some 0:=by
  have ar:=h.le;have h1:=h.li.h1
  suffices M6 (Vo l) (fun r=>r=0) by obtain ⟨v,h2,rfl⟩:=this; exact h2
  unfold Vo;refine M6.ifd (fun g=>by omega) (fun _=>?_);refine M6.ite (fun g=>by rw [Mz] at g; omega) (fun _=>?_);refine M6.guard (by omega) ?_;refine M6.bind (P:=fun d:Int⊕(List Int×Int)=>match d with | .inl _=>False | .inr (c,f)=>c.length=l.length∧(∀ p,p<l.length→c[p]? = some (cnt l l.length p:Int))∧f≤6) ?_ ?_
  · refine M6.st (S:=List (List UInt8×Bool)×List ((Int×Int)×Bool)×List Int×Int) (fun s c=>(s.1,s.2.1,s.2.2.1,s.2.2.2,c)) (fun t=>((t.1,t.2.1,t.2.2.1,t.2.2.2.1),t.2.2.2.2)) (fun _ _=>rfl) l.length (by omega)
      (fun i s=>(∀ j,i≤j→j<l.length→(Mu s.1 (wd j)).getD false=false)∧(∀ j x,i≤j→0<j→l[j]? = some x→(Mu s.2.1 (x.2.2.1,x.2.2.2.1)).getD false=false)∧s.2.2.1.length=l.length∧(∀ p,p<l.length→s.2.2.1[p]? = some (cnt l i p:Int))∧s.2.2.2=(ntr (l.take i):Int))
      (s0:=([],[],List.replicate (Int.toNat (l.length:Int)) 0,0)) 0 (Nat.zero_le _) ⟨fun _ _ _=>rfl,fun _ _ _ _ _=>rfl,by simp,fun p H=>by simp [H,cnt],rfl⟩ ?_
    rintro i ⟨d,e,c,f⟩ hi ⟨I,Y,Z,J,O⟩;simp only at I Y Z J O;unfold VT;simp only;refine M6.ifd (fun ac=>?_) (fun ac=>?_)
    · have q:i<l.length:=by omega
      obtain ⟨x,u⟩:∃ x,l[i]? = some x:=⟨_,List.getElem?_eq_getElem q⟩
      rw [Mc,u,M8]
      by_cases h0:i=0
      · subst h0;rw [h.li.at0 u,M2f.1,M8];refine M6.ite (fun g=>by cases g) (fun _=>?_);refine M6.ite (fun g=>absurd g (by decide)) (fun _=>?_);refine M6.ite (fun g=>by rw [show P8.2.1=wd 0 from rfl,I 0 (by omega) q] at g; cases g) (fun _=>?_);refine M6.ite (fun _=>M6.pure (.inl ?_)) (fun g=>absurd rfl g);refine ⟨(P4 d P8.2.1 true,e,c,f),q,by rw [R5 q (by omega)],fun j hj ab=>?_,fun j y hj U X=>Y j y (by omega) U X,Z,fun p H=>?_,?_⟩
        · exact M0A (fun E=>by have:=M6X (by omega) (by omega) E; omega) (I j (by omega) ab)
        · rw [M1m,if_neg (by omega)]; exact J p H
        · rw [Yt u,h.li.at0 u,if_neg (by decide)]; exact O
      · have F:=h.li.el i x (by omega) u;obtain ⟨p1,p2⟩:=F.par;obtain ⟨k1,k2⟩:=F.kind;obtain ⟨y,X,av,ae⟩:=F.up;have an:=(List.getElem?_eq_some_iff.1 X).1;rw [M9j F (by omega),M8];refine M6.ite (fun g=>by cases g) (fun _=>?_);refine M6.ite (fun g=>?_) (fun _=>?_)
        · rw [show (x.1==0)=false by simp; omega,show ((i:Int)==0)=false by simp; omega] at g; cases g
        refine M6.ite (fun g=>by rw [F.nm,I i (by omega) q] at g; cases g) (fun _=>?_);refine M6.ite (fun g=>by rw [Mz] at g; omega) (fun _=>?_);refine M6.ifd (fun g=>by omega) (fun _=>M6.ifd (fun g=>by omega) (fun _=>?_));have ao:idx l x.2.2.1=some y:=by unfold idx; rw [if_pos p1]; exact X
        rw [ao,M8];refine M6.ite (fun g=>by rw [Mz] at g; omega) (fun _=>?_);refine M6.ite (fun g=>?_) (fun _=>?_)
        · by_cases D:y.1=3
          · rw [show (y.1==3)=true from Mz.2 D,show (x.2.2.2.1 != 0)=true from MV.2 (ae.1 D)] at g; cases g
          · have A:x.2.2.2.1=0:=by
              by_cases A:x.2.2.2.1=0
              · exact A
              · exact absurd (ae.2 A) D
            rw [show (y.1==3)=false by simp [D],show (x.2.2.2.1 != 0)=false by simp [A]] at g; cases g
        refine M6.ite (fun g=>by rw [Y i x (by omega) (by omega) u] at g; cases g) (fun _=>?_);have ai:=J x.2.2.1.toNat an;have aj:idx c x.2.2.1=some (cnt l i x.2.2.1.toNat:Int):=by unfold idx; rw [if_pos p1]; exact ai
        rw [aj,M8,M8];have aq:(cnt l i x.2.2.1.toNat:Int)≤40:=by
          have:cnt l i x.2.2.1.toNat≤i:=by unfold cnt; exact Nat.le_trans (List.length_filter_le _ _) (by simp)
          omega
        have key:∀ f',f'=(ntr (l.take (i+1)):Int)→(∃ G,i<l.length∧(Mm.next (P4 d x.2.1 true,P4 e (x.2.2.1,x.2.2.2.1) true,c.set (Int.toNat x.2.2.1) (M4 ((cnt l i x.2.2.1.toNat:Int)+1)),f',M4 ((i:Int)+1)):Mm (List (List UInt8×Bool)×List ((Int×Int)×Bool)×List Int×Int×Int) (Int⊕(List Int×Int)))=.next ((fun (s:List (List UInt8×Bool)×List ((Int×Int)×Bool)×List Int×Int) (c:Int)=>(s.1,s.2.1,s.2.2.1,s.2.2.2,c)) G ((i:Int)+1))∧
            (∀ j,i+1≤j→j<l.length→(Mu G.1 (wd j)).getD false=false)∧(∀ j x,i+1≤j→0<j→l[j]? = some x→(Mu G.2.1 (x.2.2.1,x.2.2.2.1)).getD false=false)∧G.2.2.1.length=l.length∧(∀ p,p<l.length→G.2.2.1[p]? = some (cnt l (i+1) p:Int))∧G.2.2.2=(ntr (l.take (i+1)):Int)):=by
          intro f' ak;refine ⟨(P4 d x.2.1 true,P4 e (x.2.2.1,x.2.2.2.1) true,c.set (Int.toNat x.2.2.1) (M4 ((cnt l i x.2.2.1.toNat:Int)+1)),f'),q,by rw [R5 q (by omega)],fun j hj ab=>?_,fun j z hj U A=>?_,by simp [Z],fun p H=>?_,ak⟩
          · rw [F.nm];exact M0A (fun E=>by have:=M6X (by omega) (by omega) E; omega) (I j (by omega) ab)
          · exact M0A (fun E=>by
              have E:=Prod.ext_iff.1 E;exact h.li.un j i z x U (by omega) (by omega) A u E) (Y j z (by omega) U A)
          · rw [M1m,M2D u,List.getElem?_set]
            by_cases ad:x.2.2.1.toNat=p
            · subst ad;rw [if_pos rfl,if_pos (by omega),if_pos ⟨by omega,by omega⟩,MD (by omega) (by omega)];rfl
            · rw [if_neg ad,if_neg (by omega)]; exact J p H
        have au:(ntr (l.take i):Int)≤6:=by have:=M6Y (l:=l) i; have:=h.tr; omega
        refine M6.ite (fun B=>M6.pure (.inl (key _ ?_))) (fun B=>M6.pure (.inl (key _ ?_)))
        · rw [Mz] at B;rw [Yt u,if_pos B,O,MD (by omega) (by omega)]; rfl
        · rw [Mz] at B;rw [Yt u,if_neg B]; exact O
    · have:i=l.length:=by omega
      subst this;refine M6.pure (.inr ⟨_,rfl,Z,J,?_⟩);rw [O,List.take_length];have:=h.tr; omega
  · rintro (z | ⟨c,f⟩) A
    · exact A.elim
    · obtain ⟨z1,z2,z3⟩:=A;simp only;refine M6.bind (P:=fun d:Unit⊕Unit=>d=.inr ()) ?_ ?_
      · refine M6.count l.length (by omega) (fun i hi=>?_);unfold VS;simp only;refine M6.ifd (fun ac=>?_) (fun ac=>M6.pure (.inr ⟨_,rfl,rfl⟩));have q:i<l.length:=by omega
        obtain ⟨x,u⟩:∃ x,l[i]? = some x:=⟨_,List.getElem?_eq_getElem q⟩
        rw [Mc,u,M8,Mc,z2 i q,M8,M8];refine M6.ite (fun D=>?_) (fun D=>?_)
        · rw [Mz] at D;have:=h.two u D;refine M6.ifd (fun g=>by omega) (fun _=>?_);refine M6.ite (fun _=>M6.ifd (fun g=>by omega) (fun _=>M6.pure (.inl ⟨q,by rw [R5 q (by omega)]⟩))) (fun g=>by rw [MV] at g; omega)
        · refine M6.ite (fun B=>?_) (fun B=>M6.pure (.inl ⟨q,by rw [R5 q (by omega)]⟩));rw [MV] at B;have:=h.one u B;exact M6.ifd (fun g=>by omega) (fun _=>M6.pure (.inl ⟨q,by rw [R5 q (by omega)]⟩))
      · rintro d rfl;exact M6.ifd (fun g=>by omega) (fun _=>M6.pure rfl)
theorem Mai {l:List El}(h:WF l){i:Nat}(J:i<l.length):Zs l (i:Int)=some 0:=by
  have ad:=h.le
  suffices M6 (Zs l (i:Int)) (fun r=>r=0) by obtain ⟨v,B,rfl⟩:=this; exact B
  unfold Zs;obtain ⟨x,q⟩:∃ x,l[i]? = some x:=⟨_,List.getElem?_eq_getElem J⟩
  have Y:x.2.1=wd i:=by
    by_cases A:i=0
    · subst A; rw [h.li.at0 q]; rfl
    · exact (h.li.el i x (by omega) q).nm
  have H:loop (VE l (i:Int) x) 0=some (.inr ()):=by
    suffices M6 (loop (VE l (i:Int) x) 0) (fun r=>r=.inr ()) by obtain ⟨v,B,rfl⟩:=this; exact B
    refine M6.count i (by omega) (fun j O=>?_);unfold VE;simp only;refine M6.ifd (fun X=>?_) (fun _=>M6.pure (.inr ⟨_,rfl,rfl⟩));have G:j<i:=by omega
    obtain ⟨y,D⟩:∃ y,l[j]? = some y:=⟨_,List.getElem?_eq_getElem (by omega)⟩
    have ab:y.2.1=wd j:=by
      by_cases A:j=0
      · subst A; rw [h.li.at0 D]; rfl
      · exact (h.li.el j y (by omega) D).nm
    rw [Mc,D,M8];refine M6.ite (fun g=>?_) (fun _=>M6.pure (.inl ⟨G,by rw [R5 G (by omega)]⟩));rw [ab,Y] at g;have:=M6X (by omega) (by omega) (eq_of_beq g);omega
  rw [Mc,q,M8]
  by_cases A:i=0
  · subst A;rw [h.li.at0 q,M2f.2,M8];rw [h.li.at0 q] at H;refine M6.ite (fun g=>by cases g) (fun _=>M6.ite (fun g=>absurd g (by decide)) (fun _=>?_));rw [H,M8];exact M6.pure rfl
  · have F:=h.li.el i x (by omega) q;obtain ⟨p1,p2⟩:=F.par;obtain ⟨k1,k2⟩:=F.kind;obtain ⟨y,D,ae,I⟩:=F.up;rw [M8b F (by omega),M8];refine M6.ite (fun g=>by cases g) (fun _=>M6.ite (fun g=>?_) (fun _=>?_))
    · rw [show (x.1==0)=false by simp; omega,show ((i:Int)==0)=false by simp; omega] at g; cases g
    rw [H,M8];simp only;refine M6.ite (fun g=>by rw [Mz] at g; omega) (fun _=>M6.ifd (fun g=>by omega) (fun _=>M6.ifd (fun g=>by omega) (fun _=>?_)));have aa:idx l x.2.2.1=some y:=by unfold idx; rw [if_pos p1]; exact D
    rw [aa,M8];refine M6.ite (fun g=>by rw [Mz] at g; omega) (fun _=>M6.ite (fun g=>?_) (fun _=>?_))
    · by_cases E:y.1=3
      · rw [show (y.1==3)=true from Mz.2 E,show (x.2.2.2.1==0)=false by simp [I.1 E]] at g; cases g
      · have u:x.2.2.2.1=0:=by
          by_cases u:x.2.2.2.1=0
          · exact u
          · exact absurd (I.2 u) E
        rw [show (y.1==3)=false by simp [E],show (x.2.2.2.1==0)=true from Mz.2 u] at g; cases g
    refine M6.bind (P:=fun d:Unit⊕Unit=>d=.inr ()) ?_ (by rintro d rfl; exact M6.pure rfl);refine M6.loop (fun s=>∃ j:Nat,s=(j:Int)∧1≤j∧j≤i) (fun s=>i-s.toNat) ⟨1,rfl,by omega,by omega⟩ (by simp; omega) ?_;rintro s ⟨j,rfl,U,O⟩;unfold YH;simp only;refine M6.ifd (fun X=>?_) (fun _=>M6.pure rfl);have G:j<i:=by omega
    obtain ⟨z,u⟩:∃ z,l[j]? = some z:=⟨_,List.getElem?_eq_getElem (by omega)⟩
    have Z:=h.li.un j i z x U (by omega) (by omega) u q;rw [Mc,u,M8,M8,R5 G (by omega)];have nx:M0c (fun s=>∃ j:Nat,s=(j:Int)∧1≤j∧j≤i) (fun s=>i-s.toNat) (i-((j:Int)).toNat) (fun d:Unit⊕Unit=>d=.inr ()) (.next ((j:Int)+1)):=⟨⟨j+1,rfl,by omega,by omega⟩,by simp only; omega⟩
    exact M6.ite (fun h1=>M6.ite (fun B=>absurd ⟨Mz.1 h1,Mz.1 B⟩ Z) (fun _=>M6.pure nx)) (fun _=>M6.pure nx)
theorem M0d {l:List El}(h:WF l):WI l=some 0:=by
  have Z:=h.le;have h1:=h.li.h1
  suffices M6 (WI l) (fun r=>r=0) by obtain ⟨v,J,rfl⟩:=this; exact J
  unfold WI;refine M6.ifd (fun g=>by omega) (fun _=>?_);refine M6.ite (fun g=>by rw [Mz] at g; omega) (fun _=>?_);refine M6.bind (P:=fun d:Int⊕Int=>match d with | .inl _=>False | .inr f=>f≤6) ?_ ?_
  · refine M6.st2 l.length (by omega) (fun i c=>c=(ntr (l.take i):Int)) (by rfl) (fun i c O g=>?_);unfold YI;simp only;have aa:(ntr (l.take i):Int)≤6:=by have:=M6Y (l:=l) i; have:=h.tr; omega
    refine M6.ifd (fun E=>?_) (fun _=>M6.pure (.inr ⟨_,rfl,by omega⟩));have q:i<l.length:=by omega
    obtain ⟨x,A⟩:∃ x,l[i]? = some x:=⟨_,List.getElem?_eq_getElem q⟩
    rw [Mai h q,M8];refine M6.ite (fun g=>by cases g) (fun _=>?_);rw [Mc,A,M8,R5 q (by omega)];refine M6.ite (fun u=>M6.pure (.inl ⟨_,q,rfl,?_⟩)) (fun u=>M6.pure (.inl ⟨_,q,rfl,?_⟩))
    · rw [Mz] at u;rw [Yt A,if_pos u,g,MD (by omega) (by omega)]; rfl
    · rw [Mz] at u;rw [Yt A,if_neg u]; exact g
  · rintro (z | f) I
    · exact I.elim
    · simp only;refine M6.bind (P:=fun d:Unit⊕Unit=>d=.inr ()) ?_ (by rintro d rfl; exact M6.ifd (fun g=>by simp only at I; omega) (fun _=>M6.pure rfl));refine M6.count l.length (by omega) (fun i O=>?_);unfold XP;simp only;refine M6.ifd (fun E=>?_) (fun E=>M6.pure (.inr ⟨_,rfl,rfl⟩));have q:i<l.length:=by omega
      obtain ⟨x,A⟩:∃ x,l[i]? = some x:=⟨_,List.getElem?_eq_getElem q⟩
      refine M6.bind (P:=fun n:Int=>n=(cnt l l.length i:Int)) ?_ ?_
      · refine M6.st (fun (s:Int) c=>(s,c)) (fun t=>t) (fun _ _=>rfl) l.length (by omega) (fun j n=>n=(cnt l j i:Int)∧1≤j) 1 h1 ⟨by simp [cnt],by omega⟩ (fun j n X B=>?_);unfold XO;simp only;obtain ⟨B,Y⟩:=B;refine M6.ifd (fun E=>?_) (fun E=>M6.pure (.inr ⟨_,rfl,?_⟩))
        · have D:j<l.length:=by omega
          obtain ⟨y,G⟩:∃ y,l[j]? = some y:=⟨_,List.getElem?_eq_getElem D⟩
          have U:(cnt l j i:Int)≤40:=by
            have:cnt l j i≤j:=by unfold cnt; exact Nat.le_trans (List.length_filter_le _ _) (by simp)
            omega
          rw [Mc,G,M8,R5 D (by omega)];refine M6.ite (fun g=>M6.pure (.inl ⟨_,D,rfl,?_,by omega⟩)) (fun g=>M6.pure (.inl ⟨_,D,rfl,?_,by omega⟩))
          · rw [Mz] at g;rw [M1m,M2D G,if_pos ⟨by omega,g⟩,B,MD (by omega) (by omega)]; rfl
          · rw [Mz] at g;rw [M1m,M2D G,if_neg (fun F=>g F.2)]; exact B
        · have:j=l.length:=by omega
          subst this; exact B
      · rintro n rfl;rw [Mc,A,M8,R5 q (by omega)];refine M6.ite (fun H=>?_) (fun H=>M6.ite (fun u=>?_) (fun u=>?_))
        · have:=h.two A (Mz.1 H);exact M6.ifd (fun g=>by omega) (fun _=>M6.pure (.inl ⟨q,rfl⟩))
        · exact M6.ifd (fun g=>by omega) (fun _=>M6.pure (.inl ⟨q,rfl⟩))
        · have:=h.one A (fun F=>u (Mz.2 F));exact M6.ifd (fun g=>by omega) (fun _=>M6.pure (.inl ⟨q,rfl⟩))
def fr (n:Int):Int:=(RG n).getD 0
def cr (n:Int):Int:=if fr n*fr n<n then fr n+1 else fr n
theorem ZY {n:Int}:Py n=some (decide (-1000000000000≤n∧n≤1000000000000)):=by
  unfold Py
  by_cases h:n≥-1000000000000
  · rw [if_pos (Wj h)]
    congr 1
    rw [decide_eq_decide];omega
  · rw [if_neg (Z8 h)]
    congr 1
    symm
    rw [decide_eq_false_iff_not];omega
theorem M9k {a b:Int}:Vq a b=some (decide (a≤b∧-1000000000000≤a∧a≤1000000000000∧-1000000000000≤b∧b≤1000000000000)):=by
  unfold Vq
  by_cases h:a≤b
  · rw [if_pos (Wj h),ZY,M8]
    by_cases g:-1000000000000≤a∧a≤1000000000000
    · rw [if_pos (Wj g),ZY,M8]
      congr 1
      rw [decide_eq_decide];omega
    · rw [if_neg (Z8 g)]
      congr 1
      symm
      rw [decide_eq_false_iff_not];omega
  · rw [if_neg (Z8 h)]
    congr 1
    symm
    rw [decide_eq_false_iff_not];omega
abbrev Pc:Type:=Int×Int×Int×Int×Int
def Maj (p:Pc):Prop:=(0≤p.1∧p.1≤127)∧(1≤p.2.1∧p.2.1≤1000000)∧(-10000≤p.2.2.1∧p.2.2.1≤10000)∧(0≤p.2.2.2.1∧p.2.2.2.1≤5000)∧(0≤p.2.2.2.2∧p.2.2.2.2≤1000000000)
def M9l (l:List Pc):Prop:=1≤l.length∧l.length≤128∧∀ p∈l,Maj p
theorem M7B {a b c:Int}:Rh a b c=some (decide (b≤a∧a≤c)):=by
  unfold Rh
  by_cases h:a≥b
  · rw [if_pos (Wj h)]
    congr 1
    rw [decide_eq_decide];omega
  · rw [if_neg (Z8 h)]
    congr 1
    symm
    rw [decide_eq_false_iff_not];omega
def nret (l:List Pc):Nat:=(l.filter fun p=>decide (p.2.2.2.2>0)).length
theorem M4Q (l:List Pc):nret l≤l.length:=List.length_filter_le _ _
theorem ZZ (l:List Pc)(i:Nat)(p:Pc)(h:l[i]? = some p):nret (l.take (i+1))=nret (l.take i)+if p.2.2.2.2>0 then 1 else 0:=by
  have q:=(List.getElem?_eq_some_iff.1 h).1;have j:=(List.getElem?_eq_some_iff.1 h).2;unfold nret;rw [List.take_succ_eq_append_getElem q,List.filter_append,List.length_append,j]
  by_cases g:p.2.2.2.2>0
  · rw [if_pos g]; simp [g]
  · rw [if_neg g]; simp [g]
theorem M4R (l:List Pc)(i:Nat)(p:Pc)(h:l[i]? = some p)(g:p.2.2.2.2>0):nret (l.take i)<nret l:=by
  have h1:=ZZ l i p h;rw [if_pos g] at h1;have j:nret (l.take (i+1))≤nret l:=by
    unfold nret;have:=List.Sublist.filter (fun p:Pc=>decide (p.2.2.2.2>0)) (List.take_sublist (i+1) l);exact this.length_le
  omega
theorem M5Y (step:Int×Int→Option (Mm (Int×Int) Int))(l:List Pc)(D:l.length<4000000000000000000)
    (hs:∀ n i:Int,step (n,i)=if decide (i<(l.length:Int))=true then (idx l i).bind fun e=>if decide (e.2.2.2.2>0)=true then some (.next (M4 (n+1),M4 (i+1))) else some (.next (n,M4 (i+1))) else some (.done n)) :
    loop step (0,0)=some (nret l:Int):=by
  obtain ⟨d,hd,r⟩:=M5V (step:=step) (fun s=>∃ i:Nat,s.2=(i:Int)∧i≤l.length∧s.1=(nret (l.take i):Int)) (fun s=>l.length-s.2.toNat) (fun d=>d=(nret l:Int)) (by
    rintro ⟨n,i⟩ ⟨i,rfl,B,q⟩;simp only at q;subst q;rw [hs]
    by_cases h:i<l.length
    · have u:=M4Q (l.take i);have A:=List.length_take_le i l;rw [if_pos (Wj (by omega)),Mc,List.getElem?_eq_getElem h,M8,MD (n:=(i:Int)+1) (by omega) (by omega)];have j:=ZZ l i l[i] (List.getElem?_eq_getElem h)
      by_cases g:l[i].2.2.2.2>0
      · rw [if_pos (Wj g),MD (by omega) (by omega)];rw [if_pos g] at j;exact .inl ⟨_,rfl,⟨i+1,by simp,by omega,by simp only [j]; simp⟩,by simp only; omega⟩
      · rw [if_neg (Z8 g)];rw [if_neg g] at j;exact .inl ⟨_,rfl,⟨i+1,by simp,by omega,by simp only [j]; simp⟩,by simp only; omega⟩
    · rw [if_neg (Z8 (by omega))];refine .inr ⟨_,rfl,?_⟩;rw [List.take_of_length_le (by omega)]) (0,0) ⟨0,rfl,by omega,by simp [nret]⟩ (by simp; omega)
  rw [hd,r]
theorem M4S (l:List Pc)(g:l.length<4000000000000000000):Tc l=some (nret l:Int):=by
  unfold Tc;rw [M5Y (Tu l) l g (fun n i=>rfl),M8]
theorem M3t (l:List Pc)(g:l.length<4000000000000000000):W8 l=some (nret l:Int):=by
  unfold W8;rw [M5Y (VX l) l g (fun n i=>rfl),M8]
theorem M6.triv {α:Type}(v:α):M6 (some v) (fun _=>True):=⟨v,rfl,trivial⟩
theorem M9m {b a:Int}(h:a≠0):M6 (M13 b a) (fun _=>True):=by
  unfold M13;exact M6.guard h (M6.guard h (M6.ite (fun _=>M6.ite (fun _=>M6.triv _) (fun _=>M6.triv _)) (fun _=>M6.triv _)))
theorem M9n {b a:Int}(h:a≠0):M6 (M37 b a) (fun _=>True):=by
  unfold M37;exact M6.guard h (M6.guard h (M6.ite (fun _=>M6.ite (fun _=>M6.triv _) (fun _=>M6.triv _)) (fun _=>M6.triv _)))
theorem YZ (n:Int):M6 (Ti n) (fun _=>True):=by
  unfold Ti;refine M6.bind (P:=fun _=>True) ?_ (fun v _=>M6.triv _);refine M6.loop (fun s:Int×Int=>0≤s.1∧s.1≤s.2∧s.2≤1073741824) (fun s=>(s.2-s.1).toNat) ⟨by simp,by simp,by simp⟩ (by simp) ?_;rintro ⟨a,b⟩ ⟨h1,q,r⟩;simp only at h1 q r;unfold Wo;simp only;refine M6.ifd (fun u=>?_) (fun _=>M6.pure trivial);have g:M4 (Int.tdiv (M4 ((M4 (a+b))+1)) 2)=(a+b+1) / 2:=by
    rw [MD (n:=a+b) (by omega) (by omega),MD (n:=a+b+1) (by omega) (by omega),Int.tdiv_eq_ediv_of_nonneg (by omega),MD (by omega) (by omega)]
  rw [g];have j:M4 ((a+b+1) / 2-1)=(a+b+1) / 2-1:=MD (by omega) (by omega);rw [j];exact M6.ite (fun _=>M6.pure ⟨⟨by simp only; omega,by simp only; omega,by simp only; omega⟩,by simp only; omega⟩) (fun _=>M6.pure ⟨⟨by simp only; omega,by simp only; omega,by simp only; omega⟩,by simp only; omega⟩)
theorem M3u (n:Int):M6 (X3 n) (fun _=>True):=by
  unfold X3;exact M6.bind (YZ n) (fun v _=>M6.ite (fun _=>M6.triv _) (fun _=>M6.triv _))
theorem M3v {d h e i a f j b c l m:Int}{g:Bool}(q:M4 (b+c)≠0)(r:g=false→M4 (l+m)≠0):M6 (VF d h e i a f j b c l m g) (fun _=>True):=by
  unfold VF;refine M6.guard q (M6.ite (fun u=>?_) (fun _=>M6.triv _));exact M6.bind (M9n (r (by simpa using u))) (fun v _=>M6.triv _)
theorem M3w {e f a g h b i j k:Int}{l:Bool}(q:M4 (j+k)≠0):M6 (VG e f a g h b i j k l) (fun _=>True):=by
  unfold VG;refine M6.bind (YZ _) (fun c _=>M6.bind (YZ _) (fun d _=>M6.ite (fun _=>M3v q (fun h=>by cases h)) (fun _=>M3v q (fun r=>?_))));intro u; rw [u] at r; cases r
theorem M9o {h i d a j b k l m o p:Int}{n s:Bool}:M6 (M17 h i d a n s j b k l m o p) (fun _=>True):=by
  unfold M17;have u:∀ a b c d e f,M6 (M16 a b c d e f) (fun _=>True):=fun a b c d e f=>M6.triv _
  refine M6.bind (u _ _ _ _ _ _) (fun r _=>M6.bind (M9m (by omega)) (fun e _=>M6.bind (u _ _ _ _ _ _) (fun q _=>M6.bind (M9n (by omega)) (fun c _=>M6.ite (fun _=>M6.triv _) (fun _=>?_)))));refine M6.bind (M3u _) (fun f _=>M6.bind (M3u _) (fun g _=>M6.ite (fun _=>M6.triv _) (fun D=>?_)));have A:M4 (f+g)≠0:=fun B=>D (Mz.2 B)
  exact M6.ite (fun _=>M3w A) (fun _=>M3w A)
theorem M9p {l:List El}(h:WF l):∀ (n i:Nat),i<l.length→i+1<n→M6 (Va n l (i:Int)) fun w=>∃ w',w=0::w'∧w'.length≤i∧(i≠0→w'≠[])∧∀ x∈w',0<x∧x<(l.length:Int)
  | 0,i,_,hn=>absurd hn (Nat.not_lt_zero _)
  | n+1,i,hi,hn=>by
    have D:=h.le;show M6 (WJ (Va n) l (i:Int)) _
    unfold WJ;refine M6.ifd (fun B=>by omega) (fun _=>?_);obtain ⟨x,g⟩:∃ x,l[i]? = some x:=⟨_,List.getElem?_eq_getElem hi⟩
    rw [Mc,g,M8]
    by_cases j:i=0
    · subst j;rw [h.li.at0 g];obtain ⟨m,rfl⟩:∃ m,n=m+1:=⟨n-1,by omega⟩
      have e:Va (m+1) l P8.2.2.1=some []:=by
        show WJ (Va m) l (-1)=some []
        unfold WJ;rw [if_pos (Wj (by omega))]
      rw [e,M8];refine M6.guard (by simp) (M6.pure ⟨[],rfl,by simp,fun r=>absurd rfl r,fun _ u=>by cases u⟩)
    · have q:=h.li.el i x (by omega) g;obtain ⟨E,F⟩:=q.par;have e:x.2.2.1=((x.2.2.1.toNat:Nat):Int):=by omega
      rw [e];refine M6.bind (M9p h n x.2.2.1.toNat (by omega) (by omega)) ?_;rintro w ⟨w',rfl,G,H,A⟩;refine M6.guard (by simp; omega) (M6.pure ⟨w'++[(i:Int)],rfl,by simp; omega,fun _=>by simp,fun y hy=>?_⟩);rcases List.mem_append.1 hy with hy | hy
      · exact A y hy
      · rw [List.mem_singleton] at hy;subst hy; omega
def PcG (l:List El) (p:Pc):Prop:=(0<p.1∧p.1<(l.length:Int))∧Maj p
theorem M2e.pc {l:List El}{i:Nat}{x:El}(h:M2e l i x)(F:0<i)(G:i<l.length)(H:l.length≤34):PcG l ((i:Int),x.2.2.2.2.1,x.2.2.2.2.2.1,x.2.2.2.2.2.2.1,x.2.2.2.2.2.2.2):=by
  obtain ⟨D,E⟩:=h.len;obtain ⟨r,u⟩:=h.grade;obtain ⟨j,q⟩:=h.curve;have B:=h.ret;have A:=h.nret;refine ⟨by simp only; omega,by simp only; omega,⟨D,E⟩,⟨r,u⟩,⟨j,q⟩,?_⟩;simp only
  by_cases g:x.1=2
  · have:=B g; omega
  · have:=A g; omega
theorem M9q {l:List El}(h:WF l)(t:Int):M6 (M15 l t) fun r=>(∀ p∈r.1,PcG l p)∧r.1.length≤34:=by
  have F:=h.le;have q:(∀ p∈([]:List Pc),PcG l p)∧([]:List Pc).length≤34:=⟨fun p hp=>(by cases hp),by simp⟩
  unfold M15;rw [M0d h,M8];refine M6.ite (fun g=>by cases g) (fun _=>?_);refine M6.ifd (fun _=>M6.pure q) (fun h1=>M6.ifd (fun _=>M6.pure q) (fun U=>?_));refine M6.bind (M6.idx (by omega) (by omega)) (fun y _=>M6.ite (fun _=>M6.pure q) (fun _=>?_));have e:t=((t.toNat:Nat):Int):=by omega
  have B:=M9p h 100 t.toNat (by omega) (by omega);rw [← e] at B;refine M6.bind B ?_;rintro w ⟨w',rfl,Y,Z,I⟩;refine M6.bind (P:=fun c:List Pc=>(∀ p∈c,PcG l p)∧c.length≤34) ?_ (fun c g=>M6.pure g);refine M6.st (fun (s:List Pc) c=>(s,c)) (fun t=>t) (fun _ _=>rfl) (w'.length+1) (by omega) (fun i c=>(∀ p∈c,PcG l p)∧c.length<i∧1≤i) 1 (by omega) (s0:=[]) ⟨fun p hp=>(by cases hp),by simp,by omega⟩ (fun i c X g=>?_);obtain ⟨u,J,O⟩:=g;unfold YJ;simp only;refine M6.ifd (fun G=>?_) (fun _=>M6.pure (.inr ⟨_,rfl,u,by omega⟩));simp only [List.length_cons] at G;have A:i<w'.length+1:=by omega
  obtain ⟨j,rfl⟩:∃ j,i=j+1:=⟨i-1,by omega⟩
  obtain ⟨z,E⟩:∃ z,w'[j]? = some z:=⟨_,List.getElem?_eq_getElem (by omega)⟩
  obtain ⟨z1,z2⟩:=I z (List.mem_of_getElem? E);rw [Mc,List.getElem?_cons_succ,E,M8,R5 A (by omega)];obtain ⟨x,D⟩:∃ x,l[z.toNat]? = some x:=⟨_,List.getElem?_eq_getElem (by omega)⟩
  have H:idx l z=some x:=by unfold idx; rw [if_pos (by omega)]; exact D
  rw [H,M8,M8];refine M6.guard (by simp; omega) (M6.pure (.inl ⟨_,A,rfl,fun p hp=>?_,by simp; omega,by omega⟩));rcases List.mem_append.1 hp with hp | hp
  · exact u p hp
  · rw [List.mem_singleton] at hp;subst hp;have:=(h.li.el z.toNat x (by omega) D).pc (by omega) (by omega) F
    rwa [show ((z.toNat:Nat):Int)=z by omega] at this
theorem M0B (a:List Pc):M6 (WK a) fun e=>e=0→M9l a:=by
  unfold WK;refine M6.ifd (fun _=>M6.pure (fun g=>by cases g)) (fun h1=>M6.ifd (fun _=>M6.pure (fun g=>by cases g)) (fun B=>?_));refine M6.bind (P:=fun d:Unit⊕Unit=>d=.inr ()→∀ p∈a,Maj p) ?_ ?_
  · refine M6.loop (fun s=>∃ i:Nat,s=(i:Int)∧i≤a.length∧∀ p∈a.take i,Maj p) (fun s=>a.length-s.toNat) ⟨0,rfl,by omega,fun p hp=>by simp at hp⟩ (by simp; omega) ?_;rintro s ⟨i,rfl,D,q⟩;unfold YK;simp only;refine M6.ifd (fun u=>?_) (fun u=>M6.pure (fun _ p hp=>q p (by rw [List.take_of_length_le (by omega)]; exact hp)));have j:i<a.length:=by omega
    obtain ⟨x,r⟩:∃ x,a[i]? = some x:=⟨_,List.getElem?_eq_getElem j⟩
    rw [Mc,r,M8,R5 j (by omega)];refine M6.ifd (fun _=>M6.pure (fun g=>by cases g)) (fun E=>M6.ifd (fun _=>M6.pure (fun g=>by cases g)) (fun G=>M6.ifd (fun _=>M6.pure (fun g=>by cases g)) (fun H=>M6.ifd (fun _=>M6.pure (fun g=>by cases g)) (fun I=>M6.ifd (fun _=>M6.pure (fun g=>by cases g)) (fun J=>?_)))));refine M6.ifd (fun _=>M6.pure (fun g=>by cases g)) (fun O=>M6.ifd (fun _=>M6.pure (fun g=>by cases g)) (fun U=>M6.ifd (fun _=>M6.pure (fun g=>by cases g)) (fun X=>M6.ifd (fun _=>M6.pure (fun g=>by cases g)) (fun Y=>M6.ifd (fun _=>M6.pure (fun g=>by cases g)) (fun F=>M6.pure ?_)))));refine ⟨⟨i+1,rfl,by omega,fun p hp=>?_⟩,by simp only; omega⟩;rw [List.take_succ_eq_append_getElem j] at hp;rcases List.mem_append.1 hp with hp | hp
    · exact q p hp
    · rw [List.mem_singleton,(List.getElem?_eq_some_iff.1 r).2] at hp;subst hp;exact ⟨by omega,by omega,by omega,by omega,by omega⟩
  · rintro (z | z) A
    · exact M6.pure (fun g=>by cases g)
    · exact M6.pure (fun _=>⟨by omega,by omega,A rfl⟩)
theorem M4T (g:List Int)(h:g.length<4000000000000000000):M6 (XC g) (fun _=>True):=by
  unfold XC;refine M6.bind (P:=fun _=>True) ?_ (by rintro (z | z) _ <;> exact M6.triv _);refine M6.count g.length h (fun i u=>?_);unfold X4;simp only;refine M6.ifd (fun q=>?_) (fun q=>M6.pure (.inr ⟨_,rfl,trivial⟩));have j:i<g.length:=by omega
  obtain ⟨x,r⟩:∃ x,g[i]? = some x:=⟨_,List.getElem?_eq_getElem j⟩
  rw [Mc,r,M8,M8,R5 j h];exact M6.ifd (fun _=>M6.pure (.inr ⟨_,rfl,trivial⟩)) (fun _=>M6.ifd (fun _=>M6.pure (.inr ⟨_,rfl,trivial⟩)) (fun _=>M6.pure (.inl ⟨j,rfl⟩)))
theorem M4b (a b:Int):M6 (Yk a b) (fun _=>True):=by
  unfold Yk;exact M6.ifd (fun _=>M6.ifd (fun _=>M6.triv _) (fun _=>M6.triv _)) (fun _=>M6.triv _)
theorem M6Z (p:List Pc)(c d:Int)(cl:List (Int×Int))(e:Int)(q:List Int)(G:p.length<4000000000000000000)(u:cl.length<4000000000000000000)(H:q.length<4000000000000000000) :
    M6 (YL p c d cl e q) fun r=>r=0→cl.length=p.length∧q.length=nret p:=by
  unfold YL;have J:∀ b,M6 (P1 cl b) (fun _=>True):=fun b=>by
    unfold P1;refine M6.bind (P:=fun _=>True) ?_ (fun c _=>M6.ite (fun _=>M6.triv _) (fun _=>M6.triv _));refine M6.st2 cl.length u (fun _ _=>True) trivial (fun i c E _=>?_);unfold X5;simp only;refine M6.ifd (fun A=>?_) (fun A=>M6.pure (.inr ⟨_,rfl,trivial⟩));have j:i<cl.length:=by omega
    obtain ⟨x,B⟩:∃ x,cl[i]? = some x:=⟨_,List.getElem?_eq_getElem j⟩
    rw [Mc,B,M8,M8,R5 j u];exact M6.ite (fun _=>M6.ifd (fun _=>M6.pure (.inl ⟨_,j,rfl,trivial⟩)) (fun _=>M6.pure (.inl ⟨_,j,rfl,trivial⟩))) (fun _=>M6.pure (.inl ⟨_,j,rfl,trivial⟩))
  refine M6.bind (M4b c d) (fun i _=>M6.ite (fun _=>M6.pure (fun g=>by cases g)) (fun _=>M6.ite (fun _=>M6.pure (fun g=>by cases g)) (fun F=>?_)));rw [M3t p G,M8];refine M6.ite (fun _=>M6.pure (fun g=>by cases g)) (fun I=>?_);have h1:cl.length=p.length:=by
    by_cases g:(cl.length:Int)=p.length
    · omega
    · exact absurd (MV.2 g) F
  have D:q.length=nret p:=by
    by_cases g:(q.length:Int)=nret p
    · omega
    · exact absurd (MV.2 g) I
  refine M6.bind (P:=fun _=>True) ?_ ?_
  · refine M6.count cl.length u (fun i E=>?_);unfold X6;simp only;refine M6.ifd (fun A=>?_) (fun A=>M6.pure (.inr ⟨_,rfl,trivial⟩));have j:i<cl.length:=by omega
    obtain ⟨x,B⟩:∃ x,cl[i]? = some x:=⟨_,List.getElem?_eq_getElem j⟩
    rw [Mc,B,M8,R5 j u];exact M6.bind (M4b _ _) (fun _ _=>M6.ite (fun _=>M6.pure (.inr ⟨_,rfl,trivial⟩)) (fun _=>M6.pure (.inl ⟨j,rfl⟩)))
  · rintro (z | z) _
    · exact M6.pure (fun g=>by cases g)
    · have fin:∀ b,M6 (P1 cl b) fun r=>r=0→cl.length=p.length∧q.length=nret p:=fun b=>(J b).mono (fun _ _ _=>⟨h1,D⟩)
      exact M6.ifd (fun _=>M6.ifd (fun _=>M6.ifd (fun _=>M6.ifd (fun _=>M6.bind (M4T q H) (fun _ _=>fin _)) (fun _=>fin _)) (fun _=>fin _)) (fun _=>fin _)) (fun _=>fin _)
abbrev M70:Type:=(Int×Int)×(Int×Int)×Bool×Bool
theorem M9r (p:List Pc)(s0 s1:Int)(cl:List (Int×Int))(d:Int)(G:List Int)(hp:p.length≤1000)(H:cl.length≤1000)(ht:G.length≤1000) :
    M6 (M18 p s0 s1 cl d G) fun r=>r.2=0→r.1.length=p.length+1:=by
  unfold M18;refine M6.bind (M0B p) (fun e he=>M6.ite (fun H=>M6.pure (fun E=>absurd E (MV.1 H))) (fun hn=>?_));refine M6.bind (M6Z p s0 s1 cl d G (by omega) (by omega) (by omega)) (fun O ac=>M6.ite (fun H=>M6.pure (fun E=>absurd E (MV.1 H))) (fun af=>?_));have h2:O=0:=by
    by_cases E:O=0
    · exact E
    · exact absurd (MV.2 E) af
  obtain ⟨ai,aq⟩:=ac h2;refine M6.bind (P:=fun r:List M70=>r.length=p.length+1) ?_ (fun r hr=>M6.pure (fun _=>hr));refine M6.st (S:=Int×Int×Int×Int×Bool×Bool×List M70×Int) (fun s c=>(s.1,s.2.1,s.2.2.1,s.2.2.2.1,s.2.2.2.2.1,s.2.2.2.2.2.1,s.2.2.2.2.2.2.1,s.2.2.2.2.2.2.2,c)) (fun t=>((t.1,t.2.1,t.2.2.1,t.2.2.2.1,t.2.2.2.2.1,t.2.2.2.2.2.1,t.2.2.2.2.2.2.1,t.2.2.2.2.2.2.2.1),t.2.2.2.2.2.2.2.2)) (fun _ _=>rfl) p.length (by omega)
    (fun i s=>s.2.2.2.2.2.2.1.length=i+1∧s.2.2.2.2.2.2.2=(nret (p.take i):Int)) (s0:=(0,0,_,_,false,false,[_],0)) 0 (Nat.zero_le _) ⟨rfl,rfl⟩ ?_
  rintro i ⟨g,h,i',j,k,f,e,t⟩ hi ⟨I,q2⟩;simp only at I q2;unfold YM;simp only;refine M6.ifd (fun ad=>?_) (fun ad=>M6.pure (.inr ⟨_,rfl,by omega⟩));have D:i<p.length:=by omega
  obtain ⟨x,F⟩:∃ x,p[i]? = some x:=⟨_,List.getElem?_eq_getElem D⟩
  have X:=ZZ p i x F;have an:nret (p.take i)≤i:=Nat.le_trans (M4Q _) (List.length_take_le _ _);have Z:∀ (a b g h:Int) (c A:Bool) (n:Bool),x.2.2.2.2>0→M6 (VH p d G e t (i:Int) a b g h c A n) fun r=>(∃ q:Int×Int×Int×Int×Bool×Bool×List M70×Int,i<p.length∧r=.next (q.1,q.2.1,q.2.2.1,q.2.2.2.1,q.2.2.2.2.1,q.2.2.2.2.2.1,q.2.2.2.2.2.2.1,q.2.2.2.2.2.2.2,(i:Int)+1)∧q.2.2.2.2.2.2.1.length=i+1+1∧q.2.2.2.2.2.2.2=(nret (p.take (i+1)):Int))∨∃ d:List M70,r=.done d∧d.length=p.length+1:=by
    intro a b g h c A n B;have ae:=M4R p i x F B;rw [if_pos B] at X;unfold VH;have U:M4 (t+1)=(nret (p.take (i+1)):Int):=by rw [MD (by omega) (by omega)]; omega
    refine M6.ite (fun _=>?_) (fun _=>?_)
    · rw [Mc,F,M8];refine M6.bind (M6.idx (by omega) (by omega)) (fun v _=>?_);refine M6.bind (P:=fun _=>True) (by unfold M1M; exact M6.triv _) (fun u _=>?_);refine M6.guard (by simp; omega) (M6.pure (.inl ⟨(a,b,u.1,u.2,c,A,_,M4 (t+1)),D,by rw [R5 D (by omega)],by simp [I],U⟩))
    · refine M6.guard (by simp; omega) (M6.pure (.inl ⟨(a,b,g,h,c,A,_,M4 (t+1)),D,by rw [R5 D (by omega)],by simp [I],U⟩))
  have Y:∀ (b c A J:Int) (f' a:Bool),M6 (VI p d G e t (i:Int) b c A J f' a) fun r=>(∃ q:Int×Int×Int×Int×Bool×Bool×List M70×Int,i<p.length∧r=.next (q.1,q.2.1,q.2.2.1,q.2.2.2.1,q.2.2.2.2.1,q.2.2.2.2.2.1,q.2.2.2.2.2.2.1,q.2.2.2.2.2.2.2,(i:Int)+1)∧q.2.2.2.2.2.2.1.length=i+1+1∧q.2.2.2.2.2.2.2=(nret (p.take (i+1)):Int))∨∃ d:List M70,r=.done d∧d.length=p.length+1:=by
    intro b c A J f' a;unfold VI;rw [Mc,F,M8];refine M6.ifd (fun B=>?_) (fun B=>?_)
    · have ae:=M4R p i x F B;refine M6.ite (fun _=>?_) (fun _=>Z _ _ _ _ _ _ _ B);exact M6.bind (M6.idx (by omega) (by omega)) (fun v _=>Z _ _ _ _ _ _ _ B)
    · rw [if_neg B] at X;refine M6.guard (by simp; omega) (M6.pure (.inl ⟨(b,c,A,J,f',a,_,t),D,by rw [R5 D (by omega)],by simp [I],by simp only; omega⟩))
  refine M6.ite (fun _=>?_) (fun _=>Y _ _ _ _ _ _);rw [Mc,F,M8];refine M6.bind (M6.idx (by omega) (by omega)) (fun o _=>M6.bind M9o (fun a _=>Y _ _ _ _ _ _))
theorem M4U (a:List Pc)(b:Int)(ha:a.length≤1000):M6 (Wy a b) fun r=>r.1.length≤1000∧∀ p∈r.1,∃ q∈a,q.1=p.1:=by
  have j:∀ p∈([]:List Pc),∃ q∈a,q.1=p.1:=fun p g=>by cases g
  unfold Wy;refine M6.bind (M0B a) (fun e D=>M6.ite (fun u=>M6.pure ⟨by simp,j⟩) (fun E=>?_));have B:e=0:=by
    by_cases A:e=0
    · exact A
    · exact absurd (MV.2 A) E
  obtain ⟨h1,F,G⟩:=D B;refine M6.ifd (fun _=>M6.pure ⟨by simp,j⟩) (fun _=>M6.ifd (fun _=>M6.pure ⟨by simp,j⟩) (fun _=>?_));rw [MD (n:=(a.length:Int)-1) (by omega) (by omega)];refine M6.bind (M6.idx (by omega) (by omega)) (fun x H=>M6.ifd (fun _=>M6.pure ⟨by simp,j⟩) (fun _=>M6.guard (by simp; omega) ?_));rw [List.nil_append];refine M6.bind (M6.idx (by omega) (by omega)) (fun c u=>M6.pure ⟨by simp only [List.length_set]; omega,fun p g=>?_⟩);rcases List.mem_or_eq_of_mem_set g with g | rfl
  · exact ⟨p,g,rfl⟩
  · exact ⟨c,u.1,rfl⟩
theorem M4c (c:List Pc)(a:Nat)(d:Int)(E:c.length≤1000):M6 (WL c (a:Int) d) fun r=>r<(c.length:Int)∧-1≤r∨c=[]:=by
  by_cases q:c=[]
  · refine M6.mono (P:=fun _=>True) ?_ (fun _ _=>.inr q);subst q;unfold WL;exact M6.ifd (fun _=>M6.triv _) (fun _=>M6.ifd (fun _=>M6.triv _) (fun h=>absurd (by simp) h))
  have F:=List.length_pos_iff.2 q;refine M6.mono (P:=fun r:Int=>r<(c.length:Int)∧-1≤r) ?_ (fun _ h=>.inl h);have j:(-1:Int)<(c.length:Int)∧(-1:Int)≤-1:=by omega
  unfold WL;refine M6.ifd (fun _=>M6.pure j) (fun _=>M6.ifd (fun _=>M6.pure j) (fun _=>M6.ifd (fun _=>M6.pure j) (fun _=>M6.ifd (fun _=>M6.pure j) (fun _=>?_))));refine M6.bind (P:=fun _=>True) ?_ ?_
  · refine M6.count c.length (by omega) (fun i D=>?_);unfold YN;simp only;refine M6.ifd (fun u=>?_) (fun u=>M6.pure (.inr ⟨_,rfl,trivial⟩));have g:i<c.length:=by omega
    obtain ⟨x,A⟩:∃ x,c[i]? = some x:=⟨_,List.getElem?_eq_getElem g⟩
    rw [Mc,A,M8,M8,R5 g (by omega)];exact M6.ifd (fun _=>M6.pure (.inr ⟨_,rfl,trivial⟩)) (fun _=>M6.ifd (fun _=>M6.pure (.inr ⟨_,rfl,trivial⟩)) (fun _=>M6.pure (.inl ⟨g,rfl⟩)))
  · rintro (z | z) _
    · exact M6.pure j
    · simp only;refine M6.bind (P:=fun r:Int⊕Unit=>match r with | .inl v=>v<(c.length:Int)∧-1≤v | .inr _=>True) ?_ (by rintro (v | v) hv; exact M6.pure hv; exact M6.pure j);refine M6.loop (fun s:Int×Int=>(∃ i:Nat,s.2=(i:Int)∧i≤max a c.length)) (fun s=>max a c.length-s.2.toNat) ⟨a,rfl,by omega⟩ (by simp only; omega) ?_;rintro ⟨b,s⟩ ⟨i,hs,D⟩;simp only at hs;subst hs;unfold XQ;simp only;refine M6.ifd (fun u=>?_) (fun u=>M6.pure trivial);have g:i<c.length:=by omega
      obtain ⟨x,A⟩:∃ x,c[i]? = some x:=⟨_,List.getElem?_eq_getElem g⟩
      rw [Mc,A,M8,R5 g (by omega)];have B:(i:Int)<(c.length:Int)∧-1≤(i:Int):=by omega
      exact M6.ifd (fun _=>M6.ifd (fun _=>M6.pure B) (fun _=>M6.pure ⟨⟨i+1,rfl,by omega⟩,by simp only; omega⟩)) (fun _=>M6.ifd (fun _=>M6.pure B) (fun _=>M6.pure ⟨⟨i+1,rfl,by omega⟩,by simp only; omega⟩))
theorem M8c (l:List El)(p:List Pc)(f:Bool)(c:Int)(Y:p.length≤1000):M6 (ZP l p f c) fun r=>r=0→f=true∧M9l p∧∀ q∈p,q.1<(l.length:Int):=by
  unfold ZP;refine M6.bind (M0B p) (fun e H=>M6.ite (fun G=>M6.pure (fun j=>absurd j (MV.1 G))) (fun O=>?_));have F:e=0:=by
    by_cases j:e=0
    · exact j
    · exact absurd (MV.2 j) O
  have X:=H F;refine M6.ifd (fun _=>M6.pure (fun j=>by cases j)) (fun _=>M6.ifd (fun _=>M6.pure (fun j=>by cases j)) (fun _=>?_));refine M6.bind (P:=fun g:Bool=>g=true→f=true∧∀ q∈p,q.1<(l.length:Int)) ?_ ?_
  · refine M6.st2 p.length (by omega) (fun i g=>g=true→f=true∧∀ q∈p.take i,q.1<(l.length:Int)) (fun h=>⟨h,fun q hq=>by simp at hq⟩) (fun i g I A=>?_);unfold YO;simp only;refine M6.ifd (fun J=>?_) (fun J=>M6.pure (.inr ⟨_,rfl,fun j=>⟨(A j).1,fun q hq=>(A j).2 q (by rw [List.take_of_length_le (by omega)]; exact hq)⟩⟩));have u:i<p.length:=by omega
    obtain ⟨x,E⟩:∃ x,p[i]? = some x:=⟨_,List.getElem?_eq_getElem u⟩
    rw [Mc,E,M8,R5 u (by omega)];refine M6.ite (fun D=>M6.pure (.inl ⟨_,u,rfl,fun j=>⟨(A D).1,fun q hq=>?_⟩⟩)) (fun _=>M6.pure (.inl ⟨_,u,rfl,fun j=>by cases j⟩));rw [List.take_succ_eq_append_getElem u] at hq;rcases List.mem_append.1 hq with hq | hq
    · exact (A D).2 q hq
    · rw [List.mem_singleton,(List.getElem?_eq_some_iff.1 E).2] at hq;subst hq;exact of_decide_eq_true j
  · intro g A;refine M6.ite (fun _=>M6.pure (fun j=>by cases j)) (fun U=>?_);have B:g=true:=by simpa using U
    refine M6.bind (P:=fun _=>True) ?_ (by rintro (z | z) _; exact M6.pure (fun j=>by cases j); exact M6.pure (fun _=>⟨(A B).1,X,(A B).2⟩));refine M6.count p.length (by omega) (fun i I=>?_);unfold XR;simp only
    by_cases u:i<p.length
    · rw [R5 u (by omega)];exact M6.ifd (fun _=>M6.bind (M4c p i c Y) (fun _ _=>M6.ifd (fun _=>M6.pure (.inr ⟨_,rfl,trivial⟩)) (fun _=>M6.pure (.inl ⟨u,rfl⟩)))) (fun _=>M6.pure (.inr ⟨_,rfl,trivial⟩))
    · rw [MD (by omega) (by omega)];exact M6.ifd (fun j=>by omega) (fun _=>M6.pure (.inr ⟨_,rfl,trivial⟩))
theorem M8d (l:List El)(p:List Pc)(m:List M70)(c:Int)(F:p.length≤1000):M6 (ZQ l p m c) fun r=>r.1.length≤1000∧(r.2=0→m.length=p.length+1):=by
  unfold ZQ;rw [MD (n:=(p.length:Int)+1) (by omega) (by omega)];refine M6.bind (M8c l p _ c F) (fun e X=>M6.ite (fun U=>M6.pure ⟨by simp,fun A=>absurd A (MV.1 U)⟩) (fun Z=>?_));have I:e=0:=by
    by_cases A:e=0
    · exact A
    · exact absurd (MV.2 A) Z
  obtain ⟨J,⟨h5,h6,O⟩,D⟩:=X I;have Y:m.length=p.length+1:=by have:=Mz.1 J; omega
  have G:∀ q∈p,0≤q.1:=fun q hq=>(O q hq).1.1
  refine M6.bind (P:=fun g:List (Int×Int×Int×Int)=>g.length≤1000) ?_ (fun g E=>M6.pure ⟨E,fun _=>Y⟩);refine M6.st2 p.length (by omega) (fun i g=>g.length≤i) (by simp) (fun i g hi E=>?_);unfold YP;simp only
  by_cases u:i<p.length
  · rw [R5 u (by omega)];refine M6.ifd (fun ag=>?_) (fun _=>M6.pure (.inr ⟨_,rfl,by omega⟩));obtain ⟨y,hy⟩:∃ y,m[i]? = some y:=⟨_,List.getElem?_eq_getElem (by omega)⟩
    obtain ⟨x,B⟩:∃ x,p[i]? = some x:=⟨_,List.getElem?_eq_getElem u⟩
    rw [Mc,hy,M8];refine M6.ite (fun _=>?_) (fun _=>M6.pure (.inr ⟨_,rfl,by omega⟩));rw [Mc,B,M8,M8];have side:M6 (M19 l p (i:Int)) (fun _=>True):=by
      unfold M19;rw [Mc,B,M8];refine M6.bind (M6.idx (G x (List.mem_of_getElem? B)) (D x (List.mem_of_getElem? B))) (fun f _=>M6.ite (fun _=>M6.triv _) (fun _=>?_));rw [R5 u (by omega)];refine M6.bind (M6.idx (by omega) (by omega)) (fun z H=>?_);exact M6.bind (M6.idx (G z H.1) (D z H.1)) (fun _ _=>M6.triv _)
    refine M6.bind side (fun k _=>?_);unfold XS;refine M6.bind (M4c p i c F) (fun j hj=>?_);have af:j<(p.length:Int)∧-1≤j:=by
      rcases hj with hj | hj
      · exact hj
      · subst hj; simp at u
    rw [MD (n:=j+1) (by omega) (by omega)];refine M6.bind (M6.idx (by omega) (by omega)) (fun f _=>M6.ite (fun _=>M6.guard (by simp; omega) (M6.pure (.inl ⟨_,u,by rw [R5 u (by omega)],by simp; omega⟩))) (fun _=>M6.guard (by simp; omega) (M6.pure (.inl ⟨_,u,by rw [R5 u (by omega)],by simp; omega⟩))))
  · rw [MD (by omega) (by omega)];exact M6.ifd (fun A=>by omega) (fun _=>M6.pure (.inr ⟨_,rfl,by omega⟩))
theorem ZA {l:List El}(h:WF l):M6 (MR l) fun r=>1≤r∧r≤1000000:=by
  have E:=h.le;unfold MR;refine M6.bind (P:=fun r:Int=>1≤r∧r≤1000000) ?_ (fun r j=>M6.pure j);refine M6.st2 l.length (by omega) (fun i r=>1≤r∧r≤1000000) (by omega) (fun i r B j=>?_);unfold Rx;simp only;refine M6.ifd (fun G=>?_) (fun _=>M6.pure (.inr ⟨_,rfl,j⟩));have g:i<l.length:=by omega
  obtain ⟨x,q⟩:∃ x,l[i]? = some x:=⟨_,List.getElem?_eq_getElem g⟩
  rw [Mc,q,M8,M8,R5 g (by omega)];refine M6.ite (fun u=>M6.pure (.inl ⟨_,g,rfl,?_⟩)) (fun _=>M6.pure (.inl ⟨_,g,rfl,j⟩));have D:i≠0:=by
    intro A; subst A;rw [h.li.at0 q] at u; cases u
  have F:=(h.li.el i x (by omega) q).len
  split <;> omega
abbrev Sp:Type:=Int×Int×Int×Int
theorem M5Z (b:List Sp)(c:Int)(u:b.length≤1000):M6 (Zw b c) fun r=>-1≤r∧r<(b.length:Int)∨(r = -1):=by
  unfold Zw;refine M6.bind (P:=fun d:Int⊕Unit=>match d with | .inl v=>0≤v∧v<(b.length:Int) | .inr _=>True) ?_ (by rintro (v | v) hv; exact M6.pure (.inl ⟨by simp only at hv; omega,hv.2⟩); exact M6.pure (.inr rfl));refine M6.count b.length (by omega) (fun i A=>?_);unfold Zv;simp only;refine M6.ifd (fun j=>?_) (fun j=>M6.pure (.inr ⟨_,rfl,trivial⟩));have g:i<b.length:=by omega
  obtain ⟨x,q⟩:∃ x,b[i]? = some x:=⟨_,List.getElem?_eq_getElem g⟩
  rw [Mc,q,M8,R5 g (by omega)];exact M6.ite (fun _=>M6.pure (.inr ⟨_,rfl,by omega,by omega⟩)) (fun _=>M6.pure (.inl ⟨g,rfl⟩))
theorem M3x (a:List Sp):M6 (Ym a) (fun _=>True):=by
  unfold Ym;refine M6.ifd (fun _=>M6.triv _) (fun E=>?_);refine M6.bind (P:=fun _=>True) ?_ (by rintro (z | z) _ <;> exact M6.triv _);refine M6.count a.length (by omega) (fun i B=>?_);unfold YR;simp only;refine M6.ifd (fun q=>?_) (fun q=>M6.pure (.inr ⟨_,rfl,trivial⟩));have g:i<a.length:=by omega
  obtain ⟨x,u⟩:∃ x,a[i]? = some x:=⟨_,List.getElem?_eq_getElem g⟩
  rw [Mc,u,M8,R5 g (by omega)];refine M6.ifd (fun _=>M6.pure (.inr ⟨_,rfl,trivial⟩)) (fun _=>M6.ifd (fun _=>M6.pure (.inr ⟨_,rfl,trivial⟩)) (fun _=>M6.ifd (fun _=>M6.pure (.inr ⟨_,rfl,trivial⟩)) (fun _=>M6.ifd (fun _=>M6.pure (.inr ⟨_,rfl,trivial⟩)) (fun _=>M6.ifd (fun _=>M6.pure (.inr ⟨_,rfl,trivial⟩)) (fun _=>M6.ifd (fun _=>M6.pure (.inr ⟨_,rfl,trivial⟩)) (fun _=>?_))))));refine M6.bind (P:=fun _=>True) ?_ (by rintro (z | z) _; exact M6.pure (.inr ⟨_,rfl,trivial⟩); exact M6.pure (.inl ⟨g,rfl⟩));refine M6.count i (by omega) (fun j D=>?_);unfold XT;simp only;refine M6.ifd (fun q=>?_) (fun q=>M6.pure (.inr ⟨_,rfl,trivial⟩));have r:j<i:=by omega
  obtain ⟨y,A⟩:∃ y,a[j]? = some y:=⟨_,List.getElem?_eq_getElem (by omega)⟩
  rw [Mc,A,M8,R5 r (by omega)];exact M6.ite (fun _=>M6.pure (.inr ⟨_,rfl,trivial⟩)) (fun _=>M6.pure (.inl ⟨r,rfl⟩))
theorem M4d (a:List (List Sp))(b:Int):M6 (Yn a b) (fun _=>True):=by
  unfold Yn;refine M6.ifd (fun _=>M6.triv _) (fun A=>?_);have j:∀ c,M6 (VJ a c) (fun _=>True):=fun c=>by
    unfold VJ;refine M6.bind (P:=fun _=>True) ?_ (fun c _=>M6.ite (fun _=>M6.triv _) (fun _=>M6.triv _));refine M6.st2 a.length (by omega) (fun _ _=>True) trivial (fun i c u _=>?_);unfold YS;simp only;refine M6.ifd (fun q=>?_) (fun q=>M6.pure (.inr ⟨_,rfl,trivial⟩));have g:i<a.length:=by omega
    obtain ⟨x,r⟩:∃ x,a[i]? = some x:=⟨_,List.getElem?_eq_getElem g⟩
    rw [Mc,r,M8,R5 g (by omega)];exact M6.ite (fun _=>M6.bind (M3x x) (fun _ _=>M6.pure (.inl ⟨_,g,rfl,trivial⟩))) (fun _=>M6.pure (.inl ⟨_,g,rfl,trivial⟩))
  exact M6.ifd (fun _=>j _) (fun _=>j _)
theorem Mak (b c:List Sp)(d:Int)(r:b.length≤1000)(D:c.length≤1000):M6 (M2y b c d) (fun _=>True):=by
  unfold M2y;refine M6.bind (P:=fun _=>True) ?_ (by rintro (z | z) _ <;> exact M6.triv _);refine M6.st2 c.length (by omega) (fun _ _=>True) trivial (fun i s F _=>?_);unfold M0v;simp only;refine M6.ifd (fun u=>?_) (fun u=>M6.pure (.inr ⟨_,rfl,trivial⟩));have q:i<c.length:=by omega
  obtain ⟨x,A⟩:∃ x,c[i]? = some x:=⟨_,List.getElem?_eq_getElem q⟩
  rw [Mc,A,M8,R5 q (by omega)];refine M6.bind (M5Z b _ r) (fun g E=>M6.ifd (fun _=>M6.pure (.inl ⟨_,q,rfl,trivial⟩)) (fun G=>?_));have j:0≤g∧g<(b.length:Int):=by omega
  refine M6.bind (M6.idx j.1 j.2) (fun l _=>M6.ite (fun _=>M6.pure (.inr ⟨_,rfl,trivial⟩)) (fun _=>?_));refine M6.bind (M6.idx j.1 j.2) (fun B _=>?_);rw [M8,M8];refine M6.bind (P:=fun _=>True) ?_ (fun _ _=>M6.pure (.inl ⟨_,q,rfl,trivial⟩));unfold M1N;exact M6.ite (fun _=>M6.ite (fun _=>M6.ite (fun _=>M6.triv _) (fun _=>M6.triv _)) (fun _=>M6.triv _)) (fun _=>M6.triv _)
theorem M4V (a:List (List Sp))(b:Int)(ha:a.length≤1000)(hs:∀ s∈a,s.length≤1000):M6 (Wz a b) fun r=>r.2=0→r.1.length=a.length:=by
  unfold Wz;refine M6.bind (M4d a b) (fun c _=>M6.ite (fun G=>M6.pure (fun u=>absurd u (MV.1 G))) (fun _=>?_));refine M6.bind (P:=fun d:Int⊕List Int=>match d with | .inl e=>e≠0 | .inr r=>r.length=a.length) ?_ (by rintro (z | z) q; exact M6.pure (fun u=>absurd u q); exact M6.pure (fun _=>q));refine M6.st2 a.length (by omega) (fun i r=>r.length=i) rfl (fun i r J I=>?_);unfold Wp;simp only;refine M6.ifd (fun B=>?_) (fun B=>M6.pure (.inr ⟨_,rfl,by simp only; omega⟩));have A:i<a.length:=by omega
  obtain ⟨x,E⟩:∃ x,a[i]? = some x:=⟨_,List.getElem?_eq_getElem A⟩
  refine M6.bind (P:=fun d:Int⊕Int=>match d with | .inl e=>e≠0 | .inr _=>True) ?_ ?_
  · refine M6.st2 i (by omega) (fun _ _=>True) trivial (fun j c O _=>?_);unfold VY;simp only;refine M6.ifd (fun B=>?_) (fun B=>M6.pure (.inr ⟨_,rfl,trivial⟩));have D:j<i:=by omega
    obtain ⟨y,F⟩:∃ y,a[j]? = some y:=⟨_,List.getElem?_eq_getElem (by omega)⟩
    rw [Mc,F,M8,Mc,E,M8,R5 D (by omega)];refine M6.bind (Mak y x b (hs y (List.mem_of_getElem? F)) (hs x (List.mem_of_getElem? E))) (fun g _=>M6.ite (fun H=>M6.pure (.inr ⟨_,rfl,MV.1 H⟩)) (fun _=>?_));exact M6.bind (M6.idx (by omega) (by omega)) (fun _ _=>M6.pure (.inl ⟨_,D,rfl,trivial⟩))
  · rintro (z | z) q
    · exact M6.pure (.inr ⟨_,rfl,q⟩)
    · simp only;exact M6.ifd (fun _=>M6.pure (.inr ⟨.inl 4,rfl,(by decide:(4:Int)≠0)⟩)) (fun _=>M6.guard (by simp; omega) (M6.pure (.inl ⟨_,A,by rw [R5 A (by omega)],by simp [I]⟩)))
theorem M71 (a:List (Int×Int)):M6 (YT a) (fun _=>True):=by
  unfold YT;refine M6.ifd (fun _=>M6.triv _) (fun G=>?_);refine M6.bind (P:=fun _=>True) ?_ (by rintro (z | z) _ <;> exact M6.triv _);refine M6.count a.length (by omega) (fun i E=>?_);unfold XU;simp only;refine M6.ifd (fun q=>?_) (fun q=>M6.pure (.inr ⟨_,rfl,trivial⟩));have g:i<a.length:=by omega
  obtain ⟨x,A⟩:∃ x,a[i]? = some x:=⟨_,List.getElem?_eq_getElem g⟩
  rw [Mc,A,M8,M8,M8];have B:M6 (TP a (i:Int)) fun r=>(i<a.length∧r=.next ((i:Int)+1))∨∃ d,r=.done d∧True:=by
    unfold TP;refine M6.bind (P:=fun _=>True) ?_ (by rintro (z | z) _; exact M6.pure (.inr ⟨_,rfl,trivial⟩); exact M6.pure (.inl ⟨g,by rw [R5 g (by omega)]⟩));refine M6.count i (by omega) (fun j F=>?_);unfold X7;simp only;refine M6.ifd (fun q=>?_) (fun q=>M6.pure (.inr ⟨_,rfl,trivial⟩));have u:j<i:=by omega
    obtain ⟨y,D⟩:∃ y,a[j]? = some y:=⟨_,List.getElem?_eq_getElem (by omega)⟩
    rw [Mc,D,M8,Mc,A,M8,R5 u (by omega)];exact M6.ite (fun _=>M6.pure (.inr ⟨_,rfl,trivial⟩)) (fun _=>M6.pure (.inl ⟨u,rfl⟩))
  exact M6.ifd (fun _=>M6.pure (.inr ⟨_,rfl,trivial⟩)) (fun _=>M6.ite (fun _=>M6.ite (fun _=>M6.pure (.inr ⟨_,rfl,trivial⟩)) (fun _=>B)) (fun _=>B))
theorem M72 (b:List (List Sp))(a:List Int)(d:Int)(e:List (Int×Int))(ha:a.length≤1000):M6 (ZR b a d e) fun r=>r=0→a.length=b.length:=by
  unfold ZR;refine M6.bind (M4d b d) (fun c _=>M6.ite (fun F=>M6.pure (fun j=>absurd j (MV.1 F))) (fun _=>?_));have D:∀ c,M6 (VK a c) fun r=>r=0→c=true:=fun c=>by
    unfold VK;refine M6.bind (P:=fun g:Bool=>g=true→c=true) ?_ (fun g q=>M6.ite (fun _=>M6.pure (fun j=>by cases j)) (fun H=>M6.pure (fun _=>q (by simpa using H))));refine M6.st2 a.length (by omega) (fun i g=>g=true→c=true) (fun h=>h) (fun i g O q=>?_);unfold XV;simp only;refine M6.ifd (fun G=>?_) (fun G=>M6.pure (.inr ⟨_,rfl,q⟩));have u:i<a.length:=by omega
    obtain ⟨x,J⟩:∃ x,a[i]? = some x:=⟨_,List.getElem?_eq_getElem u⟩
    rw [Mc,J,M8,M8,M8,R5 u (by omega)];refine M6.ite (fun A=>?_) (fun _=>M6.pure (.inl ⟨_,u,rfl,fun j=>by cases j⟩));refine M6.ifd (fun _=>M6.ifd (fun _=>M6.ite (fun _=>M6.pure (.inl ⟨_,u,rfl,fun _=>q A⟩)) (fun E=>?_)) (fun _=>M6.pure (.inl ⟨_,u,rfl,fun _=>q A⟩))) (fun _=>M6.pure (.inl ⟨_,u,rfl,fun _=>q A⟩));have U:i≠0:=fun j=>E (by rw [j]; rfl)
    rw [MD (n:=(i:Int)-1) (by omega) (by omega)];exact M6.bind (M6.idx (by omega) (by omega)) (fun _ _=>M6.pure (.inl ⟨_,u,rfl,fun _=>q A⟩))
  refine M6.ite (fun B=>M6.bind (M71 e) (fun f _=>(D f).mono (fun r _ _=>by have:=Mz.1 B; omega))) (fun B=>(D false).mono (fun r I j=>?_));cases I j
theorem M8e (b:List (Int×Int))(c:Int)(r:b.length≤1000):M6 (ZS b c) (fun _=>True):=by
  unfold ZS;refine M6.bind (P:=fun _=>True) ?_ (by rintro (z | z) _ <;> exact M6.triv _);refine M6.count b.length (by omega) (fun i u=>?_);unfold YU;simp only;refine M6.ifd (fun j=>?_) (fun j=>M6.pure (.inr ⟨_,rfl,trivial⟩));have g:i<b.length:=by omega
  obtain ⟨x,q⟩:∃ x,b[i]? = some x:=⟨_,List.getElem?_eq_getElem g⟩
  rw [Mc,q,M8,M8,R5 g (by omega)];exact M6.ite (fun _=>M6.pure (.inr ⟨_,rfl,trivial⟩)) (fun _=>M6.pure (.inl ⟨g,rfl⟩))
theorem Mal (b:List Sp)(e:Sp)(c:Int)(r:b.length≤2000):M6 (loop (Tk b e) (c,0)) (fun _=>True):=by
  refine M6.st2 b.length (by omega) (fun _ _=>True) trivial (fun i c u _=>?_);unfold Tk;simp only;refine M6.ifd (fun j=>?_) (fun j=>M6.pure (.inr ⟨_,rfl,trivial⟩));have g:i<b.length:=by omega
  obtain ⟨x,q⟩:∃ x,b[i]? = some x:=⟨_,List.getElem?_eq_getElem g⟩
  rw [Mc,q,M8,M8,R5 g (by omega)];exact M6.ite (fun _=>M6.pure (.inl ⟨_,g,rfl,trivial⟩)) (fun _=>M6.pure (.inl ⟨_,g,rfl,trivial⟩))
theorem Mam (c:List (List Sp))(f:List Int)(g:Nat)(i:Sp)(I:g<c.length)(H:f.length=c.length)(G:c.length≤1000)(hs:∀ s∈c,s.length≤1000):M6 (loop (Tj c f (g:Int) i) (0,false,0)) (fun _=>True):=by
  refine M6.st3 g (by omega) (fun _ _ _=>True) trivial (fun a b e ha _=>?_);unfold Tj;simp only;refine M6.ifd (fun D=>?_) (fun D=>M6.pure (.inr ⟨_,rfl,trivial⟩));have A:a<g:=by omega
  obtain ⟨x,B⟩:∃ x,c[a]? = some x:=⟨_,List.getElem?_eq_getElem (by omega)⟩
  obtain ⟨y,E⟩:∃ y,f[a]? = some y:=⟨_,List.getElem?_eq_getElem (by omega)⟩
  rw [Mc,B,M8];refine M6.bind (M5Z x _ (hs x (List.mem_of_getElem? B))) (fun d hd=>M6.ifd (fun F=>?_) (fun _=>M6.pure (.inl ⟨_,_,A,by rw [R5 A (by omega)],trivial⟩)));have u:0≤d∧d<(x.length:Int):=by omega
  have j:∀ q,M6 (Rk c f b (a:Int) d q) fun r=>(∃ a' b',a<g∧r=.next (a',b',(a:Int)+1)∧True)∨∃ d:Int×Bool,r=.done d∧True:=fun q=>by
    unfold Rk;rw [Mc,E,M8,Mc,B,M8,R5 A (by omega)];exact M6.bind (M6.idx u.1 u.2) (fun _ _=>M6.pure (.inl ⟨_,_,A,rfl,trivial⟩))
  refine M6.ite (fun _=>j _) (fun _=>?_);rw [M8];exact M6.bind (M6.idx u.1 u.2) (fun _ _=>j _)
theorem Man (g:List (List Sp))(h:List Int)(i:Int)(j:List (Int×Int))(c:Nat)(b:List Sp)(A:c<g.length)(B:h.length=g.length)(E:g.length≤1000)(hs:∀ s∈g,s.length≤1000)(F:j.length≤1000)(q:b.length≤1024) :
    M6 (loop (Tl g h i j (c:Int)) (b,0)) fun r=>match r with | .inl _=>True | .inr b=>b.length≤1024:=by
  obtain ⟨x,D⟩:∃ x,g[c]? = some x:=⟨_,List.getElem?_eq_getElem A⟩
  obtain ⟨y,I⟩:∃ y,h[c]? = some y:=⟨_,List.getElem?_eq_getElem (by omega)⟩
  have O:=hs x (List.mem_of_getElem? D);refine M6.st2 x.length (by omega) (fun _ b=>b.length≤1024) q (fun d b hd q=>?_);unfold Tl;simp only;rw [Mc,D,M8,M8];refine M6.ifd (fun G=>?_) (fun G=>M6.pure (.inr ⟨_,rfl,q⟩));have u:d<x.length:=by omega
  obtain ⟨a,ha⟩:∃ a,x[d]? = some a:=⟨_,List.getElem?_eq_getElem u⟩
  rw [Mc,ha,M8,R5 u (by omega)];refine M6.ite (fun _=>M6.pure (.inl ⟨_,u,rfl,q⟩)) (fun _=>?_);refine M6.bind (M8e j _ F) (fun p _=>M6.bind (Mal b a p (by omega)) (fun f _=>?_));refine M6.ite (fun _=>M6.pure (.inl ⟨_,u,rfl,q⟩)) (fun _=>M6.bind (Mam g h c a A B E hs) ?_);rintro ⟨e,m⟩ _;simp only;refine M6.ite (fun _=>M6.pure (.inr ⟨_,rfl,trivial⟩)) (fun _=>M6.ifd (fun _=>M6.pure (.inr ⟨_,rfl,trivial⟩)) (fun _=>?_));rw [Mc,I,M8];refine M6.ifd (fun _=>M6.pure (.inr ⟨_,rfl,trivial⟩)) (fun _=>M6.ite (fun _=>M6.pure (.inr ⟨_,rfl,trivial⟩)) (fun H=>?_));have J:b.length≠1024:=fun B=>H (by rw [Mz]; omega)
  exact M6.guard (by simp; omega) (M6.pure (.inl ⟨_,u,rfl,by simp; omega⟩))
theorem Mao (b:List Sp)(E:b.length≤1024):M6 (loop (Tm b) ([],0)) fun r=>r.length≤1024:=by
  refine M6.st2 b.length (by omega) (fun i a=>a.length=i) rfl (fun c a F ha=>?_);unfold Tm;simp only;refine M6.ifd (fun A=>?_) (fun A=>M6.pure (.inr ⟨_,rfl,by omega⟩));have j:c<b.length:=by omega
  obtain ⟨x,q⟩:∃ x,b[c]? = some x:=⟨_,List.getElem?_eq_getElem j⟩
  refine M6.bind (P:=fun e:Int=>0≤e∧e≤(a.length:Int)) ?_ (fun e g=>?_)
  · refine M6.loop (fun e:Int=>0≤e∧e≤(a.length:Int)) (fun e=>e.toNat) ⟨by omega,by omega⟩ (by simp; omega) (fun e g=>?_);unfold W0;simp only;refine M6.ifd (fun G=>?_) (fun _=>M6.pure g);rw [MD (n:=e-1) (by omega) (by omega)];refine M6.bind (M6.idx (by omega) (by omega)) (fun f _=>?_);rw [Mc,q,M8];exact M6.ifd (fun _=>M6.pure ⟨⟨by omega,by omega⟩,by simp only; omega⟩) (fun _=>M6.pure g)
  · unfold VZ;refine M6.guard g ?_;rw [Mc,q,M8];have u:(a.drop (Int.toNat e)).take (Int.toNat (a.length:Int)-Int.toNat e)=a.drop (Int.toNat e):=List.take_of_length_le (by simp);rw [u];have B:(a.take (Int.toNat e)).length+(a.drop (Int.toNat e)).length=a.length:=by rw [← List.length_append,List.take_append_drop]
    have D:(a.drop (Int.toNat e)).length≤a.length:=by omega
    refine M6.guard ⟨g.1,g.2,Int.le_refl _⟩ (M6.guard (by simp only [List.length_singleton]; omega) (M6.guard ⟨by simp,by simp only [List.length_append,List.length_singleton]; omega⟩ (M6.pure (.inl ⟨_,j,by rw [R5 j (by omega)],?_⟩))));simp only [List.length_append,List.length_singleton]; omega
theorem M4W (b:List (List Sp))(c:List Int)(d:Int)(e:List (Int×Int))(A:b.length≤1000)(B:c.length≤1000)(hs:∀ s∈b,s.length≤1000)(E:e.length≤1000):M6 (WA b c d e) fun r=>r.1.length≤1024:=by
  unfold WA;refine M6.bind (M72 b c d e B) (fun f F=>M6.ite (fun _=>M6.pure (by simp)) (fun H=>?_));have D:c.length=b.length:=F (by
    by_cases g:f=0
    · exact g
    · exact absurd (MV.2 g) H)
  refine M6.bind (P:=fun r:Int⊕List Sp=>match r with | .inl _=>True | .inr b=>b.length≤1024) ?_ (by
    rintro (z | z) q
    · exact M6.pure (by simp)
    · exact M6.bind (Mao z q) (fun h g=>M6.pure g))
  refine M6.st2 b.length (by omega) (fun _ r=>r.length≤1024) (by simp) (fun i r I u=>?_);unfold Wq;simp only;refine M6.ifd (fun G=>?_) (fun G=>M6.pure (.inr ⟨_,rfl,u⟩));have j:i<b.length:=by omega
  refine M6.bind (Man b c d e i r j D A hs E u) ?_;rintro (z | z) q
  · exact M6.pure (.inr ⟨_,rfl,trivial⟩)
  · exact M6.pure (.inl ⟨_,j,by rw [R5 j (by omega)],q⟩)
abbrev Ct:Type:=Int×Int×Int×Int×List Int×List Int
theorem M3y {l:List Int}{k a e:Int}(j:0≤k)(D:k<4000000000000000000)(ha:-1000000000≤a)(A:a≤e)(B:e≤1000000000):M6 (Rg l k a e) fun r=>a≤r.1∧r.1≤e∧r.2=k+1:=by
  unfold Rg;rw [MD (n:=e-a) (by omega) (by omega),MD (n:=e-a+1) (by omega) (by omega)];refine M6.bind (M6.next j (by omega) (by omega) (by omega)) fun b ⟨q,u,g⟩=>M6.pure ?_
  rw [MD (by omega) (by omega)];exact ⟨by simp only; omega,by simp only; omega,g⟩
structure Ls (l:List El) (n:Nat) (d:List Int) (e:List (Int×Int)) (f:List Int):Prop where
  tn:d.length=ntr (l.take n)
  tm:∀ x∈d,0≤x∧x<(l.length:Int)
  en:e.length=n
  em:∀ x∈e,0≤x.1∧x.1≤x.2∧x.2≤100000
  fn:f.length=n
  fm:∀ x∈f,-1≤x∧x≤6000
theorem M9s {l:List El}(h:WF l){i:Nat}{x:El}(g:l[i]? = some x):0≤x.2.2.2.2.2.2.1∧x.2.2.2.2.2.2.1≤5000:=by
  by_cases j:i=0
  · subst j; rw [h.li.at0 g]; decide
  · exact (h.li.el i x (by omega) g).curve
theorem Map {ts:List Int}{l:List El}{z k:Int}{b h:Int×Int}(u:WF l)(J:0≤b.1∧b.1≤2500)(U:0≤h.1∧h.1≤2500)(Y:0≤k)(Z:k<2000000000000000000) :
    M6 (loop (Tp ts (l,z) b h) (k,[],[],[],0)) fun r=>k≤r.1∧r.1≤k+34∧Ls l l.length r.2.1 r.2.2.1 r.2.2.2:=by
  have aa:=u.le;refine M6.st (S:=Int×List Int×List (Int×Int)×List Int) (fun s c=>(s.1,s.2.1,s.2.2.1,s.2.2.2,c)) (fun t=>((t.1,t.2.1,t.2.2.1,t.2.2.2.1),t.2.2.2.2)) (fun _ _=>rfl) l.length (by omega) (fun i s=>k≤s.1∧s.1≤k+i∧Ls l i s.2.1 s.2.2.1 s.2.2.2) (s0:=(k,[],[],[])) 0 (Nat.zero_le _) ⟨by simp,by simp,⟨by simp [ntr],by simp,rfl,by simp,rfl,by simp⟩⟩ ?_;rintro i ⟨k1,d,e,f⟩ X ⟨D,H,g⟩;simp only at D H g;unfold Tp;simp only;refine M6.ifd (fun G=>?_) (fun G=>M6.pure (.inr ⟨_,rfl,D,by simp only; omega,by rw [show l.length=i by omega]; exact g⟩));have q:i<l.length:=by omega
  obtain ⟨x,A⟩:∃ x,l[i]? = some x:=⟨_,List.getElem?_eq_getElem q⟩
  have O:=M9s u A;have B:=Yt A;rw [Mc,A,M8,M8,MD (n:=b.1+x.2.2.2.2.2.2.1) (by omega) (by omega),MD (n:=b.1+x.2.2.2.2.2.2.1+h.1) (by omega) (by omega),R5 q (by omega)];have i4:=g.en; have i5:=g.fn; have i6:=g.tn;have i7:ntr (l.take i)≤ntr l:=M6Y i;have i8:=u.tr;refine M6.guard (by simp only [List.length_singleton]; omega) (M6.bind (M6.pick (by omega) (by omega) (by simp) (by simp)) fun c ⟨E,I⟩=>?_);have F:-1≤c.1∧c.1≤6000:=by simp at E; omega
  refine M6.guard (by simp only [List.length_singleton]; omega) ?_;rw [M8];have em:∀ y∈e++[(b.1+x.2.2.2.2.2.2.1,b.1+x.2.2.2.2.2.2.1+h.1)],0≤y.1∧y.1≤y.2∧y.2≤100000:=by
    intro y hy;rcases List.mem_append.1 hy with hy | hy
    · exact g.em y hy
    · rw [List.mem_singleton] at hy; subst hy; simp only; omega
  have fm:∀ y∈f++[c.1],-1≤y∧y≤6000:=by
    intro y hy;rcases List.mem_append.1 hy with hy | hy
    · exact g.fm y hy
    · rw [List.mem_singleton] at hy; subst hy; exact F
  refine M6.ite (fun j=>?_) (fun j=>?_)
  · rw [Mz] at j;rw [if_pos j] at B;refine M6.guard (by simp only [List.length_singleton]; omega) (M6.pure (.inl ⟨(c.2,d++[(i:Int)],_,f++[c.1]),q,rfl,by simp only; omega,by simp only; omega,?_⟩));refine ⟨by simp only [List.length_append,List.length_singleton]; omega,fun y hy=>?_,by simp only [List.length_append,List.length_singleton]; omega,em,by simp only [List.length_append,List.length_singleton]; omega,fm⟩;rcases List.mem_append.1 hy with hy | hy
    · exact g.tm y hy
    · rw [List.mem_singleton] at hy; subst hy; omega
  · rw [Mz] at j;rw [if_neg j] at B;exact M6.pure (.inl ⟨(c.2,d,_,f++[c.1]),q,rfl,by simp only; omega,by simp only; omega,⟨by simp only; omega,g.tm,by simp only [List.length_append,List.length_singleton]; omega,em,by simp only [List.length_append,List.length_singleton]; omega,fm⟩⟩)
theorem M9t {ts:List Int}{l:List El}{z k:Int}{d f:List Int}{e:List (Int×Int)}{j:Int×Int}(G:WF l)(hs:Ls l l.length d e f)(hj:0≤j.1∧j.1≤2500)(hk:0≤k)(ai:k<2000000000000000000) :
    M6 (loop (RR ts (l,z) e f j) (k,[],[],0)) fun r=>k≤r.1∧r.1≤k+68∧r.2.1.length=l.length∧r.2.2.length=l.length:=by
  have aj:=G.le;refine M6.st4 l.length (by omega) (fun i g c e=>k≤g∧g≤k+2*i∧c.length=i∧e.length=i) ⟨by omega,by omega,rfl,rfl⟩ ?_;rintro i g c q hi ⟨J,i2,i3,i4⟩;unfold RR;simp only;refine M6.ifd (fun H=>?_) (fun H=>M6.pure (.inr ⟨_,rfl,J,by simp only; omega,by simp only; omega,by simp only; omega⟩));have B:i<l.length:=by omega
  have e1:=hs.en; have e2:=hs.fn;obtain ⟨x,D⟩:∃ x,e[i]? = some x:=⟨_,List.getElem?_eq_getElem (by omega)⟩
  obtain ⟨y,E⟩:∃ y,f[i]? = some y:=⟨_,List.getElem?_eq_getElem (by omega)⟩
  have I:=hs.em x (List.mem_of_getElem? D);have ak:=hs.fm y (List.mem_of_getElem? E);rw [Mc,D,M8,M8];refine M6.bind (M3y (by omega) (by omega) (by omega) I.2.1 (by omega)) fun b ⟨O,X,Z⟩=>M6.guard (by simp only [List.length_singleton]; omega) ?_
  rw [Mc,E,M8];have F:∀ (u v:Int),k≤u→u≤k+2*(i+1)→M6 (PV c q (i:Int) b u v) fun r=>(∃ a' b' A,i<l.length∧r=.next (a',b',A,(i:Int)+1)∧k≤a'∧a'≤k+2*((i+1:Nat):Int)∧b'.length=i+1∧A.length=i+1)∨∃ d:Int×List Int×List Int,r=.done d∧k≤d.1∧d.1≤k+68∧d.2.1.length=l.length∧d.2.2.length=l.length:=by
    intro u v h1 h2;unfold PV;rw [R5 B (by omega)];exact M6.guard (by simp only [List.length_singleton]; omega) (M6.pure (.inl ⟨_,_,_,B,rfl,h1,by omega,by simp only [List.length_append,List.length_singleton]; omega,by simp only [List.length_append,List.length_singleton]; omega⟩))
  refine M6.ifd (fun h0=>?_) (fun _=>F _ _ (by omega) (by omega));rw [MD (n:=y-j.1) (by omega) (by omega),MD (n:=y+j.1) (by omega) (by omega)];exact M6.bind (M3y (by omega) (by omega) (by omega) (by omega) (by omega)) fun b' ⟨U,Y,aa⟩=>F _ _ (by omega) (by omega)
theorem Maq {l:List El}{d f:List Int}{e:List (Int×Int)}{p:List Pc}{z:Int}(hs:Ls l l.length d e f)(G:p.length≤1000)(A:∀ q∈p,0≤q.1∧q.1<(l.length:Int)) :
    M6 (loop (Tn e f (p,z)) ([],[],0)) fun r=>r.1.length≤1000∧r.2.length≤1000:=by
  refine M6.st3 p.length (by omega) (fun i c d=>c.length≤i∧d.length≤i) ⟨by simp,by simp⟩ ?_;rintro i c q F ⟨H,I⟩;unfold Tn;simp only;refine M6.ifd (fun B=>?_) (fun B=>M6.pure (.inr ⟨_,rfl,by simp only; omega,by simp only; omega⟩));have g:i<p.length:=by omega
  have D:=hs.en; have E:=hs.fn;obtain ⟨x,j⟩:∃ x,p[i]? = some x:=⟨_,List.getElem?_eq_getElem g⟩
  have u:=A x (List.mem_of_getElem? j);rw [Mc,j,M8,R5 g (by omega)];refine M6.bind (M6.idx u.1 (by omega)) (fun b _=>M6.guard (by simp only [List.length_singleton]; omega) ?_);rw [M8];refine M6.ifd (fun _=>?_) (fun _=>M6.pure (.inl ⟨_,_,g,rfl,by simp; omega,by omega⟩));rw [M8];exact M6.bind (M6.idx u.1 (by omega)) (fun b _=>M6.guard (by simp only [List.length_singleton]; omega) (M6.pure (.inl ⟨_,_,g,rfl,by simp; omega,by simp; omega⟩)))
def CtG (l:List El) (c:Ct):Prop:=c.2.2.2.2.1.length=l.length∧c.2.2.2.2.2.length=l.length
theorem Mar {ts:List Int}{l:List El}{z k:Int}{n:Nat}{d f:List Int}{e:List (Int×Int)}{j:Int×Int}(B:WF l)(hs:Ls l l.length d e f)(hd:0<d.length)(ay:d.length≤6)(hj:0≤j.1∧j.1≤2500)(hn:n≤6)(hk:0≤k)(aA:k<1000000000000000000) :
    M6 (loop (To ts (l,z) d e f j) (k,[],[],(n:Int))) fun r=>k≤r.1∧r.1≤k+600∧r.2.1.length=r.2.2.length∧r.2.1.length≤6∧(∀ c∈r.2.1,CtG l c)∧∀ s∈r.2.2,s.length≤1000:=by
  have aB:=B.le;refine M6.loop (fun s:Int×List Ct×List (List Sp)×Int=>0≤s.2.2.2∧s.2.2.2≤6∧k≤s.1∧s.1+100*s.2.2.2≤k+600∧s.2.1.length=s.2.2.1.length∧s.2.1.length+s.2.2.2≤6∧(∀ c∈s.2.1,CtG l c)∧∀ q∈s.2.2.1,q.length≤1000) (fun s=>s.2.2.2.toNat) ⟨by simp only; omega,by simp only; omega,by simp only; omega,by simp only; omega,rfl,by simp only [List.length_nil]; omega,by simp,by simp⟩ (by simp only; omega) ?_;rintro ⟨u,c,q,g⟩ ⟨i1,i2,X,i4,F,i6,G,H⟩;simp only at i1 i2 X i4 F i6 G H;unfold To;simp only;refine M6.ifd (fun ag=>?_) (fun ag=>M6.pure ⟨X,by simp only; omega,F,by simp only; omega,G,H⟩);rw [MD (n:=g-1) (by omega) (by omega)];refine M6.bind (M6.pick (by omega) (by omega) (by simp) (by simp)) fun b ⟨b1,b2⟩=>?_
  refine M6.bind (M6.next (by omega) (by omega) (by omega) (by omega)) fun v ⟨v1,v2,v3⟩=>?_
  refine M6.bind (M6.idx v1 (by omega)) (fun t ⟨t1,_⟩=>?_);have ht:=hs.tm t t1;refine M6.bind (ZA B) (fun s aG=>M6.bind (M9q B t) (fun E J=>?_));refine M6.bind (M4U E.1 _ (by have:=J.2; omega)) (fun o A=>?_);refine M6.bind (M6.pick (by omega) (by omega) (by simp) (by simp)) fun a ⟨a1,a2⟩=>?_
  have ha:0≤a.1∧a.1≤5000:=by simp at a1; omega
  have aj:∀ p∈o.1,0≤p.1∧p.1<(l.length:Int):=fun p hp=>by
    obtain ⟨r,hr,e⟩:=A.2 p hp;have:=(J.1 r hr).1;omega
  refine M6.bind (Maq hs A.1 aj) ?_;rintro ⟨w,x⟩ ⟨Y,Z⟩;simp only at Y Z ⊢;refine M6.bind (M9r o.1 _ _ w _ x A.1 Y Z) (fun m hm=>M6.bind (M8d l o.1 m.1 _ A.1) (fun y U=>?_));have nx:∀ (I:Int) (P:Prop),k≤I→I+100*(g-1)≤k+600→M6 (some (Mm.next (I,c,q,g-1))) (M0c (fun s:Int×List Ct×List (List Sp)×Int=>0≤s.2.2.2∧s.2.2.2≤6∧k≤s.1∧s.1+100*s.2.2.2≤k+600∧s.2.1.length=s.2.2.1.length∧s.2.1.length+s.2.2.2≤6∧(∀ c∈s.2.1,CtG l c)∧∀ q∈s.2.2.1,q.length≤1000) (fun s=>s.2.2.2.toNat) g.toNat (fun r:Int×List Ct×List (List Sp)=>k≤r.1∧r.1≤k+600∧r.2.1.length=r.2.2.length∧r.2.1.length≤6∧(∀ c∈r.2.1,CtG l c)∧∀ s∈r.2.2,s.length≤1000)):=fun I P h1 h2=>M6.pure ⟨⟨by simp only; omega,by simp only; omega,h1,h2,F,by simp only; omega,G,H⟩,by simp only; omega⟩
  refine M6.ite (fun _=>nx _ True (by omega) (by omega)) (fun ah=>?_);have aD:m.1.length=o.1.length+1:=U.2 (by
    by_cases O:y.2=0
    · exact O
    · exact absurd (MV.2 O) ah)
  have aF:=A.1;rw [MD (n:=(m.1.length:Int)-1) (by omega) (by omega)];obtain ⟨aI,af⟩:∃ x,idx m.1 ((m.1.length:Int)-1)=some x:=by
    obtain ⟨x,h1,_⟩:=M6.idx (xs:=m.1) (i:=(m.1.length:Int)-1) (by omega) (by omega);exact ⟨x,h1⟩
  rw [af];simp only [M8];refine M6.ite (fun _=>nx _ True (by omega) (by omega)) (fun _=>M6.ite (fun _=>nx _ True (by omega) (by omega)) (fun _=>M6.ifd (fun _=>nx _ True (by omega) (by omega)) (fun _=>?_)));refine M6.bind (M3x y.1) (fun D _=>M6.ite (fun _=>nx _ True (by omega) (by omega)) (fun _=>?_));rw [MD (n:=a.1+j.1) (by omega) (by omega)];refine M6.bind (M3y (by omega) (by omega) (by omega) (by omega) (by omega)) fun m' ⟨m1,m2,m3⟩=>?_
  refine M6.bind (M9t B hs hj (by omega) (by omega)) ?_;rintro ⟨y',p',q'⟩ ⟨y1,y2,y3,y4⟩;simp only at y1 y2 y3 y4 ⊢;refine M6.guard (by simp only [List.length_singleton]; omega) (M6.guard (by omega) (M6.pure ⟨⟨by simp only; omega,by simp only; omega,by simp only; omega,by simp only; omega,by simp [F],by simp only [List.length_append,List.length_singleton]; omega,fun r hr=>?_,fun r hr=>?_⟩,by simp only; omega⟩))
  · rcases List.mem_append.1 hr with hr | hr
    · exact G r hr
    · rw [List.mem_singleton] at hr; subst hr; exact ⟨y3,y4⟩
  · rcases List.mem_append.1 hr with hr | hr
    · exact H r hr
    · rw [List.mem_singleton] at hr; subst hr; exact U.1
theorem M9u {ts:List Int}{l:List El}{z k:Int}(q:WF l)(O:0≤k)(U:k<1000000000000000000) :
    M6 (loop (RT ts (l,z)) (k,[],0)) fun r=>k≤r.1∧r.1≤k+68∧r.2.length≤34:=by
  have X:=q.le;refine M6.st3 l.length (by omega) (fun i c b=>k≤c∧c≤k+2*i∧b.length≤i) ⟨by omega,by omega,by simp⟩ ?_;rintro i c b J ⟨B,Y,Z⟩;unfold RT;simp only;refine M6.ifd (fun u=>?_) (fun u=>M6.pure (.inr ⟨_,rfl,B,by simp only; omega,by simp only; omega⟩));have g:i<l.length:=by omega
  obtain ⟨x,A⟩:∃ x,l[i]? = some x:=⟨_,List.getElem?_eq_getElem g⟩
  rw [Mc,A,M8];have j:∀ (d:Int) (f:Bool),k≤d→d≤k+2*i+1→M6 (PW ts b (i:Int) d f) fun r=>(∃ a' b',i<l.length∧r=.next (a',b',(i:Int)+1)∧k≤a'∧a'≤k+2*((i+1:Nat):Int)∧b'.length≤i+1)∨∃ d:Int×List (Int×Int),r=.done d∧k≤d.1∧d.1≤k+68∧d.2.length≤34:=by
    intro d f h1 I;unfold PW;rw [R5 g (by omega)];refine M6.ite (fun _=>?_) (fun _=>M6.pure (.inl ⟨_,_,g,rfl,h1,by omega,by omega⟩));refine M6.bind (M6.pick (by omega) (by omega) (by simp) (by simp)) fun c ⟨D,E⟩=>?_
    exact M6.guard (by simp only [List.length_singleton]; omega) (M6.pure (.inl ⟨_,_,g,rfl,by omega,by omega,by simp only [List.length_append,List.length_singleton]; omega⟩))
  refine M6.ite (fun _=>?_) (fun _=>j _ _ (by omega) (by omega));exact M6.bind (M6.next (by omega) (by omega) (by omega) (by omega)) fun e ⟨F,G,H⟩=>j _ _ (by omega) (by omega)
theorem M9v {l:List El}{e:Int×Int}{cs:List Ct}{r:List Int}(g:cs.length≤6)(A:∀ c∈cs,CtG l c)(D:r.length=cs.length) :
    M6 (loop (RS e) (cs,r,0)) fun s=>s.1.length≤6∧(∀ c∈s.1,CtG l c)∧s.2.length=cs.length:=by
  refine M6.st3 cs.length (by omega) (fun i d b=>d.length=cs.length∧b.length=cs.length∧∀ c∈d,CtG l c) ⟨rfl,D,A⟩ ?_;rintro i d b H ⟨I,G,j⟩;unfold RS;simp only;refine M6.ifd (fun B=>?_) (fun B=>M6.pure (.inr ⟨_,rfl,by simp only; omega,j,G⟩));have q:i<cs.length:=by omega
  obtain ⟨x,E⟩:∃ x,b[i]? = some x:=⟨_,List.getElem?_eq_getElem (by omega)⟩
  obtain ⟨y,u⟩:∃ y,d[i]? = some y:=⟨_,List.getElem?_eq_getElem (by omega)⟩
  have F:=j y (List.mem_of_getElem? u);rw [Mc,E,M8,M8,Mc,Mc,u,R5 q (by omega)];refine M6.bind (M6.of (List.getElem?_eq_getElem (by simp only [List.length_set]; omega)) trivial) (fun h (_:True)=>?_);rw [M8];refine M6.pure (.inl ⟨_,_,q,rfl,by simp only [List.length_set]; omega,by simp only [List.length_set]; omega,fun c g=>?_⟩);rcases List.mem_or_eq_of_mem_set g with g | rfl
  · exact j c g
  · exact F
structure M4X (s:List El×Int×List (Int×Int)×List Sp×List Ct):Prop where
  wf:WF s.1
  st:s.2.2.1.length≤34
  cm:s.2.2.2.1.length≤1024
  cl:s.2.2.2.2.length≤6
  cg:∀ c∈s.2.2.2.2,CtG s.1 c
theorem M9w (ts:List Int):M6 (WC ts 0 6) fun r=>M4X r.1.1∧0≤r.2∧r.2≤2000:=by
  unfold WC;refine M6.bind (M5W (n:=4) (by omega) (by omega) (by omega) (by omega)) ?_;rintro ⟨l,k⟩ ⟨d1,d2,O,G,U,X⟩;simp only at d1 d2 O G U X ⊢;have A:WF l:=⟨d1,d2,G⟩
  refine M6.bind (M6.pick (by omega) (by omega) (by simp) (by simp)) fun c ⟨c1,c2⟩=>?_
  refine M6.bind (M6.pick (by omega) (by omega) (by simp) (by simp)) fun j ⟨j1,j2⟩=>?_
  have Z:0≤j.1∧j.1≤2500:=by simp at j1; omega
  refine M6.bind (M6.pick (by omega) (by omega) (by simp) (by simp)) fun m ⟨m1,m2⟩=>?_
  have hm:0≤m.1∧m.1≤2500:=by simp at m1; omega
  refine M6.bind (Map A Z hm (by omega) (by omega)) ?_;rintro ⟨t,p,q,r⟩ ⟨t1,t2,hs⟩;simp only at t1 t2 hs ⊢;have hp:=hs.tn;rw [List.take_length] at hp;refine M6.bind (M6.pick (by omega) (by omega) (by simp) (by simp)) fun n ⟨n1,n2⟩=>?_
  have hn:0≤n.1∧n.1≤2500:=by simp at n1; omega
  rw [MD (n:=6+1) (by omega) (by omega)];refine M6.bind (M6.next (by omega) (by omega) (by omega) (by omega)) fun o ⟨o1,o2,o3⟩=>?_
  have ho:o.1=((o.1.toNat:Nat):Int):=by omega
  rw [ho];refine M6.bind (Mar A hs (by omega) (by omega) hn (by omega) (by omega) (by omega)) ?_;rintro ⟨u,h,e⟩ ⟨u1,u2,u3,D,E,F⟩;simp only at u1 u2 u3 D E F ⊢;refine M6.bind (M9u A (by omega) (by omega)) ?_;rintro ⟨i,f⟩ ⟨f1,Y,B⟩;simp only at f1 Y B ⊢;refine M6.bind (M4V e c.1 (by omega) F) (fun k2 aa=>M6.ite (fun _=>M6.pure ⟨⟨A,B,by simp,D,E⟩,by simp only; omega,by simp only; omega⟩) (fun ad=>?_));have aw:=aa (by
    by_cases H:k2.2=0
    · exact H
    · exact absurd (MV.2 H) ad)
  refine M6.bind (M9v (l:=l) D E (by omega)) ?_;rintro ⟨s,g⟩ ⟨I,J,s3⟩;simp only at I J s3 ⊢;refine M6.bind (M4W e g c.1 f (by omega) (by omega) F (by omega)) (fun w hw=>M6.pure ⟨⟨A,B,hw,I,J⟩,by simp only; omega,by simp only; omega⟩)
theorem M60 {ts:List Int}{k th:Int}{l:List El}{st:List (Int×Int)}{cm:List Sp}{cl:List Ct}(h:M4X (l,th,st,cm,cl))(hk:0≤k)(aH:k≤2000) :
    M6 (TW ts k l th st cm cl) fun r=>M4X r.1:=by
  obtain ⟨wf,ac,ab,aa,Z⟩:=h;simp only at wf ac ab aa Z;have aJ:=wf.le; have aI:=wf.li.h1;unfold TW;rw [List.nil_append,List.nil_append];refine M6.guard (by simp only [List.length_nil]; omega) (M6.guard (by simp only [List.length_nil]; omega) (M6.bind (M6.next hk (by omega) (by omega) (by omega)) fun g ⟨g1,g2,g3⟩=>?_));rw [MD (n:=1+g.1) (by omega) (by omega)];refine M6.bind (P:=fun r:(Int×List Sp×List Ct)⊕(Int×List Sp×List Ct)=>match r with | .inl r=>r.2.1.length≤1024∧r.2.2.length≤6∧∀ c∈r.2.2,CtG l c | .inr r=>r.2.1.length≤1024∧r.2.2.length≤6∧∀ c∈r.2.2,CtG l c) ?_ (by
    rintro (⟨a,b,c⟩ | ⟨a,b,c⟩) ⟨h1,O,U⟩ <;> exact M6.pure ⟨wf,ac,h1,O,U⟩)
  refine M6.loop (fun s:Int×List Sp×List Ct×Int=>0≤s.2.2.2∧s.2.2.2≤3∧0≤s.1∧s.1+10*s.2.2.2≤3000∧s.2.1.length≤1024∧s.2.2.1.length≤6∧∀ c∈s.2.2.1,CtG l c) (fun s=>s.2.2.2.toNat) ⟨by simp only; omega,by simp only; omega,by simp only; omega,by simp only; omega,ab,aa,Z⟩ (by simp only; omega) ?_;rintro ⟨c,a,b,d⟩ ⟨i1,i2,i3,i4,A,B,j⟩;simp only at i1 i2 i3 i4 A B j;unfold TB;simp only;refine M6.ifd (fun hd=>?_) (fun _=>M6.pure ⟨A,B,j⟩);have nx:∀ (u:Int) (a':List Sp) (b':List Ct),0≤u→u≤c+10→a'.length≤1024→b'.length≤6→(∀ c∈b',CtG l c)→M6 (some (Mm.next (u,a',b',d-1))) (M0c (fun s:Int×List Sp×List Ct×Int=>0≤s.2.2.2∧s.2.2.2≤3∧0≤s.1∧s.1+10*s.2.2.2≤3000∧s.2.1.length≤1024∧s.2.2.1.length≤6∧∀ c∈s.2.2.1,CtG l c) (fun s=>s.2.2.2.toNat) d.toNat (fun r:(Int×List Sp×List Ct)⊕(Int×List Sp×List Ct)=>match r with | .inl r=>r.2.1.length≤1024∧r.2.2.length≤6∧∀ c∈r.2.2,CtG l c | .inr r=>r.2.1.length≤1024∧r.2.2.length≤6∧∀ c∈r.2.2,CtG l c)):=
    fun u a' b' h1 O U h4 h5=>M6.pure ⟨⟨by simp only; omega,by simp only; omega,h1,by simp only; omega,U,h4,h5⟩,by simp only; omega⟩
  have ad:∀ (u:Int) (p:Bool),0≤u→u≤c+1→(p=true→0<a.length)→M6 (PD ts l a b d u p) (M0c (fun s:Int×List Sp×List Ct×Int=>0≤s.2.2.2∧s.2.2.2≤3∧0≤s.1∧s.1+10*s.2.2.2≤3000∧s.2.1.length≤1024∧s.2.2.1.length≤6∧∀ c∈s.2.2.1,CtG l c) (fun s=>s.2.2.2.toNat) d.toNat (fun r:(Int×List Sp×List Ct)⊕(Int×List Sp×List Ct)=>match r with | .inl r=>r.2.1.length≤1024∧r.2.2.length≤6∧∀ c∈r.2.2,CtG l c | .inr r=>r.2.1.length≤1024∧r.2.2.length≤6∧∀ c∈r.2.2,CtG l c)):=by
    intro u p h1 O hp;unfold PD;rw [MD (n:=d-1) (by omega) (by omega)];refine M6.ite (fun ak=>?_) (fun _=>?_)
    · have aF:=hp ak;refine M6.bind (M6.next h1 (by omega) (by omega) (by omega)) fun v ⟨D,E,v3⟩=>?_
      refine M6.bind (M6.next (by omega) (by omega) (by omega) (by omega)) fun e ⟨Y,e2,e3⟩=>?_
      refine M6.ite (fun _=>?_) (fun _=>M6.ite (fun _=>?_) (fun _=>?_))
      · rw [MD (n:=v.1+1) (by omega) (by omega)];have Y:(a.drop (Int.toNat (v.1+1))).take (Int.toNat (a.length:Int)-Int.toNat (v.1+1))=a.drop (Int.toNat (v.1+1)):=List.take_of_length_le (by simp);rw [Y];have e5:(a.take (Int.toNat v.1)).length+(a.drop (Int.toNat (v.1+1))).length≤a.length:=by simp only [List.length_take,List.length_drop]; omega
        exact M6.guard ⟨by omega,by omega⟩ (M6.guard ⟨by omega,by omega,Int.le_refl _⟩ (M6.guard (by omega) (nx _ _ _ (by omega) (by omega) (by rw [List.length_append]; omega) B j)))
      · refine M6.bind (M6.idx D E) (fun q _=>M6.bind (M6.pick (by omega) (by omega) (by simp) (by simp)) fun m ⟨F,G⟩=>M6.bind (M6.idx D E) (fun i _=>?_));exact nx _ _ _ (by omega) (by omega) (by rw [List.length_set]; omega) B j
      · refine M6.bind (M6.idx D E) (fun q _=>M6.bind (M6.pick (by omega) (by omega) (by simp) (by simp)) fun m ⟨F,G⟩=>M6.bind (M6.idx D E) (fun i _=>?_));exact nx _ _ _ (by omega) (by omega) (by rw [List.length_set]; omega) B j
    · refine M6.ite (fun _=>M6.pure ⟨A,B,j⟩) (fun hb=>?_);have aG:0<b.length:=by
        rcases Nat.eq_zero_or_pos b.length with h | h
        · exact absurd (Mz.2 (by omega)) hb
        · exact h
      refine M6.bind (M6.next h1 (by omega) (by omega) (by omega)) fun v ⟨D,E,v3⟩=>?_
      refine M6.bind (M6.idx D E) (fun x ⟨hx,_⟩=>?_);obtain ⟨I,J⟩:=j x hx;refine M6.bind (M6.next (by omega) (by omega) (by omega) (by omega)) fun r ⟨r1,r2,r3⟩=>?_
      refine M6.guard (by simp only [List.length_nil]; omega) (M6.guard (by simp only [List.length_nil]; omega) ?_);have H:∀ y:Ct,CtG l y→∀ c∈b.set (Int.toNat v.1) y,CtG l c:=fun y hy c X=>by
        rcases List.mem_or_eq_of_mem_set X with X | rfl
        · exact j c X
        · exact hy
      unfold TA;rw [MD (n:=d-1) (by omega) (by omega)];simp only [List.nil_append];refine M6.bind (M6.next (by omega) (by omega) (by omega) (by omega)) fun w ⟨w1,w2,w3⟩=>?_
      refine M6.ite (fun _=>?_) (fun _=>M6.ite (fun _=>?_) (fun _=>M6.ite (fun _=>?_) (fun _=>?_)))
      · refine M6.bind (M6.pick (by omega) (by omega) (by simp) (by simp)) fun m ⟨F,G⟩=>M6.bind (M6.idx r1 r2) (fun i _=>?_)
        exact nx _ _ _ (by omega) (by omega) A (by rw [List.length_set]; omega) (H _ ⟨by simp only [List.length_set]; exact I,J⟩)
      · refine M6.bind (M6.pick (by omega) (by omega) (by simp) (by simp)) fun m ⟨F,G⟩=>M6.bind (M6.idx r1 (by omega)) (fun i _=>?_)
        exact nx _ _ _ (by omega) (by omega) A (by rw [List.length_set]; omega) (H _ ⟨I,by simp only [List.length_set]; exact J⟩)
      · refine M6.bind (M6.pick (by omega) (by omega) (by simp) (by simp)) fun m ⟨F,G⟩=>?_
        exact nx _ _ _ (by omega) (by omega) A (by rw [List.length_set]; omega) (H _ ⟨I,J⟩)
      · refine M6.bind (ZA wf) (fun n hn=>M6.bind (M6.next (by omega) (by omega) (by omega) (by omega)) fun m ⟨F,G,m3⟩=>?_);exact nx _ _ _ (by omega) (by omega) A (by rw [List.length_set]; omega) (H _ ⟨I,J⟩)
  refine M6.ifd (fun ha=>?_) (fun _=>ad _ _ (by omega) (by omega) (fun h=>by cases h));exact M6.bind (M6.next (by omega) (by omega) (by omega) (by omega)) fun w ⟨w1,w2,w3⟩=>ad _ _ (by omega) (by omega) (fun _=>by omega)
def Pe (n:Nat) (p:Nat→Bool):Bool:=(List.range n).all p
theorem PF (n:Nat)(p:Nat→Bool):Pe (n+1) p=(Pe n p&&p n):=by simp [Pe,List.range_succ]
theorem M4e (p:Nat→Bool):Pe 0 p=true:=rfl
theorem M2E {n m:Nat}{p:Nat→Bool}(h:n≤m)(g:Pe n p=false):Pe m p=false:=by
  induction m with
  | zero=>
    have:n=0:=by omega
    subst this; exact g
  | succ m q=>
    by_cases j:n=m+1
    · subst j; exact g
    · rw [PF,q (by omega)]; rfl
theorem M9x {n:Nat}{p:Nat→Bool}:Pe n p=true↔∀ i,i<n→p i=true:=by simp [Pe]
theorem M00 {D:Type}{step:Int→Option (Mm Int D)}{n:Nat}{p:Nat→Bool}{d1 d2:D}(B:n<4000000000000000000)
    (h:∀ i:Nat,i<n→step (i:Int)=some (if p i=true then .next ((i:Int)+1) else .done d1)) (u:step (n:Int)=some (.done d2)):loop step 0=some (if Pe n p=true then d2 else d1):=by
  suffices M6 (loop step 0) (fun r=>r=if Pe n p=true then d2 else d1) by obtain ⟨v,q,rfl⟩:=this; exact q
  refine M6.loop (fun s=>∃ i:Nat,s=(i:Int)∧i≤n∧Pe i p=true) (fun s=>n-s.toNat) ⟨0,rfl,by omega,rfl⟩ (by simp; omega) ?_;rintro s ⟨i,rfl,A,ha⟩
  by_cases j:i<n
  · refine M6.of (h i j) ?_
    by_cases g:p i=true
    · rw [if_pos g]; exact ⟨⟨i+1,rfl,by omega,by rw [PF,ha,g]; rfl⟩,by simp only; omega⟩
    · rw [if_neg g];have:Pe n p=false:=M2E (n:=i+1) j (by rw [PF,ha]; simpa using g);simp only [M0c,this]; rfl
  · have:i=n:=by omega
    subst this;exact M6.of u (by simp only [M0c,ha]; rfl)
theorem Yu {step:Bool×Int→Option (Mm (Bool×Int) Bool)}{n:Nat}{p:Nat→Bool}{b:Bool}(A:n<4000000000000000000)
    (h:∀ (b:Bool) (i:Nat),i<n→step (b,(i:Int))=some (.next (b&&p i,(i:Int)+1))∨(b=false∧step (b,(i:Int))=some (.done false))) (u:∀ b,step (b,(n:Int))=some (.done b)):loop step (b,0)=some (b&&Pe n p):=by
  suffices M6 (loop step (b,0)) (fun r=>r=(b&&Pe n p)) by obtain ⟨v,j,rfl⟩:=this; exact j
  refine M6.st2 n A (fun i c=>c=(b&&Pe i p)) (by rw [M4e,Bool.and_true]) (fun i c B g=>?_)
  by_cases q:i<n
  · rcases h c i q with h1 | ⟨h1,j⟩
    · exact M6.of h1 (.inl ⟨_,q,rfl,by rw [g,PF,Bool.and_assoc]⟩)
    · refine M6.of j (.inr ⟨_,rfl,?_⟩);rw [h1] at g;cases b
      · rfl
      · rw [Bool.true_and] at g ⊢;exact (M2E (by omega) g.symm).symm
  · have:i=n:=by omega
    subst this;exact M6.of (u c) (.inr ⟨_,rfl,g⟩)
def WD (a b c:Int):Bool:=decide (b≤a∧a≤c)
theorem M0C {a b c:Int}:TU a b c=some (WD a b c):=by
  unfold TU WD
  by_cases h1:b≤a
  · rw [if_pos (decide_eq_true (by omega))]; congr 1; simp [h1]
  · rw [if_neg (fun h=>h1 (by have:=of_decide_eq_true h; omega))]; simp [h1]
def Xi (l:List El) (i k:Int):Bool:=decide (0≤i∧i<(l.length:Int)∧(l.getD i.toNat P8).1=k)
theorem M3A {l:List El}{i:Int}(g:0≤i)(h1:i<(l.length:Int)):idx l i=some (l.getD i.toNat P8):=by
  unfold idx;rw [if_pos g];have:i.toNat<l.length:=by omega
  rw [List.getElem?_eq_getElem this,List.getD_eq_getElem?_getD,List.getElem?_eq_getElem this]; rfl
theorem M3B {l:List El}{i k:Int}(h1:1≤l.length)(q:l.length≤34):WH l i k=some (Xi l i k):=by
  unfold WH;rw [MD (by omega) (by omega),M0C,M8];unfold WD Xi
  by_cases h:0≤i∧i≤(l.length:Int)-1
  · rw [if_pos (by simpa using h),M3A h.1 (by omega),M8]
    congr 1
    have:i<(l.length:Int):=by omega
    by_cases g:(l.getD i.toNat P8).1=k
    · rw [Mz.2 g,Wj ⟨h.1,this,g⟩]
    · rw [decide_eq_false (fun j=>g j.2.2)]; exact beq_eq_false_iff_ne.2 g
  · rw [if_neg (by simpa using h)]
    congr 1
    symm
    rw [decide_eq_false_iff_not];intro j; omega
def ZB (s:Int):Bool:=decide (s=1∨s=2)
theorem M3C {s:Int}:Ye s=some (ZB s):=by
  unfold Ye ZB
  by_cases h:s=1
  · subst h; rfl
  · rw [if_neg (by simpa using h)]; congr 1; simp only [h,false_or]; rfl
theorem M4Y {a:Int}:Yj a=some (WD a 0 1000000000):=by
  unfold Yj WD
  by_cases h1:0≤a
  · rw [if_pos (decide_eq_true h1)]; congr 1; simp [h1]
  · rw [if_neg (fun h=>h1 (of_decide_eq_true h))]; simp [h1]
theorem M7C {l:List El}{i s:Int}:Zt l i s=some (Xi l i 3&&ZB s):=by
  unfold Zt Xi
  by_cases h1:0≤i
  · rw [if_pos (decide_eq_true h1)]
    by_cases g:i<(l.length:Int)
    · rw [if_pos (decide_eq_true g),M3A h1 g,M8]
      by_cases q:(l.getD i.toNat P8).1=3
      · rw [if_pos (Mz.2 q),Wj ⟨h1,g,q⟩,Bool.true_and];exact M3C
      · rw [if_neg (fun h=>q (Mz.1 h)),decide_eq_false (fun j=>q j.2.2)]; rfl
    · rw [if_neg (fun h=>g (of_decide_eq_true h)),decide_eq_false (fun j=>g j.2.1)]; rfl
  · rw [if_neg (fun h=>h1 (of_decide_eq_true h)),decide_eq_false (fun j=>h1 j.1)]; rfl
theorem M8f (l:List El):W6 l=MR l:=by
  unfold W6 MR;have:Tf l=Rx l:=by
    funext ⟨a,b⟩;unfold Tf Rx;simp only
    split
    · cases idx l b with
      | none=>rfl
      | some x=>simp only [M8]
    · rfl
  rw [this]
def M3D (n:Nat) (r t:List Int):Bool:=Pe n fun i=>WD (r.getD i 0) (-5000) 10000&&WD (t.getD i 0) (-1) 20000
def M61 (l:List El) (g:Int) (c:Ct):Bool:=
  WD c.1 0 1000000000&&WD c.2.1 1 g&&Xi l c.2.2.1 4&&WD c.2.2.2.1 0 20000&&decide (c.2.2.2.2.1.length=l.length)&&decide (c.2.2.2.2.2.length=l.length)&&M3D l.length c.2.2.2.2.1 c.2.2.2.2.2
theorem M1n {r:List Int}{i:Nat}(h:i<r.length):idx r (i:Int)=some (r.getD i 0):=by
  rw [Mc,List.getD_eq_getElem?_getD,List.getElem?_eq_getElem h]; rfl
theorem M73 {l:List El}{c:Ct}{u:Int}(h1:1≤l.length)(D:l.length≤34):Ww l c.1 c.2.1 c.2.2.1 c.2.2.2.1 c.2.2.2.2.1 c.2.2.2.2.2 u=some (M61 l u c):=by
  obtain ⟨t,n,g,w,r,q⟩:=c;unfold Ww M61;simp only [M0C,M3B h1 D,M8];cases WD t 0 1000000000 <;> try rfl
  cases WD n 1 u <;> try rfl
  cases Xi l g 4 <;> try rfl
  cases WD w 0 20000 <;> try rfl
  rw [if_neg (by decide),if_neg (by decide),if_neg (by decide),if_neg (by decide)]
  by_cases B:r.length=l.length
  · rw [if_neg (fun j=>MV.1 j (by omega)),Wj B]
    by_cases A:q.length=l.length
    · rw [if_neg (fun j=>MV.1 j (by omega)),Wj A];have e:=M00 (step:=Rj l r q) (n:=l.length) (p:=fun i=>WD (r.getD i 0) (-5000) 10000&&WD (q.getD i 0) (-1) 20000) (d1:=.inl ()) (d2:=.inr ()) (by omega) (fun i E=>by
        unfold Rj;simp only;rw [if_pos (decide_eq_true (by omega)),M1n (by omega),M8,M0C,M8,M1n (by omega),M8,M0C,M8,R5 E (by omega)];cases WD (r.getD i 0) (-5000) 10000 <;> cases WD (q.getD i 0) (-1) 20000 <;> rfl) (by
        unfold Rj;simp only;rw [if_neg (by simp)])
      rw [e,M8];show _=some (M3D l.length r q)
      unfold M3D;cases Pe l.length _ <;> rfl
    · rw [if_pos (MV.2 (by omega)),decide_eq_false A]; rfl
  · rw [if_pos (MV.2 (by omega)),decide_eq_false B]; rfl
theorem M7D {l:List El}{r q:List Int}{b:Bool}(F:l.length≤34)(B:b=true→r.length=l.length∧q.length=l.length):MZ l r q b=some (b&&M3D l.length r q):=by
  unfold MZ;have e:loop (V9 l r q) (b,0)=some (b&&M3D l.length r q):=by
    cases b with
    | false=>
      exact M9T 1 (by omega) rfl
    | true=>
      obtain ⟨h1,E⟩:=B rfl;exact Yu (step:=V9 l r q) (n:=l.length) (by omega) (fun c i D=>by
        cases c with
        | false=>exact .inr ⟨rfl,rfl⟩
        | true=>
          left;unfold V9;simp only;rw [if_pos trivial,if_pos (decide_eq_true (by omega)),M1n (by omega),M8,M8,M1n (by omega),M8,M8,R5 D (by omega),Bool.true_and]
          by_cases j:-5000≤r.getD i 0
          · rw [if_pos (decide_eq_true (by omega))]
            by_cases u:r.getD i 0≤10000
            · rw [if_pos (decide_eq_true (by omega))];have g:WD (r.getD i 0) (-5000) 10000=true:=decide_eq_true ⟨j,u⟩
              by_cases A:-1≤q.getD i 0
              · rw [if_pos (decide_eq_true (by omega)),g,Bool.true_and];unfold WD;simp only [A,true_and]
              · rw [if_neg (fun h=>A (by have:=of_decide_eq_true h; omega)),g,Bool.true_and];unfold WD;simp only [A,false_and,decide_false]
            · rw [if_neg (fun h=>u (of_decide_eq_true h))];have g:WD (r.getD i 0) (-5000) 10000=false:=decide_eq_false (fun h=>u h.2);rw [g,Bool.false_and]
          · rw [if_neg (fun h=>j (by have:=of_decide_eq_true h; omega))];have g:WD (r.getD i 0) (-5000) 10000=false:=decide_eq_false (fun h=>j h.1);rw [g,Bool.false_and]) (fun c=>by
        unfold V9;simp only;rw [if_neg (c:=decide ((l.length:Int)<(l.length:Int))=true) (by simp)];cases c <;> rfl)
  rw [e,M8]
theorem Mas {l:List El}{c:Ct}{u:Int}(h1:1≤l.length)(O:l.length≤34)(hs:MR l=some u):M2x l c.1 c.2.1 c.2.2.1 c.2.2.2.1 c.2.2.2.2.1 c.2.2.2.2.2=some (M61 l u c):=by
  obtain ⟨t,n,g,w,r,q⟩:=c;unfold M2x M61;have U:MZ l r q false=some false:=by rw [M7D O (fun h=>by cases h)]; rfl
  simp only [M4Y,M8,U,hs];cases WD t 0 1000000000
  · rfl
  rw [if_pos rfl]
  by_cases I:1≤n
  · rw [if_pos (decide_eq_true (by omega))]
    by_cases F:n≤u
    · rw [if_pos (decide_eq_true F),show WD n 1 u=true from decide_eq_true ⟨I,F⟩]
      by_cases B:0≤g
      · rw [if_pos (decide_eq_true (by omega))]
        by_cases A:g<(l.length:Int)
        · rw [if_pos (decide_eq_true A),M3A B A,M8]
          by_cases D:(l.getD g.toNat P8).1=4
          · rw [if_pos (Mz.2 D),show Xi l g 4=true from decide_eq_true ⟨B,A,D⟩]
            by_cases J:0≤w
            · rw [if_pos (decide_eq_true (by omega))]
              by_cases G:w≤20000
              · rw [if_pos (decide_eq_true G),show WD w 0 20000=true from decide_eq_true ⟨J,G⟩]
                by_cases E:r.length=l.length
                · rw [if_pos (Mz.2 (by omega)),Wj E]
                  by_cases H:q.length=l.length
                  · rw [Mz.2 (by omega:(q.length:Int)=l.length),M7D O (fun _=>⟨E,H⟩),Wj H]; rfl
                  · rw [show ((q.length:Int)==(l.length:Int))=false from beq_eq_false_iff_ne.2 (by omega),U,decide_eq_false H]; rfl
                · rw [if_neg (fun j=>E (by have:=Mz.1 j; omega)),decide_eq_false E]; rfl
              · rw [if_neg (fun j=>G (of_decide_eq_true j)),show WD w 0 20000=false from decide_eq_false (fun h=>G h.2)]; rfl
            · rw [if_neg (fun j=>J (by have:=of_decide_eq_true j; omega)),show WD w 0 20000=false from decide_eq_false (fun h=>J h.1)]; rfl
          · rw [if_neg (fun j=>D (Mz.1 j)),show Xi l g 4=false from decide_eq_false (fun h=>D h.2.2)]; rfl
        · rw [if_neg (fun j=>A (of_decide_eq_true j)),show Xi l g 4=false from decide_eq_false (fun h=>A h.2.1)]; rfl
      · rw [if_neg (fun j=>B (by have:=of_decide_eq_true j; omega)),show Xi l g 4=false from decide_eq_false (fun h=>B h.1)]; rfl
    · rw [if_neg (fun j=>F (of_decide_eq_true j)),show WD n 1 u=false from decide_eq_false (fun h=>F h.2)]; rfl
  · rw [if_neg (fun j=>I (by have:=of_decide_eq_true j; omega)),show WD n 1 u=false from decide_eq_false (fun h=>I h.1)]; rfl
def Rl (l:List El) (st:List (Int×Int)) (i:Nat):Bool:=
  Xi l (st.getD i (0,0)).1 3&&(Pe i fun j=>(st.getD j (0,0)).1 !=(st.getD i (0,0)).1)&&ZB (st.getD i (0,0)).2
def M4Z (l:List El) (n:Nat) (c:Sp):Bool:=WD c.1 0 1000000000&&Xi l c.2.1 3&&ZB c.2.2.1&&WD c.2.2.2 0 ((n:Int)-1)
abbrev ct0:Ct:=(0,0,0,0,[],[])
abbrev VO:Sp:=(0,0,0,0)
def ctB (l:List El) (g:Int) (cl:List Ct) (i:Nat):Bool:=M61 l g (cl.getD i ct0)&&(decide (i=0)||decide ((cl.getD (i-1) ct0).1≤(cl.getD i ct0).1))
def Z5 (l:List El) (g th:Int) (st:List (Int×Int)) (cm:List Sp) (cl:List Ct):Int:=
  if cm.length>1024 then 3 else if cl.length>96 then 3 else
  if (WD th 0 1000000000&&Pe st.length (Rl l st)&&Pe cm.length (fun i=>M4Z l cl.length (cm.getD i VO))&&Pe cl.length (ctB l g cl))=true then 0 else 1
theorem ZC {α:Type}{r:List α}{i:Nat}(d:α)(h:i<r.length):idx r (i:Int)=some (r.getD i d):=by
  rw [Mc,List.getD_eq_getElem?_getD,List.getElem?_eq_getElem h]; rfl
theorem M8g {l:List El}{u th:Int}{st:List (Int×Int)}{cm:List Sp}{cl:List Ct}(h:WF l)(hs:MR l=some u)(ag:st.length≤34):YC l th st cm cl=some (Z5 l u th st cm cl):=by
  have H:=h.le; have h1:=h.li.h1;unfold YC Z5;rw [M4P h,M8,if_neg (by decide)]
  by_cases E:cm.length>1024
  · rw [if_pos (decide_eq_true (by omega)),if_pos E]
  rw [if_neg (fun g=>E (by have:=of_decide_eq_true g; omega)),if_neg E]
  by_cases F:cl.length>96
  · rw [if_pos (decide_eq_true (by omega)),if_pos F]
  rw [if_neg (fun g=>F (by have:=of_decide_eq_true g; omega)),if_neg F,M0C,M8];cases WD th 0 1000000000
  · rfl
  rw [if_neg (by decide),Bool.true_and];have Z:loop (T6 l st) ([],0)=some (if Pe st.length (Rl l st)=true then .inr () else .inl ()):=by
    suffices M6 (loop (T6 l st) ([],0)) (fun r=>r=if Pe st.length (Rl l st)=true then .inr () else .inl ()) by obtain ⟨v,h2,rfl⟩:=this; exact h2
    refine M6.st2 st.length (by omega) (fun i m=>Pe i (Rl l st)=true∧∀ k,(Mu m k).getD false = !(Pe i fun j=>(st.getD j (0,0)).1 != k)) ⟨rfl,fun k=>rfl⟩ (fun i m q hm=>?_);obtain ⟨U,X⟩:=hm;unfold T6;simp only;refine M6.ifd (fun ae=>?_) (fun ae=>M6.pure (.inr ⟨_,rfl,?_⟩))
    · have A:i<st.length:=by omega
      rw [ZC (0,0) A,M8,M3B h1 H,M8,M3C,R5 A (by omega)];have D:Rl l st i=false→M6 (some (Mm.done (σ:=List (Int×Bool)×Int) (Sum.inl (β:=Unit) ()))) fun r=>(∃ Y,i<st.length∧r=.next (Y,(i:Int)+1)∧Pe (i+1) (Rl l st)=true∧∀ k,(Mu Y k).getD false = !(Pe (i+1) fun j=>(st.getD j (0,0)).1 != k))∨∃ d,r=.done d∧d=if Pe st.length (Rl l st)=true then Sum.inr () else Sum.inl ():=fun hb=>by
        have:Pe st.length (Rl l st)=false:=M2E (n:=i+1) A (by rw [PF,hb,Bool.and_false]);exact M6.pure (.inr ⟨_,rfl,by rw [this]; rfl⟩)
      cases B:Xi l (st.getD i (0,0)).1 3
      · exact D (by unfold Rl; rw [B]; rfl)
      rw [if_neg (by decide),X];cases ha:Pe i fun j=>(st.getD j (0,0)).1 !=(st.getD i (0,0)).1
      · exact D (by unfold Rl; rw [B,ha]; rfl)
      rw [if_neg (by decide),M8];cases O:ZB (st.getD i (0,0)).2
      · exact D (by unfold Rl; rw [B,ha,O]; rfl)
      rw [if_neg (by decide)];refine M6.pure (.inl ⟨_,A,rfl,by rw [PF,U]; unfold Rl; rw [B,ha,O]; rfl,fun k=>?_⟩);rw [Y1,PF]
      by_cases G:k=(st.getD i (0,0)).1
      · subst G;rw [if_pos (Mz.2 rfl),bne_self_eq_false,Bool.and_false]; rfl
      · rw [if_neg (fun g=>G (Mz.1 g)),X,MV.2 (fun g=>G g.symm),Bool.and_true]
    · have:i=st.length:=by omega
      subst this;rw [U]; rfl
  rw [Z,M8];cases Pe st.length (Rl l st)
  · rfl
  rw [if_pos rfl,Bool.true_and];simp only;have e2:=M00 (step:=T5 l cm cl) (n:=cm.length) (p:=fun i=>M4Z l cl.length (cm.getD i VO)) (d1:=.inl ()) (d2:=.inr ()) (by omega) (fun i q=>by
    unfold T5;simp only;rw [if_pos (decide_eq_true (by omega)),ZC VO q,M8,M0C,M8,M3B h1 H,M8,M3C,M8,M0C,M8,R5 q (by omega),MD (n:=(cl.length:Int)-1) (by omega) (by omega)];unfold M4Z;cases WD (cm.getD i VO).1 0 1000000000 <;> try rfl
    cases Xi l (cm.getD i VO).2.1 3 <;> try rfl
    cases ZB (cm.getD i VO).2.2.1 <;> try rfl
    cases WD (cm.getD i VO).2.2.2 0 ((cl.length:Int)-1) <;> rfl) (by
    unfold T5;simp only;rw [if_neg (by simp)])
  rw [e2,M8];cases Pe cm.length fun i=>M4Z l cl.length (cm.getD i VO)
  · rfl
  rw [if_pos rfl,Bool.true_and];simp only;rw [M8f,hs,M8];have e3:=M00 (step:=T4 l cl u) (n:=cl.length) (p:=ctB l u cl) (d1:=.inl ()) (d2:=.inr ()) (by omega) (fun i q=>by
    unfold T4;simp only;rw [if_pos (decide_eq_true (by omega)),ZC ct0 q,M8,M73 h1 H,M8,R5 q (by omega)];unfold ctB;cases M61 l u (cl.getD i ct0)
    · rfl
    rw [if_neg (by decide),Bool.true_and]
    by_cases I:i=0
    · subst I; rfl
    · rw [if_pos (decide_eq_true (by omega)),MD (n:=(i:Int)-1) (by omega) (by omega),show (i:Int)-1=((i-1:Nat):Int) by omega,ZC ct0 (by omega),M8,decide_eq_false I,Bool.false_or]
      by_cases J:(cl.getD (i-1) ct0).1≤(cl.getD i ct0).1
      · rw [if_neg (fun g=>by have:=of_decide_eq_true g; omega),Wj J]; rfl
      · rw [if_pos (decide_eq_true (by omega)),decide_eq_false J]; rfl) (by
    unfold T4;simp only;rw [if_neg (by simp)])
  rw [e3,M8];cases Pe cl.length (ctB l u cl) <;> rfl
theorem M9y {l:List El}{r th:Int}{st:List (Int×Int)}{cm:List Sp}{cl:List Ct}(h:WF l)(hs:MR l=some r)(O:st.length≤34):ZN l th st cm cl=some (Z5 l r th st cm cl):=by
  have J:=h.le; have h1:=h.li.h1;unfold ZN Z5;rw [M0d h,M8,if_neg (by decide)]
  by_cases u:cm.length>1024
  · rw [if_pos (decide_eq_true (by omega)),if_pos u]
  rw [if_neg (fun q=>u (by have:=of_decide_eq_true q; omega)),if_neg u]
  by_cases A:cl.length>96
  · rw [if_pos (decide_eq_true (by omega)),if_pos A]
  rw [if_neg (fun q=>A (by have:=of_decide_eq_true q; omega)),if_neg A,M4Y,M8];have D:∀ (i:Nat) (c:Bool),i<st.length→TM st (i:Int) c=some (.next (c&&Pe i (fun j=>(st.getD j (0,0)).1 !=(st.getD i (0,0)).1),(i:Int)+1)):=fun i c E=>by
    unfold TM;have e:=Yu (step:=TL st (i:Int)) (n:=i) (p:=fun j=>(st.getD j (0,0)).1 !=(st.getD i (0,0)).1) (b:=c) (by omega) (fun b j I=>by
      left;unfold TL;simp only;rw [if_pos (decide_eq_true (by omega)),R5 I (by omega)];cases b
      · rfl
      · rw [if_pos rfl,ZC (0,0) (by omega),M8,ZC (0,0) E,M8,Bool.true_and]) (fun b=>by
      unfold TL;simp only;rw [if_neg (by simp)])
    rw [e,M8,R5 E (by omega)]
  have F:loop (RI l st) (WD th 0 1000000000,0)=some (WD th 0 1000000000&&Pe st.length (Rl l st)):=
    Yu (step:=RI l st) (n:=st.length) (p:=Rl l st) (by omega) (fun b i g=>by
      left;unfold RI;simp only;rw [if_pos (decide_eq_true (by omega))];cases b
      · rw [if_neg (by decide),D i false g]; rfl
      · rw [if_pos rfl,ZC (0,0) g,M8,M8,M7C,M8,D i _ g];unfold Rl;rw [Bool.and_assoc,Bool.and_assoc,Bool.true_and,Bool.and_comm (ZB _)]) (fun b=>by
      unfold RI;simp only;rw [if_neg (by simp)])
  rw [F,M8];simp only;have G:=Yu (step:=TO l cm cl) (n:=cm.length) (p:=fun i=>M4Z l cl.length (cm.getD i VO)) (b:=WD th 0 1000000000&&Pe st.length (Rl l st)) (by omega) (fun b i g=>by
      left;unfold TO;simp only;rw [if_pos (decide_eq_true (by omega)),ZC VO g,M8,R5 g (by omega)];cases b
      · rfl
      rw [if_pos rfl,M4Y,M8,M7C,M8,Bool.true_and];unfold M4Z;cases WD (cm.getD i VO).1 0 1000000000 <;> try rfl
      cases Xi l (cm.getD i VO).2.1 3 <;> try rfl
      cases ZB (cm.getD i VO).2.2.1 <;> try rfl
      rw [if_pos rfl,if_pos (show (true&&true)=true from rfl)]
      by_cases z:0≤(cm.getD i VO).2.2.2
      · rw [if_pos (decide_eq_true (by omega))]
        congr 2
        unfold WD;rw [Bool.true_and,Bool.true_and,Bool.true_and]
        congr 1
        exact decide_eq_decide.2 (by omega)
      · rw [if_neg (fun q=>z (by have:=of_decide_eq_true q; omega)),show WD (cm.getD i VO).2.2.2 0 ((cl.length:Int)-1)=false from decide_eq_false (fun h=>z h.1)]; rfl) (fun b=>by
      unfold TO;simp only;rw [if_neg (by simp)])
  rw [G,M8];have H:=Yu (step:=TN l cl) (n:=cl.length) (p:=ctB l r cl) (b:=WD th 0 1000000000&&Pe st.length (Rl l st)&&Pe cm.length fun i=>M4Z l cl.length (cm.getD i VO)) (by omega) (fun b i g=>by
      left;unfold TN;simp only;rw [if_pos (decide_eq_true (by omega)),R5 g (by omega)];cases b
      · rfl
      rw [if_pos rfl,ZC ct0 g,M8,Mas h1 J hs,M8,Bool.true_and];unfold ctB;cases M61 l r (cl.getD i ct0)
      · rfl
      rw [if_pos rfl,Bool.true_and]
      by_cases B:i=0
      · subst B; rfl
      · rw [if_neg (fun q=>B (by have:=Mz.1 q; omega)),M8,MD (n:=(i:Int)-1) (by omega) (by omega),show (i:Int)-1=((i-1:Nat):Int) by omega,ZC ct0 (by omega),M8,decide_eq_false B,Bool.false_or]
        ) (fun b=>by
      unfold TN;simp only;rw [if_neg (by simp)])
  rw [H,M8];cases WD th 0 1000000000&&Pe st.length (Rl l st)&&(Pe cm.length fun i=>M4Z l cl.length (cm.getD i VO))&&Pe cl.length (ctB l r cl) <;> rfl
theorem M62 (n:Int):M6 (RG n) (fun _=>True):=by
  unfold RG;refine M6.bind (P:=fun _=>True) ?_ (fun v _=>M6.triv _);refine M6.loop (fun s:Int×Int=>0≤s.1∧s.1≤s.2∧s.2≤1000001) (fun s=>(s.2-s.1).toNat) ⟨by simp,by simp,by simp⟩ (by simp) ?_;rintro ⟨a,b⟩ ⟨h1,j,q⟩;simp only at h1 j q;unfold VU;simp only;rw [MD (n:=b-a) (by omega) (by omega)];refine M6.ifd (fun r=>?_) (fun _=>M6.pure trivial);have g:M4 (Int.tdiv (M4 (a+b)) 2)=(a+b) / 2:=by
    rw [MD (n:=a+b) (by omega) (by omega),Int.tdiv_eq_ediv_of_nonneg (by omega),MD (by omega) (by omega)]
  rw [g];exact M6.ifd (fun _=>M6.pure ⟨⟨by simp only; omega,by simp only; omega,by simp only; omega⟩,by simp only; omega⟩) (fun _=>M6.pure ⟨⟨by simp only; omega,by simp only; omega,by simp only; omega⟩,by simp only; omega⟩)
theorem M4f (e:Int):M6 (Vw e) (fun _=>True):=by
  unfold Vw XL;rw [M9k,M8];refine M6.bind (P:=fun _=>True) ?_ (fun _ _=>M6.triv _);refine M6.ite (fun _=>M6.triv _) (fun _=>M6.ifd (fun _=>M6.triv _) (fun _=>M6.bind (M62 _) (fun b _=>?_)));have j:∀ a,M6 (RN e a) (fun _=>True):=fun a=>M6.bind (M62 _) (fun _ _=>M6.triv _)
  exact M6.ifd (fun _=>j _) (fun _=>j _)
theorem M9z (f a b g h c:Int):M6 (XB f a b g h c) (fun _=>True):=by
  have fl:∀ n,M6 (Vr n 100000) (fun _=>True):=fun n=>by
    unfold Vr XM;rw [if_neg (by decide)];simp only [ZY,M8];refine M6.bind (P:=fun _=>True) ?_ (fun _ _=>M6.ite (fun _=>M6.triv _) (fun _=>M6.triv _));exact M6.guard (by decide) (M6.guard (by decide) (M6.ite (fun _=>M6.ite (fun _=>M6.triv _) (fun _=>M6.triv _)) (fun _=>M6.triv _)))
  have j:∀ n,M6 (W5 n 100000) (fun _=>True):=fun n=>by
    unfold W5 Zn;rw [if_neg (by decide)];simp only [ZY,M8];refine M6.bind (P:=fun _=>True) ?_ (fun _ _=>M6.ite (fun _=>M6.triv _) (fun _=>M6.triv _));exact M6.guard (by decide) (M6.guard (by decide) (M6.ite (fun _=>M6.ite (fun _=>M6.triv _) (fun _=>M6.triv _)) (fun _=>M6.triv _)))
  unfold XB;exact M6.bind (fl _) (fun _ _=>M6.bind (j _) (fun _ _=>M6.triv _))
theorem M2g (a:List Pc):M6 (Vt a) fun e=>e=0→a.length≤128:=by
  unfold Vt;refine M6.ifd (fun _=>M6.pure (fun h=>by cases h)) (fun _=>M6.ifd (fun _=>M6.pure (fun h=>by cases h)) (fun u=>?_));refine M6.bind (P:=fun _=>True) ?_ (by rintro (z | z) _; exact M6.pure (fun h=>by cases h); exact M6.pure (fun _=>by omega));refine M6.count a.length (by omega) (fun i r=>?_);unfold Wn;simp only [M7B,M8];refine M6.ifd (fun j=>?_) (fun j=>M6.pure (.inr ⟨_,rfl,trivial⟩));have g:i<a.length:=by omega
  obtain ⟨x,q⟩:∃ x,a[i]? = some x:=⟨_,List.getElem?_eq_getElem g⟩
  rw [Mc,q,M8,R5 g (by omega)];exact M6.ite (fun _=>M6.pure (.inr ⟨_,rfl,trivial⟩)) (fun _=>M6.ite (fun _=>M6.pure (.inr ⟨_,rfl,trivial⟩)) (fun _=>M6.ite (fun _=>M6.pure (.inr ⟨_,rfl,trivial⟩)) (fun _=>M6.ite (fun _=>M6.pure (.inr ⟨_,rfl,trivial⟩)) (fun _=>M6.ite (fun _=>M6.pure (.inr ⟨_,rfl,trivial⟩)) (fun _=>M6.pure (.inl ⟨g,rfl⟩))))))
abbrev Mo:Type:=Int×Int
theorem M8h (p:List Pc)(u:Int)(c B:List Int)(hc:c.length≤1000)(ht:B.length≤1000):M6 (Wv p u c B) fun r=>r.1.length≤1000∧(r.2.1<0→1≤r.1.length):=by
  have E:∀ e:Int,M6 (some (([]:List Mo),(0:Int),e)) fun r=>r.1.length≤1000∧(r.2.1<0→1≤r.1.length):=fun e=>M6.pure ⟨by simp,fun h=>by simp at h⟩
  unfold Wv;refine M6.bind (M2g p) (fun f Y=>M6.ite (fun _=>E _) (fun Z=>?_));have ai:=Y (by
    by_cases A:f=0
    · exact A
    · exact absurd (MV.2 A) Z)
  refine M6.ite (fun _=>E _) (fun X=>?_);have af:c.length=p.length:=by
    by_cases A:(c.length:Int)=p.length
    · omega
    · exact absurd (MV.2 A) X
  rw [M4S p (by omega),M8];refine M6.ite (fun _=>E _) (fun aa=>?_);have ak:B.length=nret p:=by
    by_cases A:(B.length:Int)=nret p
    · omega
    · exact absurd (MV.2 A) aa
  refine M6.bind (P:=fun _=>True) ?_ ?_
  · refine M6.count c.length (by omega) (fun i O=>?_);unfold VW;simp only [M7B,M8];refine M6.ifd (fun G=>?_) (fun G=>M6.pure (.inr ⟨_,rfl,trivial⟩));have q:i<c.length:=by omega
    obtain ⟨x,D⟩:∃ x,c[i]? = some x:=⟨_,List.getElem?_eq_getElem q⟩
    rw [Mc,D,M8,R5 q (by omega)];exact M6.ite (fun _=>M6.pure (.inr ⟨_,rfl,trivial⟩)) (fun _=>M6.pure (.inl ⟨q,rfl⟩))
  rintro (z | z) _
  · exact E _
  simp only [M7B,M8];refine M6.ite (fun _=>E _) (fun _=>?_);have tt:M6 (Vv B) (fun _=>True):=by
    unfold Vv;refine M6.bind (P:=fun _=>True) ?_ (by rintro (z | z) _ <;> exact M6.triv _);refine M6.count B.length (by omega) (fun i O=>?_);unfold Vu;simp only [M7B,M8];refine M6.ifd (fun G=>?_) (fun G=>M6.pure (.inr ⟨_,rfl,trivial⟩));have q:i<B.length:=by omega
    obtain ⟨x,D⟩:∃ x,B[i]? = some x:=⟨_,List.getElem?_eq_getElem q⟩
    rw [Mc,D,M8,R5 q (by omega)];exact M6.ite (fun _=>M6.pure (.inr ⟨_,rfl,trivial⟩)) (fun _=>M6.pure (.inl ⟨q,rfl⟩))
  refine M6.bind tt (fun l _=>M6.ite (fun _=>E _) (fun _=>?_));refine M6.bind (P:=fun r:(List Mo×Int)⊕List Mo=>match r with | .inl r=>1≤r.1.length∧r.1.length≤1000 | .inr r=>1≤r.length∧r.length≤1000) ?_ (by
    rintro (⟨a,b⟩ | a) F
    · exact M6.pure ⟨F.2,fun _=>F.1⟩
    · exact M6.pure ⟨F.2,fun _=>F.1⟩)
  refine M6.st (S:=Int×Int×List Mo×Int) (fun s c=>(s.1,s.2.1,s.2.2.1,s.2.2.2,c)) (fun t=>((t.1,t.2.1,t.2.2.1,t.2.2.2.1),t.2.2.2.2)) (fun _ _=>rfl) p.length (by omega) (fun i s=>s.2.2.1.length=i+1∧s.2.2.2=(nret (p.take i):Int)) (s0:=(0,_,[_],0)) 0 (Nat.zero_le _) ⟨rfl,rfl⟩ ?_;rintro i ⟨g,d,h,j⟩ O ⟨I,q2⟩;simp only at I q2;unfold VV;simp only;refine M6.ifd (fun G=>?_) (fun G=>M6.pure (.inr ⟨_,rfl,by omega,by omega⟩));have q:i<p.length:=by omega
  obtain ⟨x,D⟩:∃ x,p[i]? = some x:=⟨_,List.getElem?_eq_getElem q⟩
  obtain ⟨y,hy⟩:∃ y,c[i]? = some y:=⟨_,List.getElem?_eq_getElem (by omega)⟩
  have U:=ZZ p i x D;have ah:nret (p.take i)≤i:=Nat.le_trans (M4Q _) (List.length_take_le _ _);rw [Mc,D,M8];refine M6.bind (M4f d) (fun a _=>?_);rw [Mc,hy,M8];refine M6.bind (M9z _ _ _ _ _ _) (fun e _=>M6.ifd (fun _=>M6.pure (.inr ⟨_,rfl,by simp only; omega,by simp only; omega⟩)) (fun _=>?_));refine M6.bind (M4f _) (fun b _=>M6.ite (fun _=>M6.pure (.inr ⟨_,rfl,by simp only; omega,by simp only; omega⟩)) (fun F=>?_));refine M6.guard (fun A=>F (Mz.2 A)) (M6.ifd (fun H=>?_) (fun H=>?_))
  · have ag:=M4R p i x D H;rw [if_pos H] at U;have J:M4 (j+1)=(nret (p.take (i+1)):Int):=by rw [MD (by omega) (by omega)]; omega
    refine M6.bind (M6.idx (by omega) (by omega)) (fun f _=>M6.ifd (fun _=>?_) (fun _=>?_))
    · exact M6.guard (by simp; omega) (M6.pure (.inl ⟨(_,_,_,M4 (j+1)),q,by rw [R5 q (by omega)],by simp [I],J⟩))
    · exact M6.guard (by simp; omega) (M6.pure (.inl ⟨(_,_,_,M4 (j+1)),q,by rw [R5 q (by omega)],by simp [I],J⟩))
  · rw [if_neg H] at U;exact M6.guard (by simp; omega) (M6.pure (.inl ⟨(_,_,_,j),q,by rw [R5 q (by omega)],by simp [I],by simp only; omega⟩))
theorem M75 (b:List Pc)(c:Nat)(d:Int)(E:b.length≤1000)(F:c<b.length):M6 (TS b (c:Int) d) fun r=>r<(b.length:Int):=by
  unfold TS;have g:(-1:Int)<(b.length:Int):=by omega
  refine M6.ifd (fun _=>M6.pure g) (fun _=>M6.ifd (fun _=>M6.pure g) (fun _=>M6.ifd (fun _=>M6.pure g) (fun _=>M6.ifd (fun _=>M6.pure g) (fun _=>?_))));refine M6.bind (P:=fun _=>True) ?_ ?_
  · refine M6.count b.length (by omega) (fun i G=>?_);unfold TZ;simp only;refine M6.ifd (fun A=>?_) (fun A=>M6.pure (.inr ⟨_,rfl,trivial⟩));have j:i<b.length:=by omega
    obtain ⟨x,D⟩:∃ x,b[i]? = some x:=⟨_,List.getElem?_eq_getElem j⟩
    rw [Mc,D,M8,R5 j (by omega)];exact M6.ifd (fun _=>M6.pure (.inr ⟨_,rfl,trivial⟩)) (fun _=>M6.ifd (fun _=>M6.pure (.inr ⟨_,rfl,trivial⟩)) (fun _=>M6.pure (.inl ⟨j,rfl⟩)))
  · rintro (z | z) _
    · exact M6.pure g
    · refine M6.bind (P:=fun r:Unit⊕Int=>match r with | .inl _=>True | .inr v=>v<(b.length:Int)) ?_ (by rintro (v | v) hv; exact M6.pure g; exact M6.pure hv);refine M6.loop (fun s:Int×Int=>0≤s.1∧s.1<(b.length:Int)) (fun s=>b.length-s.1.toNat) ⟨by simp only; omega,by simp only; omega⟩ (by simp only; omega) ?_;rintro ⟨a,s⟩ ⟨h1,q⟩;simp only at h1 q;unfold Tv;simp only;rw [MD (n:=a+1) (by omega) (by omega)];refine M6.ifd (fun _=>M6.ite (fun _=>M6.pure trivial) (fun B=>?_)) (fun _=>M6.pure q);have H:a+1≠(b.length:Int):=fun u=>B (Mz.2 u)
      exact M6.bind (M6.idx (by omega) (by omega)) (fun f _=>M6.pure ⟨⟨by simp only; omega,by simp only; omega⟩,by simp only; omega⟩)
theorem M76 (l:List El)(p:List Pc)(n h g:Int):M6 (Td l p n h g) fun r=>r.2=0→p.length≤128∧r.1.length+1≤p.length+1∧(1≤p.length→r.1.length+1≤p.length)∧∀ x∈r.1,0≤x∧x<(p.length:Int):=by
  unfold Td;refine M6.bind (M2g p) (fun f F=>M6.ite (fun B=>M6.pure (fun j=>absurd j (MV.1 B))) (fun H=>?_));have I:=F (by
    by_cases j:f=0
    · exact j
    · exact absurd (MV.2 j) H)
  refine M6.ifd (fun _=>M6.pure (fun h=>by cases h)) (fun _=>M6.ifd (fun _=>M6.pure (fun h=>by cases h)) (fun _=>M6.ifd (fun _=>M6.pure (fun h=>by cases h)) (fun _=>M6.ifd (fun _=>M6.pure (fun h=>by cases h)) (fun _=>?_))));refine M6.bind (P:=fun _=>True) ?_ ?_
  · refine M6.count p.length (by omega) (fun i G=>?_);unfold Tw;simp only;refine M6.ifd (fun u=>?_) (fun u=>M6.pure (.inr ⟨_,rfl,trivial⟩));have q:i<p.length:=by omega
    obtain ⟨x,hx⟩:∃ x,p[i]? = some x:=⟨_,List.getElem?_eq_getElem q⟩
    rw [Mc,hx,M8,R5 q (by omega)];exact M6.ifd (fun _=>M6.pure (.inr ⟨_,rfl,trivial⟩)) (fun _=>M6.ifd (fun _=>M6.pure (.inr ⟨_,rfl,trivial⟩)) (fun _=>M6.pure (.inl ⟨q,rfl⟩)))
  rintro (z | z) _
  · exact M6.pure (fun h=>by cases h)
  refine M6.bind (P:=fun r:Unit⊕List Int=>match r with | .inl _=>True | .inr r=>r.length+1≤p.length+1∧(1≤p.length→r.length+1≤p.length)∧∀ x∈r,0≤x∧x<(p.length:Int)) ?_ (by
    rintro (v | v) hv
    · exact M6.pure (fun h=>by cases h)
    · exact M6.pure (fun _=>⟨I,hv⟩))
  refine M6.st2 p.length (by omega) (fun i a=>a.length=i∧(1≤p.length→i+1≤p.length)∧∀ x∈a,0≤x∧x<(p.length:Int)) ⟨rfl,fun h=>by omega,by simp⟩ (fun i a G ha=>?_);obtain ⟨D,E,A⟩:=ha;unfold T3;simp only;rw [MD (n:=(i:Int)+1) (by omega) (by omega)];refine M6.ifd (fun u=>?_) (fun u=>M6.pure (.inr ⟨_,rfl,by omega,fun h=>by have:=E h; omega,A⟩));refine M6.bind (M75 p i _ (by omega) (by omega)) (fun c B=>M6.ifd (fun _=>M6.pure (.inr ⟨_,rfl,trivial⟩)) (fun J=>?_));refine M6.guard (by simp; omega) (M6.pure (.inl ⟨_,by omega,rfl,by simp [D],fun _=>by omega,fun x hx=>?_⟩));rcases List.mem_append.1 hx with hx | hx
  · exact A x hx
  · rw [List.mem_singleton] at hx; subst hx; omega
theorem M8i {l:List El}{p:List Pc}{d:List Mo}{g:Int}(A:∀ q∈p,0≤q.1∧q.1<(l.length:Int))(hd:d.length≤1000):M6 (TT l p d g) fun r=>r.1.length≤1000:=by
  unfold TT;refine M6.bind (M76 l p _ _ g) (fun a ha=>M6.ite (fun _=>M6.pure (by simp)) (fun J=>?_));obtain ⟨h1,Y,F,G⟩:=ha (by
    by_cases u:a.2=0
    · exact u
    · exact absurd (MV.2 u) J)
  refine M6.bind (P:=fun r:List Sp=>r.length≤1000) ?_ (fun r U=>M6.pure U);refine M6.st2 a.1.length (by omega) (fun i c=>c.length≤i) (by simp) (fun i c hi hc=>?_);unfold V0;simp only;refine M6.ifd (fun I=>?_) (fun I=>M6.pure (.inr ⟨_,rfl,by omega⟩));have j:i<a.1.length:=by omega
  have O:1≤p.length:=by omega
  have Z:=F O;obtain ⟨x,B⟩:∃ x,a.1[i]? = some x:=⟨_,List.getElem?_eq_getElem j⟩
  obtain ⟨y,D⟩:∃ y,p[i]? = some y:=⟨_,List.getElem?_eq_getElem (by omega)⟩
  have ad:=G x (List.mem_of_getElem? B);have E:=A y (List.mem_of_getElem? D);rw [Mc,B,M8];refine M6.ifd (fun _=>M6.pure (.inr ⟨_,rfl,by omega⟩)) (fun aa=>?_);have X:M6 (Vx l p (i:Int)) (fun _=>True):=by
    unfold Vx;rw [Mc,D,M8,MD (n:=(i:Int)+1) (by omega) (by omega)];refine M6.bind (M6.idx E.1 E.2) (fun e _=>M6.ite (fun _=>?_) (fun _=>M6.triv _));refine M6.bind (M6.idx (by omega) (by omega)) (fun f H=>?_);have:=A f H.1;exact M6.bind (M6.idx this.1 this.2) (fun _ _=>M6.triv _)
  refine M6.bind X (fun s _=>M6.bind (M6.idx (by omega) (by omega)) (fun e _=>?_));rw [MD (n:=x+1) (by omega) (by omega),R5 j (by omega)];refine M6.ifd (fun _=>M6.bind (M6.idx (by omega) (by omega)) (fun _ _=>?_)) (fun _=>?_)
  · exact M6.guard (by simp; omega) (M6.pure (.inl ⟨_,j,rfl,by simp; omega⟩))
  · exact M6.guard (by simp; omega) (M6.pure (.inl ⟨_,j,rfl,by simp; omega⟩))
theorem M63 {l:List El}{p:List Pc}{i j k f:Int}{g h:List Int}(G:∀ q∈p,0≤q.1∧q.1<(l.length:Int))(J:g.length=l.length)(O:h.length=l.length)(X:p.length≤128) :
    M6 (Zr p i j k f g h) fun r=>r.1.length≤1000∧(r.2<0→1≤r.1.length):=by
  unfold Zr;refine M6.bind (P:=fun r:List Int×List Int=>r.1.length≤1000∧r.2.length≤1000) ?_ ?_
  · refine M6.st3 p.length (by omega) (fun i a b=>a.length≤i∧b.length≤i) ⟨by simp,by simp⟩ ?_;rintro i a b U ⟨H,I⟩;unfold YD;simp only;refine M6.ifd (fun F=>?_) (fun F=>M6.pure (.inr ⟨_,rfl,by simp only; omega,by simp only; omega⟩));have u:i<p.length:=by omega
    obtain ⟨x,A⟩:∃ x,p[i]? = some x:=⟨_,List.getElem?_eq_getElem u⟩
    have B:=G x (List.mem_of_getElem? A);rw [Mc,A,M8,R5 u (by omega)];refine M6.bind (M6.idx B.1 (by omega)) (fun e _=>M6.guard (by simp; omega) (M6.ifd (fun _=>?_) (fun _=>M6.pure (.inl ⟨_,_,u,rfl,by simp; omega,by omega⟩))));exact M6.bind (M6.idx B.1 (by omega)) (fun e _=>M6.guard (by simp; omega) (M6.pure (.inl ⟨_,_,u,rfl,by simp; omega,by simp; omega⟩)))
  · rintro ⟨d,e⟩ ⟨h1,D⟩;exact M6.bind (M8h p f d e h1 D) (fun b E=>M6.pure E)
theorem M8j {l:List El}{p:List Pc}{a d e f:Int}{g h:List Int}(B:∀ q∈p,0≤q.1∧q.1<(l.length:Int))(r:g.length=l.length)(u:h.length=l.length)(A:p.length≤128) :
    M6 (YE p a d e f g h) (fun _=>True):=by
  unfold YE;refine M6.ite (fun _=>M6.triv _) (fun _=>M6.bind (M63 B r u A) (fun b j=>M6.ifd (fun _=>M6.triv _) (fun D=>?_)));have:=j.2 (by omega);have:=j.1;rw [MD (n:=(b.1.length:Int)-1) (by omega) (by omega)];exact M6.bind (M6.idx (by omega) (by omega)) (fun _ _=>M6.triv _)
theorem M4g {l:List El}(h:WF l){i:Nat}{s:Int}(I:Mbm l ((i:Int),s)):M6 (X0 l (i:Int) s) fun r=>∃ j:Nat,r=(j:Int)∧i<j∧j<l.length:=by
  have Y:=h.le;unfold X0;refine M6.bind (P:=fun r:Int⊕Unit=>match r with | .inl r=>∃ j:Nat,r=(j:Int)∧i<j∧j<l.length | .inr _=>False) ?_ (by rintro (z | z) hz; exact M6.pure hz; exact hz.elim);obtain ⟨g,y,J,D,O,U⟩:=I;have X:=(List.getElem?_eq_some_iff.1 D).1;have F:=h.li.el g y J D;refine M6.loop (fun a=>∃ n:Nat,a=(n:Int)∧n≤g) (fun a=>g+1-a.toNat) ⟨0,rfl,by omega⟩ (by simp; omega) ?_;rintro a ⟨n,rfl,Z⟩;unfold XN;simp only;have B:n<l.length:=by omega
  obtain ⟨x,A⟩:∃ x,l[n]? = some x:=⟨_,List.getElem?_eq_getElem B⟩
  rw [if_pos (decide_eq_true (by omega)),Mc,A,M8,R5 B (by omega)];have nx:¬ (x.1≠0∧x.2.2.1=(i:Int)∧x.2.2.2.1=s)→M6 (some (Mm.next (ρ:=Int⊕Unit) ((n:Int)+1))) (M0c (fun a=>∃ n:Nat,a=(n:Int)∧n≤g) (fun a=>g+1-a.toNat) (g+1-((n:Nat):Int).toNat) (fun r:Int⊕Unit=>match r with | .inl r=>∃ j:Nat,r=(j:Int)∧i<j∧j<l.length | .inr _=>False)):=fun H=>by
    have:n≠g:=by
      rintro rfl;rw [D] at A;cases A;exact H ⟨by have:=F.kind; omega,O,U⟩
    exact M6.pure ⟨⟨n+1,rfl,by omega⟩,by simp only; omega⟩
  refine M6.ite (fun q=>?_) (fun q=>nx (fun u=>q (MV.2 u.1)));refine M6.ite (fun h1=>?_) (fun h1=>nx (fun u=>h1 (Mz.2 u.2.1)));refine M6.ite (fun E=>?_) (fun E=>nx (fun u=>E (Mz.2 u.2.2)));rw [MV] at q; rw [Mz] at h1;have G:0<n:=by
    rcases Nat.eq_zero_or_pos n with hz | hz
    · subst hz; rw [h.li.at0 A] at q; exact absurd rfl q
    · exact hz
  have:=(h.li.el n x G A).par;exact M6.pure ⟨n,rfl,by omega,B⟩
abbrev Cm:Type:=List (Int×List Sp)
abbrev In:Type:=Int×Int×Int×Int×Int
abbrev Rd:Type:=Int×List Sp
def VN (n:Nat) (m:Cm):Prop:=∀ k,((Mu m k).getD []).length≤n∧∀ x∈(Mu m k).getD [],x.2.2.1=1∨x.2.2.1=2
def M1o (m:List (Int×Int)):Prop:=∀ k,(Mu m k).isSome=true→(Mu m k).getD 0=1∨(Mu m k).getD 0=2
theorem M8k {l:List El}{e:Int}{j:List (Int×Int)}{k:List Sp}{cl:List Ct}{b:List (Int×Int)}{c:Cm}{m:List Rd}{n:List In}{a f:Int}{N:Nat}(u:M1o b)(A:VN N c)(I:N≤1000000) :
    M6 (Vy l e j k cl b c m n a f) fun r=>r.1=1∨r.1=2:=by
  obtain ⟨G,q⟩:=A a;unfold Vy;refine M6.bind (P:=fun r:(Int×Bool)⊕Unit=>match r with | .inl r=>r.1=1∨r.1=2 | .inr _=>True) ?_ ?_
  · rw [MD (by omega) (by omega)];refine M6.loop (fun s:Int=>-1≤s∧s<(((Mu c a).getD []).length:Int)) (fun s=>(s+1).toNat) ⟨by omega,by omega⟩ (by omega) ?_;rintro s ⟨J,F⟩;unfold V1;simp only;rw [MD (n:=s-1) (by omega) (by omega)];refine M6.ifd (fun H=>?_) (fun _=>M6.pure trivial);obtain ⟨x,D,B,_⟩:=M6.idx (xs:=(Mu c a).getD []) (i:=s) (by omega) F;rw [D,M8];refine M6.ifd (fun _=>?_) (fun _=>M6.pure ⟨⟨by omega,by omega⟩,by simp only; omega⟩);rw [M8,M8];exact M6.pure (q x B)
  · rintro (⟨g,h⟩ | z) E
    · exact M6.pure E
    · exact M6.ite (fun hs=>M6.pure (u a hs)) (fun _=>M6.pure (.inl rfl))
def nk (k:Int) (m:List In):Nat:=(m.filter fun x=>x.1==k).length
theorem Z1 (k:Int)(m:List In)(x:In):nk k (m++[x])=nk k m+if x.1=k then 1 else 0:=by
  unfold nk;rw [List.filter_append,List.length_append]
  by_cases g:x.1=k <;> simp [g]
theorem M8l {l:List El}{th:Int}{st:List (Int×Int)}{cm:List Sp}{cl:List Ct}{b:List (Int×Int)}{c:Cm}{rs:List Rd}{ms:List In}{i:Nat}{q:Ct}{N:Nat}(h:WF l)(hb:M1o b)(hc:VN N c)(Z:N≤1000000)(hq:cl[i]? = some q)(I:CtG l q)(hm:ms.length≤1000000) :
    M6 (Vz l th st cm cl b c rs ms (i:Int)) fun r=>(∀ p∈r.1,0≤p.1∧p.1<(l.length:Int))∧1≤r.1.length∧r.1.length≤34∧r.2.length≤ms.length+34∧nk 3 r.2=nk 3 ms∧nk 4 r.2=nk 4 ms:=by
  have ap:=h.le;unfold Vz;rw [Mc,hq,M8];obtain ⟨z,U⟩:∃ z,l[0]? = some z:=⟨_,h.li.hd⟩
  have X:=h.li.at0 U;refine M6.bind (M4g h (h.child (i:=0) U (s:=0) (fun u=>by rw [X] at u; cases u) (fun _=>rfl) (by rw [X]; decide))) ?_;rintro o ⟨j0,rfl,j1,j2⟩;refine M6.bind (P:=fun r:List In×List Pc=>(∀ p∈r.2,0≤p.1∧p.1<(l.length:Int))∧1≤r.2.length∧r.2.length≤34∧r.1.length≤ms.length+34∧nk 3 r.1=nk 3 ms∧nk 4 r.1=nk 4 ms) ?_ (fun r hr=>M6.pure hr);refine M6.loop (fun s:List In×List Pc×Int=>(∃ n:Nat,s.2.2=(n:Int)∧0<n∧n<l.length∧s.2.1.length+1≤n∧s.1.length+1≤ms.length+n)∧(∀ p∈s.2.1,0≤p.1∧p.1<(l.length:Int))∧nk 3 s.1=nk 3 ms∧nk 4 s.1=nk 4 ms) (fun s=>l.length-s.2.2.toNat) ⟨⟨j0,rfl,j1,j2,by simp only [List.length_nil]; omega,by simp only; omega⟩,by simp,rfl,rfl⟩ (by simp only; omega) ?_;rintro ⟨e,d,b'⟩ ⟨⟨n,J,n0,n1,n2,n3⟩,H,B,D⟩;simp only at J n2 n3 H B D;subst J;unfold V2;simp only;obtain ⟨x,O⟩:∃ x,l[n]? = some x:=⟨_,List.getElem?_eq_getElem n1⟩
  rw [Mc,O,M8];have mem:∀ (p:Pc),p.1=(n:Int)→∀ q∈d++[p],0≤q.1∧q.1<(l.length:Int):=fun p hp q hq=>by
    rcases List.mem_append.1 hq with hq | hq
    · exact H q hq
    · rw [List.mem_singleton] at hq; subst hq; omega
  refine M6.ite (fun G=>?_) (fun G=>?_)
  · exact M6.guard (by simp only [List.length_singleton]; omega) (M6.pure ⟨mem _ rfl,by simp,by simp only [List.length_append,List.length_singleton]; omega,by simp only; omega,B,D⟩)
  · rw [Mz] at G;have F:∀ (E:List In) (s:Int),(x.1=3→s=1∨s=2)→(x.1≠3→s=0)→E.length≤ms.length+n→nk 3 E=nk 3 ms→nk 4 E=nk 4 ms→M6 (MU l d (n:Int) x E s) (M0c (fun s:List In×List Pc×Int=>(∃ n:Nat,s.2.2=(n:Int)∧0<n∧n<l.length∧s.2.1.length+1≤n∧s.1.length+1≤ms.length+n)∧(∀ p∈s.2.1,0≤p.1∧p.1<(l.length:Int))∧nk 3 s.1=nk 3 ms∧nk 4 s.1=nk 4 ms) (fun s=>l.length-s.2.2.toNat) (l.length-((n:Nat):Int).toNat) (fun r:List In×List Pc=>(∀ p∈r.2,0≤p.1∧p.1<(l.length:Int))∧1≤r.2.length∧r.2.length≤34∧r.1.length≤ms.length+34∧nk 3 r.1=nk 3 ms∧nk 4 r.1=nk 4 ms)):=by
      intro E s s1 s2 l1 l2 l3;unfold MU;refine M6.guard (by simp only [List.length_singleton]; omega) (M6.bind (M4g h (h.child O s1 s2 G)) ?_);rintro g ⟨j,rfl,g1,Y⟩;exact M6.pure ⟨⟨⟨j,rfl,by omega,Y,by simp only [List.length_append,List.length_singleton]; omega,by simp only; omega⟩,mem _ rfl,l2,l3⟩,by simp only; omega⟩
    refine M6.ite (fun u=>?_) (fun u=>F _ _ (fun A=>absurd (Mz.2 A) u) (fun _=>rfl) (by omega) B D);rw [Mz] at u;refine M6.bind (M8j H I.1 I.2 (by omega)) (fun g _=>M6.ite (fun _=>?_) (fun _=>F _ _ (fun _=>.inl rfl) (fun A=>absurd u A) (by omega) B D));refine M6.bind (M8k hb hc Z) (fun s hs=>M6.ite (fun _=>?_) (fun _=>F _ _ (fun _=>hs) (fun A=>absurd u A) (by omega) B D));refine M6.guard (by simp only [List.length_singleton]; omega) (F _ _ (fun _=>hs) (fun A=>absurd u A) (by simp only [List.length_append,List.length_singleton]; omega) ?_ ?_)
    · rw [Z1,if_neg (by simp)]; exact B
    · rw [Z1,if_neg (by simp)]; exact D
theorem Mat (q:Ct)(f:List Sp×Int)(A:f.1.length≤1000):M6 (loop (Rq q f) (f.1,0)) fun r=>r.length≤1000:=by
  refine M6.st2 f.1.length (by omega) (fun i d=>d.length=f.1.length) rfl (fun i d B hd=>?_);unfold Rq;simp only;refine M6.ifd (fun j=>?_) (fun j=>M6.pure (.inr ⟨_,rfl,by omega⟩));have g:i<f.1.length:=by omega
  obtain ⟨x,u⟩:∃ x,d[i]? = some x:=⟨_,List.getElem?_eq_getElem (by omega)⟩
  rw [Mc,u,M8,R5 g (by omega)];exact M6.ite (fun _=>M6.pure (.inl ⟨_,g,rfl,by simp [hd]⟩)) (fun _=>M6.pure (.inl ⟨_,g,rfl,by simp [hd]⟩))
theorem M9A {l:List El}{th:Int}{st:List (Int×Int)}{cm:List Sp}{cl:List Ct}{b:List (Int×Int)}{c:Cm}{rs:List Rd}{ms:List In}{i:Nat}{q:Ct}{N:Nat}(h:WF l)(F:M1o b)(g:VN N c)(E:N≤1000000)(B:cl[i]? = some q)(j:CtG l q)(u:ms.length≤1000000) :
    M6 (VA l th st cm cl b c rs ms (i:Int)) fun r=>r.1.2.length≤1000∧r.2.length≤ms.length+34∧nk 3 r.2=nk 3 ms∧nk 4 r.2=nk 4 ms:=by
  unfold VA;rw [Mc,B,M8];refine M6.bind (M8l h F g E B j u) (fun p ⟨D,J,O,G,H,I⟩=>?_);refine M6.bind (M63 D j.1 j.2 (by omega)) (fun m u=>?_);rw [MD (n:=(p.1.length:Int)-1) (by omega) (by omega)];have A:∀ f,M6 (Pd l q p m f) fun r=>r.1.2.length≤1000∧r.2.length≤ms.length+34∧nk 3 r.2=nk 3 ms∧nk 4 r.2=nk 4 ms:=fun f=>by
    unfold Pd;exact M6.bind (M8i D u.1) (fun c g=>M6.bind (Mat q c g) (fun d hd=>M6.pure ⟨hd,G,H,I⟩))
  refine M6.ifd (fun _=>?_) (fun _=>M6.ite (fun _=>?_) (fun _=>A _))
  · exact M6.bind (M6.idx (by omega) (by omega)) (fun _ _=>A _)
  · exact M6.bind (M6.idx (by omega) (by omega)) (fun _ _=>A _)
theorem M0D (e f a b g h c d:Int):Tg e f a b g h c d=some (decide (a<d)&&decide (c<b)):=by
  unfold Tg
  by_cases h1:a<d
  · rw [if_pos (decide_eq_true h1),decide_eq_true h1,Bool.true_and]
  · rw [if_neg (fun j=>h1 (of_decide_eq_true j)),decide_eq_false h1,Bool.false_and]
def ovp (x y:Sp):Bool:=(x.1==y.1)&&(decide (x.2.2.1<y.2.2.2)&&decide (y.2.2.1<x.2.2.2))
def ovz (zs ws:List Sp):Bool:=!Pe zs.length fun i=>Pe ws.length fun j=>!ovp (zs.getD i VO) (ws.getD j VO)
theorem M8m {l:List El}{i:Int}{j:List (Int×Int)}{k:List Sp}{cl:List Ct}{m:List (Int×Int)}{n:Cm}{b:List Rd}{o:List In}{c d e f:Int}(E:b.length≤1000)(D:∀ r∈b,r.2.length≤1000):M6 (TV l i j k cl m n b o c d e f) (fun _=>True):=by
  unfold TV;refine M6.bind (P:=fun _=>True) ?_ (by rintro (z | z) _ <;> exact M6.triv _);refine M6.count b.length (by omega) (fun i F=>?_);unfold Tz;simp only;refine M6.ifd (fun u=>?_) (fun u=>M6.pure (.inr ⟨_,rfl,trivial⟩));have q:i<b.length:=by omega
  obtain ⟨x,A⟩:∃ x,b[i]? = some x:=⟨_,List.getElem?_eq_getElem q⟩
  have H:=D x (List.mem_of_getElem? A);rw [Mc,A,M8,R5 q (by omega)];refine M6.bind (P:=fun _=>True) ?_ (by rintro (z | z) _; exact M6.pure (.inr ⟨_,rfl,trivial⟩); exact M6.pure (.inl ⟨q,rfl⟩));refine M6.count x.2.length (by omega) (fun j G=>?_);unfold Tx;simp only;refine M6.ifd (fun u=>?_) (fun u=>M6.pure (.inr ⟨_,rfl,trivial⟩));have g:j<x.2.length:=by omega
  obtain ⟨y,B⟩:∃ y,x.2[j]? = some y:=⟨_,List.getElem?_eq_getElem g⟩
  rw [Mc,B,M8,M0D,M8,R5 g (by omega)];exact M6.ite (fun _=>M6.ite (fun _=>M6.pure (.inr ⟨_,rfl,trivial⟩)) (fun _=>M6.pure (.inl ⟨g,rfl⟩))) (fun _=>M6.pure (.inl ⟨g,rfl⟩))
theorem M77 {l:List El}{a:Int}{g:List (Int×Int)}{k:List Sp}{cl:List Ct}{j:List (Int×Int)}{c:Cm}{rs:List Rd}{ms:List In}{d e m n:Int}{N:Nat}(r:VN N c)(D:N≤1000000):M6 (Th l a g k cl j c rs ms d e m n) (fun _=>True):=by
  have B:=(r e).1;unfold Th;refine M6.bind (P:=fun _=>True) ?_ (by rintro (z | z) _ <;> exact M6.triv _);refine M6.count ((Mu c e).getD []).length (by omega) (fun i E=>?_);unfold T7;simp only;refine M6.ifd (fun u=>?_) (fun u=>M6.pure (.inr ⟨_,rfl,trivial⟩));have q:i<((Mu c e).getD []).length:=by omega
  obtain ⟨x,A⟩:∃ x,((Mu c e).getD [])[i]? = some x:=⟨_,List.getElem?_eq_getElem q⟩
  rw [Mc,A,M8,R5 q (by omega)];exact M6.ifd (fun _=>M6.pure (.inr ⟨_,rfl,trivial⟩)) (fun _=>M6.pure (.inl ⟨q,rfl⟩))
theorem M9B {i:Int}{zs ws:List Sp}{ms:List In}{j t:Int}(G:zs.length≤1000)(F:ws.length≤1000)(D:ms.length≤1000000):M6 (loop (RQ i zs ms j (t,ws)) 0) fun r=>if ovz zs ws=true then ∃ x:In,r=.inl (ms++[x])∧x.1=3 else r=.inr ():=by
  refine M6.loop (fun a=>∃ n:Nat,a=(n:Int)∧n≤zs.length∧Pe n (fun i=>Pe ws.length fun j=>!ovp (zs.getD i VO) (ws.getD j VO))=true) (fun a=>zs.length-a.toNat) ⟨0,rfl,by omega,rfl⟩ (by simp; omega) ?_;rintro a ⟨n,rfl,E,ha⟩;unfold RQ;simp only;refine M6.ifd (fun B=>?_) (fun B=>?_)
  · have q:n<zs.length:=by omega
    rw [ZC VO q,M8,R5 q (by omega)];have e:=M00 (step:=PT i ms j (t,ws) (zs.getD n VO)) (n:=ws.length) (p:=fun k=>!ovp (zs.getD n VO) (ws.getD k VO)) (d1:=.inl ()) (d2:=.inr ()) (by omega) (fun k A=>by
      unfold PT;simp only;have g:ms.length+([(3,i,j,(zs.getD n VO).1,(zs.getD n VO).2.2.1)]:List In).length≤4294967296:=by simp only [List.length_singleton]; omega
      rw [if_pos (decide_eq_true (by omega)),ZC VO A,M8,M0D,M8];unfold RP;rw [R5 A (by omega)];simp only [if_pos g];unfold ovp;cases (zs.getD n VO).1==(ws.getD k VO).1
      · rfl
      · rw [if_pos rfl,Bool.true_and];cases decide ((zs.getD n VO).2.2.1<(ws.getD k VO).2.2.2)&&decide ((ws.getD k VO).2.2.1<(zs.getD n VO).2.2.2) <;> rfl) (by
      unfold PT;simp only;rw [if_neg (by simp)])
    rw [e,M8];cases u:Pe ws.length fun k=>!ovp (zs.getD n VO) (ws.getD k VO)
    · have:ovz zs ws=true:=by
        unfold ovz;rw [M2E (n:=n+1) q (by rw [PF,ha,u]; rfl)]; rfl
      refine M6.pure ?_;show if ovz zs ws=true then _ else _
      rw [if_pos this];exact ⟨_,rfl,rfl⟩
    · exact M6.pure ⟨⟨n+1,rfl,by omega,by rw [PF,ha,u]; rfl⟩,by simp only; omega⟩
  · have:n=zs.length:=by omega
    subst this;refine M6.pure ?_;show if ovz zs ws=true then _ else _
    rw [if_neg (by unfold ovz; rw [ha]; decide)]
def nov (zs:List Sp) (rs:List Rd):Nat:=(rs.filter fun r=>ovz zs r.2).length
theorem M65 {zs:List Sp}{rs:List Rd}{i:Nat}{r:Rd}(h:rs[i]? = some r):nov zs (rs.take (i+1))=nov zs (rs.take i)+if ovz zs r.2=true then 1 else 0:=by
  unfold nov;have g:=(List.getElem?_eq_some_iff.1 h).1;rw [List.take_succ_eq_append_getElem g,(List.getElem?_eq_some_iff.1 h).2,List.filter_append,List.length_append]
  by_cases j:ovz zs r.2=true <;> simp [j]
theorem Mau {g:List El}{h:Int}{i:List (Int×Int)}{j:List Sp}{k:List Ct}{l:List (Int×Int)}{m:Cm}{rs:List Rd}{ms:List In}{e n:Int}{zs:List Sp}(q:rs.length≤1000)(U:zs.length≤1000)(I:∀ r∈rs,r.2.length≤1000)(Z:ms.length≤900000) :
    M6 (W7 g h i j k l m rs ms e n zs) fun r=>r.length≤ms.length+rs.length∧nk 3 r=nk 3 ms+nov zs rs∧nk 4 r=nk 4 ms:=by
  unfold W7;refine M6.bind (P:=fun r:List In=>r.length≤ms.length+rs.length∧nk 3 r=nk 3 ms+nov zs rs∧nk 4 r=nk 4 ms) ?_ (fun r q=>M6.pure q);refine M6.st2 rs.length (by omega) (fun i b=>b.length≤ms.length+i∧nk 3 b=nk 3 ms+nov zs (rs.take i)∧nk 4 b=nk 4 ms) ⟨by omega,by simp [nov],rfl⟩ (fun i b Y G=>?_);obtain ⟨X,F,B⟩:=G;unfold VB;simp only;refine M6.ifd (fun H=>?_) (fun H=>M6.pure (.inr ⟨_,rfl,by omega,by rw [F,List.take_of_length_le (by omega)],B⟩));have u:i<rs.length:=by omega
  obtain ⟨x,A⟩:∃ x,rs[i]? = some x:=⟨_,List.getElem?_eq_getElem u⟩
  have J:=I x (List.mem_of_getElem? A);have D:=M65 (zs:=zs) A;rw [Mc,A,M8,R5 u (by omega)];refine M6.bind (M9B (t:=x.1) (ws:=x.2) U J (by omega)) (fun r q=>?_)
  by_cases E:ovz zs x.2=true
  · rw [if_pos E] at q D;obtain ⟨y,rfl,O⟩:=q;refine M6.pure (.inl ⟨_,u,rfl,by simp only [List.length_append,List.length_singleton]; omega,?_,?_⟩)
    · rw [Z1,if_pos O]; omega
    · rw [Z1,if_neg (by omega)]; omega
  · rw [if_neg E] at q D;subst q;exact M6.pure (.inl ⟨_,u,rfl,by omega,by omega,B⟩)
def rd0:Rd:=(0,[])
def sum (f:Nat→Nat):Nat→Nat
  | 0=>0
  | n+1=>sum f n+f n
theorem M1U {f g:Nat→Nat}:∀ {n:Nat},(∀ i,i<n→f i=g i)→sum f n=sum g n
  | 0,_=>rfl
  | n+1,h=>by rw [sum,sum,M1U (fun i j=>h i (by omega)),h n (by omega)]
def Yv (rs:List Rd):Nat:=sum (fun i=>nov (rs.getD i rd0).2 (rs.take i)) rs.length
def RU (cl:List Ct) (rs:List Rd):Nat:=sum (fun i=>if (rs.getD i rd0).1≠(cl.getD i ct0).2.2.1 then 1 else 0) rs.length
theorem M66 {α:Type}{l:List α}{x d:α}{i:Nat}(h:i<l.length):(l++[x]).getD i d=l.getD i d:=by
  rw [List.getD_eq_getElem?_getD,List.getElem?_append_left h,← List.getD_eq_getElem?_getD]
theorem M4h {α:Type}{l:List α}{x d:α}:(l++[x]).getD l.length d=x:=by
  rw [List.getD_eq_getElem?_getD,List.getElem?_append_right (Nat.le_refl _)]; simp
theorem M67 (rs:List Rd)(r:Rd):Yv (rs++[r])=Yv rs+nov r.2 rs:=by
  unfold Yv;rw [List.length_append,List.length_singleton,sum,M4h,List.take_left']
  · congr 1
    refine M1U (fun i g=>?_);rw [M66 g,List.take_append_of_le_length (by omega)]
  · rfl
theorem M4i (cl:List Ct)(rs:List Rd)(r:Rd):RU cl (rs++[r])=RU cl rs+if r.1≠(cl.getD rs.length ct0).2.2.1 then 1 else 0:=by
  unfold RU;rw [List.length_append,List.length_singleton,sum,M4h]
  congr 1
  refine M1U (fun i g=>?_);rw [M66 g]
theorem Mav {l:List El}{f:Int}{k:List (Int×Int)}{cm:List Sp}{cl:List Ct}{h:List (Int×Int)}{rs:List Rd}{n:Int}{m:Cm}{ms:List In}{N:Nat}(u:VN N m)(Z:N≤200000)(ac:ms.length≤400000)(O:rs.length≤1000)(U:∀ r∈rs,r.2.length≤1000)(hc:cm.length≤1024)(I:∀ c∈cm,c.2.2.1=1∨c.2.2.1=2) :
    M6 (loop (Wx l f k cm cl h rs n) (m,ms,0)) fun r=>VN (N+1024) r.1∧r.2.length≤ms.length+1024∧nk 3 r.2=nk 3 ms∧nk 4 r.2=nk 4 ms:=by
  have up:∀ {a b:Nat} {m:Cm},a≤b→VN a m→VN b m:=fun G u k=>⟨Nat.le_trans (u k).1 G,(u k).2⟩
  refine M6.st3 cm.length (by omega) (fun i b c=>VN (N+i) b∧c.length≤ms.length+i∧nk 3 c=nk 3 ms∧nk 4 c=nk 4 ms) ⟨u,by omega,rfl,rfl⟩ ?_;rintro i b c hi ⟨j,i2,A,B⟩;unfold Wx;simp only;refine M6.ifd (fun J=>?_) (fun J=>M6.pure (.inr ⟨_,rfl,up (by omega) j,by simp only; omega,A,B⟩));have q:i<cm.length:=by omega
  obtain ⟨x,E⟩:∃ x,cm[i]? = some x:=⟨_,List.getElem?_eq_getElem q⟩
  have X:=I x (List.mem_of_getElem? E);rw [Mc,E,M8,R5 q (by omega)];have F:∀ g p,M6 (VC b c (i:Int) x g p) fun r=>(∃ a' b',i<cm.length∧r=.next (a',b',(i:Int)+1)∧VN (N+(i+1)) a'∧b'.length≤ms.length+(i+1)∧nk 3 b'=nk 3 ms∧nk 4 b'=nk 4 ms)∨∃ d:Cm×List In,r=.done d∧VN (N+1024) d.1∧d.2.length≤ms.length+1024∧nk 3 d.2=nk 3 ms∧nk 4 d.2=nk 4 ms:=by
    intro g p;unfold VC;rw [R5 q (by omega)];refine M6.ite (fun _=>M6.guard (by simp only [List.length_singleton]; omega) (M6.pure (.inl ⟨_,_,q,rfl,up (by omega) j,by simp only [List.length_append,List.length_singleton]; omega,?_,?_⟩))) (fun _=>?_)
    · rw [Z1,if_neg (by simp)]; exact A
    · rw [Z1,if_neg (by simp)]; exact B
    · obtain ⟨u1,Y⟩:=j x.2.1;refine M6.guard (by simp only [List.length_singleton]; omega) (M6.pure (.inl ⟨_,_,q,rfl,fun k=>?_,by omega,A,B⟩));rw [Y1]
      by_cases D:k=x.2.1
      · rw [if_pos (Mz.2 D),Option.getD_some];refine ⟨by simp only [List.length_append,List.length_singleton]; omega,fun y hy=>?_⟩;rcases List.mem_append.1 hy with hy | hy
        · exact Y y hy
        · rw [List.mem_singleton] at hy; subst hy; exact X
      · rw [if_neg (fun H=>D (Mz.1 H))];exact ⟨by have:=(j k).1; omega,(j k).2⟩
  refine M6.ite (fun _=>M6.bind (M8m O U) (fun g _=>M6.ifd (fun _=>F _ _) (fun _=>M6.bind (M77 j (by omega)) (fun o _=>F _ _)))) (fun _=>?_);exact M6.pure (.inl ⟨_,_,q,rfl,up (by omega) j,by omega,A,B⟩)
theorem M3E {n:Nat}{p:Nat→Bool}(h:Pe n p=true){i:Nat}(g:i<n):p i=true:=M9x.1 h i g
theorem M1p {α:Type}{l:List α}{i:Nat}{x d:α}(h:l[i]? = some x):l.getD i d=x:=by simp [List.getD,h]
theorem Maw {l:List El}{th D:Int}{st:List (Int×Int)}{cm:List Sp}{cl:List Ct}(h:WF l)(hs:MR l=some D)(au:st.length≤34)(aC:cl.length≤96) :
    M6 (M11 l th st cm cl) fun r=>(Z5 l D th st cm cl≠0→r.2.2=Z5 l D th st cm cl)∧(Z5 l D th st cm cl=0→r.2.2=0∧r.1.length=cl.length∧(∀ x∈r.1,x.2.length≤1000)∧nk 3 r.2.1=Yv r.1∧nk 4 r.2.1=RU cl r.1∧r.2.1.length≤400000):=by
  unfold M11;rw [M8g h hs au,M8];refine M6.ite (fun hv=>M6.pure ⟨fun _=>rfl,fun g=>absurd g (MV.1 hv)⟩) (fun hv=>?_);have g:Z5 l D th st cm cl=0:=by
    by_cases j:Z5 l D th st cm cl=0
    · exact j
    · exact absurd (MV.2 j) hv
  unfold Z5 at g
  by_cases O:cm.length>1024
  · rw [if_pos O] at g; cases g
  rw [if_neg O] at g
  by_cases c2:cl.length>96
  · omega
  rw [if_neg c2] at g
  split at g
  · rename_i ab
    simp only [Bool.and_eq_true] at ab;obtain ⟨⟨⟨a1,X⟩,Y⟩,Z⟩:=ab;have ap:∀ c∈cm,c.2.2.1=1∨c.2.2.1=2:=fun c hc=>by
      obtain ⟨i,A⟩:=List.getElem?_of_mem hc;have:=M3E Y (List.getElem?_eq_some_iff.1 A).1;rw [M1p A] at this;unfold M4Z ZB at this;simp only [Bool.and_eq_true,decide_eq_true_eq] at this;exact this.1.2
    have ao:∀ (i:Nat) (c:Ct),cl[i]? = some c→CtG l c:=fun i c A=>by
      have:=M3E Z (List.getElem?_eq_some_iff.1 A).1;unfold ctB at this;rw [M1p A] at this;unfold M61 at this;simp only [Bool.and_eq_true,decide_eq_true_eq] at this;exact ⟨this.1.1.1.2,this.1.1.2⟩
    refine M6.bind (P:=M1o) ?_ (fun b hb=>?_)
    · refine M6.st2 st.length (by omega) (fun _ m=>M1o m) (fun k E=>by cases E) (fun i m A hm=>?_);unfold YG;simp only;refine M6.ifd (fun U=>?_) (fun U=>M6.pure (.inr ⟨_,rfl,hm⟩));have u:i<st.length:=by omega
      rw [ZC (0,0) u,M8,R5 u (by omega)];refine M6.pure (.inl ⟨_,u,rfl,fun k E=>?_⟩);have:=M3E X u;unfold Rl ZB at this;simp only [Bool.and_eq_true,decide_eq_true_eq] at this;rw [Y1] at E ⊢
      by_cases ac:k=(st.getD i (0,0)).1
      · rw [if_pos (Mz.2 ac)]; exact this.2
      · rw [if_neg (fun j=>ac (Mz.1 j))] at E ⊢; exact hm k E
    · refine M6.bind (P:=fun r:Cm×List Rd×List In=>r.2.1.length=cl.length∧(∀ x∈r.2.1,x.2.length≤1000)∧nk 3 r.2.2=Yv r.2.1∧nk 4 r.2.2=RU cl r.2.1∧r.2.2.length≤400000) ?_ (fun r hr=>M6.pure ⟨fun j=>absurd (by unfold Z5; rw [if_neg O,if_neg c2,if_pos (by simp only [Bool.and_eq_true]; exact ⟨⟨⟨a1,X⟩,Y⟩,Z⟩)]) j,fun _=>⟨rfl,hr⟩⟩);refine M6.st4 cl.length (by omega) (fun i d rs ms=>VN (1024*i) d∧rs.length=i∧(∀ x∈rs,x.2.length≤1000)∧nk 3 ms=Yv rs∧nk 4 ms=RU cl rs∧ms.length≤4000*i) ⟨fun k=>⟨by simp [Mu],fun x B=>by simp [Mu] at B⟩,rfl,by simp,rfl,rfl,by simp⟩ ?_;rintro i d rs ms A ⟨i1,i2,J,i4,i5,i6⟩;unfold YF;simp only;refine M6.ifd (fun U=>?_) (fun U=>M6.pure (.inr ⟨_,rfl,by simp only; omega,J,i4,i5,by simp only; omega⟩));have u:i<cl.length:=by omega
      obtain ⟨x,B⟩:∃ x,cl[i]? = some x:=⟨_,List.getElem?_eq_getElem u⟩
      rw [Mc,B,M8];refine M6.bind (Mav (N:=1024*i) i1 (by omega) (by omega) (by omega) J (by omega) ap) ?_;rintro ⟨e,o⟩ ⟨H,e2,e3,e4⟩;simp only at H e2 e3 e4 ⊢;refine M6.bind (M9A h hb H (by omega) B (ao i x B) (by omega)) (fun r ⟨r1,r2,r3,r4⟩=>?_);refine M6.bind (Mau (by omega) r1 J (by omega)) (fun k ⟨k1,k2,k3⟩=>?_);have up:VN (1024*(i+1)) e:=fun q=>⟨Nat.le_trans (H q).1 (by omega),(H q).2⟩
      have hz:∀ y∈rs++[(r.1.1,r.1.2)],y.2.length≤1000:=fun y hy=>by
        rcases List.mem_append.1 hy with hy | hy
        · exact J y hy
        · rw [List.mem_singleton] at hy; subst hy; exact r1
      have aq:(cl.getD rs.length ct0).2.2.1=x.2.2.1:=by rw [i2,M1p B]
      have af:∀ F,F.length≤4000*(i+1)→nk 3 F=Yv rs+nov r.1.2 rs→nk 4 F=RU cl rs+(if r.1.1≠x.2.2.1 then 1 else 0)→M6 (VD rs (i:Int) e r F) fun r=>(∃ a' b' G,i<cl.length∧r=.next (a',b',G,(i:Int)+1)∧VN (1024*(i+1)) a'∧b'.length=i+1∧(∀ x∈b',x.2.length≤1000)∧nk 3 G=Yv b'∧nk 4 G=RU cl b'∧G.length≤4000*(i+1))∨∃ d:Cm×List Rd×List In,r=.done d∧d.2.1.length=cl.length∧(∀ x∈d.2.1,x.2.length≤1000)∧nk 3 d.2.2=Yv d.2.1∧nk 4 d.2.2=RU cl d.2.1∧d.2.2.length≤400000:=by
        intro F m1 m2 m3;unfold VD;rw [R5 u (by omega)];refine M6.guard (by simp only [List.length_singleton]; omega) (M6.pure (.inl ⟨_,_,_,u,rfl,up,by simp [i2],hz,?_,?_,m1⟩))
        · rw [M67]; exact m2
        · rw [M4i,aq]; exact m3
      refine M6.ite (fun I=>?_) (fun I=>af k (by omega) (by omega) ?_)
      · rw [MV] at I;refine M6.guard (by simp only [List.length_singleton]; omega) (af _ (by simp only [List.length_append,List.length_singleton]; omega) ?_ ?_)
        · rw [Z1,if_neg (by simp)]; omega
        · rw [Z1,if_pos rfl,if_pos I]; omega
      · rw [if_neg (fun j=>I (MV.2 j))]; omega
  · cases g
theorem M78 (zs:List Sp)(rs:List Rd):nov zs rs≤rs.length:=List.length_filter_le _ _
theorem Mbo {l:List El}{T:List Rd×List In×Int}{a e:Nat}{x y:Rd}{h:Nat}{c:Bool}(J:T.1[a]? = some x)(O:T.1[e]? = some y)(E:h<x.2.length)(X:y.2.length≤1000) :
    loop (PX T (a:Int) (e:Int) (h:Int)) (c,0)=some (c||!Pe y.2.length fun j=>!ovp (x.2.getD h VO) (y.2.getD j VO)):=by
  suffices M6 (loop (PX T (a:Int) (e:Int) (h:Int)) (c,0)) (fun r=>r=(c||!Pe y.2.length fun j=>!ovp (x.2.getD h VO) (y.2.getD j VO))) by obtain ⟨v,F,rfl⟩:=this; exact F
  refine M6.st2 y.2.length (by omega) (fun i g=>g=(c||!Pe i fun j=>!ovp (x.2.getD h VO) (y.2.getD j VO))) (by simp [M4e]) (fun i g U q=>?_);unfold PX;simp only;rw [Mc,O,M8];refine M6.ifd (fun I=>?_) (fun I=>M6.pure (.inr ⟨_,rfl,by rw [q,show i=y.2.length by omega]⟩));have A:i<y.2.length:=by omega
  rw [R5 A (by omega)];refine M6.ite (fun D=>M6.pure (.inl ⟨_,A,rfl,?_⟩)) (fun D=>?_)
  · rw [D] at q;rw [PF];cases c
    · rw [Bool.false_or] at q ⊢;cases u:Pe i fun j=>!ovp (x.2.getD h VO) (y.2.getD j VO)
      · rfl
      · rw [u] at q; cases q
    · rfl
  · have H:g=false:=by simpa using D
    rw [H] at q;have G:c=false:=by cases c; rfl; rw [Bool.true_or] at q; cases q
    subst G;rw [Bool.false_or] at q;have u:(Pe i fun j=>!ovp (x.2.getD h VO) (y.2.getD j VO))=true:=by
      cases u:Pe i fun j=>!ovp (x.2.getD h VO) (y.2.getD j VO)
      · rw [u] at q; cases q
      · rfl
    rw [Mc,J,M8,ZC VO E,M8,M8,ZC VO A,M8];refine M6.ite (fun B=>?_) (fun B=>M6.pure (.inl ⟨_,A,rfl,?_⟩))
    · rw [M8,ZC VO E,M8,M8,ZC VO A,M8,M0D,M8];refine M6.pure (.inl ⟨_,A,rfl,?_⟩);rw [PF,u,Bool.false_or,Bool.true_and,Bool.not_not];unfold ovp;rw [B,Bool.true_and]
    · rw [PF,u,Bool.false_or,Bool.true_and,Bool.not_not];unfold ovp;rw [show ((x.2.getD h VO).1==(y.2.getD i VO).1)=false by simpa using B]; rfl
theorem Mbp {T:List Rd×List In×Int}{a e:Nat}{x y:Rd}(A:T.1[a]? = some x)(E:T.1[e]? = some y)(H:x.2.length≤1000)(F:y.2.length≤1000) :
    loop (PY T (a:Int) (e:Int)) (false,0)=some (ovz x.2 y.2):=by
  suffices M6 (loop (PY T (a:Int) (e:Int)) (false,0)) (fun r=>r=ovz x.2 y.2) by obtain ⟨v,B,rfl⟩:=this; exact B
  refine M6.st2 x.2.length (by omega) (fun i g=>g = !Pe i fun i=>Pe y.2.length fun j=>!ovp (x.2.getD i VO) (y.2.getD j VO)) rfl (fun i g G u=>?_);unfold PY;simp only;rw [Mc,A,M8];refine M6.ifd (fun D=>?_) (fun D=>M6.pure (.inr ⟨_,rfl,by rw [u,show i=x.2.length by omega]; rfl⟩));have q:i<x.2.length:=by omega
  rw [R5 q (by omega),Mbo (l:=[]) A E q F,M8];refine M6.pure (.inl ⟨_,q,rfl,?_⟩);rw [u,PF,Bool.not_and]
theorem Mbq {T:List Rd×List In×Int}{a:Nat}{x:Rd}{n:Nat}(u:T.1[a]? = some x)(J:T.1.length≤1000)(E:∀ r∈T.1,r.2.length≤1000)(O:n≤1000000) :
    loop (PZ T (a:Int)) ((n:Int),0)=some ((n+nov x.2 (T.1.take a):Nat):Int):=by
  have H:=(List.getElem?_eq_some_iff.1 u).1
  suffices M6 (loop (PZ T (a:Int)) ((n:Int),0)) (fun r=>r=((n+nov x.2 (T.1.take a):Nat):Int)) by obtain ⟨v,F,rfl⟩:=this; exact F
  refine M6.st2 a (by omega) (fun i g=>g=((n+nov x.2 (T.1.take i):Nat):Int)) (by simp [nov]) (fun i g I B=>?_);unfold PZ;simp only;refine M6.ifd (fun G=>?_) (fun G=>M6.pure (.inr ⟨_,rfl,by rw [B,show i=a by omega]⟩));have j:i<a:=by omega
  obtain ⟨y,A⟩:∃ y,T.1[i]? = some y:=⟨_,List.getElem?_eq_getElem (by omega)⟩
  have D:=M65 (zs:=x.2) A;have U:=M78 x.2 (T.1.take i);have X:=List.length_take_le i T.1;rw [R5 j (by omega),Mbp u A (E x (List.mem_of_getElem? u)) (E y (List.mem_of_getElem? A)),M8];subst B;refine M6.ite (fun q=>M6.pure (.inl ⟨_,j,rfl,?_⟩)) (fun q=>M6.pure (.inl ⟨_,j,rfl,?_⟩))
  · rw [if_pos q] at D;rw [MD (by omega) (by omega)]; omega
  · rw [if_neg q] at D;omega
theorem M8n {rs:List Rd}{i:Nat}{x:Rd}(h:rs[i]? = some x):Yv (rs.take (i+1))=Yv (rs.take i)+nov x.2 (rs.take i):=by
  rw [List.take_succ_eq_append_getElem (List.getElem?_eq_some_iff.1 h).1,(List.getElem?_eq_some_iff.1 h).2,M67]
theorem M79 {cl:List Ct}{rs:List Rd}{i:Nat}{x:Rd}{q:Ct}(h:rs[i]? = some x)(j:cl[i]? = some q):RU cl (rs.take (i+1))=RU cl (rs.take i)+if x.1≠q.2.2.1 then 1 else 0:=by
  have g:=(List.getElem?_eq_some_iff.1 h).1;rw [List.take_succ_eq_append_getElem g,(List.getElem?_eq_some_iff.1 h).2,M4i,show (rs.take i).length=i by rw [List.length_take]; omega,M1p j]
theorem M7F {k:Int}{m:List In}{i:Nat}{x:In}(h:m[i]? = some x):nk k (m.take (i+1))=nk k (m.take i)+if x.1=k then 1 else 0:=by
  rw [List.take_succ_eq_append_getElem (List.getElem?_eq_some_iff.1 h).1,(List.getElem?_eq_some_iff.1 h).2,Z1]
theorem Mbr {S:(List El×Int×List (Int×Int)×List Sp×List Ct)×Int}{T:List Rd×List In×Int}(Y:T.1.length≤96)(O:T.1.length=S.1.2.2.2.2.length)(I:∀ r∈T.1,r.2.length≤1000) :
    loop (R2 S T) (0,0,0)=some ((Yv T.1:Int),(RU S.1.2.2.2.2 T.1:Int)):=by
  suffices M6 (loop (R2 S T) (0,0,0)) (fun r=>r=((Yv T.1:Int),(RU S.1.2.2.2.2 T.1:Int))) by obtain ⟨v,B,rfl⟩:=this; exact B
  refine M6.st3 T.1.length (by omega) (fun i c d=>(c=(Yv (T.1.take i):Int)∧Yv (T.1.take i)≤96*i)∧d=(RU S.1.2.2.2.2 (T.1.take i):Int)∧RU S.1.2.2.2.2 (T.1.take i)≤i) ⟨⟨rfl,Nat.zero_le _⟩,rfl,Nat.zero_le _⟩ ?_;rintro i c d X ⟨⟨rfl,h1⟩,rfl,B⟩;unfold R2;simp only;refine M6.ifd (fun H=>?_) (fun H=>M6.pure (.inr ⟨_,rfl,by rw [List.take_of_length_le (by omega)]⟩));have u:i<T.1.length:=by omega
  obtain ⟨x,j⟩:∃ x,T.1[i]? = some x:=⟨_,List.getElem?_eq_getElem u⟩
  obtain ⟨q,D⟩:∃ q,S.1.2.2.2.2[i]? = some q:=⟨_,List.getElem?_eq_getElem (by omega)⟩
  have J:=M8n j;have F:=M79 j D;have Z:=M78 x.2 (T.1.take i);have m4:=List.length_take_le i T.1;have m5:(T.1.take i).length≤96:=by rw [List.length_take]; omega
  rw [Mc,j,M8,Mc,D,M8];have E:∀ g:Nat,g=RU S.1.2.2.2.2 (T.1.take (i+1))→g≤i+1→M6 (R0 T (Yv (T.1.take i):Int) (i:Int) (g:Int)) fun r=>(∃ a' b',i<T.1.length∧r=.next (a',b',(i:Int)+1)∧(a'=(Yv (T.1.take (i+1)):Int)∧Yv (T.1.take (i+1))≤96*(i+1))∧b'=(RU S.1.2.2.2.2 (T.1.take (i+1)):Int)∧RU S.1.2.2.2.2 (T.1.take (i+1))≤i+1)∨∃ d:Int×Int,r=.done d∧d=((Yv T.1:Int),(RU S.1.2.2.2.2 T.1:Int)):=by
    intro g hd U;unfold R0;rw [Mbq j (by omega) I (by omega),M8,R5 u (by omega)];exact M6.pure (.inl ⟨_,_,u,rfl,⟨by rw [J],by omega⟩,by rw [hd],by omega⟩)
  refine M6.ite (fun A=>?_) (fun A=>?_)
  · rw [if_pos (MV.1 A)] at F;rw [MD (n:=(RU S.1.2.2.2.2 (T.1.take i):Int)+1) (by omega) (by omega)];have:=E (RU S.1.2.2.2.2 (T.1.take i)+1) (by omega) (by omega);rw [show ((RU S.1.2.2.2.2 (T.1.take i)+1:Nat):Int)=(RU S.1.2.2.2.2 (T.1.take i):Int)+1 by omega] at this;exact this
  · rw [if_neg (fun G=>A (MV.2 G))] at F;exact E _ (by omega) (by omega)
theorem Mbs {T:List Rd×List In×Int}{u v:Nat}(I:T.2.1.length≤400000)(g:nk 3 T.2.1=u)(j:nk 4 T.2.1=v)(J:u≤400000)(hv:v≤400000):loop (R1 T) ((u:Int),(v:Int),0)=some (0,0):=by
  suffices M6 (loop (R1 T) ((u:Int),(v:Int),0)) (fun r=>r=(0,0)) by obtain ⟨v,F,rfl⟩:=this; exact F
  refine M6.st3 T.2.1.length (by omega) (fun i b c=>b=(u:Int)-nk 3 (T.2.1.take i)∧c=(v:Int)-nk 4 (T.2.1.take i)∧nk 3 (T.2.1.take i)≤i∧nk 4 (T.2.1.take i)≤i) ⟨by simp [nk],by simp [nk],by simp [nk],by simp [nk]⟩ ?_;rintro i b c H ⟨rfl,rfl,O,U⟩;unfold R1;simp only;refine M6.ifd (fun G=>?_) (fun G=>M6.pure (.inr ⟨_,rfl,?_⟩))
  · have A:i<T.2.1.length:=by omega
    obtain ⟨x,B⟩:∃ x,T.2.1[i]? = some x:=⟨_,List.getElem?_eq_getElem A⟩
    have D:=M7F (k:=3) B;have E:=M7F (k:=4) B;rw [Mc,B,M8,R5 A (by omega),MD (n:=(u:Int)-nk 3 (T.2.1.take i)-1) (by omega) (by omega),MD (n:=(v:Int)-nk 4 (T.2.1.take i)-1) (by omega) (by omega)];refine M6.ite (fun g=>?_) (fun g=>M6.ite (fun j=>?_) (fun j=>?_))
    · rw [Mz] at g;rw [if_pos g] at D;rw [if_neg (by omega)] at E;exact M6.pure (.inl ⟨_,_,A,rfl,by omega,by omega,by omega,by omega⟩)
    · rw [Mz] at j;rw [if_neg (fun q=>g (Mz.2 q))] at D;rw [if_pos j] at E;exact M6.pure (.inl ⟨_,_,A,rfl,by omega,by omega,by omega,by omega⟩)
    · rw [if_neg (fun q=>g (Mz.2 q))] at D;rw [if_neg (fun q=>j (Mz.2 q))] at E;exact M6.pure (.inl ⟨_,_,A,rfl,by omega,by omega,by omega,by omega⟩)
  · rw [List.take_of_length_le (by omega),g,j];simp
theorem May (rs:List Rd)(h:rs.length≤96):Yv rs≤96*rs.length:=by
  have:∀ n,n≤rs.length→sum (fun i=>nov (rs.getD i rd0).2 (rs.take i)) n≤96*n:=by
    intro n
    induction n with
    | zero=>intro _; exact Nat.zero_le _
    | succ n g=>
      intro r;have h1:=g (by omega);have j:=M78 (rs.getD n rd0).2 (rs.take n);have q:(rs.take n).length≤96:=by rw [List.length_take]; omega
      rw [sum]; omega
  exact this _ (Nat.le_refl _)
theorem M9C (cl:List Ct)(rs:List Rd):RU cl rs≤rs.length:=by
  have:∀ n,sum (fun i=>if (rs.getD i rd0).1≠(cl.getD i ct0).2.2.1 then 1 else 0) n≤n:=by
    intro n
    induction n with
    | zero=>exact Nat.zero_le _
    | succ n g=>rw [sum]; split <;> omega
  exact this _
theorem M8o (q:List Int):W9 q=some true:=by
  suffices M6 (W9 q) (fun r=>r=true) by obtain ⟨v,O,rfl⟩:=this; exact O
  unfold W9;rw [show M4x q=some (q,0) from rfl,M8];refine M6.bind (M9w q) (fun b ⟨A,B,D⟩=>?_);refine M6.bind (M60 A B D) (fun a ha=>?_);obtain ⟨U,hs,_⟩:=ZA ha.wf;have X:=ha.cl;refine M6.bind (Maw ha.wf hs ha.st (by omega)) (fun c ⟨E,F⟩=>?_)
  by_cases g:Z5 a.1.1 U a.1.2.1 a.1.2.2.1 a.1.2.2.2.1 a.1.2.2.2.2=0
  · obtain ⟨d1,d2,G,H,I,J⟩:=F g;rw [if_neg (fun j=>MV.1 j d1),if_neg (fun j=>MV.1 j (by omega)),Mbr (by omega) d2 G,M8];simp only;have Y:=May c.1 (by omega);have Z:=M9C a.1.2.2.2.2 c.1;rw [Mbs J H I (by omega) (by omega),M8];exact M6.of rfl rfl
  · have u:=E g;rw [if_pos (MV.2 (by rw [u]; exact g)),M9y ha.wf hs ha.st,M8,u,if_pos (Mz.2 rfl)];exact M6.of rfl rfl
end Go.Proofs.YtlihkahbjlnbbaaGreat
