
/- Steps of all that is known at once: one event of the world moves every fact that it does not touch. Conditions: those of each theorem. -/
import Derived.Test.YtlihkahbjlnbbaaGreatMb
set_option linter.unusedSimpArgs false
set_option linter.unusedVariables false
namespace Go.V
open Go
class At (ls:List (List Nat)) (l:List Nat) (i:outParam Nat):Prop where
  pr:ls[i]? = some l
instance At.s {x l:List Nat} {ls:List (List Nat)} {i:Nat} [h:At ls l i]:At (x::ls) l (i+1):=⟨by simpa using h.pr⟩
instance At.z {l:List Nat} {ls:List (List Nat)}:At (l::ls) l 0:=⟨rfl⟩
class App (a b:List (List Nat)) (c:outParam (List (List Nat))):Prop where
  pr:a++b=c
instance App.z {b:List (List Nat)}:App [] b b:=⟨rfl⟩
instance App.s {x:List Nat} {a b c:List (List Nat)} [h:App a b c]:App (x::a) b (x::c):=⟨by rw [List.cons_append,h.pr]⟩
class Pre (a c:List (List Nat)):Prop where
  pr:∃ b,a++b=c
instance Pre.z {c:List (List Nat)}:Pre [] c:=⟨c,rfl⟩
instance Pre.s {x:List Nat} {a c:List (List Nat)} [h:Pre a c]:Pre (x::a) (x::c):=⟨by obtain ⟨b,h⟩:=h.pr; exact ⟨b,by rw [List.cons_append,h]⟩⟩
class Nth (ls:List (List Nat)) (i:Nat) (x:outParam (List Nat)):Prop where
  pr:ls[i]? = some x
instance Nth.s {x y:List Nat} {ls:List (List Nat)} {i:Nat} [h:Nth ls i y]:Nth (x::ls) (i+1) y:=⟨by simpa using h.pr⟩
instance Nth.d {g j x2 x3 y:List Nat} {ls:List (List Nat)} {i:Nat} [h:Nth ls i y]:Nth (g::j::x2::x3::ls) (i+4) y:=⟨by simpa using h.pr⟩
instance Nth.t {g j x2 x3 q r u A y:List Nat} {ls:List (List Nat)} {i:Nat} [h:Nth ls i y]:Nth (g::j::x2::x3::q::r::u::A::ls) (i+8) y:=⟨by simpa using h.pr⟩
instance Nth.z {x:List Nat} {ls:List (List Nat)}:Nth (x::ls) 0 x:=⟨rfl⟩
class Pks (ls:List (List Nat)) (l:List Nat) (r:outParam (List (List Nat))):Prop where
  pr:Pz ls (l.map some)=some r
instance Pks.z {ls:List (List Nat)}:Pks ls [] []:=⟨rfl⟩
instance Pks.s {ls:List (List Nat)} {i:Nat} {x:List Nat} {l:List Nat} {r:List (List Nat)} [h1:Nth ls i x] [g:Pks ls l r]:Pks ls (i::l) (x::r):=⟨by
  have g:=g.pr;simp only [List.map_cons,Pz,h1.pr,g,Option.map_some]⟩
class Sat (ls:List (List Nat)) (j:Nat) (B:List Nat) (r:outParam (List (List Nat))):Prop where
  pr:ls.set j B=r
instance Sat.s {x B:List Nat} {ls r:List (List Nat)} {j:Nat} [h:Sat ls j B r]:Sat (x::ls) (j+1) B (x::r):=⟨by rw [List.set_cons_succ,h.pr]⟩
instance Sat.z {x B:List Nat} {ls:List (List Nat)}:Sat (x::ls) 0 B (B::ls):=⟨rfl⟩
class Pln {α:Type} (e:MN α) where
  cf:α→List Value
  ok:∀ w M x,e.R w M (cf x) x
  pl:e.Plain
  un:∀ {w M cs x},e.R w M cs x→cs=cf x
instance Pln.i {k:IntKind}:Pln (Zd k):=⟨fun x=>[.int k x],fun _ _ _=>rfl,M3T k,id⟩
instance Pln.b:Pln Pt:=⟨fun x=>[.bool x],fun _ _ _=>rfl,fun _ _ _ _ _ _ h=>h,id⟩
instance Pln.t:Pln Mv:=⟨fun x=>[Vs x],fun _ _ _=>rfl,M7O,id⟩
instance Pln.u:Pln MaL:=⟨fun _=>[],fun _ _ _=>rfl,fun _ _ _ _ _ _ h=>h,id⟩
instance Pln.h:Pln M0N:=⟨fun h=>[.slice h.1 h.2.1 h.2.2],fun _ _ _=>rfl,fun _ _ _ _ _ _ h=>h,id⟩
instance Pln.p {α β:Type} {e:MN α} {f:MN β} [h:Pln e] [k:Pln f]:Pln (M3 e f):=⟨fun x=>h.cf x.1++k.cf x.2,fun w M x=>⟨_,_,rfl,h.ok w M x.1,k.ok w M x.2⟩,M2P h.pl k.pl,fun ⟨_,_,g,j,q⟩=>by rw [g,h.un j,k.un q]⟩
structure Cx (w w':World) (ls ls':List (List Nat)) (Mo J:List Nat):Prop where
  m0:MS w ls
  st:Ro (fl ls) w (fl ls') w'
  ev:Ev Mo w w'
  ap:∀ (i:Nat) (A:List Nat),ls[i]? = some A→J.any (Nat.beq i)=false→∀ x∈A,x∉Mo
  ms:MS w' ls'
section
variable {w w' : World} {ls ls' : List (List Nat)} {Mo J : List Nat}
theorem Cx.e (h:MS w ls)(e:Ev [] w w'):Cx w w' ls ls [] []:=⟨h,Ro.ext e,e,fun _ _ _ _ _ _ h=>(by cases h),h.ev e⟩
theorem Cx.j (h:MS w ls)(j:Nat)(e:Ev Mo w w')(g:ls[j]? = some Mo:=by rfl):Cx w w' ls ls Mo [j]:=
  ⟨h,Ro.ev' e (M5d j g),e,fun i A q r=>h.apart i j q g (by simpa using r),h.ev e⟩
theorem Cx.b {b:Nat}{o:Obj}(h:MS w ls)(e:Ev [] w w')(g:b=w.heap.size)(j:w'.heap[b]? = some o):Cx w w' ls ([b]::ls) [] []:=
  ⟨h,Ro.box e g,e,fun _ _ _ _ _ _ h=>(by cases h),h.box e g j⟩
theorem Cx.u {A B:List Nat}{ls':List (List Nat)}(h:MS w ls)(j:Nat)(e:Ev A w w')(g:∀ b∈B,(b∈A∨w.heap.size≤b)∧b<w'.heap.size) [k:Sat ls j B ls'] (q:ls[j]? = some A:=by rfl):Cx w w' ls ls' A [j]:=by
  have k:=k.pr;subst k;exact ⟨h,Ro.upd j e q (fun b r=>(g b r).1),e,fun i A D g=>h.apart i j D q (by simpa using g),h.upd j e q g⟩
theorem Cx.n (h:MS w ls):Cx w w ls (ML none::ls) [] []:=
  ⟨h,Ro.push (l:=ML none) (Ev.refl [] w) (fun _ h=>by cases h) (fun _ h=>by cases h),Ev.refl _ _,fun _ _ _ _ _ _ h=>(by cases h),h.push (l:=ML none) (Ev.refl [] _) (fun _ h=>by cases h)⟩
theorem Cx.p {l:List Nat}(h:MS w ls)(e:Ev [] w w')(g:∀ b∈l,w.heap.size≤b∧b<w'.heap.size):Cx w w' ls (l::ls) [] []:=
  ⟨h,Ro.push e (fun _ h=>by cases h) (fun b j=>(g b j).1),e,fun _ _ _ _ _ _ h=>(by cases h),h.push e g⟩
theorem Cx.s (h:MS w ls)(l:List Nat) [k:Pks ls l ls'] (hd:distinct (l.map some)=true:=by rfl):Cx w w ls ls' [] []:=
  ⟨h,Ro.sub w (Pk l ls' k.pr),Ev.refl _ _,fun _ _ _ _ _ _ h=>(by cases h),h.pk l ls' (by rw [k.pr,hd])⟩
theorem M7S {R:List (List Nat)}(p q:List Nat):∀ {P:List (List Nat)},Pz ls (p.map some)=some P→Pz ls (q.map some)=some R→Pz ls ((p++q).map some)=some (P++R):=by
  induction p with
  | nil=>intro P g j; simp only [List.map_nil,Pz,Option.some.injEq] at g; subst g; exact j
  | cons i p u=>
    intro P g j;simp only [List.map_cons,Pz,List.cons_append] at g ⊢;cases h1:ls[i]? with
    | none=>rw [h1] at g; cases g
    | some A=>
      rw [h1] at g;simp only at g;cases r:Pz ls (p.map some) with
      | none=>rw [r] at g; cases g
      | some D=>
        rw [r] at g;simp only [Option.map_some,Option.some.injEq] at g;subst g;have:=u r j;simp only;rw [this];rfl
theorem Kc {P R X:List (List Nat)}(h:MS w ls)(p q:List Nat) [k1:Pks ls p P] [k2:Pks ls q R] [g:App P [fl R] X] (hd:distinct ((p++q).map some)=true:=by rfl):MS w X∧∀ x∈fl X,x∈fl ls:=by
  have e:=M7S p q k1.pr k2.pr;have g:=g.pr;subst g;have j:=h.pk (p++q) (P++R) (by rw [e,hd]);exact ⟨j.fold,fun x r=>Pk (p++q) (P++R) e x (M1B x r)⟩
theorem Ko {R:List (List Nat)}{B:List Nat}(h:MS w ls)(i:Nat)(q:List Nat) [n:Nth ls i B] [k:Pks ls q R] (hd:(q.any (Nat.beq i))=false:=by rfl):∀ x∈B,x∉fl ([]++[fl R]):=fun x A D=>
  Mq h i n.pr (q.map some) R k.pr (by
    rw [List.all_eq_true];intro o u;obtain ⟨j,r,rfl⟩:=List.mem_map.1 u;rw [List.any_eq_false] at hd;have:=hd j r;cases g:Nat.beq i j
    · simp only [g]; rfl
    · exact absurd g this) x A (M1B (P:=[]) x D)
theorem Pks.mem {P:List (List Nat)}{p:List Nat}(k:Pks ls p P):∀ A∈P,∃ j∈p,ls[j]? = some A:=fun A g=>by
  have:=k.pr;clear k
  induction p generalizing P with
  | nil=>simp only [List.map_nil,Pz,Option.some.injEq] at this; subst this; cases g
  | cons i p D=>
    simp only [List.map_cons,Pz] at this;cases h1:ls[i]? with
    | none=>rw [h1] at this; cases this
    | some B=>
      rw [h1] at this;simp only at this;cases q:Pz ls (p.map some) with
      | none=>rw [q] at this; cases this
      | some E=>
        rw [q] at this;simp only [Option.map_some,Option.some.injEq] at this;subst this;cases g with
        | head=>exact ⟨i,List.mem_cons_self,h1⟩
        | tail _ g=>
          obtain ⟨j,u,r⟩:=D g q;exact ⟨j,List.mem_cons_of_mem _ u,r⟩
theorem Pks.apart {P:List (List Nat)}{p:List Nat}(k:Pks ls p P)(h:MS w ls):∀ (i:Nat) (A:List Nat),ls[i]? = some A→p.any (Nat.beq i)=false→∀ x∈A,x∉fl P:=fun i A u g x F G=>by
  obtain ⟨l,E,H⟩:=(Mx _ _).1 G;obtain ⟨j,D,q⟩:=k.mem l E;refine h.apart i j u q ?_ x F H;rw [List.any_eq_false] at g;have:=g j D;cases r:Nat.beq i j
  · rfl
  · exact absurd r this
theorem Pks.sub {P:List (List Nat)}{p:List Nat}(k:Pks ls p P):∀ x∈fl P,x∈fl ls:=fun x r=>by
  obtain ⟨l,q,u⟩:=(Mx _ _).1 r;obtain ⟨j,A,g⟩:=k.mem l q;exact (Mx _ _).2 ⟨l,List.mem_of_getElem? g,u⟩
theorem Cx.c0 {P:List (List Nat)}(h:MS w ls)(p:List Nat)(e:Ev Mo w w') [k:Pks ls p P] (g:Mo=fl P:=by rfl):Cx w w' ls ls Mo p:=by
  subst g;exact ⟨h,Ro.ev' e k.sub,e,k.apart h,h.ev e⟩
theorem Cx.c {P Y res N:List (List Nat)}(h:MS w ls)(p:List Nat)(e:Ev Mo w w')(r:MS w' Y)(u:FR w.heap.size res) [k1:Pks ls p P] [j:Pre res Y] [q:App res ls N] (A:Mo=fl P:=by rfl):Cx w w' ls N Mo p:=by
  subst A;have q:=q.pr;subst q;obtain ⟨X,j⟩:=j.pr;subst j;refine ⟨h,Ro.join e k1.sub u,e,k1.apart h,?_⟩;refine ⟨List.pairwise_append.2 ⟨(List.pairwise_append.1 r.pd).1,h.pd,fun a ha b g x E F=>?_⟩,fun l D b g=>?_⟩
  · have:=u a ha x E;have:=h.lt b g x F;omega
  · rcases List.mem_append.1 D with h1 | h1
    · exact r.lt l (List.mem_append_left _ h1) b g
    · exact e.lt (h.lt l h1 b g)
theorem Cx.l {α:Type}{e:MN α} [k:Pln e] {b:Nat}{cs:Array Value}{T:TypeId}(c:Cx w w' ls ls' Mo J)(D:b=w.heap.size)(u:w'.heap[b]? = some (.cells cs T (0,0)))(n:Nat)(xs:List α)(A:ls'=ls:=by rfl)
    (h:cs.toList=xs.flatMap k.cf:=by rfl) (q:(Nat.ble n 4294967296,xs.length)=(true,n):=by rfl):Ma e w' (fl ls') (some ⟨b,0,none⟩) n xs:=by
  subst A;refine XY c.m0 D u (congrArg Prod.fst q) (congrArg Prod.snd q) (fun i x g=>⟨k.cf x,k.ok _ _ _,fun j v hv=>?_⟩);have r:∀ y:α,(k.cf y).length=e.n:=fun y=>e.len (k.ok w [] y)
  rw [← Array.getElem?_toList,h];clear h q
  induction xs generalizing i with
  | nil=>cases g
  | cons y ys E=>
    rw [List.flatMap_cons];cases i with
    | zero=>
      simp only [List.getElem?_cons_zero,Option.some.injEq] at g;subst g;rw [Nat.zero_mul,Nat.zero_add,List.getElem?_append_left (List.getElem?_eq_some_iff.1 hv).1];exact hv
    | succ i=>
      rw [List.getElem?_append_right (by rw [r,Nat.succ_mul]; omega),r,show (i+1)*e.n+j-e.n=i*e.n+j by rw [Nat.succ_mul]; omega];exact E i (by simpa using g)
end
class Sp (w w':World) (ls ls':List (List Nat)) (Mo J:List Nat) (A:Prop) (B:outParam Prop) (c:outParam Bool):Prop where
  go:c=true→Cx w w' ls ls' Mo J→A→B
section
variable {w w' w0 : World} {ls ls' : List (List Nat)} {Mo J M0 : List Nat} {α K V : Type} {e : MN α} {a : Option Addr} {c : Nat} {xs : List α} {xss : List (List α)} {T Tr i b : Nat} {B : List Nat} {o : Obj} {sk : Option Nat} {kv : K → Value} {vv : V → Value} {l : List (K × V)} {ev : MN V}
theorem Cx.ne (h:Cx w w' ls ls' Mo J){A:List Nat}(j:ls[i]? = some A)(g:(!(J.any (Nat.beq i)))=true):∀ x∈A,x∉Mo:=h.ap i A j (by simpa using g)
instance:Sp w w' ls ls' Mo J (Ma e w (fl ls) a c xs) (Ma e w' (fl ls') a c xs) true:=⟨fun _ h k=>k.step h.st⟩
instance [k:At ls [b] i]:Sp w w' ls ls' Mo J (w.heap[b]? = some o) (w'.heap[b]? = some o) (!(J.any (Nat.beq i))):=⟨fun g h f=>h.ev.box f (h.ne k.pr g b (List.mem_singleton.2 rfl))⟩
instance [k:At ls (ML a) i]:Sp w w' ls ls' Mo J (M9 e T w (fl ls) a c xs) (M9 e T w' (fl ls') a c xs) (!(J.any (Nat.beq i))):=⟨fun g h f=>f.step h.st h.ev (h.ne k.pr g)⟩
instance [p:Pln e] [k:At ls B i]:Sp w w' ls ls' Mo J (P6 e T Tr w B a c xss sk) (P6 e T Tr w' B a c xss sk) (!(J.any (Nat.beq i))):=⟨fun g h f=>f.step p.pl h.ev (h.ne k.pr g)⟩
instance [k:At ls [b] i]:Sp w w' ls ls' Mo J (PA kv vv w b l) (PA kv vv w' b l) (!(J.any (Nat.beq i))):=⟨fun g h f=>f.step h.ev (h.ne k.pr g b (List.mem_singleton.2 rfl))⟩
instance:Sp w w' ls ls' Mo J (P5 kv ev w (fl ls) b l) (P5 kv ev w' (fl ls') b l) true:=⟨fun _ h k=>k.step h.st⟩
instance [k:At ls B i]:Sp w w' ls ls' Mo J (M02 e T w (fl ls) B a c xs) (M02 e T w' (fl ls') B a c xs) (!(J.any (Nat.beq i))):=⟨fun g h f=>f.step h.st h.ev (h.ne k.pr g)⟩
instance {g j:Nat} {raw:List Value} [k:At ls (ML a) i]:Sp w w' ls ls' Mo J (Ts e T w (fl ls) a g c xs j raw) (Ts e T w' (fl ls') a g c xs j raw) (!(J.any (Nat.beq i))):=⟨fun q h f=>f.step h.st h.ev (h.ne k.pr q)⟩
instance {m:List (K×List α)} {sk:Option K} [p:Pln e] [k:At ls B i]:Sp w w' ls ls' Mo J (Ve kv e T w B b m sk) (Ve kv e T w' B b m sk) (!(J.any (Nat.beq i))):=⟨fun g h f=>f.step p.pl h.ev (h.ne k.pr g)⟩
instance {ad:Addr} {cs:List Value}:Sp w w' ls ls' Mo J (Ms w (fl ls) ad cs) (Ms w' (fl ls') ad cs) true:=⟨fun _ h k=>k.step h.st⟩
instance {g j ci:Nat} {ai:Option Addr} [p:Pln e] [k:At ls B i]:Sp w w' ls ls' Mo J (Wb e T w B a xss g j ai ci xs) (Wb e T w' B a xss g j ai ci xs) (!(J.any (Nat.beq i))):=⟨fun q h f=>f.step p.pl h.ev (h.ne k.pr q)⟩
instance [BEq K] {k:K} {v:Value}:Sp w w' ls ls' [] J (M2U kv w b k v) (M2U kv w' b k v) true:=⟨fun _ h f=>f.step h.ev nn⟩
instance:Sp w w' ls ls' Mo J (MS w ls) (MS w' ls') true:=⟨fun _ h _=>h.ms⟩
instance:Sp w w' ls ls' [] J (Ev M0 w0 w) (Ev M0 w0 w') true:=⟨fun _ h k=>k.ext h.ev⟩
end
theorem Wd {a b:Bool}(h:(a&&b)=true):a=true:=by cases a; exact h; rfl
theorem We {a b:Bool}(h:(a&&b)=true):b=true:=by cases a; cases h; exact h
theorem E1 {w w':World}{ls ls':List (List Nat)}{Mo J:List Nat}{g j:Prop}{c0:Bool}(x:Cx w w' ls ls' Mo J)(q:g) [k0:Sp w w' ls ls' Mo J g j c0] (h:c0=true:=by rfl):j:=k0.go h x q
theorem E2 {w w':World}{ls ls':List (List Nat)}{Mo J:List Nat}{g j q r:Prop}{c0 u:Bool}(x:Cx w w' ls ls' Mo J)(A:g)(D:j) [k0:Sp w w' ls ls' Mo J g q c0] [k1:Sp w w' ls ls' Mo J j r u] (h:(c0&&u)=true:=by rfl):q∧r:=⟨k0.go (Wd h) x A,E1 x D (h:=We h)⟩
theorem E3 {w w':World}{ls ls':List (List Nat)}{Mo J:List Nat}{g j q r u A:Prop}{c0 D E:Bool}(x:Cx w w' ls ls' Mo J)(F:g)(G:j)(H:q) [k0:Sp w w' ls ls' Mo J g r c0] [k1:Sp w w' ls ls' Mo J j u D] [k2:Sp w w' ls ls' Mo J q A E] (h:(c0&&(D&&E))=true:=by rfl):r∧u∧A:=⟨k0.go (Wd h) x F,E2 x G H (h:=We h)⟩
theorem E4 {w w':World}{ls ls':List (List Nat)}{Mo J:List Nat}{g j q r u A D E:Prop}{c0 F G H:Bool}(x:Cx w w' ls ls' Mo J)(I:g)(O:j)(U:q)(X:r) [k0:Sp w w' ls ls' Mo J g u c0] [k1:Sp w w' ls ls' Mo J j A F] [k2:Sp w w' ls ls' Mo J q D G] [k3:Sp w w' ls ls' Mo J r E H] (h:(c0&&(F&&(G&&H)))=true:=by rfl):u∧A∧D∧E:=⟨k0.go (Wd h) x I,E3 x O U X (h:=We h)⟩
theorem E5 {w w':World}{ls ls':List (List Nat)}{Mo J:List Nat}{g j q r u A D E F G:Prop}{c0 H I O U:Bool}(x:Cx w w' ls ls' Mo J)(X:g)(Y:j)(Z:q)(a3:r)(a4:u) [k0:Sp w w' ls ls' Mo J g A c0] [k1:Sp w w' ls ls' Mo J j D H] [k2:Sp w w' ls ls' Mo J q E I] [k3:Sp w w' ls ls' Mo J r F O] [k4:Sp w w' ls ls' Mo J u G U] (h:(c0&&(H&&(I&&(O&&U))))=true:=by rfl):A∧D∧E∧F∧G:=⟨k0.go (Wd h) x X,E4 x Y Z a3 a4 (h:=We h)⟩
theorem E6 {w w':World}{ls ls':List (List Nat)}{Mo J:List Nat}{g j q r u A D E F G H I:Prop}{c0 O U X Y Z:Bool}(x:Cx w w' ls ls' Mo J)(a0:g)(a1:j)(a2:q)(a3:r)(a4:u)(a5:A) [k0:Sp w w' ls ls' Mo J g D c0] [k1:Sp w w' ls ls' Mo J j E O] [k2:Sp w w' ls ls' Mo J q F U] [k3:Sp w w' ls ls' Mo J r G X] [k4:Sp w w' ls ls' Mo J u H Y] [k5:Sp w w' ls ls' Mo J A I Z] (h:(c0&&(O&&(U&&(X&&(Y&&Z)))))=true:=by rfl):D∧E∧F∧G∧H∧I:=⟨k0.go (Wd h) x a0,E5 x a1 a2 a3 a4 a5 (h:=We h)⟩
theorem E7 {w w':World}{ls ls':List (List Nat)}{Mo J:List Nat}{g j q r u A D E F G H I O U:Prop}{c0 X Y Z c4 c5 c6:Bool}(x:Cx w w' ls ls' Mo J)(a0:g)(a1:j)(a2:q)(a3:r)(a4:u)(a5:A)(a6:D) [k0:Sp w w' ls ls' Mo J g E c0] [k1:Sp w w' ls ls' Mo J j F X] [k2:Sp w w' ls ls' Mo J q G Y] [k3:Sp w w' ls ls' Mo J r H Z] [k4:Sp w w' ls ls' Mo J u I c4] [k5:Sp w w' ls ls' Mo J A O c5] [k6:Sp w w' ls ls' Mo J D U c6] (h:(c0&&(X&&(Y&&(Z&&(c4&&(c5&&c6))))))=true:=by rfl):E∧F∧G∧H∧I∧O∧U:=⟨k0.go (Wd h) x a0,E6 x a1 a2 a3 a4 a5 a6 (h:=We h)⟩
theorem E8 {w w':World}{ls ls':List (List Nat)}{Mo J:List Nat}{g j q r u A D E F G H I O U X Y:Prop}{c0 Z c2 c3 c4 c5 c6 c7:Bool}(x:Cx w w' ls ls' Mo J)(a0:g)(a1:j)(a2:q)(a3:r)(a4:u)(a5:A)(a6:D)(a7:E) [k0:Sp w w' ls ls' Mo J g F c0] [k1:Sp w w' ls ls' Mo J j G Z] [k2:Sp w w' ls ls' Mo J q H c2] [k3:Sp w w' ls ls' Mo J r I c3] [k4:Sp w w' ls ls' Mo J u O c4] [k5:Sp w w' ls ls' Mo J A U c5] [k6:Sp w w' ls ls' Mo J D X c6] [k7:Sp w w' ls ls' Mo J E Y c7] (h:(c0&&(Z&&(c2&&(c3&&(c4&&(c5&&(c6&&c7)))))))=true:=by rfl):F∧G∧H∧I∧O∧U∧X∧Y:=⟨k0.go (Wd h) x a0,E7 x a1 a2 a3 a4 a5 a6 a7 (h:=We h)⟩
theorem E9 {w w':World}{ls ls':List (List Nat)}{Mo J:List Nat}{g j q r u A D E F G H I O U X Y Z B8:Prop}{c0 c1 c2 c3 c4 c5 c6 c7 c8:Bool}(x:Cx w w' ls ls' Mo J)(a0:g)(a1:j)(a2:q)(a3:r)(a4:u)(a5:A)(a6:D)(a7:E)(a8:F) [k0:Sp w w' ls ls' Mo J g G c0] [k1:Sp w w' ls ls' Mo J j H c1] [k2:Sp w w' ls ls' Mo J q I c2] [k3:Sp w w' ls ls' Mo J r O c3] [k4:Sp w w' ls ls' Mo J u U c4] [k5:Sp w w' ls ls' Mo J A X c5] [k6:Sp w w' ls ls' Mo J D Y c6] [k7:Sp w w' ls ls' Mo J E Z c7] [k8:Sp w w' ls ls' Mo J F B8 c8] (h:(c0&&(c1&&(c2&&(c3&&(c4&&(c5&&(c6&&(c7&&c8))))))))=true:=by rfl):G∧H∧I∧O∧U∧X∧Y∧Z∧B8:=⟨k0.go (Wd h) x a0,E8 x a1 a2 a3 a4 a5 a6 a7 a8 (h:=We h)⟩
theorem TX {w w':World}{ls ls':List (List Nat)}{Mo J:List Nat}{g j q r u A D E F G H I O U X Y Z B7 B8 B9:Prop}{c0 c1 c2 c3 c4 c5 c6 c7 c8 c9:Bool}(x:Cx w w' ls ls' Mo J)(a0:g)(a1:j)(a2:q)(a3:r)(a4:u)(a5:A)(a6:D)(a7:E)(a8:F)(a9:G) [k0:Sp w w' ls ls' Mo J g H c0] [k1:Sp w w' ls ls' Mo J j I c1] [k2:Sp w w' ls ls' Mo J q O c2] [k3:Sp w w' ls ls' Mo J r U c3] [k4:Sp w w' ls ls' Mo J u X c4] [k5:Sp w w' ls ls' Mo J A Y c5] [k6:Sp w w' ls ls' Mo J D Z c6] [k7:Sp w w' ls ls' Mo J E B7 c7] [k8:Sp w w' ls ls' Mo J F B8 c8] [k9:Sp w w' ls ls' Mo J G B9 c9] (h:(c0&&(c1&&(c2&&(c3&&(c4&&(c5&&(c6&&(c7&&(c8&&c9)))))))))=true:=by rfl):H∧I∧O∧U∧X∧Y∧Z∧B7∧B8∧B9:=⟨k0.go (Wd h) x a0,E9 x a1 a2 a3 a4 a5 a6 a7 a8 a9 (h:=We h)⟩
theorem E11 {w w':World}{ls ls':List (List Nat)}{Mo J:List Nat}{g j r u A D E F G H q I O X Y Z B5 B6 B7 B8 B9 U:Prop}{c0 c1 c2 c3 c4 c5 c6 c7 c8 c9 ag:Bool}(x:Cx w w' ls ls' Mo J)(a0:g)(a1:j)(a2:r)(a3:u)(a4:A)(a5:D)(a6:E)(a7:F)(a8:G)(a9:H)(au:q) [k0:Sp w w' ls ls' Mo J g I c0] [k1:Sp w w' ls ls' Mo J j O c1] [k2:Sp w w' ls ls' Mo J r X c2] [k3:Sp w w' ls ls' Mo J u Y c3] [k4:Sp w w' ls ls' Mo J A Z c4] [k5:Sp w w' ls ls' Mo J D B5 c5] [k6:Sp w w' ls ls' Mo J E B6 c6] [k7:Sp w w' ls ls' Mo J F B7 c7] [k8:Sp w w' ls ls' Mo J G B8 c8] [k9:Sp w w' ls ls' Mo J H B9 c9] [k10:Sp w w' ls ls' Mo J q U ag] (h:(c0&&(c1&&(c2&&(c3&&(c4&&(c5&&(c6&&(c7&&(c8&&(c9&&ag))))))))))=true:=by rfl):I∧O∧X∧Y∧Z∧B5∧B6∧B7∧B8∧B9∧U:=⟨k0.go (Wd h) x a0,TX x a1 a2 a3 a4 a5 a6 a7 a8 a9 au (h:=We h)⟩
theorem E12 {w w':World}{ls ls':List (List Nat)}{Mo J:List Nat}{g j u A D E F G H I q r O U Z B3 B4 B5 B6 B7 B8 B9 X Y:Prop}{c0 c1 c2 c3 c4 c5 c6 c7 c8 c9 ai aj:Bool}(x:Cx w w' ls ls' Mo J)(a0:g)(a1:j)(a2:u)(a3:A)(a4:D)(a5:E)(a6:F)(a7:G)(a8:H)(a9:I)(ax:q)(ay:r) [k0:Sp w w' ls ls' Mo J g O c0] [k1:Sp w w' ls ls' Mo J j U c1] [k2:Sp w w' ls ls' Mo J u Z c2] [k3:Sp w w' ls ls' Mo J A B3 c3] [k4:Sp w w' ls ls' Mo J D B4 c4] [k5:Sp w w' ls ls' Mo J E B5 c5] [k6:Sp w w' ls ls' Mo J F B6 c6] [k7:Sp w w' ls ls' Mo J G B7 c7] [k8:Sp w w' ls ls' Mo J H B8 c8] [k9:Sp w w' ls ls' Mo J I B9 c9] [k10:Sp w w' ls ls' Mo J q X ai] [k11:Sp w w' ls ls' Mo J r Y aj] (h:(c0&&(c1&&(c2&&(c3&&(c4&&(c5&&(c6&&(c7&&(c8&&(c9&&(ai&&aj)))))))))))=true:=by rfl):O∧U∧Z∧B3∧B4∧B5∧B6∧B7∧B8∧B9∧X∧Y:=⟨k0.go (Wd h) x a0,E11 x a1 a2 a3 a4 a5 a6 a7 a8 a9 ax ay (h:=We h)⟩
theorem E13 {w w':World}{ls ls':List (List Nat)}{Mo J:List Nat}{g j A D E F G H I O q r u U X B2 B3 B4 B5 B6 B7 B8 B9 Y Z aa:Prop}{c0 c1 c2 c3 c4 c5 c6 c7 c8 c9 ak am an:Bool}(x:Cx w w' ls ls' Mo J)(a0:g)(a1:j)(a2:A)(a3:D)(a4:E)(a5:F)(a6:G)(a7:H)(a8:I)(a9:O)(aA:q)(aB:r)(aC:u) [k0:Sp w w' ls ls' Mo J g U c0] [k1:Sp w w' ls ls' Mo J j X c1] [k2:Sp w w' ls ls' Mo J A B2 c2] [k3:Sp w w' ls ls' Mo J D B3 c3] [k4:Sp w w' ls ls' Mo J E B4 c4] [k5:Sp w w' ls ls' Mo J F B5 c5] [k6:Sp w w' ls ls' Mo J G B6 c6] [k7:Sp w w' ls ls' Mo J H B7 c7] [k8:Sp w w' ls ls' Mo J I B8 c8] [k9:Sp w w' ls ls' Mo J O B9 c9] [k10:Sp w w' ls ls' Mo J q Y ak] [k11:Sp w w' ls ls' Mo J r Z am] [k12:Sp w w' ls ls' Mo J u aa an] (h:(c0&&(c1&&(c2&&(c3&&(c4&&(c5&&(c6&&(c7&&(c8&&(c9&&(ak&&(am&&an))))))))))))=true:=by rfl):U∧X∧B2∧B3∧B4∧B5∧B6∧B7∧B8∧B9∧Y∧Z∧aa:=⟨k0.go (Wd h) x a0,E12 x a1 a2 a3 a4 a5 a6 a7 a8 a9 aA aB aC (h:=We h)⟩
theorem E14 {w w':World}{ls ls':List (List Nat)}{Mo J:List Nat}{g j D E F G H I O U q r u A X Y B2 B3 B4 B5 B6 B7 B8 B9 Z aa ab ac:Prop}{c0 c1 c2 c3 c4 c5 c6 c7 c8 c9 an ao ap aq:Bool}(x:Cx w w' ls ls' Mo J)(a0:g)(a1:j)(a2:D)(a3:E)(a4:F)(a5:G)(a6:H)(a7:I)(a8:O)(a9:U)(aD:q)(aE:r)(aF:u)(aG:A) [k0:Sp w w' ls ls' Mo J g X c0] [k1:Sp w w' ls ls' Mo J j Y c1] [k2:Sp w w' ls ls' Mo J D B2 c2] [k3:Sp w w' ls ls' Mo J E B3 c3] [k4:Sp w w' ls ls' Mo J F B4 c4] [k5:Sp w w' ls ls' Mo J G B5 c5] [k6:Sp w w' ls ls' Mo J H B6 c6] [k7:Sp w w' ls ls' Mo J I B7 c7] [k8:Sp w w' ls ls' Mo J O B8 c8] [k9:Sp w w' ls ls' Mo J U B9 c9] [k10:Sp w w' ls ls' Mo J q Z an] [k11:Sp w w' ls ls' Mo J r aa ao] [k12:Sp w w' ls ls' Mo J u ab ap] [k13:Sp w w' ls ls' Mo J A ac aq] (h:(c0&&(c1&&(c2&&(c3&&(c4&&(c5&&(c6&&(c7&&(c8&&(c9&&(an&&(ao&&(ap&&aq)))))))))))))=true:=by rfl):X∧Y∧B2∧B3∧B4∧B5∧B6∧B7∧B8∧B9∧Z∧aa∧ab∧ac:=⟨k0.go (Wd h) x a0,E13 x a1 a2 a3 a4 a5 a6 a7 a8 a9 aD aE aF aG (h:=We h)⟩
theorem E15 {w w':World}{ls ls':List (List Nat)}{Mo J:List Nat}{g j E F G H I O U X q r u A D Y Z B2 B3 B4 B5 B6 B7 B8 B9 aa ab ac ad ae:Prop}{c0 c1 c2 c3 c4 c5 c6 c7 c8 c9 ap aq ar au av:Bool}(x:Cx w w' ls ls' Mo J)(a0:g)(a1:j)(a2:E)(a3:F)(a4:G)(a5:H)(a6:I)(a7:O)(a8:U)(a9:X)(aG:q)(aH:r)(aI:u)(aJ:A)(aK:D) [k0:Sp w w' ls ls' Mo J g Y c0] [k1:Sp w w' ls ls' Mo J j Z c1] [k2:Sp w w' ls ls' Mo J E B2 c2] [k3:Sp w w' ls ls' Mo J F B3 c3] [k4:Sp w w' ls ls' Mo J G B4 c4] [k5:Sp w w' ls ls' Mo J H B5 c5] [k6:Sp w w' ls ls' Mo J I B6 c6] [k7:Sp w w' ls ls' Mo J O B7 c7] [k8:Sp w w' ls ls' Mo J U B8 c8] [k9:Sp w w' ls ls' Mo J X B9 c9] [k10:Sp w w' ls ls' Mo J q aa ap] [k11:Sp w w' ls ls' Mo J r ab aq] [k12:Sp w w' ls ls' Mo J u ac ar] [k13:Sp w w' ls ls' Mo J A ad au] [k14:Sp w w' ls ls' Mo J D ae av] (h:(c0&&(c1&&(c2&&(c3&&(c4&&(c5&&(c6&&(c7&&(c8&&(c9&&(ap&&(aq&&(ar&&(au&&av))))))))))))))=true:=by rfl):Y∧Z∧B2∧B3∧B4∧B5∧B6∧B7∧B8∧B9∧aa∧ab∧ac∧ad∧ae:=⟨k0.go (Wd h) x a0,E14 x a1 a2 a3 a4 a5 a6 a7 a8 a9 aG aH aI aJ aK (h:=We h)⟩
theorem E16 {w w':World}{ls ls':List (List Nat)}{Mo J:List Nat}{g j F G H I O U X Y q r u A D E Z B1 B2 B3 B4 B5 B6 B7 B8 B9 ab ac ad ae af ag:Prop}{c0 c1 c2 c3 c4 c5 c6 c7 c8 c9 ar au av aw ax ay:Bool}(x:Cx w w' ls ls' Mo J)(a0:g)(a1:j)(a2:F)(a3:G)(a4:H)(a5:I)(a6:O)(a7:U)(a8:X)(a9:Y)(aJ:q)(aK:r)(aL:u)(aN:A)(aO:D)(aQ:E) [k0:Sp w w' ls ls' Mo J g Z c0] [k1:Sp w w' ls ls' Mo J j B1 c1] [k2:Sp w w' ls ls' Mo J F B2 c2] [k3:Sp w w' ls ls' Mo J G B3 c3] [k4:Sp w w' ls ls' Mo J H B4 c4] [k5:Sp w w' ls ls' Mo J I B5 c5] [k6:Sp w w' ls ls' Mo J O B6 c6] [k7:Sp w w' ls ls' Mo J U B7 c7] [k8:Sp w w' ls ls' Mo J X B8 c8] [k9:Sp w w' ls ls' Mo J Y B9 c9] [k10:Sp w w' ls ls' Mo J q ab ar] [k11:Sp w w' ls ls' Mo J r ac au] [k12:Sp w w' ls ls' Mo J u ad av] [k13:Sp w w' ls ls' Mo J A ae aw] [k14:Sp w w' ls ls' Mo J D af ax] [k15:Sp w w' ls ls' Mo J E ag ay] (h:(c0&&(c1&&(c2&&(c3&&(c4&&(c5&&(c6&&(c7&&(c8&&(c9&&(ar&&(au&&(av&&(aw&&(ax&&ay)))))))))))))))=true:=by rfl):Z∧B1∧B2∧B3∧B4∧B5∧B6∧B7∧B8∧B9∧ab∧ac∧ad∧ae∧af∧ag:=⟨k0.go (Wd h) x a0,E15 x a1 a2 a3 a4 a5 a6 a7 a8 a9 aJ aK aL aN aO aQ (h:=We h)⟩
theorem E17 {w w':World}{ls ls':List (List Nat)}{Mo J:List Nat}{g j G H I O U X Y Z q r u A D E F B0 B1 B2 B3 B4 B5 B6 B7 B8 B9 ac ad ae af ag ah ai:Prop}{c0 c1 c2 c3 c4 c5 c6 c7 c8 c9 av aw ax ay az aA aB:Bool}(x:Cx w w' ls ls' Mo J)(a0:g)(a1:j)(a2:G)(a3:H)(a4:I)(a5:O)(a6:U)(a7:X)(a8:Y)(a9:Z)(aN:q)(aO:r)(aQ:u)(aS:A)(aU:D)(aX:E)(aY:F) [k0:Sp w w' ls ls' Mo J g B0 c0] [k1:Sp w w' ls ls' Mo J j B1 c1] [k2:Sp w w' ls ls' Mo J G B2 c2] [k3:Sp w w' ls ls' Mo J H B3 c3] [k4:Sp w w' ls ls' Mo J I B4 c4] [k5:Sp w w' ls ls' Mo J O B5 c5] [k6:Sp w w' ls ls' Mo J U B6 c6] [k7:Sp w w' ls ls' Mo J X B7 c7] [k8:Sp w w' ls ls' Mo J Y B8 c8] [k9:Sp w w' ls ls' Mo J Z B9 c9] [k10:Sp w w' ls ls' Mo J q ac av] [k11:Sp w w' ls ls' Mo J r ad aw] [k12:Sp w w' ls ls' Mo J u ae ax] [k13:Sp w w' ls ls' Mo J A af ay] [k14:Sp w w' ls ls' Mo J D ag az] [k15:Sp w w' ls ls' Mo J E ah aA] [k16:Sp w w' ls ls' Mo J F ai aB] (h:(c0&&(c1&&(c2&&(c3&&(c4&&(c5&&(c6&&(c7&&(c8&&(c9&&(av&&(aw&&(ax&&(ay&&(az&&(aA&&aB))))))))))))))))=true:=by rfl):B0∧B1∧B2∧B3∧B4∧B5∧B6∧B7∧B8∧B9∧ac∧ad∧ae∧af∧ag∧ah∧ai:=⟨k0.go (Wd h) x a0,E16 x a1 a2 a3 a4 a5 a6 a7 a8 a9 aN aO aQ aS aU aX aY (h:=We h)⟩
theorem E18 {w w':World}{ls ls':List (List Nat)}{Mo J:List Nat}{g j H I O U X Y Z A9 q r u A D E F G B0 B1 B2 B3 B4 B5 B6 B7 B8 B9 ad ae af ag ah ai aj ak:Prop}{c0 c1 c2 c3 c4 c5 c6 c7 c8 c9 ax ay az aA aB aC aD aE:Bool}(x:Cx w w' ls ls' Mo J)(a0:g)(a1:j)(a2:H)(a3:I)(a4:O)(a5:U)(a6:X)(a7:Y)(a8:Z)(a9:A9)(aS:q)(aU:r)(aX:u)(aY:A)(aZ:D)(ba:E)(bb:F)(bc:G) [k0:Sp w w' ls ls' Mo J g B0 c0] [k1:Sp w w' ls ls' Mo J j B1 c1] [k2:Sp w w' ls ls' Mo J H B2 c2] [k3:Sp w w' ls ls' Mo J I B3 c3] [k4:Sp w w' ls ls' Mo J O B4 c4] [k5:Sp w w' ls ls' Mo J U B5 c5] [k6:Sp w w' ls ls' Mo J X B6 c6] [k7:Sp w w' ls ls' Mo J Y B7 c7] [k8:Sp w w' ls ls' Mo J Z B8 c8] [k9:Sp w w' ls ls' Mo J A9 B9 c9] [k10:Sp w w' ls ls' Mo J q ad ax] [k11:Sp w w' ls ls' Mo J r ae ay] [k12:Sp w w' ls ls' Mo J u af az] [k13:Sp w w' ls ls' Mo J A ag aA] [k14:Sp w w' ls ls' Mo J D ah aB] [k15:Sp w w' ls ls' Mo J E ai aC] [k16:Sp w w' ls ls' Mo J F aj aD] [k17:Sp w w' ls ls' Mo J G ak aE] (h:(c0&&(c1&&(c2&&(c3&&(c4&&(c5&&(c6&&(c7&&(c8&&(c9&&(ax&&(ay&&(az&&(aA&&(aB&&(aC&&(aD&&aE)))))))))))))))))=true:=by rfl):B0∧B1∧B2∧B3∧B4∧B5∧B6∧B7∧B8∧B9∧ad∧ae∧af∧ag∧ah∧ai∧aj∧ak:=⟨k0.go (Wd h) x a0,E17 x a1 a2 a3 a4 a5 a6 a7 a8 a9 aS aU aX aY aZ ba bb bc (h:=We h)⟩
theorem Ev.th {M A:List Nat}{w v u:World}{ls:List (List Nat)}(h:Ev M w v)(k:Ev A v u)(f:FR w.heap.size ls)(i:Nat)(j:ls[i]? = some A:=by rfl):Ev M w u:=h.then k (fun b g=>.inr (f.at i j b g))
theorem Ev.tv {M A:List Nat}{w v u:World}(h:Ev M w v)(k:Ev A v u)(j:∀ b∈A,b∈M:=by intro b g; simpa using g):Ev M w u:=h.then k (fun b g=>.inl (j b g))
theorem FR.cc {w:World}{M:List Nat}{w0:World}{res fs N:List (List Nat)}(g:FR w0.heap.size fs)(hs:Ev M w0 w)(h1:FR w.heap.size res) [k:App res fs N]:FR w0.heap.size N:=by
  have k:=k.pr;subst k;exact g.join h1 hs.size
theorem FR.ux {w0 w w':World}{M A B:List Nat}{ls r:List (List Nat)}(h:FR w0.heap.size ls)(j:Nat)(hs:Ev M w0 w)(u:∀ b∈B,(b∈A∨w.heap.size≤b)∧b<w'.heap.size) [k:Sat ls j B r] (q:ls[j]? = some A:=by rfl):FR w0.heap.size r:=by
  have k:=k.pr;subst k;exact h.upd j q hs.size (fun b g=>(u b g).1)
theorem FR.px {C:Nat}{ls r:List (List Nat)}(h:FR C ls)(l:List Nat) [k:Pks ls l r]:FR C r:=h.pk l r k.pr
theorem FR.pn {C:Nat}{ls:List (List Nat)}(h:FR C ls):FR C (ML none::ls):=h.push (fun _ h=>by cases h)
theorem M9.pl {α:Type}{e:MN α} [k:Pln e] {T:Nat}{w:World}{M:List Nat}{ls:List (List Nat)}{a:Option Addr}{c:Nat}{xs:List α}(h:M9 e T w M a c xs)(m:MS w ls):M9 e T w (fl ls) a c xs:=M9.plain k.pl h
theorem MS.one (w:World):MS w [[]]:=⟨List.pairwise_singleton _ _,fun l g b j=>by simp only [List.mem_singleton] at g; subst g; cases j⟩
theorem Ol {α:Type}{e:MN α} [k:Pln e] {b:Nat}{cs:Array Value}{T:TypeId}{w w':World}(E:b=w.heap.size)(D:w'.heap[b]? = some (.cells cs T (0,0)))(n:Nat)(xs:List α)
    (h:cs.toList=xs.flatMap k.cf:=by rfl) (u:(Nat.ble n 4294967296,xs.length)=(true,n):=by rfl):∃ a:Option Addr,a=some ⟨b,0,none⟩∧(∀ M,M9 e T w' M a n xs)∧∀ x∈ML a,w.heap.size≤x∧x<w'.heap.size:=by
  have q:∀ y:α,(k.cf y).length=e.n:=fun y=>e.len (k.ok w [] y)
  have g:=congrArg Prod.snd u;have r:=Nat.le_of_ble_eq_true (congrArg Prod.fst u);clear u;simp only at g r;refine ⟨_,rfl,fun M=>M2O D (by unfold maxLen; omega) g ?_ (fun i x g=>⟨k.cf x,k.ok _ _ _,fun j v hv=>?_⟩),fun x g=>?_⟩
  · rw [← Array.length_toList,h,← g];clear h r g
    induction xs with
    | nil=>simp
    | cons y ys A=>rw [List.flatMap_cons,List.length_append,q,A,List.length_cons,Nat.succ_mul]; omega
  · rw [← Array.getElem?_toList,h];clear h r
    rename_i F
    clear F
    induction xs generalizing i with
    | nil=>cases g
    | cons y ys A=>
      rw [List.flatMap_cons];cases i with
      | zero=>
        simp only [List.getElem?_cons_zero,Option.some.injEq] at g;subst g;rw [Nat.zero_mul,Nat.zero_add,List.getElem?_append_left (List.getElem?_eq_some_iff.1 hv).1];exact hv
      | succ i=>
        rw [List.getElem?_append_right (by rw [q,Nat.succ_mul]; omega),q,show (i+1)*e.n+j-e.n=i*e.n+j by rw [Nat.succ_mul]; omega];exact A i (by simpa using g)
  · simp only [ML,List.mem_singleton] at g;subst g;exact ⟨Nat.le_of_eq E.symm,MA D⟩
def El (P:Program) (t:Nat) {α:Type} (e:MN α) (w:World) (a:Option Addr) (c:Nat) (xs:List α):Prop:=
  ∀ {i:Int} {x:α},idx xs i=some x→∃ ad cs M M',ME P [] (Instr.indexAt t (.slice a xs.length c) (.int .i64 i)) w (.pointer (some ad))∧Ms w M ad cs∧e.R w M' cs x
theorem Ma.el {P:Program}{t T:Nat}{α:Type}{e:MN α}{w:World}{M:List Nat}{a:Option Addr}{c:Nat}{xs:List α}(h:Ma e w M a c xs)(q:MJ P t T e.n):El P t e w a c xs:=fun {i x} r=>
  have ⟨ad,cs,h1,g,j⟩:=M1Z q h r
  ⟨ad,cs,M,M,h1,g,j⟩
theorem M9.el {P:Program}{t T:Nat}{α:Type}{e:MN α}{w:World}{M:List Nat}{a:Option Addr}{c:Nat}{xs:List α}(h:M9 e T w M a c xs)(r:MJ P t T e.n):El P t e w a c xs:=fun {i x} u=>
  have ⟨g,cs,_,h1,j,q⟩:=ZG r h u
  ⟨_,cs,[],M,h1,j,q⟩
section
variable {P : Program} {all : List Oper} {M : List Nat} {Q : Fr → World → Prop} {dst d2 d3 : Option Tmp} {ty ty2 ty3 : TypeId} {pos pos2 pos3 : String} {after after2 after3 : Array Edge} {guard g2 g3 : Option (Nat × Bool)} {al al2 al3 : Bool} {l l' : List (Oper × Bool)} {fr : Fr} {w : World} {t t2 t3 : TypeId} {x y x2 x3 : Operand}
  {α:Type} {e:MN α} [k:Pln e] {a:Option Addr} {c:Nat} {xs:List α} {i:Int} {X:α}
theorem Xz {args:Array Operand}{j n m:Nat}(g:MJ P t j n)(h1:(l',Mn all ⟨dst,.call ⟨.builtin .len,args,#[t]⟩,ty,pos,after,guard⟩ fr,args.toList.map (ev fr))=((⟨dst,.call ⟨.builtin .len,args,#[t]⟩,ty,pos,after,guard⟩,al)::l,some true,[.slice a m c]))
    (h:P9 P all M Q l (MI fr dst (.int .i64 m)) w):P9 P all M Q l' fr w:=MaG (.int .i64 m) (congrArg Prod.fst h1) (congrArg (fun p=>p.2.1) h1) (congrArg (fun p=>p.2.2) h1) (M7N g _ _ _ _ _) h
theorem Xq {f off:Nat}{v:Value}(hs:El P t e w a c xs)(u:Mg P t2 f off)(j:MT P t3)(D:idx xs i=some X)(hv:(k.cf X)[off]? = some v)
    (h1:∀ ad:Addr,(l',Mn all ⟨dst,.indexAddr t x y,ty,pos,after,guard⟩ fr,ev fr x,ev fr y,Mn all ⟨d2,.fieldAddr t2 x2 f,ty2,pos2,after2,g2⟩ (MI fr dst (.pointer (some ad))),ev (MI fr dst (.pointer (some ad))) x2,
        Mn all ⟨d3,.load t3 x3,ty3,pos3,after3,g3⟩ (MI (MI fr dst (.pointer (some ad))) d2 (.pointer (some (ad.add off)))),ev (MI (MI fr dst (.pointer (some ad))) d2 (.pointer (some (ad.add off)))) x3,qm al M,qm al3 M)
      =((⟨dst,.indexAddr t x y,ty,pos,after,guard⟩,al)::(⟨d2,.fieldAddr t2 x2 f,ty2,pos2,after2,g2⟩,al2)::(⟨d3,.load t3 x3,ty3,pos3,after3,g3⟩,al3)::l,some true,.slice a xs.length c,.int .i64 i,some true,.pointer (some ad),some true,.pointer (some (ad.add off)),[],[]))
    (h:∀ ad:Addr,P9 P all M Q l (MI (MI (MI fr dst (.pointer (some ad))) d2 (.pointer (some (ad.add off)))) d3 v) w):P9 P all M Q l' fr w:=by
  obtain ⟨ad,cs,M1,M2,A,r,g⟩:=hs D;have h1:=h1 ad;simp only [Prod.mk.injEq] at h1;obtain ⟨E,G,H,I,O,U,Y,Z,q9,F⟩:=h1;have q:=k.un g;subst q;exact Xr _ E G H I (by rw [q9]; exact A) (M1X _ rfl O U (M21 u ad) (M4m _ rfl Y Z (by rw [F]; exact Mw j r (fun _ h=>by cases h) off v hv) (h ad)))
theorem Z6 {v:Value}(hs:El P t e w a c xs)(q:MT P t3)(D:idx xs i=some X)(hv:(k.cf X)[0]? = some v)
    (h1:∀ ad:Addr,(l',Mn all ⟨dst,.indexAddr t x y,ty,pos,after,guard⟩ fr,ev fr x,ev fr y,Mn all ⟨d3,.load t3 x3,ty3,pos3,after3,g3⟩ (MI fr dst (.pointer (some ad))),ev (MI fr dst (.pointer (some ad))) x3,qm al M,qm al3 M)
      =((⟨dst,.indexAddr t x y,ty,pos,after,guard⟩,al)::(⟨d3,.load t3 x3,ty3,pos3,after3,g3⟩,al3)::l,some true,.slice a xs.length c,.int .i64 i,some true,.pointer (some ad),[],[]))
    (h:∀ ad:Addr,P9 P all M Q l (MI (MI fr dst (.pointer (some ad))) d3 v) w):P9 P all M Q l' fr w:=by
  obtain ⟨ad,cs,Z,M2,A,u,j⟩:=hs D;have h1:=h1 ad;simp only [Prod.mk.injEq] at h1;obtain ⟨E,F,G,H,I,O,U,Y⟩:=h1;have r:=k.un j;subst r;have g:=Mw q u (Mo:=[]) (fun _ h=>by cases h) 0 v hv;rw [Addr.add,if_pos rfl] at g;exact Xr _ E F G H (by rw [U]; exact A) (M4m _ rfl I O (by rw [Y]; exact g) (h ad))
theorem Zf (vs:List Value)(hs:El P t e w a c xs)(j:TC P t3 vs.length)(A:idx xs i=some X)(hv:k.cf X=vs)
    (h1:∀ ad:Addr,(l',Mn all ⟨dst,.indexAddr t x y,ty,pos,after,guard⟩ fr,ev fr x,ev fr y,Mn all ⟨d3,.load t3 x3,ty3,pos3,after3,g3⟩ (MI fr dst (.pointer (some ad))),ev (MI fr dst (.pointer (some ad))) x3,qm al M,qm al3 M)
      =((⟨dst,.indexAddr t x y,ty,pos,after,guard⟩,al)::(⟨d3,.load t3 x3,ty3,pos3,after3,g3⟩,al3)::l,some true,.slice a xs.length c,.int .i64 i,some true,.pointer (some ad),[],[]))
    (h:∀ ad:Addr,P9 P all M Q l (MI (MI fr dst (.pointer (some ad))) d3 (.agg vs.toArray)) w):P9 P all M Q l' fr w:=by
  subst hv;obtain ⟨ad,cs,Y,M2,u,r,g⟩:=hs A;have h1:=h1 ad;simp only [Prod.mk.injEq] at h1;obtain ⟨D,E,F,G,H,I,O,U⟩:=h1;have q:=k.un g;subst q;exact Xr _ D E F G (by rw [O]; exact u) (M4m _ rfl H I (by rw [U]; exact R8 j r (fun _ h=>by cases h)) (h ad))
end
theorem Rz {P:Program}{d:Nat}{R:Value→World→Prop}{fr:Fr}{w:World}(v:Value)(hv:fr d=v)(h:R v w):M6c P [.tmp d] R .ret fr w:=MaI (M8y [v] ⟨hv,trivial⟩ h)
section
variable {P : Program} {all : List Oper} {M : List Nat} {Q : Fr → World → Prop} {dst : Option Tmp} {ty : TypeId} {pos : String} {after : Array Edge} {guard : Option (Nat × Bool)} {l l' : List (Oper × Bool)} {fr : Fr} {w w' : World} {t : TypeId}
theorem Xv {j:Operand}{args:Array Operand}{ats:Array TypeId}{g:FuncId}{vs:List Value}{K:Value→World→Prop}(q:Md P g vs w K)
    (h1:(l',Mn all ⟨dst,.call ⟨.value j,args,ats⟩,ty,pos,after,guard⟩ fr,ev fr j,args.toList.map (ev fr))=((⟨dst,.call ⟨.value j,args,ats⟩,ty,pos,after,guard⟩,true)::l,some true,.func (.func g) #[] #[],vs))
    (h:∀ v w',K v w'→P9 P all M Q l (MI fr dst v) w'):P9 P all M Q l' fr w:=
  M6f g #[] #[] vs K (congrArg Prod.fst h1) (congrArg (fun p=>p.2.1) h1) (congrArg (fun p=>p.2.2.1) h1) (by have:=congrArg (fun p=>p.2.2.2) h1; simpa using this) q (fun v w' r=>M6h (h v w' r))
theorem Rn {s:Sem Value}{v:Value}(h:s.run P w=.ok v w'):((do pure (.value (← s)):Sem Next)).run P w=.ok (.value v) w':=MG s v w w' h
theorem Xx {b:Builtin}{args:Array Operand}{ats:Array TypeId}{vs:List Value}{v:Value}
    (h1:(l',Mn all ⟨dst,.call ⟨.builtin b,args,ats⟩,ty,pos,after,guard⟩ fr,Pr (.call ⟨.builtin b,args,ats⟩),args.toList.map (ev fr))=((⟨dst,.call ⟨.builtin b,args,ats⟩,ty,pos,after,guard⟩,true)::l,some true,false,vs))
    (g:(builtin b ats ty (args.map fun | .const _=>true | _=>false) vs.toArray).run P w=.ok (.value v) w') (h:P9 P all M Q l (MI fr dst v) w'):P9 P all M Q l' fr w:=
  Ta v w' (congrArg Prod.fst h1) (congrArg (fun p=>p.2.1) h1) (congrArg (fun p=>p.2.2.1) h1) (congrArg (fun p=>p.2.2.2) h1) g (M6h h)
theorem Xh {n:Nat}{g:Array (Nat×Operand)}{vs:List (Nat×Value)}(cs:Array Value)(e:TypeId)
    (h1:(l',Mn all ⟨dst,.buildSlice t n g,ty,pos,after,guard⟩ fr,(g.toList.map fun (i,x)=>(i,ev fr x)))=((⟨dst,.buildSlice t n g,ty,pos,after,guard⟩,true)::l,some true,vs))
    (h:∀ b w',b=w.heap.size→w'.heap[b]? = some (.cells cs e (0,0))→Ev [] w w'→P9 P all M Q l (MI fr dst (.slice (some ⟨b,0,none⟩) n n)) w')
    (j:(Instr.buildSlice t n vs.toArray).run P w=.ok (.slice (some ⟨w.heap.size,0,none⟩) n n) (w.alloc (.cells cs e (0,0))):=by kernel_rfl):P9 P all M Q l' fr w:=
  M0L cs e (congrArg Prod.fst h1) (congrArg (fun p=>p.2.1) h1) (congrArg (fun p=>p.2.2) h1) j (fun b w' a c d _=>M6h (h b w' a c d))
theorem Xj (cs:Array Value)(h1:(l',Mn all ⟨dst,.alloc t,ty,pos,after,guard⟩ fr)=((⟨dst,.alloc t,ty,pos,after,guard⟩,true)::l,some true))
    (h:∀ b w',b=w.heap.size→w'.heap[b]? = some (.cells cs t (0,0))→Ev [] w w'→P9 P all M Q l (MI fr dst (.pointer (some ⟨b,0,none⟩))) w') (g:(zeroValue t).run P w=.ok (.agg cs) w:=by kernel_rfl):P9 P all M Q l' fr w:=
  M7c (congrArg Prod.fst h1) (congrArg Prod.snd h1) g (fun b w' a c d _=>M6h (h b w' a c d))
theorem Xo {x:Operand}{cs:Array Value}(h1:(l',Mn all ⟨dst,.box t x,ty,pos,after,guard⟩ fr,ev fr x)=((⟨dst,.box t x,ty,pos,after,guard⟩,true)::l,some true,.agg cs))
    (h:∀ b w',b=w.heap.size→w'.heap[b]? = some (.cells cs t (0,0))→Ev [] w w'→P9 P all M Q l (MI fr dst (.pointer (some ⟨b,0,none⟩))) w'):P9 P all M Q l' fr w:=
  Mbz (xv:=.agg cs) (congrArg Prod.fst h1) (congrArg (fun p=>p.2.1) h1) (congrArg (fun p=>p.2.2) h1) (fun b w' a c d _=>M6h (h b w' a c d))
theorem Xp {x y:Operand}{xv yv:Value}(g:(Instr.storeAt t xv yv).run P w=.ok () w')(h1:(l',Mn all ⟨dst,.store t x y,ty,pos,after,guard⟩ fr,ev fr x,ev fr y)=((⟨dst,.store t x y,ty,pos,after,guard⟩,true)::l,some true,xv,yv))
    (h:P9 P all M Q l (MI fr dst undef) w'):P9 P all M Q l' fr w:=M9K w' (congrArg Prod.fst h1) (congrArg (fun p=>p.2.1) h1) (congrArg (fun p=>p.2.2.1) h1) (congrArg (fun p=>p.2.2.2) h1) g (M6h h)
theorem Xg {g:Array (Nat×Operand)}{vs:List (Nat×Value)}{al:Bool}(v:Value)(h1:(l',Mn all ⟨dst,.build t g,ty,pos,after,guard⟩ fr,(g.toList.map fun (i,x)=>(i,ev fr x)))=((⟨dst,.build t g,ty,pos,after,guard⟩,al)::l,some true,vs))
    (h:P9 P all M Q l (MI fr dst v) w) (j:ME P (qm al M) (Instr.build t vs.toArray) w v:=by intro _ _; kernel_rfl):P9 P all M Q l' fr w:=M9J v (congrArg Prod.fst h1) (congrArg (fun p=>p.2.1) h1) (congrArg (fun p=>p.2.2) h1) j h
end
theorem Cw {P:Program}(hmx:P.follows .mixedOrders=true){f:FuncId}{fn:Func}{c:Code}{rs:List ResultVar}{args:List Value}{w:World}{R:Value→World→Prop}
    (hf:P.funcs[f]? = some fn) (hb:fn.body=some c) (hrs:fn.results=rs.toArray) (hn:Nat.ble args.length fn.ntmps=true) (h:Wl P c (M6c P rs R) (Zb args) w)
    (hname : (fn.name == "runtime.NumGoroutine") = false := by kernel_rfl) (hok : okC fn.ntmps c = true := by kernel_rfl) : Md P f args w R := M56 hmx hf hname hb hrs hok hn h
class Vst (l:List Value) (k:Nat) (v:Value) (r:outParam (List Value)):Prop where
  pr:l.set k v=r
instance Vst.s {x v:Value} {l r:List Value} {k:Nat} [h:Vst l k v r]:Vst (x::l) (k+1) v (x::r):=⟨by rw [List.set_cons_succ,h.pr]⟩
instance Vst.z {x v:Value} {l:List Value}:Vst (x::l) 0 v (v::l):=⟨rfl⟩
theorem Sx {P:Program}{t T:TypeId}{w:World}{b:Nat}{l r:List Value}(k:Nat)(v:Value)(j:MT P t)(h:w.heap[b]? = some (.cells l.toArray T (0,0))) [s:Vst l k v r] (g:(Nat.blt k l.length,v.oneCell')=(true,true):=by rfl) :
    ∃ w',(Instr.storeAt t (.pointer (some ⟨b,k,none⟩)) v).run P w=.ok () w'∧w'.heap[b]? = some (.cells r.toArray T (0,0))∧Ev [b] w w':=
  M1y k v r.toArray j h (by simpa using congrArg Prod.fst g) (congrArg Prod.snd g) (by rw [← s.pr]; simp)
def Un (a:Nat):Nat→List (Nat×Value)
  | 0=>[]
  | n+1=>(a,undef)::Un (a+1) n
theorem NP.ux {M A B:List Nat}{w0 w w':World}{M0:List Nat}{ls r:List (List Nat)}(h:NP M w0.heap.size ls)(j:Nat)(hs:Ev M0 w0 w)(D:∀ b∈B,(b∈A∨w.heap.size≤b)∧b<w'.heap.size) [k:Sat ls j B r] (q:ls[j]? = some A:=by rfl):NP M w0.heap.size r:=by
  have k:=k.pr;subst k;intro l u b g;rcases List.mem_or_eq_of_mem_set u with h1 | h1
  · exact h l h1 b g
  · subst h1;rcases (D b g).1 with h2 | h2
    · exact h A (List.mem_of_getElem? q) b h2
    · exact .inr (Nat.le_trans hs.size h2)
end Go.V
