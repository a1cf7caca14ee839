/- Part J of the proof of TopConserved. No condition. -/
import Derived.OwnWalk
import Derived.Deep.Cut
import Derived.Deep.CutRange
import Derived.Deep.DeepCutAuto
import Derived.Deep.RegionHeld
import Derived.Test.YtmihkgopplkcjaaGreatDoorI
set_option linter.all false
set_option maxRecDepth 1000000
set_option maxHeartbeats 0
namespace Go.T
open Go Go.E Go.V Go.Proofs Go.Shelf Go.RowKit Go.Lib Go.Sort
theorem fI (wr:World)(aT aL ao:Option Addr)(B cT A cL n co:Nat)(w f t:Int)(fr:Bool)(c:w<0∨(A:Int)≤w∨f < -1∨(n:Int)≤f∨t < -1∨(n:Int)≤t) :
  Calls Tryz.prog 246 #[.slice aT B cT,.slice aL A cL,.slice ao n co,.agg #[.int .i64 w,.int .i64 f,.int .i64 t,.bool fr]] wr λe w'=>e=.returned (.int .i64 2)∧Ev [] wr w':=by
 have E:=Ej;rcases c with c|c|c|c|c|c
 all_goals
  go_enter Tryz.func246,Tryz.ntmps246
  go_wp2
  all_goals
   go_ret
   exact ⟨rfl,(Ev.alloc _ _).nil⟩
def Bd (A n:Nat) (w f t:Int):Prop:=(0≤w∧w<A)∧(-1≤f∧f<n)∧-1≤t∧t<n
abbrev PM (w f t:Int) (fr:Bool):Obj:=.cells #[.int .i64 w,.int .i64 f,.int .i64 t,.bool fr] 177 (0,0)
theorem YD (wr:World)(aT aL ao:Option Addr)(O cT H cL n co:Nat)(w f t:Int)(fr:Bool)(c:Bd H n w f t)(p:Int×Int)(hp:p.1≠f∨(f = -1∧t = -1))
  (I:∀ X,Ev [] wr X→Calls Tryz.prog 232 #[.slice ao n co,.int .i64 w] X λe w'=>e=.returned (.tuple #[.int .i64 p.1,.int .i64 p.2])∧Ev [] X w') :
  Calls Tryz.prog 246 #[.slice aT O cT,.slice aL H cL,.slice ao n co,.agg #[.int .i64 w,.int .i64 f,.int .i64 t,.bool fr]] wr λe w'=>e=.returned (.int .i64 17)∧Ev [] wr w':=by
 have ae:=Ej;obtain ⟨⟨Y,Z⟩,⟨k3,k4⟩,k5,k6⟩:=c;obtain ⟨X,B⟩:∃ X,X=wr.alloc (PM w f t fr):=⟨_,rfl⟩
 have E:Ev [] wr X:=by rw [B];exact (Ev.alloc _ _).nil
 have hb:X.heap[wr.heap.size]? = some (PM w f t fr):=by rw [B];exact Aq _ _
 have G:=I X E;rw [B] at G;have J:p.1≠f∨(p.1=f∧f = -1∧t = -1):=by omega
 clear hp;rcases J with h1|⟨h1,h2,h3⟩
 ·go_enter Tryz.func246,Tryz.ntmps246
  go_wp2_with fail
  refine G.mono ?_;rintro e w' ⟨rfl,A⟩;rw [←B] at A;have U:w'.cell? ⟨wr.heap.size,1,none⟩=some (.int .i64 f):=by rw [Af (A.box hb (by simp))];rfl
  go_wp2
  go_ret
  exact ⟨rfl,E.ext A⟩
 ·subst h2;subst h3
  go_enter Tryz.func246,Tryz.ntmps246
  go_wp2_with fail
  refine G.mono ?_;rintro e w' ⟨rfl,A⟩;rw [←B] at A;have U:w'.cell? ⟨wr.heap.size,1,none⟩=some (.int .i64 (-1)):=by rw [Af (A.box hb (by simp))];rfl
  have y2:w'.cell? ⟨wr.heap.size,2,none⟩=some (.int .i64 (-1)):=by rw [Af (A.box hb (by simp))];rfl
  go_wp2
  go_ret
  exact ⟨rfl,E.ext A⟩
theorem M0n (wr:World)(aT aL ao:Option Addr)(J cT G cL n co:Nat)(w f t:Int)(fr:Bool)(c:w<0∨(G:Int)≤w∨f < -1∨(n:Int)≤f∨t < -1∨(n:Int)≤t)
  (U:∀ X,Ev [] wr X→Calls Tryz.prog 189 #[.slice aT J cT,.slice aL G cL,.slice ao n co] X λe w'=>e=.returned (.bool true)∧Ev [] X w') :
  Calls Tryz.prog 120 #[.slice aT J cT,.slice aL G cL,.slice ao n co,.agg #[.int .i64 w,.int .i64 f,.int .i64 t,.bool fr]] wr λe w'=>e=.returned (.tuple #[.slice none 0 0,.int .i64 2])∧Ev [] wr w':=by
 have Y:=Ej;obtain ⟨X,A⟩:∃ X,X=wr.alloc (PM w f t fr):=⟨_,rfl⟩
 have H:Ev [] wr X:=by rw [A];exact (Ev.alloc _ _).nil
 have hb:X.heap[wr.heap.size]? = some (PM w f t fr):=by rw [A];exact Aq _ _
 have I:=U X H;rw [A] at I
 go_enter Tryz.func120,Tryz.ntmps120
 go_wp2_with fail
 refine I.mono ?_;rintro e w' ⟨rfl,B⟩;rw [←A] at B;have E:=B.box hb (by simp);have Z:w'.cell? ⟨wr.heap.size,0,none⟩=some (.int .i64 w):=by rw [Af E];rfl
 have y1:w'.cell? ⟨wr.heap.size,1,none⟩=some (.int .i64 f):=by rw [Af E];rfl
 have y2:w'.cell? ⟨wr.heap.size,2,none⟩=some (.int .i64 t):=by rw [Af E];rfl
 have O:=H.ext B;rcases c with c|c|c|c|c|c
 all_goals
  go_wp2
  all_goals
   go_ret2
   exact ⟨rfl,O⟩
theorem xG (wr:World)(aT aL ao:Option Addr)(Z cT H cL n co:Nat)(w f t:Int)(fr:Bool)(c:Bd H n w f t)(p:Int×Int)(h1:-1≤p.1)(hp:p.1≠f∨(f = -1∧t = -1))
  (af:∀ X,Ev [] wr X→Calls Tryz.prog 189 #[.slice aT Z cT,.slice aL H cL,.slice ao n co] X λe w'=>e=.returned (.bool true)∧Ev [] X w')
  (hc:∀ X,Ev [] wr X→Calls Tryz.prog 74 #[.slice ao n co,.int .i64 w] X λe w'=>e=.returned (.tuple #[.int .i64 p.1,.int .i64 p.2])∧Ev [] X w') :
  Calls Tryz.prog 120 #[.slice aT Z cT,.slice aL H cL,.slice ao n co,.agg #[.int .i64 w,.int .i64 f,.int .i64 t,.bool fr]] wr λe w'=>e=.returned (.tuple #[.slice none 0 0,.int .i64 17])∧Ev [] wr w':=by
 have ap:=Ej;obtain ⟨⟨k1,k2⟩,⟨k3,k4⟩,k5,k6⟩:=c;obtain ⟨X,A⟩:∃ X,X=wr.alloc (PM w f t fr):=⟨_,rfl⟩
 have I:Ev [] wr X:=by rw [A];exact (Ev.alloc _ _).nil
 have hb:X.heap[wr.heap.size]? = some (PM w f t fr):=by rw [A];exact Aq _ _
 have Y:=af X I;rw [A] at Y
 go_enter Tryz.func120,Tryz.ntmps120
 go_wp2_with fail
 refine Y.mono ?_;rintro e E ⟨rfl,G⟩;rw [←A] at G;have B:=G.box hb (by simp);have y0:E.cell? ⟨wr.heap.size,0,none⟩=some (.int .i64 w):=by rw [Af B];rfl
 have y1:E.cell? ⟨wr.heap.size,1,none⟩=some (.int .i64 f):=by rw [Af B];rfl
 have y2:E.cell? ⟨wr.heap.size,2,none⟩=some (.int .i64 t):=by rw [Af B];rfl
 have J:=I.ext G;have ad:=hc E J
 go_wp2_with fail
 refine ad.mono ?_;rintro e w2 ⟨rfl,O⟩;have U:=O.box B (by simp);have y1:w2.cell? ⟨wr.heap.size,1,none⟩=some (.int .i64 f):=by rw [Af U];rfl
 have y2:w2.cell? ⟨wr.heap.size,2,none⟩=some (.int .i64 t):=by rw [Af U];rfl
 have ab:=J.ext O;have ae:(p.1==f)=false∨((p.1==f)=true∧p.1<0∧t<0):=by
  rcases hp with h|h;exact .inl (by simp [h]);by_cases e:p.1=f;exact .inr ⟨by simp [e],by omega,by omega⟩;exact .inl (by simp [e])
 rcases ae with h1|⟨h1,h2,h3⟩;all_goals
  go_wp2
  all_goals
   go_ret2
   exact ⟨rfl,ab⟩
theorem xH {T:G8}{L:List Int}{s:Bp}(h:Dc T L s){w:Int}{A:Nat}(fr:Bool){p:Int×Int}(hp:qA s w p)(hw:0≤w∧w<L.length)(B:A<s.length)(I:A<T.length) :
  ∃ R,(mv s w A fr)[A]? = some R∧Rg L.length R∧R.length≤1000∧(sm L R>T[A].2↔((A:Int)≠p.1∧T[A].2-sm L s[A]<vw L w.toNat)):=by
 have hT:=h.2.2.2.2.2.2 A s[A] T[A] B (M00 B) (M00 I);have H:=fm h fr (M00 B) (rfl:(A:Int)=(A:Int)) hw hp;have hrow:=AN h _ (M03 B);have E:Rg L.length (put w A fr A s[A]):=λx J=>by
  rcases IM.1 J with ⟨_,rfl⟩|⟨q,_⟩;exact hw;exact hrow.1 x q
 have O:=Gw E (PH hrow.2.1);have h3:=h.2.2.1;refine ⟨_,xk (M00 B),E,by omega,?_⟩;rw [H];by_cases q:p.1=(A:Int)
 rw [M1d q];exact ⟨λe=>by omega,λe=>absurd q.symm e.1⟩;rw [M1e q];exact ⟨λe=>⟨λG=>q G.symm,by omega⟩,λe=>by omega⟩
end Go.T
namespace Go.T
open Go Go.E Go.V Go.Proofs
section
def YE (E A:World) (B:List Nat) (g0 u co:Nat) (H:Option Addr) (n I:Nat) (s:List (List Int)) (a':Option Addr) (n' c':Nat) (ys:List Int):Prop:=
 A.cell? ⟨g0,u,none⟩=some (.slice H n I)∧A.frozen? ⟨g0,u,none⟩=false∧E.heap.size≤A.heap.size∧Ev B E A∧Ev B E (A.setCell ⟨g0,u,none⟩ (.slice a' n' c'))∧
  ∃ G,(∀ b∈G,b∈B∨E.heap.size≤b)∧Rows (A.setCell ⟨g0,u,none⟩ (.slice a' n' c')) G (some ⟨g0,0,none⟩) co (s.set u ys)
variable {B:List Nat}{u co:Nat}{s:List (List Int)}
theorem fJ {E J:World}{g0:Nat}{G:Option Addr}{O:Nat}{row ys:List Int}{a':Option Addr}{n' c':Nat}(hR:Rows E B (some ⟨g0,0,none⟩) co s)(hu:s[u]? = some row)(H:E.cell? ⟨g0,u,none⟩=some (.slice G row.length O))
  (A:Ev (Av G) E J)(hy:OwnS (AZ .i64) 3 J [] a' c' ys)(hn:∀ b∈Av a',b∈Av G∨E.heap.size≤b)(hl:n'=ys.length):YE E J B g0 u co G row.length O s a' n' c' ys:=by
 subst hl;obtain ⟨g',af,ag,e1,U,hf,_,ac,I,Z⟩:=BY hR hu;cases e1;rw [H] at U;obtain ⟨rfl,_,rfl⟩:=Value.slice.inj (M1x U);obtain ⟨p1,p2⟩:=HR hR hu H A hy hn;have Y:=C1 H;refine ⟨by rw [A.cell (a:=⟨g0,u,none⟩) Y Z];exact H,by rw [←hf];simp [World.frozen?,A.block g0 Y Z],A.size,A.sub I,p2.sub λb hb=>(M1y.1 hb).elim (λe=>by rw [e];exact ac) (I b),_,λb hb=>(M1b.1 hb).elim (λh=>(hn b h).imp (I b) id) .inl,p1⟩
variable {ao:Option Addr}
theorem M0o {G:World}{i:Nat}{row:List Int}(hR:Rows G B ao co s)(O:s[u]? = some row)(hi:i<row.length) :
  ∃ g0 A E,ao=some ⟨g0,0,none⟩∧G.cell? ⟨g0,u,none⟩=some (.slice A row.length E)∧
   Calls Tryz.prog 284 #[.slice A row.length E,.int .i64 i,.int .i64 ((i:Int)+1)] G λe U=>e=.returned (.slice A (row.length-1) E)∧YE G U B g0 u co A row.length E s A (row.length-1) E (row.take i++row.drop (i+1)):=by
 obtain ⟨g0,A,E,rfl,I,hf,ho,ac,ab,ad⟩:=BY hR O;refine ⟨g0,A,E,rfl,I,?_⟩;have J:(row.take i++row.drop (i+1)).length=row.length-1:=by simp;omega
 refine (xA jo (f:=284) rfl ⟨_,Tryz.func284,by kernel_rfl,by kernel_rfl⟩ ho (i:=i) (j:=(i:Int)+1) ⟨λe=>by rw [e] at hi;simp at hi,by omega,by omega,by omega⟩).run.mono λe U ⟨v,he,hv,Z,H⟩=>?_
 have Y:((i:Int)+1).toNat=i+1:=by omega
 rw [Y,M1i] at hv H;rw [J] at hv;exact ⟨by rw [he,hv],fJ hR O I Z (H []) (λb hb=>.inl hb) J.symm⟩
theorem Wz (w:World)(x:Int):OwnS (AZ .i64) 3 (w.alloc (.cells #[.int .i64 x] 3 (0,0))).drew [] (some ⟨w.heap.size,0,none⟩) 1 [x]:=by
 have hg:(w.alloc (.cells #[.int .i64 x] 3 (0,0))).drew.heap[w.heap.size]? = some (.cells #[.int .i64 x] 3 (0,0)):=Aq _ _;refine .inr ⟨w.heap.size,_,rfl,hg,M1g _,by unfold maxLen;omega,rfl,λk y hy=>?_⟩;cases k with
 | zero=>
  cases hy;refine ⟨[.int .i64 x],rfl,λm v hv=>?_⟩;cases m with
  | zero=>cases hv;rfl
  | succ m=>simp at hv
 | succ k=>simp at hy
theorem M0p {A:World}{row:List Int}(x:Int)(hR:Rows A B ao co s)(J:s[u]? = some row)(hl:row.length≤1000000) :
  ∃ g0 E G,ao=some ⟨g0,0,none⟩∧A.cell? ⟨g0,u,none⟩=some (.slice E row.length G)∧
   Calls Tryz.prog 285 #[.slice E row.length G,.int .i64 0,.slice (some ⟨A.heap.size,0,none⟩) 1 1] (A.alloc (.cells #[.int .i64 x] 3 (0,0))).drew λe O=>∃ a' c',e=.returned (.slice a' (row.length+1) c')∧YE A O B g0 u co E row.length G s a' (row.length+1) c' (x::row):=by
 obtain ⟨g0,E,G,rfl,I,hf,ho,ae,ad,af⟩:=BY hR J;refine ⟨g0,E,G,rfl,I,?_⟩;have H:Ev [] A (A.alloc (.cells #[.int .i64 x] 3 (0,0))).drew:=(Ev.alloc A _).nil.ext ⟨rfl,rfl,rfl,M1g _,λ_ _ _=>rfl⟩;have ac:OwnS (AZ .i64) 3 (A.alloc (.cells #[.int .i64 x] 3 (0,0))).drew [] E G row:=ho.evp (λ_ _ _ _ _ _ h=>h) H λ_ _ h=>(by cases h)
 refine (xB jp (f:=285) rfl ⟨_,Tryz.func285,by kernel_rfl,by kernel_rfl⟩ (T2:=3) rfl ac (Wz A x) (λb hb Z=>by simp only [Av,M19] at hb;have:=ho.lt b Z;omega) (by omega)).run.mono λe O ⟨v,he,a',c',hv,U,hn,ab,Y⟩=>?_
 have hs:A.heap.size≤(A.alloc (.cells #[.int .i64 x] 3 (0,0))).drew.heap.size:=H.size;exact ⟨a',c',by rw [he,hv];rfl,fJ hR J I (H.nil.then U λb hb=>.inl hb) (Y []) (λb hb=>(ab b hb).imp id λe=>by omega) (by simp)⟩
theorem qE {A:World}{row:List Int}(x:Int)(hR:Rows A B ao co s)(J:s[u]? = some row)(hl:row.length≤1000000) :
  ∃ g0 E G a' c' H,ao=some ⟨g0,0,none⟩∧A.cell? ⟨g0,u,none⟩=some (.slice E row.length G)∧
   (Builtin.append_ #[22,22] 22 #[.slice E row.length G,.slice (some ⟨A.heap.size,0,none⟩) 1 1]).run Tryz.prog (A.alloc (.cells #[.int .i64 x] 3 (0,0))).drew=.ok (.slice a' (row.length+1) c') H∧YE A H B g0 u co E row.length G s a' (row.length+1) c' (row++[x]):=by
 obtain ⟨g0,E,G,rfl,I,hf,ho,Y,U,Z⟩:=BY hR J;obtain ⟨a3,c3,H,r1,r2,r3,O⟩:=M0f A x ho (by omega);exact ⟨g0,E,G,a3,c3,H,rfl,I,by simpa using r1,fJ hR J I r2 O r3 (by simp)⟩
end
section
variable {u co:Nat}
theorem M0q {G:World}{B:List Nat}{ao:Option Addr}{i:Nat}{s:List (List Int)}{row:List Int}(hR:Rows G B ao co s)(hu:s[u]? = some row)(hi:i<row.length) :
  ∃ g0 r E A w3,ao=some ⟨g0,0,none⟩∧G.cell? ⟨g0,u,none⟩=some (.slice (some ⟨r,0,none⟩) row.length E)∧row.length≤E∧E≤9223372036854775807∧(if E=i+1 then (some ⟨r,0,none⟩:Option Addr) else some ⟨r,i+1,none⟩)=some A∧
   (Builtin.append_ #[22,22] 22 #[.slice (some ⟨r,0,none⟩) i E,.slice (some A) (row.length-(i+1)) (E-(i+1))]).run Tryz.prog G.drew=.ok (.slice (some ⟨r,0,none⟩) (i+(row.length-(i+1))) E) w3∧YE G w3 B g0 u co (some ⟨r,0,none⟩) row.length E s (some ⟨r,0,none⟩) (i+(row.length-(i+1))) E (row.take i++row.drop (i+1)):=by
 obtain ⟨g0,ai,E,rfl,Z,hf,ho,ay,ax,az⟩:=BY hR hu;obtain ⟨r,rfl⟩:∃ r,ai=some ⟨r,0,none⟩:=by
  rcases Dp ho with h|h;rw [h] at hi;simp at hi
  exact h
 obtain ⟨Y,O,q2,q3,q4,q5⟩:=H4 ho rfl;have d0:Ev [] G G.drew:=⟨rfl,rfl,rfl,M1g _,λ_ _ _=>rfl⟩
 obtain ⟨I,J⟩:∃ I:List Value,I=(row.drop (i+1)).map (Value.int .i64):=⟨_,rfl⟩
 have am:I.length=row.length-(i+1):=by rw [J];simp
 obtain ⟨A,hA,an⟩:∃ A:Addr,(if E=i+1 then (some ⟨r,0,none⟩:Option Addr) else some ⟨r,i+1,none⟩)=some A∧∀ t v,I[t]? = some v→G.drew.cell? (A.add t)=some v:=by
  by_cases h:E=i+1;refine ⟨⟨r,0,none⟩,by simp [h],λt v hv=>?_⟩;have:=(M09.1 hv).1;omega;refine ⟨⟨r,i+1,none⟩,by simp [h],λt v hv=>?_⟩;rw [J,M1n,M1C] at hv;obtain ⟨x,H,rfl⟩:=M01.1 hv;rw [AQ rfl];show G.cell? _=_
  rw [Af O];exact q5 _ _ H
 obtain ⟨i0,ak,U⟩:=e22.info;have ab:=run_append_room_cells (P:=Tryz.prog) G.drew 22 22 3 i0 Tryz.underlying22 ak r 0 i E A (row.length-(i+1)) (E-(i+1)) I (by rw [am,U.2.1,M29]) an (λv hv=>by rw [J] at hv;obtain ⟨x,_,rfl⟩:=M1L.1 hv;rfl) (by omega)
  (λt ht=>by rw [U.2.1];have:0+i*1+t<Y.size:=(by omega);show (G.cell? _).isSome=true;rw [Af O,M2b this];rfl) (λt ht=>by show G.frozen? _=false;simp [World.frozen?,O])
 rw [U.2.1,M29,M25] at ab;obtain ⟨c1,p1,p2,p3,p4,p5⟩:=B0 (g:=r) (T:=3) I i G.drew Y O (by omega);have aa:(row.take i++row.drop (i+1)).length=i+(row.length-(i+1)):=by simp;omega
 refine ⟨g0,r,E,A,_,rfl,Z,q2,by unfold maxLen at q3;omega,hA,ab,fJ hR hu Z (d0.nil.then p5 λb hb=>.inl hb) (IU [] p1 (by rw [aa];omega) q3 (by omega) λk x H=>?_) (λb hb=>.inl hb) aa.symm⟩;by_cases hk:k<i;rw [M1f (by simp;omega),M1r,M1d hk] at H;rw [p4 _ (.inl hk)];exact q5 _ _ H
 have ht:(row.take i).length=i:=by simp;omega
 rw [M1a (by omega),ht] at H;have al:=(M09.1 H).1;rw [M2f] at al;obtain ⟨m,rfl⟩:∃ m,k=i+m:=⟨k-i,by omega⟩
 rw [p3 m (by omega),J,M1n,←show i+m-i=m by omega,H];rfl
theorem oM {A:World}{B:List Nat}{ao:Option Addr}{s:List (List Int)}{row:List Int}(x:Int)(hR:Rows A B ao co s)(O:s[u]? = some row)(hl:row.length≤1000000) :
  ∃ g0 E G a' c' H,ao=some ⟨g0,0,none⟩∧A.cell? ⟨g0,u,none⟩=some (.slice E row.length G)∧
   (Builtin.append_ #[22,22] 22 #[.slice (some ⟨A.heap.size,0,none⟩) 1 1,.slice E row.length G]).run Tryz.prog (A.alloc (.cells #[.int .i64 x] 3 (0,0))).drew=.ok (.slice a' (row.length+1) c') H∧YE A H B g0 u co E row.length G s a' (row.length+1) c' (x::row):=by
 obtain ⟨g0,E,G,rfl,J,hf,ho,ad,ac,ae⟩:=BY hR O;have I:Ev [] A (A.alloc (.cells #[.int .i64 x] 3 (0,0))).drew:=(Ev.alloc A _).nil.ext ⟨rfl,rfl,rfl,M1g _,λ_ _ _=>rfl⟩;have hs:A.heap.size≤(A.alloc (.cells #[.int .i64 x] 3 (0,0))).drew.heap.size:=I.size;have Z:OwnS (AZ .i64) 3 (A.alloc (.cells #[.int .i64 x] 3 (0,0))).drew [A.heap.size] E G row:=ho.evp (λ_ _ _ _ _ _ h=>h) I λ_ _ h=>(by cases h)
 have hn:OwnS (AZ .i64) 3 (A.alloc (.cells #[.int .i64 x] 3 (0,0))).drew [A.heap.size] (some ⟨A.heap.size,0,none⟩) 1 [x]:=(Wz A x).evp (λ_ _ _ _ _ _ h=>h) (Ev.refl [] _) λ_ _ h=>(by cases h)
 obtain ⟨a',c',H,r1,r2,r3,r4,r5⟩:=DZ (P:=Tryz.prog) e22 22 hn (λb hb=>by simpa [Av] using hb) (Z.ro (λ_ h=>h) λb hb Y=>by simp only [M19] at Y;have:=ho.lt b hb;omega) (by simp;omega);have U:Ev [] A H:=I.then r2 λb hb=>by simp only [Av,M19] at hb;exact .inr (by omega)
 refine ⟨g0,E,G,a',c',H,rfl,J,by simpa [Nat.add_comm] using r1,fJ hR O J U.nil (r5 [] λ_ h=>(by cases h)) (λb hb=>.inr ?_) (by simp)⟩;rcases r4 b hb with h|h
 simp only [Av,M19] at h;omega
 omega
end
end Go.T
namespace Go.T
open Go Go.E Go.V Go.Proofs Go.Shelf Go.RowKit Go.Lib Go.Sort
section
noncomputable def fK (T:G8) (L:List Int) (s:Bp) (w f t:Int) (fr:Bool):Bp×Int:=if cd T L s w f t=0 then (mv s w t fr,0) else ([],cd T L s w f t)
def iD (wr:World) (T:G8) (L:List Int) (s:Bp) (w f t:Int) (fr:Bool) (e:Ending) (w':World):Prop:=
 ∃ a' c' B,e=.returned (.tuple #[.slice a' (fK T L s w f t fr).1.length c',.int .i64 (fK T L s w f t fr).2])∧Ev [] wr w'∧(∀ b∈B,wr.heap.size≤b)∧Rows w' B a' c' (fK T L s w f t fr).1
variable {w t:Int}
theorem DR {X:World}{k:Nat}{f:Int}{fr:Bool}(hb:X.heap[k]? = some (PM w f t fr)):X.cell? ⟨k,0,none⟩=some (.int .i64 w)∧X.cell? ⟨k,1,none⟩=some (.int .i64 f)∧X.cell? ⟨k,2,none⟩=some (.int .i64 t)∧X.cell? ⟨k,3,none⟩=some (.bool fr):=⟨by rw [Af hb];rfl,by rw [Af hb];rfl,by rw [Af hb];rfl,by rw [Af hb];rfl⟩
theorem M0r {wr:World}{T:G8}{L:List Int}{s:Bp}{aT aL aS:Option Addr}{cT cL cS:Nat}{f:Int}{p:Int×Int}(fr:Bool)(hv:Dc T L s)(hg:GlP (R0 wr))(hT:SlR (eT (.pair .str ti)) wr [] aT cT T)(hL:SlR (eT ti) wr [] aL cL L)(hS:SlR (eT (.sl ti)) wr [] aS cS s)
  (hd:Bd L.length s.length w f t)(hp:Su s w=p)(hf:p.1=f)(b0:¬ (f = -1∧t = -1))
  (bL:∀ X,Ev [] wr X→Calls Tryz.prog 189 #[.slice aT T.length cT,.slice aL L.length cL,.slice aS s.length cS] X λe w'=>e=.returned (.bool true)∧Ev [] X w')
  (hc:∀ X,Ev [] wr X→Calls Tryz.prog 74 #[.slice aS s.length cS,.int .i64 w] X λe w'=>e=.returned (.tuple #[.int .i64 p.1,.int .i64 p.2])∧Ev [] X w') :
  Calls Tryz.prog 120 #[.slice aT T.length cT,.slice aL L.length cL,.slice aS s.length cS,.agg #[.int .i64 w,.int .i64 f,.int .i64 t,.bool fr]] wr (iD wr T L s w f t fr):=by
 have ch:=Ej;obtain ⟨⟨k1,k2⟩,⟨k3,k4⟩,k5,k6⟩:=hd;obtain ⟨X,hX⟩:∃ X,X=wr.alloc (PM w f t fr):=⟨_,rfl⟩
 have hE:Ev [] wr X:=by rw [hX];exact (Ev.alloc _ _).nil
 have hb:X.heap[wr.heap.size]? = some (PM w f t fr):=by rw [hX];exact Aq _ _
 have a7:=bL X hE;rw [hX] at a7;subst hf;have hw:=QG s w;rw [show JW s w=p from hp] at hw;have b5:=Bw hv
 go_enter Tryz.func120,Tryz.ntmps120
 go_wp2_with fail
 refine a7.mono ?_;rintro e w1 ⟨rfl,aK⟩;rw [←hX] at aK;have a6:=aK.box hb (by simp);obtain ⟨y0,y1,y2,y3⟩:=DR a6;have a4:=hE.ext aK;have bk:=hc w1 a4;clear a7
 go_wp2_with fail
 refine bk.mono ?_;rintro e w2 ⟨rfl,ab⟩;have aX:=ab.box a6 (by simp);have bj:=a4.ext ab;clear y0 y1 y2 y3 bk aK a4 ab hb a6 hE;obtain ⟨y0,y1,y2,y3⟩:=DR aX;have z:0≤p.1∨(p.1<0∧0≤t):=by omega
 go_upto_region 6 with fail
 go_cut [71] (λyB wc=>yB=.bool false∧wc=w2)
 case first=>
  rcases z with z|⟨z,z2⟩;all_goals
   go_wp2
   go_meet
   case rel=>exact ⟨by first | rfl | (simp;omega),rfl⟩
 case rest=>
  obtain ⟨rfl,rfl⟩:=hcut;have bm:=xw wc aS cS s [] (hS.step (Stp.same bj λ_ h=>(by cases h))) (by have:=hv.1;have:=hv.2.1;omega) λr hr=>by have:=(AN hv r hr).2.2;omega
  go_wp2_with fail
  refine bm.mono ?_;rintro e w3 ⟨ao,co,B,rfl,a5,hB,hR⟩;have aN:=bj.ext a5;have aE:=a5.box aX (by simp);have b4:=Am aX;have ax:∀ b∈B,wr.heap.size<b:=λb hb=>by have:=(hB b hb).1;omega
  clear bm y0 y1 y2 y3;obtain ⟨y0,y1,y2,y3⟩:=DR aE;obtain ⟨s1,bb⟩:∃ s1,s1=if 0≤p.1 then s.set p.1.toNat ((s[p.1.toNat]?.getD []).take p.2.toNat++(s[p.1.toNat]?.getD []).drop (p.2.toNat+1)) else s:=⟨_,rfl⟩
  have bl:∀ j:Nat,s1[j]? =(s[j]?).map λrow:List Int=>row.filter (·≠w):=by rw [bb];exact fk hv hw
  have K:Hid (∀ j:Nat,s1[j]? =(s[j]?).map λrow:List Int=>row.filter (·≠w)):=bl;have S1:Hid (s1=if 0≤p.1 then s.set p.1.toNat ((s[p.1.toNat]?.getD []).take p.2.toNat++(s[p.1.toNat]?.getD []).drop (p.2.toNat+1)) else s):=bb;have W:Hid (qA s w p):=hw;clear bl bb
  go_upto_if 75 with fail
  go_cut [] (λw4=>Ev [] wr w4∧w4.heap[wr.heap.size]? = some (PM w p.1 t fr)∧∃ Z,(∀ b∈Z,wr.heap.size<b)∧Rows w4 Z ao co s1)
  case first=>
   rcases hw with ⟨rfl,hn⟩|⟨u,i,row,rfl,j1,j2,j3⟩
   ·go_wp2
    go_meet
    case rel=>exact ⟨aN,aE,B,ax,by rw [S1.out,M1e (by decide)];exact hR⟩
   ·have hi:=(M09.1 j2.1).1;have bK:=(AN hv row (M1k j1)).2.2;obtain ⟨g0,r,G,A,w4,rfl,aw,bY,bZ,hA,ah,q1,q2,q3,q4,q5,B',q6,q7⟩:=M0q hR j1 hi;have b6:=(M09.1 j1).1;have bi:s1=s.set u (row.take i++row.drop (i+1)):=by rw [S1.out,M1d (by simp)];simp only [M1i,j1,M1G]
    have av:wr.heap.size∉B:=λh=>M3g _ (ax _ h)
    have R:Hid (Ev [] wr (w4.setCell ⟨g0,u,none⟩ (.slice (some ⟨r,0,none⟩) (i+(row.length-(i+1))) G))∧(w4.setCell ⟨g0,u,none⟩ (.slice (some ⟨r,0,none⟩) (i+(row.length-(i+1))) G)).heap[wr.heap.size]? = some (PM w u t fr)∧∃ Z,(∀ b∈Z,wr.heap.size<b)∧Rows (w4.setCell ⟨g0,u,none⟩ (.slice (some ⟨r,0,none⟩) (i+(row.length-(i+1))) G)) Z (some ⟨g0,0,none⟩) co s1):=
     ⟨aN.then q5 λb hb=>.inr (by have:=ax b hb;omega),q5.box aE av,B',λb hb=>(q6 b hb).elim (ax b) λh=>by have:=aN.size;have:=Am aE;omega,by rw [bi];exact q7⟩
    have H:Hid ((Builtin.append_ #[22,22] 22 #[.slice (some ⟨r,0,none⟩) i G,.slice (some A) (row.length-(i+1)) (G-(i+1))]).run Tryz.prog w3.drew=.ok (.slice (some ⟨r,0,none⟩) (i+(row.length-(i+1))) G) w4):=ah;have b1:i≤G:=by omega
    have b2:i+1≤G:=by omega
    have b3:i+1≤row.length:=by omega
    have b8:0≤(i:Int)+1:=by omega
    have b9:(i:Int)+1≤(row.length:Int):=by omega
    have b7:IntKind.i64.wrap ((i:Int)+1)=((i+1:Nat):Int):=iw1 (by omega);clear j2 j3 K bi q6 q7 ah W S1 hR hB ax
    go_wp2_with fail
    go_region_law_o (refine Gz rfl _ _ 22 rfl rfl rfl H.out ?_)
    all_goals
     go_wp2
     go_meet
     case rel=>exact R.out
  case rest=>
   obtain ⟨aO,ag,Z,af,au⟩:=hcut;clear y0 y1 y2 y3 a5 aN aE aX hB ax hR;obtain ⟨y0,y1,y2,y3⟩:=DR ag;have sl:s1.length=s.length:=by rw [S1.out];split <;> simp
   have rl:=SH hv K.out;have I:(if 0≤t then s1.set t.toNat (if fr then w::(s1[t.toNat]?.getD []) else (s1[t.toNat]?.getD [])++[w]) else s1)=mv s w t fr:=fj K.out;have e1:cd T L s w p.1 t=if 0≤t∧t≠p.1∧(T[t.toNat]?.getD ([],0)).2-sm L (s[t.toNat]?.getD [])<vw L w.toNat then 14 else 0:=by
    unfold cd;rw [M1e (by omega),M1e (by rw [show Su s w=p from hp];simp;omega)]
   have O:(mv s w t fr).length=s.length:=QI _ _ _ _;clear S1 K hw;by_cases c4:0≤t
   ·obtain ⟨E,rfl⟩:=M1j c4;have aY:E<s1.length:=by omega
    have bp:E<s.length:=by omega
    have bc:E<T.length:=by have:=hv.1;omega
    have bK:=rl _ (M03 aY);rw [M1d c4,M1i,M00 aY,M1G] at I;have SQ:=xH hv fr W.out ⟨k1,k2⟩ bp bc;have E1:Hid (cd T L s w p.1 E=if 0≤(E:Int)∧(E:Int)≠p.1∧(T[(E:Int).toNat]?.getD ([],0)).2-sm L (s[(E:Int).toNat]?.getD [])<vw L w.toNat then 14 else 0):=e1;have HM:Hid ((mv s w E fr).length=s.length):=O;clear e1 O
    go_upto_if 98 with fail
    go_cut [] (λJ=>Ev [] wr J∧J.heap[wr.heap.size]? = some (PM w p.1 E fr)∧∃ U,(∀ b∈U,wr.heap.size≤b)∧Rows J U ao co (mv s w E fr))
    case first=>
     have e1:=E1;have O:=HM;clear E1 HM SQ;cases fr with
     | true=>
      have I:s1.set E (w::s1[E])=mv s w E true:=by simpa using I
      obtain ⟨g0,ai,G,a',c',J,rfl,aw,ah,q1,q2,q3,q4,q5,B',q7,q8⟩:=oM w au (M00 aY) (by omega);have bG:g0<wc.heap.size:=C1 aw;have bH:wr.heap.size<wc.heap.size:=Am ag;have av:wr.heap.size∉Z:=λh=>M3g _ (af _ h)
      have z2:=(DR (q4.box ag av)).2.2.1;have R:Hid (Ev [] wr (J.setCell ⟨g0,E,none⟩ (.slice a' (s1[E].length+1) c'))∧(J.setCell ⟨g0,E,none⟩ (.slice a' (s1[E].length+1) c')).heap[wr.heap.size]? = some (PM w p.1 E true)∧∃ U,(∀ b∈U,wr.heap.size≤b)∧Rows (J.setCell ⟨g0,E,none⟩ (.slice a' (s1[E].length+1) c')) U (some ⟨g0,0,none⟩) co (mv s w E true)):=
       ⟨aO.then q5 λb hb=>.inr (M2J (af b hb)),q5.box ag av,B',λb hb=>(q7 b hb).elim (λh=>M2J (af b h)) λh=>by omega,by rw [←I];exact q8⟩
      have H:Hid ((Builtin.append_ #[22,22] 22 #[.slice (some ⟨wc.heap.size,0,none⟩) 1 1,.slice ai (s1[E]).length G]).run Tryz.prog (wc.alloc (.cells #[.int .i64 w] 3 (0,0))).drew=.ok (.slice a' ((s1[E]).length+1) c') J):=ah;clear I au rl ah q7 q8 e1 O
      go_wp2_with fail
      go_region_law_o (refine Gz rfl _ _ 22 rfl rfl rfl H.out ?_)
      all_goals
       go_wp2
       go_meet
       case rel=>exact R.out
     | false=>
      have I:s1.set E (s1[E]++[w])=mv s w E false:=by simpa using I
      obtain ⟨g0,ai,G,a',c',J,rfl,aw,ah,q1,q2,q3,q4,q5,B',q7,q8⟩:=qE w au (M00 aY) (by omega);have bG:g0<wc.heap.size:=C1 aw;have bH:wr.heap.size<wc.heap.size:=Am ag;have av:wr.heap.size∉Z:=λh=>M3g _ (af _ h)
      have z2:=(DR (q4.box ag av)).2.2.1;have R:Hid (Ev [] wr (J.setCell ⟨g0,E,none⟩ (.slice a' (s1[E].length+1) c'))∧(J.setCell ⟨g0,E,none⟩ (.slice a' (s1[E].length+1) c')).heap[wr.heap.size]? = some (PM w p.1 E false)∧∃ U,(∀ b∈U,wr.heap.size≤b)∧Rows (J.setCell ⟨g0,E,none⟩ (.slice a' (s1[E].length+1) c')) U (some ⟨g0,0,none⟩) co (mv s w E false)):=
       ⟨aO.then q5 λb hb=>.inr (M2J (af b hb)),q5.box ag av,B',λb hb=>(q7 b hb).elim (λh=>M2J (af b h)) λh=>by omega,by rw [←I];exact q8⟩
      have H:Hid ((Builtin.append_ #[22,22] 22 #[.slice ai (s1[E]).length G,.slice (some ⟨wc.heap.size,0,none⟩) 1 1]).run Tryz.prog (wc.alloc (.cells #[.int .i64 w] 3 (0,0))).drew=.ok (.slice a' ((s1[E]).length+1) c') J):=ah;clear I au rl ah q7 q8 e1 O
      go_wp2_with fail
      go_region_law_o (refine Gz rfl _ _ 22 rfl rfl rfl H.out ?_)
      all_goals
       go_wp2
       go_meet
       case rel=>exact R.out
    case rest=>
     obtain ⟨aD,bD,U,bB,aQ⟩:=hcut;clear y0 y1 y2 y3 ag aO au af I rl;obtain ⟨y0,y1,y2,y3⟩:=DR bD;obtain ⟨R,bo,bI,bJ,ba⟩:=SQ;obtain ⟨g0,ai,G,rfl,aw,bF,ho,_,_,_⟩:=BY aQ bo;obtain ⟨pT,oT,rfl⟩:=Gy hT (by omega);obtain ⟨_,_,m3,m4⟩:=hT.at_ _ rfl (by omega);obtain ⟨cs,⟨ca,cb,rfl,a8,a9⟩,m5⟩:=m4 E _ (M00 bc);have a8:ca=[Vs T[E].1]:=a8;have a9:cb=[.int .i64 T[E].2]:=a9;subst a8;subst a9;have m7:=m5 1 _ rfl;have bA:(eT (.pair .str ti)).n=2:=rfl;have m3:pT<wr.heap.size:=m3;rw [bA,←M1P,←aD.cell (a:=⟨pT,_,none⟩) m3 (by simp)] at m7;have aa:Ev [] wc wc.drew:=⟨rfl,rfl,rfl,M1g _,λ_ _ _=>rfl⟩
     have bn:=M0m (fF hv bI bJ) (w:=wc.drew) (OC hg (aD.ext aa)) (hL.step (Stp.same (aD.ext aa) λ_ h=>(by cases h))) ((ho.evp (M':=[]) (λ_ _ _ _ _ _ h=>h) (Mo:=[]) (w':=wc.drew) aa λ_ _ h=>(by cases h)).ro (λ_ h=>h) λ_ _ h=>(by cases h));have a0:∀ Y,Ev [] wc Y→Y.cell? ⟨wr.heap.size,2,none⟩=some (.int .i64 E)∧Y.cell? ⟨pT,oT+E*2+1,none⟩=some (.int .i64 T[E].2)∧Y.cell? ⟨g0,E,none⟩=some (.slice ai R.length G):=λY hY=>by
      have k:∀ {a:Addr} {v:Value},wc.cell? a=some v→Y.cell? a=some v:=λ{a v} h=>by rw [hY.cell (C1 h) (by simp)];exact h
      exact ⟨k y2,k m7,k aw⟩
     have ar:cd T L s w p.1 E=if sm L R>T[E].2 then 14 else 0:=by
      rw [E1.out];simp only [M1i,M00 bp,M00 bc,M1G];by_cases q:sm L R>T[E].2;rw [M1d q,M1d ⟨c4,ba.1 q⟩];rw [M1e q,M1e λh=>q (ba.2 h.2)]
     have O:=HM.out;clear m4 m5 E1 HM ba m7 aw bF ho bo;by_cases q:sm L R>T[E].2
     ·rw [M1d q] at ar;have ea:fK T L s w p.1 E fr=([],14):=by unfold fK;rw [M1e (by rw [ar];decide),ar]
      have RR:∀ Y,Ev [] wc Y→Hid (iD wr T L s w p.1 E fr (.returned (.tuple #[.slice none 0 0,.int .i64 14])) Y):=λY hY=>by
       unfold iD Hid;rw [ea];exact ⟨none,0,[],rfl,aD.ext hY,λk hk=>(by cases hk),OwnR.nil _ _ _ _ _⟩
      have q:T[E].2<sm L R:=q;clear ar ea aQ O
      go_wp2_with fail
      go_region_held (λY=>Y.cell? ⟨wr.heap.size,2,none⟩=some (.int .i64 E)∧Y.cell? ⟨pT,oT+E*2+1,none⟩=some (.int .i64 T[E].2)∧Y.cell? ⟨g0,E,none⟩=some (.slice ai R.length G))
       (first|exact a0 _ aa|exact a0 _ (aa.ext ab)) (first | (go_at_call 190;refine bn.mono ?_;rintro e w3 ⟨rfl,ab⟩))
      all_goals
       go_wp2
       go_ret2
       exact (RR _ (aa.ext ab)).out
     ·rw [M1e q] at ar;have ea:fK T L s w p.1 E fr=(mv s w E fr,0):=by unfold fK;rw [M1d ar]
      have RR:∀ Y,Ev [] wc Y→Hid (iD wr T L s w p.1 E fr (.returned (.tuple #[.slice (some ⟨g0,0,none⟩) s.length co,.int .i64 0])) Y):=λY hY=>by
       unfold iD Hid;rw [ea];exact ⟨_,co,U,by rw [O],aD.ext hY,bB,OwnR.step (λ_ _ _ _ _ _ h=>h) aQ hY λ_ _ h=>(by cases h)⟩
      have q:sm L R≤T[E].2:=by omega
      clear ar ea aQ O
      go_wp2_with fail
      go_region_held (λY=>Y.cell? ⟨wr.heap.size,2,none⟩=some (.int .i64 E)∧Y.cell? ⟨pT,oT+E*2+1,none⟩=some (.int .i64 T[E].2)∧Y.cell? ⟨g0,E,none⟩=some (.slice ai R.length G))
       (first|exact a0 _ aa|exact a0 _ (aa.ext ab)) (first | (go_at_call 190;refine bn.mono ?_;rintro e w3 ⟨rfl,ab⟩))
      all_goals
       go_wp2
       go_ret2
       exact (RR _ (aa.ext ab)).out
   ·rw [M1e c4] at I;have c4:t<0:=by omega
    rw [M1e (λh=>by omega)] at e1;have ea:fK T L s w p.1 t fr=(mv s w t fr,0):=by unfold fK;rw [M1d e1]
    have R:Hid (iD wr T L s w p.1 t fr (.returned (.tuple #[.slice ao s.length co,.int .i64 0])) wc):=by
     unfold iD Hid;rw [ea];exact ⟨ao,co,Z,by rw [O],aO,λb hb=>M2J (af b hb),by rw [←I];exact au⟩
    clear I e1 ea au O rl
    go_wp2
    go_ret2
    exact R.out
end
end Go.T
