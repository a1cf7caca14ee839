/- Part J of the proof of TopConserved. No condition. -/
import Derived.OwnWalk
import Derived.Test.YtmihkgopplkcjaaGreatDoorI
set_option linter.all false
set_option maxRecDepth 1000000
set_option maxHeartbeats 0
namespace Go.T
open Go Go.E Go.V Go.Proofs Go.Shelf Go.RowKit Go.Lib Go.Sort
theorem fI (wr:World)(aT aL ao:Option Addr)(B cT A cL n co:Nat)(w f t:Int)(fr:Bool)(c:w<0∨(A:Int)≤w∨f < -1∨(n:Int)≤f∨t < -1∨(n:Int)≤t) :
  Calls Tryz.prog 246 #[.slice aT B cT,.slice aL A cL,.slice ao n co,.agg #[.int .i64 w,.int .i64 f,.int .i64 t,.bool fr]] wr λe w'=>e=.returned (.int .i64 2)∧Ev [] wr w':=by
 have E:=Ej;rcases c with c|c|c|c|c|c
 all_goals
  go_enter Tryz.func246,Tryz.ntmps246
  go_wp2
  all_goals
   go_ret
   exact ⟨rfl,(Ev.alloc _ _).nil⟩
def Bd (A n:Nat) (w f t:Int):Prop:=(0≤w∧w<A)∧(-1≤f∧f<n)∧-1≤t∧t<n
abbrev PM (w f t:Int) (fr:Bool):Obj:=.cells #[.int .i64 w,.int .i64 f,.int .i64 t,.bool fr] 177 (0,0)
theorem YD (wr:World)(aT aL ao:Option Addr)(O cT H cL n co:Nat)(w f t:Int)(fr:Bool)(c:Bd H n w f t)(p:Int×Int)(hp:p.1≠f∨(f = -1∧t = -1))
  (I:∀ X,Ev [] wr X→Calls Tryz.prog 232 #[.slice ao n co,.int .i64 w] X λe w'=>e=.returned (.tuple #[.int .i64 p.1,.int .i64 p.2])∧Ev [] X w') :
  Calls Tryz.prog 246 #[.slice aT O cT,.slice aL H cL,.slice ao n co,.agg #[.int .i64 w,.int .i64 f,.int .i64 t,.bool fr]] wr λe w'=>e=.returned (.int .i64 17)∧Ev [] wr w':=by
 have ae:=Ej;obtain ⟨⟨Y,Z⟩,⟨k3,k4⟩,k5,k6⟩:=c;obtain ⟨X,B⟩:∃ X,X=wr.alloc (PM w f t fr):=⟨_,rfl⟩
 have E:Ev [] wr X:=by rw [B];exact (Ev.alloc _ _).nil
 have hb:X.heap[wr.heap.size]? = some (PM w f t fr):=by rw [B];exact Aq _ _
 have G:=I X E;rw [B] at G;have J:p.1≠f∨(p.1=f∧f = -1∧t = -1):=by omega
 clear hp;rcases J with h1|⟨h1,h2,h3⟩
 ·go_enter Tryz.func246,Tryz.ntmps246
  go_wp2_with fail
  refine G.mono ?_;rintro e w' ⟨rfl,A⟩;rw [←B] at A;have U:w'.cell? ⟨wr.heap.size,1,none⟩=some (.int .i64 f):=by rw [Af (A.box hb (by simp))];rfl
  go_wp2
  go_ret
  exact ⟨rfl,E.ext A⟩
 ·subst h2;subst h3
  go_enter Tryz.func246,Tryz.ntmps246
  go_wp2_with fail
  refine G.mono ?_;rintro e w' ⟨rfl,A⟩;rw [←B] at A;have U:w'.cell? ⟨wr.heap.size,1,none⟩=some (.int .i64 (-1)):=by rw [Af (A.box hb (by simp))];rfl
  have y2:w'.cell? ⟨wr.heap.size,2,none⟩=some (.int .i64 (-1)):=by rw [Af (A.box hb (by simp))];rfl
  go_wp2
  go_ret
  exact ⟨rfl,E.ext A⟩
theorem M0n (wr:World)(aT aL ao:Option Addr)(J cT G cL n co:Nat)(w f t:Int)(fr:Bool)(c:w<0∨(G:Int)≤w∨f < -1∨(n:Int)≤f∨t < -1∨(n:Int)≤t)
  (U:∀ X,Ev [] wr X→Calls Tryz.prog 189 #[.slice aT J cT,.slice aL G cL,.slice ao n co] X λe w'=>e=.returned (.bool true)∧Ev [] X w') :
  Calls Tryz.prog 120 #[.slice aT J cT,.slice aL G cL,.slice ao n co,.agg #[.int .i64 w,.int .i64 f,.int .i64 t,.bool fr]] wr λe w'=>e=.returned (.tuple #[.slice none 0 0,.int .i64 2])∧Ev [] wr w':=by
 have Y:=Ej;obtain ⟨X,A⟩:∃ X,X=wr.alloc (PM w f t fr):=⟨_,rfl⟩
 have H:Ev [] wr X:=by rw [A];exact (Ev.alloc _ _).nil
 have hb:X.heap[wr.heap.size]? = some (PM w f t fr):=by rw [A];exact Aq _ _
 have I:=U X H;rw [A] at I
 go_enter Tryz.func120,Tryz.ntmps120
 go_wp2_with fail
 refine I.mono ?_;rintro e w' ⟨rfl,B⟩;rw [←A] at B;have E:=B.box hb (by simp);have Z:w'.cell? ⟨wr.heap.size,0,none⟩=some (.int .i64 w):=by rw [Af E];rfl
 have y1:w'.cell? ⟨wr.heap.size,1,none⟩=some (.int .i64 f):=by rw [Af E];rfl
 have y2:w'.cell? ⟨wr.heap.size,2,none⟩=some (.int .i64 t):=by rw [Af E];rfl
 have O:=H.ext B;rcases c with c|c|c|c|c|c
 all_goals
  go_wp2
  all_goals
   go_ret2
   exact ⟨rfl,O⟩
theorem xG (wr:World)(aT aL ao:Option Addr)(Z cT H cL n co:Nat)(w f t:Int)(fr:Bool)(c:Bd H n w f t)(p:Int×Int)(h1:-1≤p.1)(hp:p.1≠f∨(f = -1∧t = -1))
  (af:∀ X,Ev [] wr X→Calls Tryz.prog 189 #[.slice aT Z cT,.slice aL H cL,.slice ao n co] X λe w'=>e=.returned (.bool true)∧Ev [] X w')
  (hc:∀ X,Ev [] wr X→Calls Tryz.prog 74 #[.slice ao n co,.int .i64 w] X λe w'=>e=.returned (.tuple #[.int .i64 p.1,.int .i64 p.2])∧Ev [] X w') :
  Calls Tryz.prog 120 #[.slice aT Z cT,.slice aL H cL,.slice ao n co,.agg #[.int .i64 w,.int .i64 f,.int .i64 t,.bool fr]] wr λe w'=>e=.returned (.tuple #[.slice none 0 0,.int .i64 17])∧Ev [] wr w':=by
 have ap:=Ej;obtain ⟨⟨k1,k2⟩,⟨k3,k4⟩,k5,k6⟩:=c;obtain ⟨X,A⟩:∃ X,X=wr.alloc (PM w f t fr):=⟨_,rfl⟩
 have I:Ev [] wr X:=by rw [A];exact (Ev.alloc _ _).nil
 have hb:X.heap[wr.heap.size]? = some (PM w f t fr):=by rw [A];exact Aq _ _
 have Y:=af X I;rw [A] at Y
 go_enter Tryz.func120,Tryz.ntmps120
 go_wp2_with fail
 refine Y.mono ?_;rintro e E ⟨rfl,G⟩;rw [←A] at G;have B:=G.box hb (by simp);have y0:E.cell? ⟨wr.heap.size,0,none⟩=some (.int .i64 w):=by rw [Af B];rfl
 have y1:E.cell? ⟨wr.heap.size,1,none⟩=some (.int .i64 f):=by rw [Af B];rfl
 have y2:E.cell? ⟨wr.heap.size,2,none⟩=some (.int .i64 t):=by rw [Af B];rfl
 have J:=I.ext G;have ad:=hc E J
 go_wp2_with fail
 refine ad.mono ?_;rintro e w2 ⟨rfl,O⟩;have U:=O.box B (by simp);have y1:w2.cell? ⟨wr.heap.size,1,none⟩=some (.int .i64 f):=by rw [Af U];rfl
 have y2:w2.cell? ⟨wr.heap.size,2,none⟩=some (.int .i64 t):=by rw [Af U];rfl
 have ab:=J.ext O;have ae:(p.1==f)=false∨((p.1==f)=true∧p.1<0∧t<0):=by
  rcases hp with h|h;exact .inl (by simp [h]);by_cases e:p.1=f;exact .inr ⟨by simp [e],by omega,by omega⟩;exact .inl (by simp [e])
 rcases ae with h1|⟨h1,h2,h3⟩;all_goals
  go_wp2
  all_goals
   go_ret2
   exact ⟨rfl,ab⟩
theorem xH {T:G8}{L:List Int}{s:Bp}(h:Dc T L s){w:Int}{A:Nat}(fr:Bool){p:Int×Int}(hp:qA s w p)(hw:0≤w∧w<L.length)(B:A<s.length)(I:A<T.length) :
  ∃ R,(mv s w A fr)[A]? = some R∧Rg L.length R∧R.length≤1000∧(sm L R>T[A].2↔((A:Int)≠p.1∧T[A].2-sm L s[A]<vw L w.toNat)):=by
 have hT:=h.2.2.2.2.2.2 A s[A] T[A] B (M00 B) (M00 I);have H:=fm h fr (M00 B) (rfl:(A:Int)=(A:Int)) hw hp;have hrow:=AN h _ (M03 B);have E:Rg L.length (put w A fr A s[A]):=λx J=>by
  rcases IM.1 J with ⟨_,rfl⟩|⟨q,_⟩;exact hw;exact hrow.1 x q
 have O:=Gw E (PH hrow.2.1);have h3:=h.2.2.1;refine ⟨_,xk (M00 B),E,by omega,?_⟩;rw [H];by_cases q:p.1=(A:Int)
 rw [M1d q];exact ⟨λe=>by omega,λe=>absurd q.symm e.1⟩;rw [M1e q];exact ⟨λe=>⟨λG=>q G.symm,by omega⟩,λe=>by omega⟩
end Go.T
namespace Go.T
open Go Go.E Go.V Go.Proofs
section
def YE (E A:World) (B:List Nat) (g0 u co:Nat) (H:Option Addr) (n I:Nat) (s:List (List Int)) (a':Option Addr) (n' c':Nat) (ys:List Int):Prop:=
 A.cell? ⟨g0,u,none⟩=some (.slice H n I)∧A.frozen? ⟨g0,u,none⟩=false∧E.heap.size≤A.heap.size∧Ev B E A∧Ev B E (A.setCell ⟨g0,u,none⟩ (.slice a' n' c'))∧
  ∃ G,(∀ b∈G,b∈B∨E.heap.size≤b)∧Rows (A.setCell ⟨g0,u,none⟩ (.slice a' n' c')) G (some ⟨g0,0,none⟩) co (s.set u ys)
variable {B:List Nat}{u co:Nat}{s:List (List Int)}
theorem fJ {E J:World}{g0:Nat}{G:Option Addr}{O:Nat}{row ys:List Int}{a':Option Addr}{n' c':Nat}(hR:Rows E B (some ⟨g0,0,none⟩) co s)(hu:s[u]? = some row)(H:E.cell? ⟨g0,u,none⟩=some (.slice G row.length O))
  (A:Ev (Av G) E J)(hy:OwnS (AZ .i64) 3 J [] a' c' ys)(hn:∀ b∈Av a',b∈Av G∨E.heap.size≤b)(hl:n'=ys.length):YE E J B g0 u co G row.length O s a' n' c' ys:=by
 subst hl;obtain ⟨g',af,ag,e1,U,hf,_,ac,I,Z⟩:=BY hR hu;cases e1;rw [H] at U;obtain ⟨rfl,_,rfl⟩:=Value.slice.inj (M1x U);obtain ⟨p1,p2⟩:=HR hR hu H A hy hn;have Y:=C1 H;refine ⟨by rw [A.cell (a:=⟨g0,u,none⟩) Y Z];exact H,by rw [←hf];simp [World.frozen?,A.block g0 Y Z],A.size,A.sub I,p2.sub λb hb=>(M1y.1 hb).elim (λe=>by rw [e];exact ac) (I b),_,λb hb=>(M1b.1 hb).elim (λh=>(hn b h).imp (I b) id) .inl,p1⟩
variable {ao:Option Addr}
theorem M0o {G:World}{i:Nat}{row:List Int}(hR:Rows G B ao co s)(O:s[u]? = some row)(hi:i<row.length) :
  ∃ g0 A E,ao=some ⟨g0,0,none⟩∧G.cell? ⟨g0,u,none⟩=some (.slice A row.length E)∧
   Calls Tryz.prog 284 #[.slice A row.length E,.int .i64 i,.int .i64 ((i:Int)+1)] G λe U=>e=.returned (.slice A (row.length-1) E)∧YE G U B g0 u co A row.length E s A (row.length-1) E (row.take i++row.drop (i+1)):=by
 obtain ⟨g0,A,E,rfl,I,hf,ho,ac,ab,ad⟩:=BY hR O;refine ⟨g0,A,E,rfl,I,?_⟩;have J:(row.take i++row.drop (i+1)).length=row.length-1:=by simp;omega
 refine (xA jo (f:=284) rfl ⟨_,Tryz.func284,by kernel_rfl,by kernel_rfl⟩ ho (i:=i) (j:=(i:Int)+1) ⟨λe=>by rw [e] at hi;simp at hi,by omega,by omega,by omega⟩).run.mono λe U ⟨v,he,hv,Z,H⟩=>?_
 have Y:((i:Int)+1).toNat=i+1:=by omega
 rw [Y,M1i] at hv H;rw [J] at hv;exact ⟨by rw [he,hv],fJ hR O I Z (H []) (λb hb=>.inl hb) J.symm⟩
theorem Wz (w:World)(x:Int):OwnS (AZ .i64) 3 (w.alloc (.cells #[.int .i64 x] 3 (0,0))).drew [] (some ⟨w.heap.size,0,none⟩) 1 [x]:=by
 have hg:(w.alloc (.cells #[.int .i64 x] 3 (0,0))).drew.heap[w.heap.size]? = some (.cells #[.int .i64 x] 3 (0,0)):=Aq _ _;refine .inr ⟨w.heap.size,_,rfl,hg,M1g _,by unfold maxLen;omega,rfl,λk y hy=>?_⟩;cases k with
 | zero=>
  cases hy;refine ⟨[.int .i64 x],rfl,λm v hv=>?_⟩;cases m with
  | zero=>cases hv;rfl
  | succ m=>simp at hv
 | succ k=>simp at hy
theorem M0p {A:World}{row:List Int}(x:Int)(hR:Rows A B ao co s)(J:s[u]? = some row)(hl:row.length≤1000000) :
  ∃ g0 E G,ao=some ⟨g0,0,none⟩∧A.cell? ⟨g0,u,none⟩=some (.slice E row.length G)∧
   Calls Tryz.prog 285 #[.slice E row.length G,.int .i64 0,.slice (some ⟨A.heap.size,0,none⟩) 1 1] (A.alloc (.cells #[.int .i64 x] 3 (0,0))).drew λe O=>∃ a' c',e=.returned (.slice a' (row.length+1) c')∧YE A O B g0 u co E row.length G s a' (row.length+1) c' (x::row):=by
 obtain ⟨g0,E,G,rfl,I,hf,ho,ae,ad,af⟩:=BY hR J;refine ⟨g0,E,G,rfl,I,?_⟩;have H:Ev [] A (A.alloc (.cells #[.int .i64 x] 3 (0,0))).drew:=(Ev.alloc A _).nil.ext ⟨rfl,rfl,rfl,M1g _,λ_ _ _=>rfl⟩;have ac:OwnS (AZ .i64) 3 (A.alloc (.cells #[.int .i64 x] 3 (0,0))).drew [] E G row:=ho.evp (λ_ _ _ _ _ _ h=>h) H λ_ _ h=>(by cases h)
 refine (xB jp (f:=285) rfl ⟨_,Tryz.func285,by kernel_rfl,by kernel_rfl⟩ (T2:=3) rfl ac (Wz A x) (λb hb Z=>by simp only [Av,M19] at hb;have:=ho.lt b Z;omega) (by omega)).run.mono λe O ⟨v,he,a',c',hv,U,hn,ab,Y⟩=>?_
 have hs:A.heap.size≤(A.alloc (.cells #[.int .i64 x] 3 (0,0))).drew.heap.size:=H.size;exact ⟨a',c',by rw [he,hv];rfl,fJ hR J I (H.nil.then U λb hb=>.inl hb) (Y []) (λb hb=>(ab b hb).imp id λe=>by omega) (by simp)⟩
theorem qE {A:World}{row:List Int}(x:Int)(hR:Rows A B ao co s)(J:s[u]? = some row)(hl:row.length≤1000000) :
  ∃ g0 E G a' c' H,ao=some ⟨g0,0,none⟩∧A.cell? ⟨g0,u,none⟩=some (.slice E row.length G)∧
   (Builtin.append_ #[22,22] 22 #[.slice E row.length G,.slice (some ⟨A.heap.size,0,none⟩) 1 1]).run Tryz.prog (A.alloc (.cells #[.int .i64 x] 3 (0,0))).drew=.ok (.slice a' (row.length+1) c') H∧YE A H B g0 u co E row.length G s a' (row.length+1) c' (row++[x]):=by
 obtain ⟨g0,E,G,rfl,I,hf,ho,Y,U,Z⟩:=BY hR J;obtain ⟨a3,c3,H,r1,r2,r3,O⟩:=M0f A x ho (by omega);exact ⟨g0,E,G,a3,c3,H,rfl,I,by simpa using r1,fJ hR J I r2 O r3 (by simp)⟩
end
section
variable {u co:Nat}
theorem M0q {G:World}{B:List Nat}{ao:Option Addr}{i:Nat}{s:List (List Int)}{row:List Int}(hR:Rows G B ao co s)(hu:s[u]? = some row)(hi:i<row.length) :
  ∃ g0 r E A w3,ao=some ⟨g0,0,none⟩∧G.cell? ⟨g0,u,none⟩=some (.slice (some ⟨r,0,none⟩) row.length E)∧row.length≤E∧E≤9223372036854775807∧(if E=i+1 then (some ⟨r,0,none⟩:Option Addr) else some ⟨r,i+1,none⟩)=some A∧
   (Builtin.append_ #[22,22] 22 #[.slice (some ⟨r,0,none⟩) i E,.slice (some A) (row.length-(i+1)) (E-(i+1))]).run Tryz.prog G.drew=.ok (.slice (some ⟨r,0,none⟩) (i+(row.length-(i+1))) E) w3∧YE G w3 B g0 u co (some ⟨r,0,none⟩) row.length E s (some ⟨r,0,none⟩) (i+(row.length-(i+1))) E (row.take i++row.drop (i+1)):=by
 obtain ⟨g0,ai,E,rfl,Z,hf,ho,ay,ax,az⟩:=BY hR hu;obtain ⟨r,rfl⟩:∃ r,ai=some ⟨r,0,none⟩:=by
  rcases Dp ho with h|h;rw [h] at hi;simp at hi
  exact h
 obtain ⟨Y,O,q2,q3,q4,q5⟩:=H4 ho rfl;have d0:Ev [] G G.drew:=⟨rfl,rfl,rfl,M1g _,λ_ _ _=>rfl⟩
 obtain ⟨I,J⟩:∃ I:List Value,I=(row.drop (i+1)).map (Value.int .i64):=⟨_,rfl⟩
 have am:I.length=row.length-(i+1):=by rw [J];simp
 obtain ⟨A,hA,an⟩:∃ A:Addr,(if E=i+1 then (some ⟨r,0,none⟩:Option Addr) else some ⟨r,i+1,none⟩)=some A∧∀ t v,I[t]? = some v→G.drew.cell? (A.add t)=some v:=by
  by_cases h:E=i+1;refine ⟨⟨r,0,none⟩,by simp [h],λt v hv=>?_⟩;have:=(M09.1 hv).1;omega;refine ⟨⟨r,i+1,none⟩,by simp [h],λt v hv=>?_⟩;rw [J,M1n,M1C] at hv;obtain ⟨x,H,rfl⟩:=M01.1 hv;rw [AQ rfl];show G.cell? _=_
  rw [Af O];exact q5 _ _ H
 obtain ⟨i0,ak,U⟩:=e22.info;have ab:=run_append_room_cells (P:=Tryz.prog) G.drew 22 22 3 i0 Tryz.underlying22 ak r 0 i E A (row.length-(i+1)) (E-(i+1)) I (by rw [am,U.2.1,M29]) an (λv hv=>by rw [J] at hv;obtain ⟨x,_,rfl⟩:=M1L.1 hv;rfl) (by omega)
  (λt ht=>by rw [U.2.1];have:0+i*1+t<Y.size:=(by omega);show (G.cell? _).isSome=true;rw [Af O,M2b this];rfl) (λt ht=>by show G.frozen? _=false;simp [World.frozen?,O])
 rw [U.2.1,M29,M25] at ab;obtain ⟨c1,p1,p2,p3,p4,p5⟩:=B0 (g:=r) (T:=3) I i G.drew Y O (by omega);have aa:(row.take i++row.drop (i+1)).length=i+(row.length-(i+1)):=by simp;omega
 refine ⟨g0,r,E,A,_,rfl,Z,q2,by unfold maxLen at q3;omega,hA,ab,fJ hR hu Z (d0.nil.then p5 λb hb=>.inl hb) (IU [] p1 (by rw [aa];omega) q3 (by omega) λk x H=>?_) (λb hb=>.inl hb) aa.symm⟩;by_cases hk:k<i;rw [M1f (by simp;omega),M1r,M1d hk] at H;rw [p4 _ (.inl hk)];exact q5 _ _ H
 have ht:(row.take i).length=i:=by simp;omega
 rw [M1a (by omega),ht] at H;have al:=(M09.1 H).1;rw [M2f] at al;obtain ⟨m,rfl⟩:∃ m,k=i+m:=⟨k-i,by omega⟩
 rw [p3 m (by omega),J,M1n,←show i+m-i=m by omega,H];rfl
theorem oM {A:World}{B:List Nat}{ao:Option Addr}{s:List (List Int)}{row:List Int}(x:Int)(hR:Rows A B ao co s)(O:s[u]? = some row)(hl:row.length≤1000000) :
  ∃ g0 E G a' c' H,ao=some ⟨g0,0,none⟩∧A.cell? ⟨g0,u,none⟩=some (.slice E row.length G)∧
   (Builtin.append_ #[22,22] 22 #[.slice (some ⟨A.heap.size,0,none⟩) 1 1,.slice E row.length G]).run Tryz.prog (A.alloc (.cells #[.int .i64 x] 3 (0,0))).drew=.ok (.slice a' (row.length+1) c') H∧YE A H B g0 u co E row.length G s a' (row.length+1) c' (x::row):=by
 obtain ⟨g0,E,G,rfl,J,hf,ho,ad,ac,ae⟩:=BY hR O;have I:Ev [] A (A.alloc (.cells #[.int .i64 x] 3 (0,0))).drew:=(Ev.alloc A _).nil.ext ⟨rfl,rfl,rfl,M1g _,λ_ _ _=>rfl⟩;have hs:A.heap.size≤(A.alloc (.cells #[.int .i64 x] 3 (0,0))).drew.heap.size:=I.size;have Z:OwnS (AZ .i64) 3 (A.alloc (.cells #[.int .i64 x] 3 (0,0))).drew [A.heap.size] E G row:=ho.evp (λ_ _ _ _ _ _ h=>h) I λ_ _ h=>(by cases h)
 have hn:OwnS (AZ .i64) 3 (A.alloc (.cells #[.int .i64 x] 3 (0,0))).drew [A.heap.size] (some ⟨A.heap.size,0,none⟩) 1 [x]:=(Wz A x).evp (λ_ _ _ _ _ _ h=>h) (Ev.refl [] _) λ_ _ h=>(by cases h)
 obtain ⟨a',c',H,r1,r2,r3,r4,r5⟩:=DZ (P:=Tryz.prog) e22 22 hn (λb hb=>by simpa [Av] using hb) (Z.ro (λ_ h=>h) λb hb Y=>by simp only [M19] at Y;have:=ho.lt b hb;omega) (by simp;omega);have U:Ev [] A H:=I.then r2 λb hb=>by simp only [Av,M19] at hb;exact .inr (by omega)
 refine ⟨g0,E,G,a',c',H,rfl,J,by simpa [Nat.add_comm] using r1,fJ hR O J U.nil (r5 [] λ_ h=>(by cases h)) (λb hb=>.inr ?_) (by simp)⟩;rcases r4 b hb with h|h
 simp only [Av,M19] at h;omega
 omega
end
end Go.T
