/- Part E of the proof of TopConserved. No condition. -/
import Derived.Test.YtmihkgopplkcjaaGreatDoorD
set_option linter.all false
set_option maxRecDepth 1000000
set_option maxHeartbeats 0
namespace Go.T
open Go Go.E Go.V Go.Proofs
def W {α:Type} (o:Option α) (Q:α→Prop):Prop:=∃ a,o=some a∧Q a
section
variable {α β σ ρ τ : Type}
theorem W.ret {a:α}{Q:α→Prop}(h:Q a):W (some a) Q:=⟨a,rfl,h⟩
theorem M4c {o:Option α}{f:α→Option β}{P:α→Prop}{Q:β→Prop}(h:W o P)(k:∀ a,P a→W (f a) Q):W (o.bind f) Q:=by
 obtain ⟨a,rfl,h⟩:=h;exact k a h
theorem W.of {o:Option α}{a:α}{f:α→Option β}{Q:β→Prop}(e:o=some a)(h:W (f a) Q):W (o.bind f) Q:=by
 subst e;exact h
theorem W.mono {o:Option α}{P Q:α→Prop}(h:W o P)(k:∀ a,P a→Q a):W o Q:=by
 obtain ⟨a,e,h⟩:=h;exact ⟨a,e,k a h⟩
theorem M4o {o:Option α}{b:α}(h:W o λa=>a=b):o=some b:=by
 obtain ⟨a,e,rfl⟩:=h;exact e
theorem M48 {b:Bool}{x y:Option α}{Q:α→Prop}(h1:b=true→W x Q)(h2:b=false→W y Q):W (bif b then x else y) Q:=by
 cases b;exact h2 rfl;exact h1 rfl
theorem M4k {b:Bool}{x y:Option α}{Q:α→Prop}(hb:b=true)(h:W x Q):W (bif b then x else y) Q:=by subst hb;exact h
theorem M4g {b:Bool}{x y:Option α}{Q:α→Prop}(hb:b=false)(h:W y Q):W (bif b then x else y) Q:=by subst hb;exact h
theorem M49 {p:Prop} [Decidable p] {x y:Option α}{Q:α→Prop}(h1:p→W x Q)(h2:¬ p→W y Q):W (bif decide p then x else y) Q:=
 M48 (λh=>h1 (M1s h)) (λh=>h2 (M21 h))
theorem M4I {p:Prop} [Decidable p] {x y:Option α}{Q:α→Prop}(h1:¬ p→W x Q)(h2:p→W y Q):W (bif !(decide p) then x else y) Q:=
 M48 (λh=>h1 (M21 (by simpa using h))) (λh=>h2 (M1s (by simpa using h)))
theorem W.beq [BEq τ] [LawfulBEq τ] {a b:τ}{x y:Option α}{Q:α→Prop}(h1:a=b→W x Q)(h2:a≠b→W y Q):W (bif a==b then x else y) Q:=
 M48 (λh=>h1 (beq_iff_eq.1 h)) (λh=>h2 λe=>by rw [e,M3j] at h;cases h)
theorem M4i [BEq τ] [LawfulBEq τ] {a b:τ}{x y:Option α}{Q:α→Prop}(h1:a≠b→W x Q)(h2:a=b→W y Q):W (bif a != b then x else y) Q:=
 M48 (λh=>h1 (M2I.1 h)) (λh=>h2 (by simpa using h))
theorem M4q {b:Bool}{x y:Option α}{Q:α→Prop}(h1:b=false→W x Q)(h2:b=true→W y Q):W (bif !b then x else y) Q:=
 M48 (λh=>h1 (by simpa using h)) (λh=>h2 (by simpa using h))
theorem M4w {p:Prop} [Decidable p] {x y:Option α}{Q:α→Prop}(h:p)(k:W x Q):W (bif decide p then x else y) Q:=M4k (M1p h) k
theorem W.df {p:Prop} [Decidable p] {x y:Option α}{Q:α→Prop}(h:¬ p)(k:W y Q):W (bif decide p then x else y) Q:=M4g (M1K h) k
def BX (P:σ→Prop) (Q:ρ→Prop):Al σ ρ→Prop
 | .next t=>P t
 | .done x=>Q x
theorem W.nx {t:σ}{P:σ→Prop}{Q:ρ→Prop}(h:P t):W (some (Al.next t)) (BX P Q):=⟨_,rfl,h⟩
theorem M4a {x:ρ}{P:σ→Prop}{Q:ρ→Prop}(h:Q x):W (some (Al.done x)) (BX P Q):=⟨_,rfl,h⟩
theorem W.st {o:Option (Al σ ρ)}{f:σ→Option ρ}{P:σ→Prop}{Q:ρ→Prop}(h:W o (BX P Q))(k:∀ t,P t→W (f t) Q):W (o.bind (AF f)) Q:=by
 obtain ⟨r,rfl,h⟩:=h;cases r with
 | next t=>exact k t h
 | done x=>exact ⟨x,rfl,h⟩
theorem M4K {step:σ→Option (Al σ ρ)}{Q:ρ→Prop}(I:σ→Prop)(mu:σ→Nat)(h:∀ s,I s→W (step s) (BX (λA=>I A∧mu A<mu s) Q)) :
  ∀ (n:Nat) (s:σ),I s→mu s<n→W (Go.V.loopN step n s) Q
 | 0,s,_,hm=>absurd hm (M2M _)
 | n+1,s,hi,hm=>by
  obtain ⟨r,e,hr⟩:=h s hi;cases r with
  | next A=>
   obtain ⟨d,B,hd⟩:=M4K I mu h n A hr.1 (by have:=hr.2;omega);exact ⟨d,by simp only [Go.V.loopN,e,M2O,B],hd⟩
  | done d=>exact ⟨d,by simp only [Go.V.loopN,e,M2O],hr⟩
theorem W.run {step:σ→Option (Al σ ρ)}{Q:ρ→Prop}(I:σ→Prop)(mu:σ→Nat){s:σ}(hi:I s)(hm:mu s<18446744073709551616)(h:∀ s,I s→W (step s) (BX (λA=>I A∧mu A<mu s) Q)):W (std.run step s) Q:=
 M4K I mu h _ s hi hm
theorem A8 {n:Int}(h1:-9223372036854775808≤n)(h2:n<9223372036854775808):A1 n=n:=by
 have e:∀ n:Int,IntKind.i64.wrap n=if n%18446744073709551616≥9223372036854775808 then n%18446744073709551616-18446744073709551616 else n%18446744073709551616:=by
  intro n;show (if (IntKind.i64.signed&&decide (n%(2 ^ IntKind.i64.bits:Int)≥(2 ^ (IntKind.i64.bits-1):Int)))=true then _ else _)=_
  have h1:(2 ^ IntKind.i64.bits:Int)=18446744073709551616:=by decide
  have h2:(2 ^ (IntKind.i64.bits-1):Int)=9223372036854775808:=by decide
  rw [h1,h2];simp [IntKind.signed]
 show IntKind.i64.wrap n=n
 rw [e];split <;> omega
theorem M4e {step:σ→Option (Al σ ρ)}{Q:ρ→Prop}(n:Nat)(c:σ→Int)(I:Nat→σ→Prop){s:σ}(hn:n<4611686018427387904)(E:c s=0)(hi:I 0 s)
  (h:∀ (t:Nat) s,t≤n→c s=t→I t s→W (step s) (BX (λB=>t<n∧c B=A1 ((t:Int)+1)∧I (t+1) B) Q)):W (std.run step s) Q:=by
 refine W.run (λs=>∃ t:Nat,t≤n∧c s=t∧I t s) (λs=>n-(c s).toNat) ⟨0,by omega,E,hi⟩ (by omega) λs ⟨t,h1,h2,h3⟩=>W.mono (h t s h1 h2 h3) λr hr=>?_
 cases r with
 | next B=>
  obtain ⟨H,A,G⟩:=hr;rw [A8 (by omega) (by omega)] at A;exact ⟨⟨t+1,by omega,by rw [A];rfl,G⟩,by rw [A,h2];omega⟩
 | done d=>exact hr
theorem M4h {step:Int→Option (Al Int ρ)}{Q:ρ→Prop}(n:Nat)(I:Nat→Prop)(hn:n<4611686018427387904)(hi:I 0)
  (h:∀ (t:Nat),t≤n→I t→W (step (t:Int)) (BX (λA=>t<n∧A=A1 ((t:Int)+1)∧I (t+1)) Q)):W (std.run step 0) Q:=
 M4e n id (λt _=>I t) hn rfl hi λt s h1 h2 h3=>by
  have e:s=(t:Int):=h2;subst e;exact h t h1 h3
theorem M4B {step:σ→Option (Al σ ρ)}{Q:ρ→Prop}(n:Nat)(c:σ→Int)(I:Nat→σ→Prop){s:σ}(hn:n<4611686018427387904)(G:c s=n)(hi:I 0 s)
  (h:∀ (t:Nat) s,t≤n→c s=(n:Int)-t→I t s→W (step s) (BX (λA=>t<n∧c A=A1 ((n:Int)-t-1)∧I (t+1) A) Q)):W (std.run step s) Q:=by
 refine W.run (λs=>∃ t:Nat,t≤n∧c s=(n:Int)-t∧I t s) (λs=>(c s).toNat) ⟨0,by omega,by omega,hi⟩ (by omega) λs ⟨t,h1,h2,h3⟩=>W.mono (h t s h1 h2 h3) λr hr=>?_
 cases r with
 | next A=>
  obtain ⟨H,B,E⟩:=hr;rw [A8 (by omega) (by omega)] at B;exact ⟨⟨t+1,by omega,by omega,E⟩,by omega⟩
 | done d=>exact hr
theorem H1 (xs:List α)(i:Nat):idx xs (i:Int)=xs[i]?:=by
 unfold idx;rw [M1d (by omega)];simp
theorem M4b {xs:List α}{t:Nat}{f:α→Option β}{Q:β→Prop}(h:t<xs.length)(k:W (f xs[t]) Q):W ((idx xs (t:Int)).bind f) Q:=
 W.of (by rw [H1,M00 h]) k
theorem M4f {xs:List α}{i:Int}{f:α→Option β}{Q:β→Prop}(A:0≤i)(h1:i<xs.length)(k:∀ x,xs[i.toNat]? = some x→x∈xs→W (f x) Q):W ((idx xs i).bind f) Q:=by
 obtain ⟨t,rfl⟩:=M1j A;have h:t<xs.length:=by omega
 exact M4b h (k _ (by simp [M00 h]) (M03 h))
theorem Aw {xs:List α}{t:Nat}{x:α}(h:t<xs.length):A7 xs (t:Int) x=xs[t]:=by
 unfold A7;rw [show ((t:Int)).toNat=t from rfl,M00 h];rfl
theorem AX {xs:List α}{i:Int}{x y:α}(h:xs[i.toNat]? = some y):A7 xs i x=y:=by
 unfold A7;rw [h];rfl
theorem DP (xs:List α):0≤ln xs:=by unfold ln;omega
theorem M4d {xs ys:List α}{x y:Option β}{Q:β→Prop}(h:xs.length+ys.length≤4294967296)(k:W x Q):W (bif room xs ys then x else y) Q:=
 M4k (by unfold Go.T.room;exact M27 h) k
theorem W.mk {c:Int}{x y:Option β}{Q:β→Prop}(A:0≤c)(h1:c≤4294967296)(k:W x Q):W (bif Dh c then x else y) Q:=
 M4k (by unfold Dh;rw [M1p A,M1p h1];rfl) k
end
section
def Mk (b:Int) (k:List Int×Int):Prop:=0≤k.2∧k.2≤b
variable {b:Int}{k:List Int×Int}
theorem Mk.up {c:Int}(h:Mk b k)(hb:b≤c):Mk c k:=⟨h.1,M3I h.2 hb⟩
theorem Vc (x n:Int)(hn:0<n):-n<Int.tmod x n∧Int.tmod x n<n:=by
 rcases M3Y 0 x with h|h;have h1:=M3D x hn;have h2:0≤Int.tmod x n:=M3S n h;omega;have A:Int.tmod x n = -(Int.tmod (-x) n):=by rw [Int.neg_tmod];omega
 have h1:=M3D (-x) hn;have h2:0≤Int.tmod (-x) n:=M3S n (by omega);omega
variable {n:Int}
theorem At(hk:Mk b k)(hb:b<4611686018427387904)(B:0<n)(h1:n≤4611686018427387904) :
  W (U5 (n,k)) λr=>(0≤r.1∧r.1<n)∧Mk (b+1) r.2:=by
 obtain ⟨l,j⟩:=k;obtain ⟨A,E⟩:=hk;simp only at A E;have fin:∀ x:Int,W (bif decide (Int.tmod x n<0) then some (A1 (Int.tmod x n+n),l,A1 (j+1)) else some (Int.tmod x n,l,A1 (j+1))) λr=>(0≤r.1∧r.1<n)∧Mk (b+1) r.2:=λx=>by
  obtain ⟨h2,h3⟩:=Vc x n B;have e:A1 (j+1)=j+1:=A8 (by omega) (by omega);refine M49 (λh=>?_) (λh=>?_);refine W.ret ⟨?_,?_⟩;simp only;rw [A8 (by omega) (by omega)];omega;show 0≤A1 (j+1)∧A1 (j+1)≤b+1
  rw [e];omega;refine W.ret ⟨?_,?_⟩;simp only;omega;show 0≤A1 (j+1)∧A1 (j+1)≤b+1
  rw [e];omega
 have hne:(n != 0)=true:=M2I.2 (by omega);unfold U5 B15;simp only;refine M49 (λh=>?_) (λh=>?_);have hl:(ln l != 0)=true:=M2I.2 (by omega);refine M4k hl (M4f (M3S _ A) (M3D _ h) λv _ _=>?_);exact M4k hl (M4k hne (fin _));exact M4k hne (fin _)
theorem BK{xs:List Int}(hk:Mk b k)(hb:b<4611686018427387904)(B:0<xs.length)(h1:xs.length≤1000) :
  W (iz (xs,k)) λr=>r.1∈xs∧Mk (b+1) r.2:=by
 unfold iz B14;simp only;refine M4c (At (n:=ln xs) hk hb (by unfold ln;omega) (by unfold ln;omega)) λv hv=>?_
 exact M4f hv.1.1 hv.1.2 λx _ A=>W.ret ⟨A,hv.2⟩
def IJ (i:Nat):List UInt8:=[112,UInt8.ofNat (48+i / 10%10),UInt8.ofNat (48+i%10)]
theorem nF:∀ i:Nat,i<20→F16 (i:Int)=some (IJ i):=by decide +kernel
def SF (r:Int×Int×Int):Prop:=(1≤r.1∧r.1≤200)∧(0≤r.2.1∧r.2.1≤500)∧0≤r.2.2∧r.2.2≤250
theorem eW(hk:Mk b k)(hb:b<1000000) :
  W (F17 k) λr=>(r.1.length≤4∧∀ x∈r.1,SF x)∧Mk (b+20) r.2:=by
 unfold F17 B17;refine M4c (At hk (by omega) (by omega) (by omega)) λv hv=>?_
 obtain ⟨n,l,j⟩:=v;simp only at hv;obtain ⟨t,rfl⟩:=M1j hv.1.1;simp only;refine M4B t (λs=>s.2.1) (λi s=>(s.1.length=i∧∀ x∈s.1,SF x)∧Mk (b+1+3*i) (s.2.2.2,s.2.2.1)) (by omega) rfl ⟨⟨rfl,λx h=>by cases h⟩,hv.2.up (by omega)⟩ λi s hi E A=>?_
 obtain ⟨xs,c,kn,G⟩:=s;simp only at E A ⊢;refine M49 (λh=>?_) (λh=>?_)
 refine M4c (BK A.2 (by omega) (by simp) (by simp)) λH h2=>?_
 refine M4c (BK h2.2 (by omega) (by simp) (by simp)) λI h3=>?_
 refine M4c (BK h3.2 (by omega) (by simp) (by simp)) λJ B=>?_
 refine M4d (by have:=A.1.1;simp;omega) (W.nx ⟨by omega,by simp only;rw [E],⟨by simp [A.1.1],?_⟩,B.2.up (by omega)⟩);intro x hx;rcases M1b.1 hx with hx|hx
 exact A.1.2 x hx;rw [M19] at hx;subst hx;have a1:=h2.1;have a2:=h3.1;have a3:=B.1;simp only [M1y,M2o,M3u] at a1 a2 a3;unfold SF;simp only;omega
 refine M4a ⟨⟨by have:=A.1.1;simp only;omega,A.1.2⟩,A.2.up (by omega)⟩
def CB (r:Ba):Prop:=(1≤r.2.1∧r.2.1≤9)∧(0≤r.2.2.1∧r.2.2.1≤1000000)∧(0≤r.2.2.2.1∧r.2.2.2.1≤1000000)∧0≤r.2.2.2.2∧r.2.2.2.2≤1000000
theorem nG(hk:Mk b k)(hb:b<1000000) :
  W (F32 (n,k)) λr=>(r.1.1=n∧CB r.1)∧Mk (b+5) r.2:=by
 unfold F32 B32;simp only;refine M4c (At hk (by omega) (by omega) (by omega)) λv hv=>?_
 obtain ⟨c,J⟩:=v;simp only at hv ⊢;obtain ⟨I,A⟩:=hv;rw [A8 (by omega) (by omega)];have one:∀ {xs:List Int} {k:List Int×Int} {b':Int},Mk b' k→b'<2000000→0<xs.length→xs.length≤1000→(∀ x∈xs,0≤x∧x≤1000000)→W (iz (xs,k)) λr=>(0≤r.1∧r.1≤1000000)∧Mk (b'+1) r.2:=
  λh1 h2 h3 G H=>W.mono (BK h1 (by omega) h3 G) λr hr=>⟨H _ hr.1,hr.2⟩
 have two:∀ {m:Int} {k:List Int×Int} {b':Int},Mk b' k→b'<2000000→0<m→m≤100→W (U5 (m,k)) λr=>(0≤r.1∧r.1≤1000000)∧Mk (b'+1) r.2:=
  λh1 h2 h3 G=>W.mono (At h1 (by omega) h3 (by omega)) λr hr=>⟨by omega,hr.2⟩
 have m0:∀ {x y z:Int} {l:List Int} ,(∀ a∈([]:List Int),0≤a∧a≤1000000):=λa h=>by cases h
 refine M48 (λ_=>?_) λ_=>M48 (λ_=>?_) λ_=>M48 (λ_=>?_) λ_=>M48 (λ_=>?_) λ_=>M48 (λ_=>?_) λ_=>M48 (λ_=>?_) λ_=>M48 (λ_=>?_) λ_=>M48 (λ_=>?_) λ_=>?_
 refine M4c (one A (by omega) (by simp) (by simp) (by simp)) λB h1=>W.ret ⟨⟨rfl,?_⟩,h1.2.up (by omega)⟩
 unfold CB;simp only;omega;refine M4c (one A (by omega) (by simp) (by simp) (by simp)) λB h1=>W.ret ⟨⟨rfl,?_⟩,h1.2.up (by omega)⟩
 unfold CB;simp only;omega;refine M4c (one A (by omega) (by simp) (by simp) (by simp)) λB h1=>W.ret ⟨⟨rfl,?_⟩,h1.2.up (by omega)⟩
 unfold CB;simp only;omega;refine M4c (one A (by omega) (by simp) (by simp) (by simp)) λB h1=>W.ret ⟨⟨rfl,?_⟩,h1.2.up (by omega)⟩
 unfold CB;simp only;omega;refine M4c (one A (by omega) (by simp) (by simp) (by simp)) λB h1=>M4c (one h1.2 (by omega) (by simp) (by simp) (by simp)) λE h2=>M4c (two h2.2 (by omega) (by omega) (by omega)) λO h3=>W.ret ⟨⟨rfl,?_⟩,h3.2.up (by omega)⟩
 unfold CB;simp only;omega;refine M4c (one A (by omega) (by simp) (by simp) (by simp)) λB h1=>M4c (two h1.2 (by omega) (by omega) (by omega)) λE h2=>W.ret ⟨⟨rfl,?_⟩,h2.2.up (by omega)⟩
 unfold CB;simp only;omega;refine M4c (two A (by omega) (by omega) (by omega)) λB h1=>M4c (two h1.2 (by omega) (by omega) (by omega)) λE h2=>W.ret ⟨⟨rfl,?_⟩,h2.2.up (by omega)⟩
 unfold CB;simp only;omega;refine M4c (one A (by omega) (by simp) (by simp) (by simp)) λB h1=>W.ret ⟨⟨rfl,?_⟩,h1.2.up (by omega)⟩
 unfold CB;simp only;omega;refine M4c (one A (by omega) (by simp) (by simp) (by simp)) λB h1=>M4c (one h1.2 (by omega) (by simp) (by simp) (by simp)) λE h2=>W.ret ⟨⟨rfl,?_⟩,h2.2.up (by omega)⟩
 unfold CB;simp only;omega
end
section
def Qy (rs:List Ba):Prop:=rs.length≤3∧∀ (j:Nat) x,rs[j]? = some x→CB x∧10*(j:Int)+1≤x.1∧x.1≤10*(j:Int)+9
theorem W6 {α:Type}{xs:List α}{x y:α}{j:Nat}(h:(xs++[x])[j]? = some y):xs[j]? = some y∨(j=xs.length∧y=x):=by
 by_cases hj:j<xs.length;rw [M1f hj] at h;exact .inl h
 rw [M1a (by omega)] at h;have A:j-xs.length=0:=by
  rcases M30 (j-xs.length) with e|e;exact e;rw [M1h (by simp;omega)] at h;cases h
 rw [A] at h;simp at h;exact .inr ⟨by omega,h.symm⟩
variable {b:Int}
theorem SG{k:List Int×Int}(hk:Mk b k)(hb:b<900000) :
  W (F18 (3,k)) λr=>Qy r.1∧Mk (b+20) r.2:=by
 unfold F18 B18;simp only;refine M4c (At hk (by omega) (by decide) (by decide)) λv hv=>?_
 obtain ⟨n,l,j⟩:=v;simp only at hv;have H:A1 (3+1)=4:=by decide
 rw [H] at hv;obtain ⟨t,rfl⟩:=M1j hv.1.1;simp only;refine M4B t (λs=>s.2.1) (λi s=>(s.1.length=i∧∀ (j:Nat) x,s.1[j]? = some x→CB x∧10*(j:Int)+1≤x.1∧x.1≤10*(j:Int)+9)∧Mk (b+1+6*i) (s.2.2.2,s.2.2.1)) (by omega) rfl ⟨⟨rfl,λj x h=>by simp at h⟩,hv.2.up (by omega)⟩ λi s hi E A=>?_
 obtain ⟨xs,c,kn,I⟩:=s;simp only at E A ⊢;refine M49 (λh=>?_) (λh=>?_)
 refine M4c (At A.2 (by omega) (by omega) (by omega)) λG h2=>?_
 have hl:ln xs=(i:Int):=by unfold ln;rw [A.1.1]
 rw [hl];have e:A1 (A1 (A1 (10*(i:Int))+1)+G.1)=10*i+1+G.1:=by
  have:=h2.1;rw [A8 (n:=10*(i:Int)) (by omega) (by omega),A8 (n:=10*(i:Int)+1) (by omega) (by omega),A8 (by omega) (by omega)]
 rw [e];refine M4c (nG h2.2 (by omega)) λJ h3=>?_
 refine M4d (by have:=A.1.1;simp;omega) (W.nx ⟨by omega,by simp only;rw [E],⟨by simp [A.1.1],?_⟩,h3.2.up (by omega)⟩);intro j x B;rcases W6 B with B|⟨rfl,rfl⟩
 exact A.1.2 j x B;have:=h2.1;have:=h3.1.1;rw [A.1.1];exact ⟨h3.1.2,by omega,by omega⟩;refine M4a ⟨⟨by have:=A.1.1;simp only;omega,A.1.2⟩,A.2.up (by omega)⟩
structure BF (c:A2):Prop where
 l0:4≤c.1.length
 l1:c.1.length≤8
 tr:∀ (j:Nat) x,c.1[j]? = some x→x.1=IJ j∧500≤x.2∧x.2≤100000
 ru:Qy c.2.1
 t0:1≤c.2.2.1.length
 t1:c.2.2.1.length≤5
 tb:∀ x∈c.2.2.1,SF x
 sp:1≤c.2.2.2.1∧c.2.2.2.1≤200
 gr:0≤c.2.2.2.2∧c.2.2.2.2≤500
theorem Yr{k:List Int×Int}(x:Bool)(hk:Mk b k)(hb:b<100000) :
  W (F5 (x,k)) λr=>BF r.1∧Mk (b+100) r.2:=by
 unfold F5 B5;simp only;refine M4c (BK hk (by omega) (by simp) (by simp)) λv0 G=>?_
 refine M4c (BK G.2 (by omega) (by simp) (by simp)) λv1 h1=>?_
 refine M4c (BK h1.2 (by omega) (by simp) (by simp)) λv2 h2=>?_
 refine W.st (P:=λr=>(4≤r.2.2.length∧r.2.2.length≤8∧∀ (j:Nat) x,r.2.2[j]? = some x→x.1=IJ j∧500≤x.2∧x.2≤100000)∧Mk (b+20) (r.1,r.2.1)) ?_ ?_;refine M4c (At h2.2 (by omega) (by omega) (by omega)) λv3 h3=>?_
 obtain ⟨n,l,j⟩:=v3;simp only at h3 ⊢;obtain ⟨t,rfl⟩:=M1j h3.1.1;have e:A1 (4+(t:Int))=((4+t:Nat):Int):=by rw [A8 (by omega) (by omega)];omega
 rw [e];refine M4B (4+t) (λs=>s.1) (λi s=>(s.2.1.length=i∧∀ (j:Nat) x,s.2.1[j]? = some x→x.1=IJ j∧500≤x.2∧x.2≤100000)∧Mk (b+5+i) (s.2.2.2,s.2.2.1)) (by omega) rfl ⟨⟨rfl,λj x h=>by simp at h⟩,h3.2.up (by omega)⟩ λi s hi J A=>?_
 obtain ⟨c,xs,kn,kl⟩:=s;simp only at J A ⊢;refine M49 (λh=>?_) (λh=>?_)
 have hl:ln xs=(i:Int):=by unfold ln;rw [A.1.1]
 rw [hl];refine W.of (nF i (by omega)) ?_;refine M4c (BK A.2 (by omega) (by simp) (by simp)) λv5 I=>?_
 refine M4d (by have:=A.1.1;simp;omega) (W.nx ⟨by omega,by simp only;rw [J],⟨by simp [A.1.1],?_⟩,I.2.up (by omega)⟩);intro j x hx;rcases W6 hx with hx|⟨rfl,rfl⟩
 exact A.1.2 j x hx;have a1:=I.1;simp only [M1y,M2o,M3u] at a1;rw [A.1.1];exact ⟨rfl,by simp only;omega,by simp only;omega⟩
 exact M4a ⟨⟨by have:=A.1.1;simp only;omega,by have:=A.1.1;simp only;omega,A.1.2⟩,A.2.up (by omega)⟩;rintro ⟨l,n,tr⟩ ⟨⟨O,U,Y⟩,Z⟩;simp only at O U Y Z ⊢;refine M4c (eW Z (by omega)) λv8 B=>?_
 refine M4d (by have:=B.1.1;simp;omega) ?_;have a0:=G.1;have a1:=h1.1;have a2:=h2.1;simp only [M1y,M2o,M3u] at a0 a1 a2;have fin:∀ rs,Qy rs→BF (tr,rs,[(200,500,v2.1)]++v8.1,v0.1,v1.1):=λrs hr=>by
  refine ⟨O,U,Y,hr,by simp,by have:=B.1.1;simp;omega,?_,by simp only;omega,by simp only;omega⟩;intro x hx;rcases M1b.1 hx with hx|hx
  rw [M19] at hx;subst hx;unfold SF;simp only;omega
  exact B.1.2 x hx
 refine M48 (λ_=>?_) (λ_=>?_);refine M4c (SG B.2 (by omega)) λv9 E=>W.ret ⟨fin _ E.1,E.2.up (by omega)⟩
 refine M4c (At B.2 (by omega) (by omega) (by omega)) λv9 E=>?_
 refine M48 (λ_=>?_) (λ_=>?_);refine M4c (SG E.2 (by omega)) λah H=>W.ret ⟨fin _ H.1,H.2.up (by omega)⟩
 exact W.ret ⟨fin [] ⟨by simp,λj x h=>by simp at h⟩,E.2.up (by omega)⟩
end
theorem nH:∀ j:Nat,j<10→rC (IJ j)=some true:=by decide +kernel
theorem nI:∀ j:Nat,j<10→yw (IJ j)=some true:=by decide +kernel
theorem PF:∀ i:Nat,i<10→∀ j:Nat,j<10→IJ i=IJ j→i=j:=by decide +kernel
section
variable {c : A2} (h : BF c)
include h
theorem nJ {j:Nat}{x:Ba}(A:c.2.1[j]? = some x):ju x=some true:=by
 obtain ⟨⟨r1,r2,r3,B⟩,E,G⟩:=h.ru.2 j x A;have hj:j<c.2.1.length:=by
  rcases M1V j c.2.1.length with q|q;exact q;rw [M1h q] at A;cases A
 have hl:=h.ru.1;unfold ju rD;refine M4o (W.df (by omega) (W.df (by omega) (W.df (by omega) (W.df (by omega) (M4w (by omega) (M4w (by omega) (M4w (by omega) (M4w (by omega) (M4w (by omega) (W.ret ?_))))))))));exact M1p (by omega)
theorem nK {j:Nat}{x:Ba}(A:c.2.1[j]? = some x):kU x=some true:=by
 obtain ⟨⟨r1,r2,r3,B⟩,G,H⟩:=h.ru.2 j x A;have hj:j<c.2.1.length:=by
  rcases M1V j c.2.1.length with q|q;exact q;rw [M1h q] at A;cases A
 have hl:=h.ru.1;obtain ⟨n,k,a,b,d⟩:=x;simp only at r1 r2 r3 B G H;unfold kU u5;refine M4o (W.st (P:=λ_=>True) ?_ λ_ _=>M4w (by simp only;omega) (M4w (by simp only;omega) (M4w (by simp only;omega) (W.ret (M1p (by simp only;omega))))));refine M4h 3 (λ_=>True) (by omega) trivial λt ht _=>M49 (λq=>?_) (λq=>M4a trivial)
 have E:t<3:=by unfold ln at q;simp at q;omega
 refine M4b (by simp;omega) ?_;rw [Aw (by simp;omega)];have:0≤[a,b,d][t]'(by simp;omega)∧[a,b,d][t]'(by simp;omega)≤1000000:=by
  rcases (by omega:t=0∨t=1∨t=2) with rfl|rfl|rfl;exact r2;exact r3;exact B
 exact W.df (by simp only;omega) (W.df (by simp only;omega) (W.nx ⟨E,rfl,trivial⟩))
theorem W7 {i j:Nat}(hi:i<c.2.1.length)(hj:j<c.2.1.length)(A:i≠j):(c.2.1[i]'hi).1≠(c.2.1[j]'hj).1:=λe=>by
 have a:=(h.ru.2 i _ (M00 hi)).2;have b:=(h.ru.2 j _ (M00 hj)).2;rw [e] at a;omega
theorem eX:za c.2.1=some 0:=by
 have hl:=h.ru.1;unfold za B62;refine M4o (W.df (by unfold ln;omega) ?_);refine M4h c.2.1.length (λ_=>True) (by omega) trivial λt ht _=>M49 (λq=>?_) (λq=>M4a rfl)
 have A:t<c.2.1.length:=by unfold ln at q;omega
 refine M4b A (W.of (nJ h (M00 A)) (M4g rfl ?_));refine M4h t (λ_=>True) (by omega) trivial λi hi _=>M49 (λq=>?_) (λq=>M4a ⟨A,rfl,trivial⟩)
 refine M4b (by omega) (M4b A (M4g ?_ (W.nx ⟨by omega,rfl,trivial⟩)));exact M2Z.2 (W7 h (by omega) A (by omega))
theorem eY:zd c.2.2.1=some true:=by
 have h1:=h.t1;unfold zd B63;refine M4o (W.df (by unfold ln;omega) ?_);refine M4h c.2.2.1.length (λ_=>True) (by omega) trivial λt ht _=>M49 (λq=>?_) (λq=>M4a rfl)
 have A:t<c.2.2.1.length:=by unfold ln at q;omega
 obtain ⟨r1,r2,r3,B⟩:=h.tb _ (M03 A);exact M4b A (W.df (by omega) (M4b A (W.df (by omega) (M4b A (W.df (by omega) (M4b A (W.df (by omega) (M4b A (W.df (by omega) (M4b A (W.df (by omega) (W.nx ⟨A,rfl,trivial⟩))))))))))))
theorem f7:zU c.2.2.1=some true:=by
 have h1:=h.t1;unfold zU B52;refine M4o ?_;refine M4h c.2.2.1.length (λ_=>True) (by omega) trivial λt ht _=>M49 (λq=>?_) (λq=>M4a (M1p (by unfold ln;omega)))
 have A:t<c.2.2.1.length:=by unfold ln at q;omega
 obtain ⟨r1,r2,r3,B⟩:=h.tb _ (M03 A);exact M4b A (M4w (by omega) (M4g (by simp;omega) (M4w (by omega) (M4g (by simp;omega) (M4w (by omega) (M4g (by simp;omega) (W.nx ⟨A,rfl,trivial⟩)))))))
theorem xd {i j:Nat}(hi:i<c.1.length)(hj:j<c.1.length)(A:i≠j):(c.1[i]'hi).1≠(c.1[j]'hj).1:=λe=>by
 have a:=(h.tr i _ (M00 hi)).1;have b:=(h.tr j _ (M00 hj)).1;have:=h.l1;rw [a,b] at e;exact A (PF i (by omega) j (by omega) e)
theorem f8:zf c=some 0:=by
 have G:=h.l0;have h1:=h.l1;have h2:=h.sp;have h3:=h.gr;unfold zf B33;refine M4o (M4w (by unfold ln;omega) (M4w (by unfold ln;omega) (M4w (by omega) (M4w (by omega) (M4w (by omega) (W.st (P:=λb=>b=true) ?_ ?_))))));refine M4e c.1.length (λs=>s.2) (λ_ s=>s.1=true) (by omega) rfl (M1p (by omega)) λt s ht E B=>?_
 obtain ⟨b,i⟩:=s;simp only at E B;subst E B;refine M4k rfl (M49 (λq=>?_) (λq=>M4a rfl));have A:t<c.1.length:=by simp only [ln] at q;omega
 obtain ⟨r1,r2,r3⟩:=h.tr t _ (M00 A);refine M4b A (W.of (by rw [r1];exact nH t (by omega)) (M4k rfl (M4b A (M4w (by omega) (M4b A ?_)))));refine M4e t (λs=>s.2) (λ_ s=>s.1=true) (by omega) rfl (M1p (by omega)) λi s hi E B=>?_
 obtain ⟨b,j⟩:=s;simp only at E B;subst E B;refine M49 (λq=>?_) (λq=>M4a ⟨A,rfl,rfl⟩);have hit:i<t:=by simp only at q;omega
 refine M4k rfl (M4b (by omega) (M4b A (W.nx ⟨hit,rfl,?_⟩)));simp only [M2u,M2Z];exact xd h (by omega) A (by omega);rintro _ rfl;exact M4g rfl (W.of (eX h) (M4g rfl (W.of (eY h) (M4g rfl (W.ret rfl)))))
omit h in
theorem Vd {α:Type}{xs:List α}{r:Nat}(h2:r≤xs.length):sub xs 0 (r:Int)=some (xs.take r):=by
 unfold sub;rw [M1d (by omega)];simp
theorem f9:zS c.2.1=some 0:=by
 have hl:=h.ru.1;unfold zS B51;refine M4o (W.df (by unfold ln;omega) ?_);refine M4h c.2.1.length (λ_=>True) (by omega) trivial λt ht _=>M49 (λq=>?_) (λq=>M4a rfl)
 have A:t<c.2.1.length:=by unfold ln at q;omega
 refine M4b A (W.of (nK h (M00 A)) (M4g rfl (W.of (Vd (by omega)) ?_)));have e:Il (c.2.1.take t,c.2.1[t])=some (false,c.2.1[t]):=by
  unfold Il MI;refine M4o (M4c (P:=λr=>r=(-1,c.2.1[t])) ?_ λa B=>by subst B;exact W.ret rfl);unfold MG MF;refine M4h t (λ_=>True) (by omega) trivial λi hi _=>M49 (λq=>?_) (λq=>M4a rfl)
  have hit:i<t:=by unfold ln at q;simp at q;omega
  refine M4b (by simp;omega) (M4g ?_ (W.nx ⟨hit,rfl,trivial⟩));rw [M43];exact M2Z.2 (W7 h (by omega) A (by omega))
 exact W.of e (M4g rfl (W.nx ⟨A,rfl,trivial⟩))
theorem Qz:ua c=some 0:=by
 have H:=h.l0;have h1:=h.l1;have h2:=h.sp;have h3:=h.gr;unfold ua B24;refine M4o (W.df (by unfold ln;omega) (W.df (by unfold ln;omega) (W.df (by omega) (W.df (by omega) (W.df (by omega) (W.df (by omega) (W.st (P:=λ_=>True) ?_ ?_)))))));refine M4e c.1.length (λs=>s.1) (λt s=>∀ n v,D5 s.2 n=some v→∃ i,i<t∧n=IJ i) (by omega) rfl (λn v q=>by cases q) λt s ht G B=>?_
 obtain ⟨i,m⟩:=s;simp only at G B;subst G;refine M49 (λq=>?_) (λq=>M4a trivial);have E:t<c.1.length:=by simp only [ln] at q;omega
 obtain ⟨r1,r2,r3⟩:=h.tr t _ (M00 E);refine M4b E (W.of (by rw [r1];exact nI t (by omega)) (M4g rfl (M4g ?_ (W.df (by omega) (W.df (by omega) (W.nx ⟨E,rfl,?_⟩))))));unfold Ss;cases e:D5 m (c.1[t].1) with
 | none=>rfl
 | some v=>
  obtain ⟨j,hj,A⟩:=B _ _ e;rw [r1] at A;have:=PF t (by omega) j (by omega) A;omega
 intro n v q;simp only at q;rw [J3] at q
 split at q;rename_i e;exact ⟨t,by omega,by rw [eq_of_beq e,r1]⟩;obtain ⟨j,hj,A⟩:=B _ _ q;exact ⟨j,by omega,A⟩;intro _ _;exact W.of (f9 h) (M4g rfl (W.of (f7 h) (M4g rfl (W.ret rfl))))
abbrev zY (n:Nat):AH:=([],List.replicate n [],[],false,([],([],0),((0,[]),[]),0,[],0),false)
theorem xe:F22 c=some (zY c.1.length,0):=by
 have h1:=h.l1;unfold F22 B22;refine M4o (W.of (Qz h) (M4g rfl (W.mk (by unfold ln;omega) (by unfold ln;omega) (W.ret ?_))));unfold ln;rfl
theorem xf:F19 c=some (zY c.1.length,0):=by
 have h1:=h.l1;unfold F19 B19;refine M4o (W.of (f8 h) (M4g rfl ?_));refine M4e c.1.length (λs=>s.1) (λt s=>s.2=List.replicate t []) (by omega) rfl rfl λt s ht E B=>?_
 obtain ⟨i,m⟩:=s;simp only at E B;subst E B;refine M49 (λq=>?_) (λq=>?_)
 have A:t<c.1.length:=by simp only [ln] at q;omega
 exact M4d (by simp;omega) (W.nx ⟨A,rfl,by simp only;rw [List.replicate_succ']⟩);have A:t=c.1.length:=by simp only [ln] at q;omega
 subst A;exact M4a rfl
end
section
theorem BQ (n:Int):0≤IntKind.u8.wrap n∧IntKind.u8.wrap n<256:=by
 have e:IntKind.u8.wrap n=n%256:=by
  simp [IntKind.wrap,IntKind.signed,IntKind.bits]
 rw [e];omega
def Bys (xs:List Int):Prop:=∀ x∈xs,0≤x∧x<256
theorem Bys.nil:Bys []:=λx h=>by cases h
theorem Bys.app {xs ys:List Int}(h:Bys xs)(k:Bys ys):Bys (xs++ys):=λx A=>(M1b.1 A).elim (h x) (k x)
theorem Bys.cons {x:Int}{xs:List Int}(h:0≤x∧x<256)(k:Bys xs):Bys (x::xs):=λy hy=>by
 rcases M1y.1 hy with rfl|hy;exact h;exact k y hy
theorem M4L (s:List UInt8):Bys (ofB s):=λx A=>by
 unfold Go.E.ofB at A;obtain ⟨b,_,rfl⟩:=M1L.1 A;have:=b.toNat_lt;omega
theorem HK (s:List UInt8):(Go.E.ofB s).length=s.length:=by unfold Go.E.ofB;simp
theorem Bl (s:List Int):(Go.E.E5 s).length=s.length:=by unfold Go.E.E5;simp
variable {i:Int}
theorem M4v {α β:Type}{xs:List α}{n:Nat}{f:α→Option β}{Q:β→Prop}(hi:i=n)(h:n<xs.length)(k:∀ x,xs[n]? = some x→W (f x) Q):W ((Go.V.idx xs i).bind f) Q:=by
 subst hi;exact M4b h (k _ (M00 h))
theorem fa {s:List UInt8}(h:s.length≤4294967296):iV s=true:=by unfold iV;exact M27 h
variable {b:Int}{k:List Int×Int}
theorem Yt {n:Int}(hk:Mk b k)(hb:b<10000000)(E:0≤n)(h1:n≤100) :
  W (jw (n,k)) λr=>r.1.length=n.toNat∧Mk (b+n) r.2:=by
 obtain ⟨l,j⟩:=k;obtain ⟨m,rfl⟩:=M1j E;unfold jw rF;simp only;refine W.mk (by omega) (by omega) (M4e m (λs=>s.1) (λt s=>s.2.2.2.length=m∧Mk (b+t) (s.2.2.1,s.2.1)) (by omega) rfl ⟨by simp,hk.up (by omega)⟩ λt s ht B A=>?_);obtain ⟨i,kn,G,xs⟩:=s;simp only at B A ⊢;subst B;refine M49 (λq=>?_) (λq=>?_)
 refine M4c (At A.2 (by omega) (by omega) (by omega)) λv hv=>?_
 refine M4b (by omega) (W.nx ⟨by omega,rfl,by simp [A.1],?_⟩);exact hv.2.up (by omega);refine M4a ⟨?_,A.2.up (by omega)⟩;simp only [Bl];omega
theorem W8 (x:List UInt8)(n:Int)(hn:n≤100):W (cN (x,n)) λr=>r=true→ln x=n:=by
 unfold cN rH;simp only;refine M4i (λ_=>W.ret λh=>by cases h) (λe=>?_);refine M4h x.length (λ_=>True) (by unfold ln at e;omega) trivial λt ht _=>M49 (λq=>?_) (λq=>M4a λ_=>e)
 have A:t<x.length:=by unfold ln at e;omega
 exact M4b A (M48 (λ_=>M4a λh=>by cases h) λ_=>M4b A (M48 (λ_=>M4a λh=>by cases h) λ_=>W.nx ⟨A,rfl,trivial⟩))
theorem W9 (x:List UInt8)(n:Int)(B:0≤n)(h1:n≤x.length)(G:n≤100):W (cP (x,n)) λr=>True:=by
 obtain ⟨m,rfl⟩:=M1j B;unfold cP rI;simp only;refine M4e m (λs=>s.2) (λt s=>True) (by omega) rfl trivial λt s ht A E=>?_
 obtain ⟨a,i⟩:=s;simp only at A ⊢;subst A;refine M49 (λq=>?_) (λq=>M4a trivial);exact M4b (by omega) (M48 (λ_=>M48 (λ_=>W.nx ⟨by omega,rfl,trivial⟩) λ_=>W.nx ⟨by omega,rfl,trivial⟩) λ_=>W.nx ⟨by omega,rfl,trivial⟩)
theorem nL (x:List UInt8):W (cQ x) λr=>True:=by
 unfold cQ rJ;refine M4c (W8 x 11 (by omega)) λv hv=>M48 (λ_=>W.ret trivial) λh=>?_
 have e:=hv (by simpa using h);unfold ln at e;exact M4c (W9 x 11 (by omega) (by omega) (by omega)) λ_ _=>W.ret trivial
theorem Yu(hk:Mk b k)(hb:b<10000000) :
  W (F56 (i,k)) λr=>r.1.length=12∧Mk (b+11) r.2:=by
 unfold F56 B56;simp only;refine M4c (Yt hk hb (by omega) (by omega)) λv hv=>?_
 have hl:v.1.length=11:=hv.1;refine M4k (fa (by omega)) ?_;have key:∀ s:List Int,s.length=11→W ((cQ (E5 s)).bind λA=>bif Go.T.room (E5 s) (E5 ([IntKind.u8.wrap (A1 (48+A.1))])) then some (E5 s++(E5 ([IntKind.u8.wrap (A1 (48+A.1))])),v.2) else none) λr=>r.1.length=12∧Mk (b+11) r.2:=λs hs=>by
  refine M4c (nL _) λA _=>M4d (by simp [Bl,hs]) (W.ret ⟨by simp [Bl,hs],hv.2⟩)
 refine M4v (n:=8) rfl (by rw [HK];omega) λ_ _=>M4v (n:=9) rfl (by simp [HK];omega) λ_ _=>M4v (n:=10) rfl (by simp [HK];omega) λ_ _=>?_
 exact key _ (by simp [HK,hl])
theorem fc(hk:Mk b k)(hb:b<10000000):W (F57 k) λr=>r.1.length≤12∧Mk (b+1) r.2:=by
 unfold F57 B57;refine M4c (At hk (by omega) (by omega) (by omega)) λv hv=>?_
 refine M4f hv.1.1 hv.1.2 λx e A=>W.ret ⟨?_,hv.2⟩
 rw [AX e];simp only [M1y,M2o,M3u] at A;rcases A with rfl|rfl|rfl|rfl|rfl|rfl|rfl|rfl|rfl|rfl <;> simp
def Jv (w:A6):Prop:=w.1.length<4611686018427387904∧w.2.2.2.2.2.2.2.length<4611686018427387904
theorem fd(hk:Mk b k)(hb:b<1000000):W (F30 (i,k)) λr=>Jv r.1∧Mk (b+30) r.2:=by
 unfold F30 B30;refine M4c (Yu hk (by omega)) λH A=>?_
 refine M4c (BK A.2 (by omega) (by simp) (by simp)) λI h1=>?_
 refine M4c (BK h1.2 (by omega) (by simp) (by simp)) λJ h2=>?_
 refine M4c (BK h2.2 (by omega) (by simp) (by simp)) λO h3=>?_
 refine M4c (At h3.2 (by omega) (by omega) (by omega)) λU E=>?_
 refine M4c (fc E.2 (by omega)) λY B=>?_
 refine W.st (P:=λ_=>True) ?_ λv7 _=>M4c (At B.2 (by omega) (by omega) (by omega)) λv8 G=>W.ret ⟨⟨by have:=A.1;(try simp only);omega,by have:=B.1;(try simp only);omega⟩,G.2.up (by omega)⟩
 refine M4v (n:=4) rfl (by omega) λZ _=>?_
 exact M48 (λ_=>W.nx trivial) λ_=>M48 (λ_=>W.nx trivial) λ_=>M48 (λ_=>W.nx trivial) λ_=>W.nx trivial
theorem nM (x:List UInt8):W (jB x) λr=>r=0→x.length=12:=by
 unfold jB rL;refine M4c (W8 x 12 (by omega)) λv hv=>M48 (λ_=>W.ret λh=>by cases h) λh=>?_
 have e:=hv (by simpa using h);unfold ln at e;refine M4v (n:=11) rfl (by omega) λ_ _=>M4c (W9 x 11 (by omega) (by omega) (by omega)) λ_ _=>?_
 exact M48 (λ_=>W.ret λh=>by omega) λ_=>W.ret λ_=>by omega
theorem nN (x:List UInt8):W (jD x) λr=>r.2=0→x.length=12:=by
 unfold jD rN;refine M4c (nM x) λv hv=>M4i (λh=>W.ret λq=>absurd q h) λh=>?_
 have e:=hv h;refine M4v (n:=4) rfl (by omega) λ_ _=>?_
 exact M48 (λ_=>W.ret λ_=>e) λ_=>M48 (λ_=>W.ret λ_=>e) λ_=>M48 (λ_=>W.ret λ_=>e) λ_=>M48 (λ_=>W.ret λ_=>e) λ_=>M48 (λ_=>W.ret λ_=>e) λ_=>W.ret λ_=>e
theorem Ve (x:List UInt8)(E:x.length<4611686018427387904):W (rC x) λr=>r=true→x.length≤12:=by
 unfold rC B61;refine W.st (P:=λ_=>True) ?_ λ_ _=>M48 (λ_=>W.ret λh=>by have:=M1s h;unfold ln at this;omega) λ_=>W.ret λh=>by cases h
 have f:∀ {P:Int→Prop},W (some (Al.done (Al.done false):Al Int (Al PUnit Bool))) (BX P (BX (λ_=>True) λr=>r=true→x.length≤12)):=λ{P}=>M4a (λh=>by cases h)
 refine M4h x.length (λ_=>True) (by omega) trivial λt ht _=>M49 (λq=>?_) (λq=>M4a trivial)
 have A:t<x.length:=by unfold ln at q;omega
 have n:W (some (Al.next (A1 ((t:Int)+1)):Al Int (Al PUnit Bool))) (BX (λB=>t<x.length∧B=A1 ((t:Int)+1)∧True) (BX (λ_=>True) λr=>r=true→x.length≤12)):=W.nx ⟨A,rfl,trivial⟩;refine M4b A (M48 (λ_=>M4b A (M48 (λ_=>n) λ_=>?_)) λ_=>?_);exact M4b A (M48 (λ_=>M4b A (M48 (λ_=>f) λ_=>n)) λ_=>f);exact M4b A (M48 (λ_=>M4b A (M48 (λ_=>f) λ_=>n)) λ_=>f)
def FitW (w:A6):Prop:=w.1.length=12∧w.2.2.2.2.2.2.2.length≤12∧80≤w.2.1∧w.2.1≤400
theorem nO (w:A6)(hw:Jv w):W (jF w) λr=>r=0→FitW w:=by
 unfold jF rP;refine M4c (nN w.1) λv hv=>M4i (λh=>W.ret λq=>absurd q h) λh=>?_
 have e:=hv h;refine W.st (P:=λr=>80≤r.2) (M48 (λ_=>W.nx (by simp)) λ_=>M48 (λ_=>W.nx (by simp)) λ_=>W.nx (by simp)) λB A=>?_
 refine M48 (λ_=>W.ret λh=>by omega) λ_=>M49 (λ_=>W.ret λh=>by omega) λa=>M49 (λ_=>W.ret λh=>by omega) λb=>M49 (λ_=>W.ret λh=>by omega) λ_=>M49 (λ_=>W.ret λh=>by omega) λ_=>M49 (λ_=>W.ret λh=>by omega) λ_=>M49 (λ_=>W.ret λh=>by omega) λ_=>M49 (λ_=>W.ret λh=>by omega) λ_=>M49 (λ_=>W.ret λh=>by omega) λ_=>?_
 refine M4c (Ve _ hw.2) λE h2=>M4q (λ_=>W.ret λh=>by omega) λh3=>W.ret λ_=>⟨e,h2 h3,by omega,by omega⟩
def M5f (l:List A6):Prop:=∀ (i j:Nat) (hi:i<l.length) (hj:j<l.length),l[i].1=l[j].1→i=j
theorem QB (l:List A6)(hl:∀ w∈l,Jv w):W (rS l) λr=>r=0→l.length≤96∧(∀ w∈l,FitW w)∧M5f l:=by
 unfold rS B64;refine M49 (λ_=>W.ret λh=>by omega) λE=>?_
 have E:l.length≤96:=by unfold ln at E;omega
 refine M4h l.length (λt=>(∀ i (hi:i<l.length),i<t→FitW l[i])∧∀ i j (hi:i<l.length) (hj:j<l.length),j<t→i<j→l[i].1≠l[j].1) (by omega) ⟨λi _ h=>by omega,λi j _ _ h=>by omega⟩ λt ht A=>M49 (λq=>?_) (λq=>M4a λ_=>⟨E,λw hw=>?_,λi j hi hj e=>?_⟩)
 have B:t<l.length:=by unfold ln at q;omega
 refine M4b B (M4c (nO _ (hl _ (M03 B))) λv hv=>M4i (λh=>M4a λq=>absurd q h) λh=>?_);refine M4h t (λu=>∀ i (hi:i<l.length),i<u→l[i].1≠l[t].1) (by omega) (λi _ h=>by omega) λu I G=>M49 (λq=>?_) (λq=>M4a ⟨B,rfl,λi hi h2=>?_,λi j hi hj h2 h3=>?_⟩)
 have H:u<t:=by omega
 refine M4b (by omega) (M4b B (W.beq (λ_=>M4a λh=>by omega) λh=>W.nx ⟨H,rfl,λi hi h2=>?_⟩));by_cases e:i=u;subst e;exact h;exact G i hi (by omega);by_cases e:i=t;subst e;exact hv h;exact A.1 i hi (by omega);by_cases e:j=t;subst e;exact G i hi (by omega);exact A.2 i j hi hj (by omega) h3;have:t=l.length:=by unfold ln at q;omega
 subst this;obtain ⟨i,hi,rfl⟩:=M1o.1 hw;exact A.1 i hi hi;have:t=l.length:=by unfold ln at q;omega
 subst this;rcases M3a i j with h|h|h
 exact absurd e (A.2 i j hi hj hj h);exact h;exact absurd e.symm (A.2 j i hj hi hi h)
theorem fe (b:List Int)(hb:b.length<4611686018427387904):W (zh b) λ_=>True:=by
 unfold zh B65;refine M4e b.length (λs=>s.2) (λ_ _=>True) hb rfl trivial λt s ht A _=>?_
 obtain ⟨a,i⟩:=s;simp only at A ⊢;subst A;exact M49 (λq=>M4b (by unfold ln at q;omega) (W.nx ⟨by unfold ln at q;omega,rfl,trivial⟩)) λq=>M4a trivial
end
section
theorem Bm {α ρ:Type}(p:α→Bool)(dn:Nat→α→ρ)(A:ρ):∀ (xs:List α) (k:Nat),
  (∃ i,∃ h:i<xs.length,p xs[i]=true∧(∀ j (hj:j<xs.length),j<i→p xs[j]=false)∧C5 p dn A xs k=dn (k+i) xs[i])∨((∀ a∈xs,p a=false)∧C5 p dn A xs k=A)
 | [],k=>.inr ⟨λa h=>(by cases h),rfl⟩
 | a::l,k=>by
  unfold C5;cases e:p a with
  | true=>exact .inl ⟨0,by simp,e,λj _ h=>by omega,rfl⟩
  | false=>
   rcases Bm p dn A l (k+1) with ⟨i,h,h1,h2,h3⟩|⟨h1,h2⟩;refine .inl ⟨i+1,by simp;omega,by simpa using h1,λj hj B=>?_,?_⟩;cases j with
   | zero=>exact e
   | succ j=>simpa using h2 j (by simp at hj;omega) (by omega)
   rw [show k+(i+1)=k+1+i by omega];exact h3;exact .inr ⟨λb hb=>(M1y.1 hb).elim (λq=>by rw [q];exact e) (h1 b),h2⟩
variable {ρ:Type}{t:Nat}
theorem PG {α:Type}(p:α→Bool)(dn:Nat→α→ρ)(A:ρ){xs:List α}(h:t<xs.length):C5 p dn A (xs.drop t) t=bif p xs[t] then dn t xs[t] else C5 p dn A (xs.drop (t+1)) (t+1):=by
 rw [M2c h];rfl
theorem W.fst {α:Type}{xs:List α}(p:α→Bool)(dn:Nat→α→ρ)(A:ρ){step:Int→Option (Al Int ρ)}(hn:xs.length<4611686018427387904)
  (hs:∀ (t:Nat)(ht:t<xs.length),step (t:Int)=bif p xs[t] then some (.done (dn t xs[t])) else some (.next (A1 ((t:Int)+1))))(E:step (xs.length:Int)=some (.done A)) :
  std.run step 0=some (C5 p dn A xs 0):=by
 refine M4o (M4h xs.length (λt=>C5 p dn A xs 0=C5 p dn A (xs.drop t) t) hn (by simp) λt ht B=>?_);by_cases h:t<xs.length;rw [hs t h];refine M48 (λq=>M4a ?_) (λq=>W.nx ⟨h,rfl,?_⟩);rw [B,PG p dn A h,q];rfl;rw [B,PG p dn A h,q];rfl;have e:t=xs.length:=by omega
 subst e;rw [E];exact M4a (by rw [B,List.drop_length];rfl)
theorem HL {α:Type}{xs:List α}(h:t<xs.length):decide ((t:Int)<ln xs)=true:=M1p (by unfold ln;omega)
theorem HN {α:Type}{xs:List α}:decide ((xs.length:Int)<ln xs)=false:=M1K (by unfold ln;omega)
theorem CC {α:Type}{xs:List α}(h:t<xs.length):Go.V.idx xs (t:Int)=some xs[t]:=by rw [H1,M00 h]
theorem BR {α β:Type}(a:α)(f:α→Option β):(some a).bind f=f a:=by
 have h:∀ o,o=some a→o.bind f=f a:=λo h=>by subst h;rfl
 exact h _ rfl
theorem Wa {α:Type} [BEq α] [LawfulBEq α] (a b:α):(a==b)=(b==a):=by
 cases h:(a==b) with
 | true=>have:=eq_of_beq h;subst this;exact h.symm
 | false=>
  cases k:(b==a) with
  | true=>have:=eq_of_beq k;subst this;rw [h] at k;cases k
  | false=>rfl
theorem Ct {α:Type}{xs:List α}(hd:xs.Nodup){i j:Nat}(hi:i<xs.length)(hj:j<xs.length)(e:xs[i]=xs[j]):i=j:=by
 rcases M3a i j with h|h|h;exact absurd e (M2d.1 hd i j hi hj h);exact h;exact absurd e.symm (M2d.1 hd j i hj hi h)
section
variable {α : Type} [BEq α] [LawfulBEq α]
def xg (xs:List α) (x:α):Bool:=C5 (λa=>a==x) (λ_ _=>true) false xs 0
theorem Du (xs:List α)(x:α):(∃ i,∃ h:i<xs.length,xs[i]=x∧(∀ j (hj:j<xs.length),j<i→xs[j]≠x)∧BI xs x=i)∨(x∉xs∧BI xs x = -1):=by
 rcases Bm (λa=>a==x) (λi _=>(i:Int)) (-1) xs 0 with ⟨i,h,h1,h2,h3⟩|⟨h1,h2⟩;exact .inl ⟨i,h,eq_of_beq h1,λj hj A e=>by have:=h2 j hj A;simp [e] at this,by unfold BI;rw [h3];simp⟩;exact .inr ⟨λB=>by have:=h1 x B;simp at this,h2⟩
theorem Ea {xs:List α}{x:α}:0≤BI xs x↔x∈xs:=by
 rcases Du xs x with ⟨i,h,h1,h2,h3⟩|⟨h1,h2⟩;exact ⟨λ_=>h1 ▸ M03 h,λ_=>by omega⟩;exact ⟨λq=>by omega,λq=>absurd q h1⟩
theorem IK {xs:List α}{x:α}(h:x∈xs):∃ i:Nat,∃ hi:i<xs.length,xs[i]=x∧BI xs x=i:=by
 rcases Du xs x with ⟨i,h,h1,h2,h3⟩|⟨h1,h2⟩;exact ⟨i,h,h1,h3⟩;exact absurd h h1
theorem fg {xs:List α}{x:α}(h:x∉xs):BI xs x = -1:=by
 rcases Du xs x with ⟨i,A,h1,h2,h3⟩|⟨h1,h2⟩;exact absurd (h1 ▸ M03 A) h;exact h2
theorem nP {xs:List α}(hd:xs.Nodup){i:Nat}(h:i<xs.length):BI xs xs[i]=i:=by
 rcases Du xs xs[i] with ⟨j,A,h1,h2,h3⟩|⟨h1,h2⟩;rw [h3,Ct hd A h h1];exact absurd (M03 h) h1
theorem nQ [DecidableEq α] (xs:List α)(x:α):xg xs x=decide (x∈xs):=by
 rcases Bm (λa=>a==x) (λ_ _=>true) false xs 0 with ⟨i,h,h1,h2,h3⟩|⟨h1,h2⟩;unfold xg;rw [h3];exact (M1p ((eq_of_beq h1) ▸ M03 h)).symm;unfold xg;rw [h2];exact (M1K (λA=>by have:=h1 x A;simp at this)).symm
end
theorem QC (xs:List Int)(x:Int)(hn:xs.length<4611686018427387904):ym (xs,x)=some (decide (x∈xs)):=by
 rw [←nQ];refine W.fst (xs:=xs) _ _ _ hn (λt ht=>?_) ?_;simp only [q,nx,dn,ib,HL ht,M2B,CC ht,BR];simp only [q,nx,dn,ib,HN,M2D]
theorem Dl (xs:List Int)(x:Int)(hn:xs.length<4611686018427387904):ML (xs,x)=some (BI xs x):=by
 refine W.fst (xs:=xs) _ _ _ hn (λt ht=>?_) ?_;simp only [q,nx,dn,ib,HL ht,M2B,CC ht,BR,Wa x];simp only [q,nx,dn,ib,HN,M2D]
theorem nR (xs:List Int)(x:Int)(hn:xs.length<4611686018427387904):sN (xs,x)=some (BI xs x):=by
 refine W.fst (xs:=xs) _ _ _ hn (λt ht=>?_) ?_;simp only [q,nx,dn,ib,HL ht,M2B,CC ht,BR];simp only [q,nx,dn,ib,HN,M2D]
theorem Km (xs:List (List UInt8))(x:List UInt8)(hn:xs.length<4611686018427387904):Y7 (xs,x)=some (BI xs x):=by
 refine W.fst (xs:=xs) _ _ _ hn (λt ht=>?_) ?_;simp only [q,nx,dn,ib,HL ht,M2B,CC ht,BR,Wa x];simp only [q,nx,dn,ib,HN,M2D]
theorem QD (o:A0)(x:List UInt8)(hn:o.2.2.length<4611686018427387904):yr (o,x)=some (BI o.2.2 x):=by
 refine W.fst (xs:=o.2.2) _ _ _ hn (λt ht=>?_) ?_;simp only [q,nx,dn,ib,HL ht,M2B,CC ht,BR];simp only [q,nx,dn,ib,HN,M2D]
theorem CD (xs:List Int)(x:Int)(hn:xs.length<4611686018427387904):JY (xs,x)=some (decide (x∈xs)):=by
 unfold JY vf;rw [Dl xs x hn,BR];exact M1t some (M3l.2 Ea)
theorem Wb (xs:List (List UInt8))(x:List UInt8)(hn:xs.length<4611686018427387904):dK (xs,x)=some (decide (x∈xs)):=by
 unfold dK ue;rw [Km xs x hn,BR];exact M1t some (M3l.2 Ea)
def onT (os:List A0) (t:Int):Bool:=C5 (λo=>o.2.1==t) (λ_ _=>true) false os 0
theorem Jw (y:AH)(t:Int)(hn:y.2.2.1.length<4611686018427387904):zp (y,t)=some (onT y.2.2.1 t):=by
 refine W.fst (xs:=y.2.2.1) _ _ _ hn (λt ht=>?_) ?_;simp only [q,nx,dn,ib,HL ht,M2B,CC ht,BR];simp only [q,nx,dn,ib,HN,M2D]
theorem H2 (os:List A0)(t:Int)(hn:os.length<4611686018427387904):EA (os,t)=some (onT os t,t):=by
 have h:EA (os,t)=some (C5 (λo:A0=>o.2.1==t) (λ_ _=>(true,t)) (false,t) os 0):=by
  refine W.fst (xs:=os) _ _ _ hn (λi ht=>?_) ?_;simp only [q,nx,dn,ib,HL ht,M2B,CC ht,BR];rw [show decide ((i:Int)≥0)=true from M1p (by omega)];simp only [q,nx,dn,ib,HN,M2D];rfl
 rw [h];have:∀ (l:List A0) k,C5 (λo:A0=>o.2.1==t) (λ_ _=>(true,t)) (false,t) l k=(C5 (λo:A0=>o.2.1==t) (λ_ _=>true) false l k,t):=by
  intro l;induction l with
  | nil=>intro k;rfl
  | cons a l A=>
   intro k;simp only [C5];cases (a.2.1==t);exact A _;rfl
 rw [this];rfl
def Hp (os:List A0) (d:List UInt8):Int×Int:=C5 (λo=>decide (0≤BI o.2.2 d)) (λi o=>((i:Int),BI o.2.2 d)) (-1,-1) os 0
theorem Vf (os:List A0)(d:List UInt8):(∃ i:Nat,∃ h:i<os.length,d∈os[i].2.2∧Hp os d=((i:Int),BI os[i].2.2 d))∨((∀ o∈os,d∉o.2.2)∧Hp os d=(-1,-1)):=by
 rcases Bm (λo:A0=>decide (0≤BI o.2.2 d)) (λi o=>((i:Int),BI o.2.2 d)) (-1,-1) os 0 with ⟨i,h,h1,h2,h3⟩|⟨h1,h2⟩;refine .inl ⟨i,h,Ea.1 (M1s h1),?_⟩;unfold Hp;rw [h3];simp;exact .inr ⟨λo ho q=>by have:=M21 (h1 o ho);exact this (Ea.2 q),h2⟩
theorem nS (os:List A0)(d:List UInt8)(hn:os.length<4611686018427387904)(hd:∀ o∈os,o.2.2.length<4611686018427387904):sn (os,d)=some (Hp os d):=by
 refine W.fst (xs:=os) _ _ _ hn (λt ht=>?_) ?_;simp only [q,nx,dn,ib,HL ht,M2B,CC ht,BR,QD _ d (hd _ (M03 ht))];simp only [q,nx,dn,ib,HN,M2D]
theorem Wc (y:AH)(w:Nat)(hw:w<y.1.length)(hn:y.2.2.1.length<4611686018427387904)(hd:∀ o∈y.2.2.1,o.2.2.length<4611686018427387904):V3 (y,(w:Int))=some (Hp y.2.2.1 y.1[w].2.2.2.2.2.2.2):=by
 refine W.fst (xs:=y.2.2.1) _ _ _ hn (λt ht=>?_) ?_;simp only [q,nx,dn,ib,HL ht,M2B,CC ht,CC hw,BR,Km _ _ (hd _ (M03 ht))];simp only [q,nx,dn,ib,HN,M2D]
def Bq (os:List A0) (w:A6):Aa:=((Hp os w.2.2.2.2.2.2.2).1,(Hp os w.2.2.2.2.2.2.2).2,0,w.2.1)
theorem Vg (os:List A0)(w:A6)(hn:os.length<4611686018427387904)(hd:∀ o∈os,o.2.2.length<4611686018427387904):zC (os,w)=some (Bq os w):=by
 unfold zC B80;simp only;rw [nS os _ hn hd,BR];rfl
theorem nT (y:AH)(w:Nat)(hw:w<y.1.length)(hn:y.2.2.1.length<4611686018427387904)(hd:∀ o∈y.2.2.1,o.2.2.length<4611686018427387904):Yc (y,(w:Int))=some (Bq y.2.2.1 y.1[w],decide (0≤(Bq y.2.2.1 y.1[w]).1)):=by
 unfold Yc vS;simp only [ib];rw [Wc y w hw hn hd,BR,CC hw,BR];rfl
theorem nU (b:AA)(w:Nat)(hw:w<b.2.1.length)(hn:b.2.2.2.1.length<4611686018427387904)(hd:∀ o∈b.2.2.2.1,o.2.2.length<4611686018427387904):Yn ((w:Int),b)=some ((Hp b.2.2.2.1 b.2.1[w].2.2.2.2.2.2.2).1,(Hp b.2.2.2.1 b.2.1[w].2.2.2.2.2.2.2).2,b):=by
 have h:Yn ((w:Int),b)=some (C5 (λo:A0=>decide (0≤BI o.2.2 b.2.1[w].2.2.2.2.2.2.2)) (λi o=>((i:Int),BI o.2.2 b.2.1[w].2.2.2.2.2.2.2,b)) (-1,-1,b) b.2.2.2.1 0):=by
  refine W.fst (xs:=b.2.2.2.1) _ _ _ hn (λt ht=>?_) ?_;simp only [q,nx,dn,ib,HL ht,M2B,CC ht,CC hw,BR,Aw ht,Aw hw,Km _ _ (hd _ (M03 ht))];simp only [q,nx,dn,ib,HN,M2D]
 rw [h];have:∀ (l:List A0) k (d:List UInt8),C5 (λo:A0=>decide (0≤BI o.2.2 d)) (λi o=>((i:Int),BI o.2.2 d,b)) (-1,-1,b) l k=((C5 (λo:A0=>decide (0≤BI o.2.2 d)) (λi o=>((i:Int),BI o.2.2 d)) (-1,-1) l k).1,(C5 (λo:A0=>decide (0≤BI o.2.2 d)) (λi o=>((i:Int),BI o.2.2 d)) (-1,-1) l k).2,b):=by
  intro l;induction l with
  | nil=>intro k d;rfl
  | cons a l A=>
   intro k d;simp only [C5];cases (decide (0≤BI a.2.2 d));exact A _ _;rfl
 rw [this];rfl
theorem Kn (s:List (List Int))(w:Int)(hn:s.length<4611686018427387904)(hd:∀ l∈s,l.length<4611686018427387904):kX (s,w)=some (JW s w):=by
 refine W.fst (xs:=s) _ _ _ hn (λt ht=>?_) ?_;simp only [q,nx,dn,ib,HL ht,M2B,CC ht,BR,Dl _ _ (hd _ (M03 ht))];simp only [q,nx,dn,ib,HN,M2D]
theorem Oz (s:List (List Int))(w:Int)(hn:s.length<4611686018427387904)(hd:∀ l∈s,l.length<4611686018427387904):cU (s,w)=some (JW s w):=by
 refine W.fst (xs:=s) _ _ _ hn (λt ht=>?_) ?_;simp only [q,nx,dn,ib,HL ht,M2B];have h:=W.fst (ρ:=Al Int (Int×Int)) (xs:=s[t]) (λa=>a==w) (λi _=>.done ((t:Int),(i:Int))) (.next (A1 ((t:Int)+1)))
  (step:=λB:Int=>(Go.V.idx s (t:Int)).bind λI=>bif decide (B<ln I) then (Go.V.idx s (t:Int)).bind λJ=>(Go.V.idx J B).bind λO=>bif O==w then some (.done (.done ((t:Int),B))) else some (.next (A1 (B+1))) else some (.done (.next (A1 ((t:Int)+1))))) (hd _ (M03 ht)) (λi hi=>by
   simp only [CC ht,BR,HL hi,M2B,CC hi]) (by simp only [CC ht,BR,HN,M2D])
 rw [h];rcases Du s[t] w with ⟨i,k,A,E,H⟩|⟨A,E⟩
 rw [H,M1p (by omega:(0:Int)≤i),M2B];rcases Bm (λa:Int=>a==w) (λi _=>(.done ((t:Int),(i:Int)):Al Int (Int×Int))) (.next (A1 ((t:Int)+1))) s[t] 0 with ⟨j,h,h1,h2,h3⟩|⟨h1,h2⟩
 rw [h3];have G:j=i:=by
  rcases M3a i j with q|q|q;have:=h2 i k q;simp [A] at this;exact q.symm;exact absurd (eq_of_beq h1) (E j h q)
 subst G;simp;have:=h1 w (A ▸ M03 k);simp at this;rw [E,M1K (by omega:¬ (0:Int)≤-1),M2D];rcases Bm (λa:Int=>a==w) (λi _=>(.done ((t:Int),(i:Int)):Al Int (Int×Int))) (.next (A1 ((t:Int)+1))) s[t] 0 with ⟨j,h,h1,h2,h3⟩|⟨h1,h2⟩
 exact absurd ((eq_of_beq h1) ▸ M03 h) A;rw [h2];simp only [q,nx,dn,ib,HN,M2D]
end
section
theorem Wd {n:Int}(h1:-9223372036854775808≤n)(h2:n<9223372036854775808):IntKind.i64.wrap n=n:=A8 h1 h2
variable {d:List Int}{k:Nat}
theorem QE(h:k<d.length):d[k]? = some (vw d k):=by
 unfold vw;rw [M1Q,M00 h];rfl
theorem Jx(h:k<d.length):vw d k∈d:=M1k (QE h)
theorem BB(h:k<d.length):vw d k=d[k]:=by unfold vw;rw [M1Q,M00 h];rfl
theorem xh{x:List Int}(k:Nat):vw (d++x) k=if k<d.length then vw d k else vw x (k-d.length):=by
 unfold vw;rw [M1Q,List.getElem?_append];split <;> rw [M1Q]
theorem iw1(h:k<4611686018427387904):IntKind.i64.wrap ((k:Int)+1)=((k+1:Nat):Int):=by rw [Wd (by omega) (by omega)];omega
variable {x:Int}
theorem DQ {α:Type}(d:List α)(h:0≤x):idx d x=d[x.toNat]?:=by rw [←H1,M1v h]
theorem JN(h:0≤x)(h2:x<d.length):idx d x=some (vw d x.toNat):=by rw [DQ _ h,QE (by omega)]
theorem QF (L:List Int):sm L []=0:=rfl
theorem CE (L:List Int)(x:Int)(r:List Int):sm L (x::r)=vw L x.toNat+sm L r:=by simp [sm]
theorem OA (L:List Int)(r q:List Int):sm L (r++q)=sm L r+sm L q:=by simp [sm]
variable {L:List Int}
theorem We(h:Ln L)(A:0≤x∧x<L.length):1≤vw L x.toNat∧vw L x.toNat≤400:=h _ (Jx (by omega))
theorem fi {L:List Int}(h:Ln L):∀ {r:List Int},Rg L.length r→0≤sm L r∧sm L r≤400*r.length
 | [],_=>by simp [sm]
 | x::r,hr=>by
  have:=fi h (r:=r) λy hy=>hr y (M1c _ hy)
  have:=We h (hr x M2w);rw [CE,M1N];omega
theorem Wf {α:Type} [DecidableEq α]:∀ (l m:List α),l.Nodup→(∀ x,x∈l→x∈m)→l.length≤m.length
 | [],m,_,_=>M2j _
 | x::l,m,hn,hs=>by
  have h:=M3C.1 hn;have A:x∈m:=hs x M2w;have:=Wf l (m.erase x) h.2 λy hy=>by
   have B:y≠x:=λe=>h.1 (e ▸ hy)
   exact (List.mem_erase_of_ne B).2 (hs y (M1c _ hy))
  rw [List.length_erase_of_mem A] at this;have hp:0<m.length:=List.length_pos_of_mem A;simp only [M1N];omega
variable {n:Nat}
theorem Gw{l:List Int}(h:Rg n l)(hn:l.Nodup):l.length≤n:=by
 have:=Wf l ((List.range n).map λk:Nat=>(k:Int)) hn λx A=>by
  have:=h x A;exact M1L.2 ⟨x.toNat,M2i.2 (by omega),by omega⟩
 simpa using this
def mk (n:Nat) (pre:List Int):List Bool:=(List.range n).map λk:Nat=>decide ((k:Int)∈pre)
theorem HO{pre:List Int}(h:0≤x)(h2:x<n):idx (mk n pre) x=some (decide (x∈pre)):=by
 rw [DQ _ h];unfold mk;rw [M1n,M1I (by omega)];simp [M1v h]
theorem Vh{pre:List Int}(h:0≤x)(h2:x<n):(mk n pre).set x.toNat true=mk n (pre++[x]):=by
 refine M23 λk=>?_
 rw [M22];unfold mk;by_cases hk:k<n;by_cases e:x.toNat=k;subst e;rw [M1d rfl,M1d (by simpa using hk),M1n,M1I hk];simp [M1v h];rw [M1e e,M1n,M1n,M1I hk];have:¬ (k:Int)=x:=by omega
 simp [this];rw [M1e (by omega),M1h (by simp;omega),M1h (by simp;omega)]
theorem Vj (n:Nat):List.replicate n false=mk n []:=by
 refine M23 λk=>?_
 unfold mk;rw [M2N,M1n];by_cases hk:k<n;rw [M1d hk,M1I hk];simp;rw [M1e hk,M1h (by simp;omega)];rfl
def At1 (row:List Int) (w:Int) (i:Nat):Prop:=row[i]? = some w∧w∉row.take i
def qA (s:Bp) (w:Int) (p:Int×Int):Prop:=
 (p=(-1,-1)∧∀ row∈s,w∉row)∨∃ (t i:Nat)(row:List Int),p=((t:Int),(i:Int))∧s[t]? = some row∧At1 row w i∧∀ x∈s.take t,w∉x
def Sml (s:Bp):Prop:=s.length<4294967296∧∀ row∈s,row.length<4294967296
theorem QG (s:Bp)(w:Int):qA s w (JW s w):=by
 rcases Bm (λl:List Int=>decide (0≤BI l w)) (λi l=>((i:Int),BI l w)) (-1,-1) s 0 with ⟨t,h,h1,h2,h3⟩|⟨h1,h2⟩;rcases Du s[t] w with ⟨i,k,B,A,G⟩|⟨B,A⟩;refine .inr ⟨t,i,s[t],?_,M00 h,⟨by rw [M00 k,B],λq=>?_⟩,λx E q=>?_⟩;unfold JW;rw [h3,G];simp;obtain ⟨j,hj,e⟩:=M1o.1 q;rw [M1q] at hj;rw [M43] at e;exact A j (by omega) (by omega) e
 obtain ⟨j,hj,rfl⟩:=M1o.1 E;rw [M1q] at hj;rw [M43] at q;exact absurd (Ea.2 q) (M21 (h2 j (by omega) (by omega)))
 rw [A] at h1;exact absurd (M1s h1) (by decide)
 exact .inl ⟨h2,λrow hr q=>M21 (h1 row hr) (Ea.2 q)⟩
variable {s:Bp}
theorem xi(h:Sml s)(w:Int):True∧True∧qA s w (Su s w):=⟨trivial,trivial,QG s w⟩
variable {T:G8}
theorem AN(h:Dc T L s):∀ row∈s,Rg L.length row∧row.Nodup∧row.length≤192:=by
 intro row hr;obtain ⟨_,_,h3,_,A,B,_⟩:=h;have a:Rg L.length row:=λx E=>A x (M3v.2 ⟨row,hr,E⟩)
 have b:row.Nodup:=(M3J.1 B).1 row hr;exact ⟨a,b,by have:=Gw a b;omega⟩
theorem Bw(h:Dc T L s):Sml s:=⟨by have:=h.1;have:=h.2.1;omega,λrow hr=>by have:=(AN h row hr).2.2;omega⟩
variable {j:Nat}
theorem QH(h:Dc T L s){r q:List Int}(hj:s[j]? = some r)(hk:s[k]? = some q)(G:x∈r)(hy:x∈q):j=k:=by
 have A:=(M3J.1 h.2.2.2.2.2.1).2;obtain ⟨B,rfl⟩:=M09.1 hj;obtain ⟨E,rfl⟩:=M09.1 hk;rcases M3a j k with e|e|e
 exact absurd rfl (M2d.1 A j k B E e x G x hy);exact e;exact absurd rfl (M2d.1 A k j E B e x hy x G)
theorem xj(h1:s.length=T.length)(h2:T.length≤24)(h3:L.length≤192)(E:Ln L)(B:∀ row∈s,Rg L.length row∧row.Nodup)
  (G:∀ (j k:Nat)(r q:List Int)(x:Int),s[j]? = some r→s[k]? = some q→x∈r→x∈q→j=k)(H:Tr T L s s.length):Dc T L s:=by
 refine ⟨h1,h2,h3,E,λx A=>?_,M3J.2 ⟨λr hr=>(B r hr).2,M2d.2 λi j hi hj I x A y hy e=>?_⟩,H⟩;obtain ⟨r,hr,A⟩:=M3v.1 A;exact (B r hr).1 x A;subst e;have:=G i j _ _ x (M00 hi) (M00 hj) A hy;omega
variable {w:Int}
theorem IL {row:List Int}(h:w∉row):row.filter (·≠w)=row:=List.filter_eq_self.2 λx A=>by simp;exact λe=>h (e ▸ A)
variable {i:Nat}
theorem Wg {row:List Int}(hn:row.Nodup)(h:row[i]? = some w):row.take i++row.drop (i+1)=row.filter (·≠w):=by
 obtain ⟨hi,e⟩:=M09.1 h;have hs:row=row.take i++w::row.drop (i+1):=by rw [←e,←M2c hi,M2m]
 rw [hs] at hn;have h1:=M2X.1 hn;have h2:=M3C.1 h1.2.1;have a:w∉row.take i:=λA=>h1.2.2 _ A _ M2w rfl
 conv=>rhs;rw [hs]
 rw [M2n,M2A (by simp),IL a,IL h2.1]
theorem QI (s:Bp)(w to:Int)(A:Bool):(mv s w to A).length=s.length:=by simp [mv]
variable {to:Int}{A:Bool}
theorem xk{row:List Int}(h:s[j]? = some row):(mv s w to A)[j]? = some (put w to A j row):=by simp [mv,M3M,h]
variable {s1:Bp}
theorem fj(h1:∀ j:Nat,s1[j]? =(s[j]?).map λrow:List Int=>row.filter (·≠w)) :
  (if 0≤to then s1.set to.toNat (if A then w::(s1[to.toNat]?.getD []) else (s1[to.toNat]?.getD [])++[w]) else s1)=mv s w to A:=by
 refine M23 λj=>?_
 have hR:(mv s w to A)[j]? =(s[j]?).map (put w to A j):=by simp [mv,M3M]
 rw [hR];have B:s1.length=s.length:=by
  have a:∀ j,j<s1.length↔j<s.length:=λj=>by
   have:=h1 j;constructor;intro h;rw [M00 h] at this;rcases M1V j s.length with q|q
   exact q;rw [M1h q] at this;cases this
   intro h;rw [M00 h] at this;rcases M1V j s1.length with q|q
   exact q;rw [M1h q] at this;cases this
  have:=a s1.length;have:=a s.length;omega
 by_cases c:0≤to;rw [M1d c,M22];by_cases e:to.toNat=j;rw [M1d e];by_cases hj:j<s.length;rw [M1d (by omega),h1,e,M00 hj];simp only [M1W,M1G];unfold put;have hq:(j:Int)=to:=by omega
 simp only [hq,M2K];rw [M1e (by omega),M1h (by omega)];rfl;rw [M1e e,h1];cases hj:s[j]? with
 | none=>rfl
 | some row=>simp only [M1W];unfold put;rw [M1e (by omega)]
 rw [M1e c,h1];cases hj:s[j]? with
 | none=>rfl
 | some row=>simp only [M1W];unfold put;rw [M1e (by omega)]
variable {p:Int×Int}
theorem fk(h:Dc T L s)(hp:qA s w p) :
  ∀ j:Nat,(if 0≤p.1 then s.set p.1.toNat ((s[p.1.toNat]?.getD []).take p.2.toNat++(s[p.1.toNat]?.getD []).drop (p.2.toNat+1)) else s)[j]? =(s[j]?).map λrow:List Int=>row.filter (·≠w):=by
 intro j;rcases hp with ⟨rfl,hn⟩|⟨t,i,row,rfl,h1,h2,h3⟩
 rw [M1e (by simp)];cases hj:s[j]? with
 | none=>rfl
 | some row=>simp only [M1W];rw [IL (hn row (M1k hj))]
 rw [M1d (by simp)];dsimp only;rw [M1i,M1i,h1,M1G,Wg (AN h row (M1k h1)).2.1 h2.1,M22];have A:=(M09.1 h1).1;by_cases e:t=j;subst e;rw [M1d rfl,M1d A,h1];rfl;rw [M1e e];cases hj:s[j]? with
 | none=>rfl
 | some q=>
  simp only [M1W];rw [IL λB=>e (QH h h1 hj (M1k h2.1) B)]
theorem Wi {L:List Int}(h:Ln L)(w:Int):∀ {r:List Int},Rg L.length r→sm L (r.filter (·≠w))≤sm L r
 | [],_=>by simp
 | x::r,hr=>by
  have A:=Wi h w (r:=r) λy hy=>hr y (M1c _ hy)
  have b:=We h (hr x M2w);by_cases e:x=w;rw [M2A (by simp [e]),CE];omega;rw [M2W (by simp [e]),CE,CE];omega
theorem nV {row:List Int}(hn:row.Nodup)(h:row[i]? = some w):sm L row=vw L w.toNat+sm L (row.filter (·≠w)):=by
 rw [←Wg hn h];obtain ⟨hi,e⟩:=M09.1 h;have hs:row=row.take i++w::row.drop (i+1):=by rw [←e,←M2c hi,M2m]
 conv=>lhs;rw [hs]
 rw [OA,CE,OA];omega
theorem xl (L row:List Int)(w:Int)(A:Bool):sm L (if A then w::row else row++[w])=vw L w.toNat+sm L row:=by
 cases A;rw [M1e (by simp),OA,CE,QF];omega;rw [M1d rfl,CE]
variable {t:Int}
theorem nW{f:Int}(h:cd T L s w f t=0):(0≤w∧w<L.length)∧(-1≤f∧f<s.length)∧(-1≤t∧t<s.length)∧(Su s w).1=f∧¬ (f = -1∧t = -1)∧
  (0≤t→t≠f→sm L (s[t.toNat]?.getD [])+vw L w.toNat≤(T[t.toNat]?.getD ([],0)).2):=by
 unfold cd at h;split at h;cases h;split at h;cases h;split at h;cases h;refine ⟨by omega,by omega,by omega,?_,by omega,by omega⟩;rename_i _ q _;by_cases e:(Su s w).1=f;exact e;exact absurd (.inl e) q
theorem xm(h:qA s w p){row:List Int}(hj:s[j]? = some row)(hp:p.1=(j:Int)):∃ i:Nat,row[i]? = some w:=by
 rcases h with ⟨rfl,_⟩|⟨t,i,A,rfl,h1,h2,_⟩;simp only at hp;omega
 simp only at hp;obtain rfl:t=j:=by omega
 rw [hj] at h1;cases h1;exact ⟨i,h2.1⟩
theorem nX(A:Dc T L s)(h:qA s w p){row:List Int}(hj:s[j]? = some row)(hp:p.1≠(j:Int)):w∉row:=by
 rcases h with ⟨rfl,h⟩|⟨t,i,E,rfl,h1,h2,_⟩;exact h row (M1k hj);intro B;have:=QH A h1 hj (M1k h2.1) B;simp only at hp;omega
theorem IM{row:List Int}:x∈put w to A j row↔((j:Int)=to∧x=w)∨(x∈row∧x≠w):=by
 unfold put;by_cases c:(j:Int)=to;rw [M1d c];cases A <;> simp [c]
 constructor;rintro (h|h);exact .inr h;exact .inl h;rintro (h|h);exact .inr h;exact .inl h;rw [M1e c];simp [c]
theorem PH{row:List Int}(h:row.Nodup):(put w to A j row).Nodup:=by
 have hf:(row.filter (·≠w)).Nodup:=h.filter _;have hw:w∉row.filter (·≠w):=by simp
 unfold put;by_cases c:(j:Int)=to;rw [M1d c];cases A;rw [M1e (by simp)];exact M2X.2 ⟨hf,by simp,λx B y hy e=>hw (by rw [M19.1 hy] at e;exact e ▸ B)⟩;rw [M1d rfl];exact M3C.2 ⟨hw,hf⟩;rw [M1e c];exact hf
theorem OB{r:List Int}(h:(mv s w to A)[j]? = some r):∃ row,s[j]? = some row∧r=put w to A j row:=by
 have hR:(mv s w to A)[j]? =(s[j]?).map (put w to A j):=by simp [mv,M3M]
 rw [hR] at h;cases hj:s[j]? with
 | none=>rw [hj] at h;cases h
 | some row=>rw [hj] at h;cases h;exact ⟨row,rfl,rfl⟩
theorem fm(h:Dc T L s)(A:Bool){row:List Int}(hj:s[j]? = some row)(ht:t=(j:Int))(hw:0≤w∧w<L.length)(hp:qA s w p) :
  sm L (put w t A j row)=if p.1=t then sm L row else sm L row+vw L w.toNat:=by
 unfold put;rw [M1d ht.symm,xl];by_cases c:p.1=t;rw [M1d c];obtain ⟨i,hi⟩:=xm hp hj (by omega);exact (nV (AN h row (M1k hj)).2.1 hi).symm;rw [M1e c,IL (nX h hp hj (by omega))];omega
theorem Gx(h:Dc T L s){f:Int}(G:Bool)(hc:cd T L s w f t=0):Dc T L (mv s w t G):=by
 obtain ⟨B,c2,c3,O,c5,c6⟩:=nW hc;obtain ⟨_,_,Z⟩:=xi (Bw h) w;obtain ⟨h1,h2,h3,H,h5,h6,Y⟩:=id h;refine xj (by rw [QI];exact h1) h2 h3 H (λr hr=>?_) (λj k r q x hj hk A hy=>?_) (λj r tr hj hr I=>?_);obtain ⟨j,hj⟩:=List.getElem?_of_mem hr;obtain ⟨row,hrow,rfl⟩:=OB hj;obtain ⟨a,b,_⟩:=AN h row (M1k hrow);refine ⟨λx A=>?_,PH b⟩;rcases IM.1 A with ⟨_,rfl⟩|⟨q,_⟩
 exact B;exact a x q;obtain ⟨row,hrow,rfl⟩:=OB hj;obtain ⟨ak,ab,rfl⟩:=OB hk;rcases IM.1 A with ⟨e1,rfl⟩|⟨q1,n1⟩ <;> rcases IM.1 hy with ⟨E,U⟩|⟨q2,n2⟩
 omega;exact absurd rfl n2;exact absurd U n1;exact QH h hrow ab q1 q2;rw [QI] at hj;obtain ⟨row,hrow,rfl⟩:=OB hr;obtain ⟨t1,t2,J⟩:=Y j row tr hj hrow I;refine ⟨t1,t2,?_⟩
 by_cases e:t=(j:Int)
 rw [fm h G hrow e B Z];split;exact J;rename_i q;have:=c6 (by omega) (λE=>q (by rw [O,E]));rw [e,M1i,hrow,I] at this;simp only [M1G] at this;exact this
 unfold put;rw [M1e (by omega)];exact M3I (Wi H w (AN h row (M1k hrow)).1) J
theorem SH(h:Dc T L s)(h1:∀ j:Nat,s1[j]? =(s[j]?).map λrow:List Int=>row.filter (·≠w)):∀ row∈s1,row.length≤192:=by
 intro row hr;obtain ⟨j,hj⟩:=List.getElem?_of_mem hr;rw [h1] at hj;cases e:s[j]? with
 | none=>rw [e] at hj;cases hj
 | some q=>
  rw [e] at hj;cases hj;have:=(AN h q (M1k e)).2.2;exact M1B (M2y _ _) this
theorem nY{l:List jm}(h:i<l.length)(s:Bp) :
  BJ T L (l.drop i) i s=if cd T L s l[i].1 l[i].2.1 l[i].2.2.1=0 then BJ T L (l.drop (i+1)) (i+1) (mv s l[i].1 l[i].2.2.1 l[i].2.2.2) else .inl ((i:Int),cd T L s l[i].1 l[i].2.1 l[i].2.2.1):=by
 rw [M2c h];rfl
theorem EB {T:G8}{L:List Int}:∀ {l:List jm} {i:Nat} {s r:Bp},Dc T L s→BJ T L l i s=.inr r→Dc T L r
 | [],_,s,r,h,e=>by cases e;exact h
 | m::l,i,s,r,h,e=>by
  unfold BJ at e;split at e;rename_i c;exact EB (Gx h _ c) e;cases e
end
section
theorem H3 (k:Nat)(hk:k<9223372036854775808):(BitVec.ofInt IntKind.i64.bits (k:Int)).toNat=k:=by
 show (BitVec.ofInt 64 (k:Int)).toNat=k
 rw [BitVec.toNat_ofInt];omega
theorem Wj (k m:Nat)(hk:k<9223372036854775808)(hm:m<9223372036854775808):CF .i64 (k:Int) (m:Int)=((k&&&m:Nat):Int):=by
 unfold CF;have h:k&&&m≤k:=Nat.and_le_left;rw [BitVec.toNat_and,H3 k hk,H3 m hm,Wd (by omega) (by omega)]
theorem xp (k m:Nat)(hk:k<9223372036854775808)(hm:m<9223372036854775808):yV .i64 (k:Int) (m:Int)=((k ||| m:Nat):Int):=by
 unfold yV;have h:k ||| m<2 ^ 63:=Nat.or_lt_two_pow (by omega) (by omega);rw [BitVec.toNat_or,H3 k hk,H3 m hm,Wd (by omega) (by omega)]
theorem Wk (r:Nat)(hr:r≤12):(2:Int) ^ (min (Int.toNat (r:Int)) IntKind.i64.bits)=((2 ^ r:Nat):Int):=by
 have h:min (Int.toNat (r:Int)) IntKind.i64.bits=r:=by
  show min (Int.toNat (r:Int)) 64=r
  omega
 rw [h];simp
theorem QJ (r:Nat)(hr:r≤12):1≤2 ^ r∧2 ^ r≤4096:=by
 constructor;exact M3Z;exact M3N (by omega) hr
theorem fo (k m:Nat):Int.fdiv (k:Int) (m:Int)=((k / m:Nat):Int):=by
 rw [Int.fdiv_eq_ediv_of_nonneg _ (by omega)];rfl
theorem Wl (u r:Nat)(A:u<4294967296)(hr:r≤12):Gs .i64 (u:Int) (r:Int)=((u*2 ^ r:Nat):Int):=by
 have h:=QJ r hr;have h2:u*2 ^ r≤4294967296*4096:=M32 (by omega) h.2;unfold Gs;rw [Wk r hr,←Int.natCast_mul,Wd (by omega) (by omega)]
theorem QK (r:Nat)(hr:r≤12):Gs .i64 1 (r:Int)=((2 ^ r:Nat):Int):=by
 have:=Wl 1 r (by omega) hr;rw [M3z] at this;exact this
theorem IN (k r:Nat)(hr:r≤12):DV .i64 (k:Int) (r:Int)=((k / 2 ^ r:Nat):Int):=by
 unfold DV;rw [Wk r hr,fo]
theorem Vk (r:Nat)(hr:r≤12):A1 (Gs .i64 1 (r:Int)-1)=((2 ^ r-1:Nat):Int):=by
 have h:=QJ r hr;rw [QK r hr,A8 (by omega) (by omega)];omega
theorem fp (k r:Nat):k&&&(2 ^ r-1)=k%2 ^ r:=Nat.and_two_pow_sub_one_eq_mod k r
theorem nZ (u r:Nat):u*2 ^ r ||| (2 ^ r-1)=u*2 ^ r+(2 ^ r-1):=by
 have h:1≤2 ^ r:=M3Z;rw [M3e,Nat.two_pow_add_eq_or_of_lt (by omega)]
theorem fq (u r:Nat):(u*2 ^ r+(2 ^ r-1)) / 2 ^ r=u∧(u*2 ^ r+(2 ^ r-1))%2 ^ r=2 ^ r-1:=by
 have h:1≤2 ^ r:=M3Z;constructor;rw [M3e,Nat.mul_add_div (by omega),M3w (by omega)];omega;rw [M3e,Nat.mul_add_mod,M3K (by omega)]
theorem Yv:∀ u:Nat,u<4096→u≠0→0≤CF .i64 (u:Int) (A1 ((u:Int)-1))∧CF .i64 (u:Int) (A1 ((u:Int)-1))<(u:Int):=λu h A=>by
 rw [A8 (by omega) (by omega),show (u:Int)-1=((u-1:Nat):Int) by omega,Wj _ _ (by omega) (by omega)];have:u&&&(u-1)≤u-1:=Nat.and_le_right;omega
theorem o5:∀ u:Nat,u<4096→u≠0→0<CF .i64 (u:Int) (A1 (0-(u:Int)))∧CF .i64 (u:Int) (A1 (0-(u:Int)))≤4096:=by decide +kernel
theorem o6 (u:Nat)(B:u<4096):W (Yd (u:Int)) λr=>u=0→r=0:=by
 unfold Yd vV;refine W.run (λs=>(∃ k:Nat,k<4096∧s.1=(k:Int))∧(u=0→s.1=0∧s.2=0)) (λs=>s.1.toNat) (by exact ⟨⟨u,B,rfl⟩,λe=>⟨by rw [e];rfl,rfl⟩⟩) (by simp only;omega) λs hs=>?_
 obtain ⟨x,c⟩:=s;obtain ⟨⟨k,hk,e⟩,A⟩:=hs;simp only at e A ⊢;subst e;refine M4i (λhne=>W.nx ?_) λe=>M4a λq=>(A q).2
 have t:=Yv k hk (by omega);exact ⟨⟨⟨(CF .i64 (k:Int) (A1 ((k:Int)-1))).toNat,by omega,by (try simp only);omega⟩,λq=>absurd (A q).1 hne⟩,by (try simp only);omega⟩
theorem Wm (s w:Int):eu (s,w)=some (decide (0≤s∧s≤12∧0≤w∧w≤12)):=by
 unfold eu vU;simp only;refine M4o (M49 (λa=>M49 (λb=>M49 (λc=>W.ret ?_) λc=>W.ret ?_) λb=>W.ret ?_) λa=>W.ret ?_);exact M3l.2 (by omega);all_goals exact (M1K (by omega)).symm
theorem Wn (s w:Int):cX (s,w)=some (decide (0≤s∧s≤12∧0≤w∧w≤12)):=by
 unfold cX sv;simp only;refine M4o (M49 (λa=>M49 (λb=>M49 (λc=>W.ret ?_) λc=>W.ret ?_) λb=>W.ret ?_) λa=>W.ret ?_);exact M3l.2 (by omega);all_goals exact (M1K (by omega)).symm
theorem o7 (v s w:Nat)(hs:s≤12)(hw:w≤12)(hv:v≤100000):W (Ye ((v:Int),(s:Int),(w:Int))) λr=>r.2=0→(v:Int)≤r.1∧r.1≤4095∧eV (r.1,(s:Int),(w:Int))=some true:=by
 have hp:=QJ s hs;unfold Ye vW;simp only;refine W.of (Wm _ _) (M4g (by rw [M1p (by omega)];rfl) (W.df (by omega) (M49 (λ_=>W.ret λe=>by cases e) λad=>?_)));have ae:v<4096:=by omega
 have A:(!decide ((s:Int)<0))=true:=by rw [M1K (by omega)];rfl
 refine W.st (P:=λa=>a=((v / 2 ^ s:Nat):Int)) ?_ λa ha=>?_
 refine M4k A ?_;rw [Vk s hs,QK s hs];refine M49 (λq=>M4k A (M4k A (W.nx ?_))) λq=>W.nx ?_
 have Z:A1 ((v:Int)-((2 ^ s-1:Nat):Int))=((v-(2 ^ s-1):Nat):Int):=by rw [A8 (by omega) (by omega)];omega
 have J:A1 (((v-(2 ^ s-1):Nat):Int)+((2 ^ s:Nat):Int))=((v+1:Nat):Int):=by rw [A8 (by omega) (by omega)];omega
 have O:A1 (((v+1:Nat):Int)-1)=(v:Int):=by rw [A8 (by omega) (by omega)];omega
 rw [Z,J,O,IN v s hs];rw [M3w (by omega)];rfl
 ·subst ha;have hd:v / 2 ^ s≤v:=M3T _ _;refine W.st (P:=λu=>∃ k:Nat,u=(k:Int)∧v / 2 ^ s≤k∧k<4096∧∃ c,Yd (k:Int)=some c∧c≤(w:Int)) ?_ λu H=>?_
  refine W.run (λu=>∃ k:Nat,u=(k:Int)∧v / 2 ^ s≤k∧k<4096) (λu=>4096-u.toNat) ⟨_,rfl,M1g _,by omega⟩ (by omega) λu H=>?_
  obtain ⟨k,rfl,I,E⟩:=H;obtain ⟨c,B,G⟩:=o6 k E;refine W.of B (M49 (λq=>?_) λq=>M4a ⟨k,rfl,I,E,c,B,by omega⟩);have k0:k≠0:=λe=>by have:=G e;omega
  obtain ⟨t1,t2⟩:=o5 k E k0;have e:A1 ((k:Int)+CF .i64 (k:Int) (A1 (0-(k:Int))))=(k:Int)+CF .i64 (k:Int) (A1 (0-(k:Int))):=A8 (by omega) (by omega);rw [e];refine M49 (λ_=>M4a λe=>by cases e) λq=>W.nx ⟨⟨(k+(CF .i64 (k:Int) (A1 (0-(k:Int)))).toNat),by omega,by omega,by omega⟩,by omega⟩
  ·obtain ⟨k,rfl,I,E,c,B,G⟩:=H;refine M4k A (M4k A ?_);have ac:k*2 ^ s≤4096*4096:=M32 (by omega) hp.2;rw [Vk s hs,Wl k s (by omega) hs,xp _ _ (by omega) (by omega),nZ];refine M49 (λq=>W.ret λ_=>⟨?_,by (try simp only);omega,?_⟩) λ_=>W.ret λe=>by cases e
   have e:=Nat.div_add_mod v (2 ^ s);have J:=M47 v (show 0<2 ^ s by omega);have O:2 ^ s*(v / 2 ^ s)≤k*2 ^ s:=by rw [M3e];exact M1S _ I
   simp only;omega;obtain ⟨U,Y⟩:=fq k s;simp only;unfold eV wW;simp only;refine M4o (W.of (Wm _ _) (M4k (M1p (by omega)) (M4w (by omega) (M4w (by omega) (M4k A (M4k A (M4k ?_ (M4k A ?_))))))));rw [Vk s hs,Wj _ _ (by omega) (by omega),fp,Y];exact M3j _;rw [IN _ s hs,U];exact W.of B (W.ret (M1p G))
def BM (k:Nat) (d:Int):Prop:=∃ n:Nat,d=(n:Int)∧n≤12∧k<2 ^ n∧(n=0∨k / 2 ^ (n-1)=1)
variable {k:Nat}
theorem PI {l:Nat}{d e:Int}(h:k≤l)(hd:BM k d)(A:BM l e):d≤e:=by
 obtain ⟨n,rfl,_,h1,h2⟩:=hd;obtain ⟨m,rfl,_,B,E⟩:=A;rcases h2 with rfl|h2
 omega;rcases M1V m n with hmn|hmn;have h3:2 ^ m≤2 ^ (n-1):=M3N (by omega) (by omega);rw [M3w (by omega)] at h2;cases h2
 omega
variable {n:Nat}
theorem PJ(hk:k<4096)(hn:n≤12)(h:0<k / 2 ^ n):n<12∧k / 2 ^ (n+1)=k / 2 ^ n / 2∧k / 2 ^ (n+1)<k / 2 ^ n:=by
 have A:n<12:=by
  rcases M1V n 12 with h'|h';exact h';rw [show n=12 by omega,M3w (by omega)] at h;cases h
 have:k / 2 ^ (n+1)=k / 2 ^ n / 2:=by rw [Nat.pow_succ,Nat.div_div_eq_div_mul]
 omega
theorem SI(hn:n≤12)(h3:k / 2 ^ n=0)(h0:n=0∨0<k / 2 ^ (n-1)):BM k n:=by
 have A:k<2 ^ n:=by
  rcases M1V k (2 ^ n) with h'|h';exact h';have:=Nat.div_pos h' (Nat.two_pow_pos n);omega
 refine ⟨n,rfl,hn,A,?_⟩;rcases h0 with h0|h0
 exact Or.inl h0;rcases M30 n with h5|h5;exact Or.inl h5;obtain ⟨m,rfl⟩:∃ m,n=m+1:=⟨n-1,by omega⟩
 rw [Nat.pow_succ,←Nat.div_div_eq_div_mul] at h3;simp only [M3X] at h0 ⊢;exact Or.inr (by omega)
theorem QL (k:Nat)(hk:k<4096):W (ej (k:Int)) λr=>r.2=0∧BM k r.1:=by
 unfold ej vT;refine M4w (by omega) (M4g (by rw [M1p (by omega)];rfl) ?_);refine W.run (λs=>∃ n:Nat,s=(((k / 2 ^ n:Nat):Int),(n:Int))∧n≤12∧(n=0∨0<k / 2 ^ (n-1))) (λs=>s.1.toNat) ⟨0,by simp,by omega,.inl rfl⟩ (by simp only;omega) λs hs=>?_
 obtain ⟨n,rfl,hn,A⟩:=hs;simp only;have G:k / 2 ^ n≤k:=M3T _ _;refine M49 (λh=>?_) λh=>M4a ⟨rfl,SI hn (Nat.eq_zero_of_not_pos λq=>h (M3o.2 q)) A⟩
 obtain ⟨l1,B,E⟩:=PJ hk hn (M3o.1 h);have e:DV .i64 ((k / 2 ^ n:Nat):Int) 1=((k / 2 ^ (n+1):Nat):Int):=by
  have:=IN (k / 2 ^ n) 1 (by omega);rw [show ((1:Nat):Int)=1 from rfl] at this;rw [this,B]
 rw [e,A8 (by omega) (by omega)];exact W.nx ⟨⟨n+1,rfl,by omega,.inr (M3o.1 h)⟩,by simp only [M1i];exact E⟩
theorem o8 (k:Nat)(hk:k<4096):W (d8 (k:Int)) λr=>BM k r:=by
 unfold d8 sF;refine W.run (λs=>∃ n:Nat,s=(((k / 2 ^ n:Nat):Int),(n:Int))∧n≤12∧(n=0∨0<k / 2 ^ (n-1))) (λs=>s.1.toNat) ⟨0,by simp,by omega,.inl rfl⟩ (by simp only;omega) λs hs=>?_
 obtain ⟨n,rfl,hn,A⟩:=hs;simp only;have G:k / 2 ^ n≤k:=M3T _ _;refine M49 (λh=>?_) λh=>M4a (SI hn (Nat.eq_zero_of_not_pos λq=>h (M3o.2 q)) A)
 obtain ⟨l1,B,E⟩:=PJ hk hn (M3o.1 h);have e:Int.tdiv ((k / 2 ^ n:Nat):Int) 2=((k / 2 ^ (n+1):Nat):Int):=by rw [B];rfl
 rw [e,A8 (n:=((k / 2 ^ (n+1):Nat):Int)) (by omega) (by omega),A8 (n:=(n:Int)+1) (by omega) (by omega)];exact W.nx ⟨⟨n+1,rfl,by omega,.inr (M3o.1 h)⟩,by simp only [M1i];exact E⟩
theorem o9 (v s w:Nat)(hs:s≤12)(hw:w≤12):W (jS ((v:Int),(s:Int),(w:Int))) λ_=>True:=by
 have hp:=QJ s hs;have A:(!decide ((s:Int)<0))=true:=by rw [M1K (by omega)];rfl
 unfold jS sw;simp only;refine W.of (Wn _ _) (M48 (λ_=>W.ret trivial) λ_=>M48 (λ_=>W.ret trivial) λ_=>M49 (λ_=>W.ret trivial) λq=>M4k A (M4k (by rw [QK s hs];exact M2I.2 (by omega)) (M4k A (M48 (λ_=>W.ret trivial) λ_=>M4k A ?_))));rw [IN v s hs];have hd:v / 2 ^ s≤v:=M3T _ _;refine W.run (λx=>0≤x.2∧x.2≤4096) (λx=>x.2.toNat) (by exact ⟨Int.natCast_nonneg _,by have:=Int.ofNat_le.2 hd;simp only;omega⟩) (by have:=Int.ofNat_le.2 hd;simp only;omega) λx E=>?_
 obtain ⟨a,x⟩:=x;obtain ⟨B,G⟩:=E;simp only at B G ⊢;refine M49 (λh=>?_) λ_=>M4a trivial
 have e:Int.tdiv x 2=x / 2:=Int.tdiv_eq_ediv_of_nonneg B;rw [e,A8 (n:=x / 2) (by omega) (by omega)];exact W.nx ⟨⟨by (try simp only);omega,by (try simp only);omega⟩,by (try simp only);omega⟩
theorem oe (v s w:Nat)(hs:s≤12)(hw:w≤12)(hv:v≤100000):W (cY ((v:Int),(s:Int),(w:Int))) λr=>r.2=0→0≤r.1∧r.1≤4095:=by
 unfold cY sA;simp only;refine W.of (Wn _ _) (M48 (λ_=>W.ret λe=>by cases e) λ_=>M48 (λ_=>W.ret λe=>by cases e) λ_=>?_);refine W.run (λx=>∃ k:Nat,x=(k:Int)∧k≤100000) (λx=>100001-x.toNat) ⟨v,rfl,hv⟩ (by omega) λx A=>?_
 obtain ⟨k,rfl,hk⟩:=A;refine M49 (λq=>M4c (o9 k s w hs hw) λb _=>M48 (λ_=>M4a λ_=>by (try simp only);omega) λ_=>W.nx ?_) λ_=>M4a λe=>by cases e
 rw [A8 (by omega) (by omega)];exact ⟨⟨k+1,by omega,by omega⟩,by omega⟩
end
section
def Hq (j:Bb):Prop:=j.1.length≤100000
structure QM (its:List Aa) (w:Int):Prop where
 n:its.length≤96
 w:0≤w∧w≤12
 b:∀ x∈its,0≤x.2.1∧x.2.1≤31
 s:∀ x∈its,0≤x.2.2.1∧x.2.2.1≤12
variable {a:Nat}
theorem Au {its:List Aa}(h:a<its.length):its.getD a (0,0,0,0)=its[a]:=by
 rw [M1Q,M00 h];rfl
theorem fu (its:List Aa)(a b:Nat):0≤kd its a b∧kd its a b≤2:=by
 unfold kd;split <;>(try split) <;>(try split) <;> omega
variable {b:Nat}
theorem qB {its:List Aa}(h:kd its a b≠0):(its.getD a (0,0,0,0)).2.1<(its.getD b (0,0,0,0)).2.1:=by
 unfold kd at h;split at h;exact absurd rfl h;split at h;exact absurd rfl h;omega
theorem QN {its:List Aa}{w:Int}(A:a<its.length)(hb:b<its.length):XX ((its,w),(a:Int),(b:Int))=some (kd its a b):=by
 unfold XX sC kd;simp only;refine M4o (M4b A (M4b hb (M4i (λh=>W.ret ?_) λh=>M49 (λh2=>W.ret ?_) λh2=>M49 (λh3=>W.ret ?_) λh3=>W.ret ?_)));rw [Au A,Au hb,M1d h];rw [Au A,Au hb,M1e (M3E h),M1d h2];rw [Au A,Au hb,M1e (M3E h),M1e h2,M1d (by omega)];rw [Au A,Au hb,M1e (M3E h),M1e h2,M1e (by omega)]
theorem og {its:List Aa}{w:Int}(A:a<its.length)(hb:b<its.length):nv ((its,w),(a:Int),(b:Int))=some (kd its a b):=by
 unfold nv x4 kd;simp only;refine M4o (M4b A (M4b hb (M4i (λh=>W.ret ?_) λh=>M49 (λh2=>W.ret ?_) λh2=>M49 (λh3=>W.ret ?_) λh3=>W.ret ?_)));rw [Au A,Au hb,M1d h];rw [Au A,Au hb,M1e (M3E h),M1d h2];rw [Au A,Au hb,M1e (M3E h),M1e h2,M1d (by omega)];rw [Au A,Au hb,M1e (M3E h),M1e h2,M1e (by omega)]
theorem Yw (its:List Aa)(a b:Nat):A1 (Int.tdiv (kd its a b) 2)=if kd its a b=2 then 1 else 0:=by
 have h:=fu its a b;rcases (show kd its a b=0∨kd its a b=1∨kd its a b=2 by omega) with e|e|e <;> rw [e] <;> rfl
theorem Wo {its:List Aa}{w:Int}(A:a<its.length)(hb:b<its.length):d6 ((its,w),(a:Int),(b:Int))=some (if kd its a b=2 then 1 else 0):=by
 unfold d6 sD;rw [QN A hb,BR,Yw]
theorem oh (its:List Aa)(w:Int):W (jP (its,w)) λr=>r=0→QM its w:=by
 unfold jP sr;simp only;refine M49 (λ_=>W.ret λe=>by cases e) λl1=>M49 (λ_=>W.ret λe=>by cases e) λY=>M49 (λ_=>W.ret λe=>by cases e) λZ=>?_
 unfold ln at l1;refine M4h its.length (λt=>∀ i (hi:i<its.length),i<t→(0≤its[i].2.1∧its[i].2.1≤31)∧0≤its[i].2.2.1∧its[i].2.2.1≤12) (by omega) (λi _ q=>by omega) λt ht A=>M49 (λq=>?_) (λq=>M4a λ_=>⟨by omega,by omega,λx E=>?_,λx E=>?_⟩)
 have B:t<its.length:=by unfold ln at q;omega
 refine M4b B (M48 (λ_=>M4a λe=>by cases e) λ_=>M48 (λ_=>M4a λe=>by cases e) λ_=>M49 (λ_=>M4a λe=>by cases e) λH=>M49 (λ_=>M4a λe=>by cases e) λI=>M49 (λ_=>M4a λe=>by cases e) λJ=>M49 (λ_=>M4a λe=>by cases e) λO=>M48 (λ_=>M4a λe=>by cases e) λ_=>M48 (λ_=>M4a λe=>by cases e) λ_=>?_);have nx:∀ {Q:Int→Prop},W (some (Al.next (A1 ((t:Int)+1)))) (BX (λG:Int=>t<its.length∧G=A1 ((t:Int)+1)∧∀ i (hi:i<its.length),i<t+1→(0≤its[i].2.1∧its[i].2.1≤31)∧0≤its[i].2.2.1∧its[i].2.2.1≤12) Q):=λ{Q}=>W.nx ⟨B,rfl,λi hi q=>by
  by_cases e:i=t;subst e;omega;exact A i hi (by omega)⟩
 refine M49 (λU=>?_) λ_=>nx
 rw [A8 (by omega) (by omega)];exact M4f (by omega) (by omega) λ_ _ _=>M48 (λ_=>M4a λe=>by cases e) λ_=>nx
 all_goals obtain ⟨k,hk,rfl⟩:=M1o.1 E
 exact (A k hk (by unfold ln at q;omega)).1;exact (A k hk (by unfold ln at q;omega)).2
theorem Yx (its:List Aa)(w:Int):W (Jt (its,w)) λr=>r=0→QM its w:=by
 unfold Jt ma;simp only;refine M49 (λ_=>W.ret λe=>by cases e) λl1=>M49 (λZ=>M4q (λ_=>W.ret λe=>by cases e) λI=>?_) λ_=>W.ret λe=>by cases e
 have I:=M1s I;unfold ln at l1;refine M4h its.length (λt=>∀ i (hi:i<its.length),i<t→(0≤its[i].2.1∧its[i].2.1≤31)∧0≤its[i].2.2.1∧its[i].2.2.1≤12) (by omega) (λi _ q=>by omega) λt ht A=>M49 (λq=>?_) (λq=>M4a λ_=>⟨by omega,by omega,λx H=>?_,λx H=>?_⟩)
 have G:t<its.length:=by unfold ln at q;omega
 have dn:∀ {P:Int→Prop} {z:Int},z≠0→W (some (Al.done z)) (BX P λr=>r=0→QM its w):=λ{P z} h=>M4a λe=>absurd e h
 refine M4b G (M48 (λ_=>M48 (λ_=>dn (by omega)) λ_=>M49 (λO=>M4q (λ_=>dn (by omega)) λB=>M49 (λU=>M4q (λ_=>dn (by omega)) λE=>M48 (λ_=>M48 (λ_=>dn (by omega)) λ_=>?_) λ_=>dn (by omega)) λ_=>dn (by omega)) λ_=>dn (by omega)) λ_=>dn (by omega));have B:=M1s B;have E:=M1s E;have nx:∀ {Q:Int→Prop},W (some (Al.next (A1 ((t:Int)+1)))) (BX (λJ:Int=>t<its.length∧J=A1 ((t:Int)+1)∧∀ i (hi:i<its.length),i<t+1→(0≤its[i].2.1∧its[i].2.1≤31)∧0≤its[i].2.2.1∧its[i].2.2.1≤12) Q):=λ{Q}=>W.nx ⟨G,rfl,λi hi q=>by
  by_cases e:i=t;subst e;omega;exact A i hi (by omega)⟩
 refine M49 (λY=>?_) λ_=>nx
 rw [A8 (by omega) (by omega)];exact M4f (by omega) (by omega) λ_ _ _=>M48 (λ_=>dn (by omega)) λ_=>nx
 all_goals obtain ⟨k,hk,rfl⟩:=M1o.1 H
 exact (A k hk (by unfold ln at q;omega)).1;exact (A k hk (by unfold ln at q;omega)).2
def Cds (n:Nat) (c:List Int):Prop:=c.length=n∧∀ x∈c,0≤x∧x≤4095
theorem Cds.set {n:Nat}{c:List Int}(h:Cds n c){i:Nat}{x:Int}(A:0≤x∧x≤4095):Cds n (c.set i x):=
 ⟨by rw [M2x];exact h.1,λy hy=>by
  rcases List.mem_or_eq_of_mem_set hy with q|q;exact h.2 y q;rw [q];exact A⟩
section
variable {its : List Aa} {w : Int} (g : QM its w)
include g
theorem QO {c:List Int}(E:Cds its.length c){b:Nat}(hb:b<its.length):W (XY ((its,w),c,(b:Int))) λr=>(0≤r∧r≤4096)∧(0<r→∃ a,∃ U:a<its.length,kd its a b≠0∧∃ E:a<c.length,A1 (c[a]+if kd its a b=2 then 1 else 0)=r):=by
 have Y:=g.n;unfold XY sE;simp only;refine M4e its.length (λs=>s.2) (λt s=>(0≤s.1∧s.1≤4096)∧(0<s.1→∃ a,∃ U:a<its.length,kd its a b≠0∧∃ E:a<c.length,A1 (c[a]+if kd its a b=2 then 1 else 0)=s.1)) (by omega) rfl (by exact ⟨⟨M45 0,by omega⟩,λq=>absurd q (by omega)⟩) λt s ht J I=>?_
 obtain ⟨m,i⟩:=s;simp only at J I ⊢;subst J;obtain ⟨O,H⟩:=I;refine M49 (λq=>?_) (λq=>M4a ⟨O,H⟩);have A:t<its.length:=by unfold ln at q;omega
 have G:t<c.length:=by rw [E.1];exact A
 have Z:=E.2 _ (M03 G);refine W.of (QN A hb) (M49 (λhk=>M4b G (W.of (Wo A hb) (W.nx ⟨A,rfl,?_,λB=>?_⟩))) λ_=>W.nx ⟨A,rfl,O,H⟩);simp only;have e:A1 (c[t]+if kd its t b=2 then 1 else 0)=c[t]+if kd its t b=2 then 1 else 0:=A8 (by split <;> omega) (by split <;> omega)
 rw [e];split <;> omega
 simp only at B ⊢;rcases M3Y (A1 (c[t]+if kd its t b=2 then 1 else 0)) m with h|h
 rw [M3U h] at B ⊢;exact H B
 rw [M3L h] at B ⊢;exact ⟨t,A,by omega,G,rfl⟩
theorem oi:W (bif Dh (ln its) then (std.run (λB:Int×AC=>bif decide (B.2.1<32) then std.run (λA:Int×AC=>bif decide (A.2.1<ln A.2.2) then (Go.V.idx its A.2.1).bind λv3=>bif v3.2.1 != B.2.1 then some (.next (A.1,A1 (A.2.1+1),A.2.2)) else (Go.V.idx its A.2.1).bind λv4=>(XY ((its,w),A.2.2,A.2.1)).bind λO=>(cY (O,v4.2.2.1,w)).bind λJ=>bif J.2 != 0 then some (.done (.done (.done ((0,[]),J.2)))) else (Go.V.idx A.2.2 A.2.1).bind λv7=>some (.next (max A.1 J.1,A1 (A.2.1+1),List.set A.2.2 (Int.toNat A.2.1) J.1)) else some (.done (.next (A.1,A1 (B.2.1+1),A.2.2)))) (B.1,0,B.2.2) else some (.done (.next (B.1,B.2.2)))) (0,0,List.replicate (Int.toNat (ln its)) 0)).bind (AF λv8:AC=>(d8 v8.1).bind λv9=>some ((v9,v8.2),0)) else none) λr:AC×Int=>r.2=0→Cds its.length r.1.2∧0≤r.1.1∧r.1.1≤12:=by
 have gn:=g.n;refine W.mk (DP _) (by unfold ln;omega) (W.st (P:=λr=>(0≤r.1∧r.1≤4095)∧Cds its.length r.2) ?_ λr hr=>?_);refine M4e 32 (λs=>s.2.1) (λt s=>(0≤s.1∧s.1≤4095)∧Cds its.length s.2.2) (by omega) rfl (by exact ⟨⟨M45 0,by omega⟩,by simp [ln],λx hx=>by rw [(M3F.1 hx).2];omega⟩) λt s ht H E=>?_
 obtain ⟨m,i,c⟩:=s;simp only at H E ⊢;subst H;refine M49 (λq=>?_) (λq=>M4a E);refine M4e its.length (λs=>s.2.1) (λu s=>(0≤s.1∧s.1≤4095)∧Cds its.length s.2.2) (by omega) rfl E λu s hu H E=>?_
 obtain ⟨m,i,c⟩:=s;simp only at H E ⊢;subst H;obtain ⟨Z,I⟩:=E;have i3:=I.1;refine M49 (λq=>?_) (λq=>M4a ⟨by omega,rfl,Z,I⟩);have G:u<its.length:=by unfold ln at q;omega
 have hs:=g.s _ (M03 G);have hw:=g.w;refine M4b G (M4i (λ_=>W.nx ⟨G,rfl,Z,I⟩) λ_=>M4b G (M4c (QO g I G) λO h5=>?_));have k:=oe O.toNat (its[u].2.2.1).toNat w.toNat (by omega) (by omega) (by omega);rw [M1v h5.1.1,M1v hs.1,M1v hw.1] at k;refine M4c k λJ Y=>M4i (λhne=>M4a λe=>absurd e hne) λU=>M4b (by omega) (W.nx ⟨G,rfl,?_,I.set (Y U)⟩)
 have:=Y U;simp only;omega;have k:=o8 r.1.toNat (by omega);rw [M1v hr.1.1] at k;refine M4c k λv9 h9=>W.ret λ_=>⟨hr.2,?_⟩
 obtain ⟨n,rfl,h,_⟩:=h9;simp only;omega
theorem oq {c:List Int}(E:Cds its.length c):W (jZ ((its,w),c)) λr=>r.length≤32:=by
 have gn:=g.n;have al:=E.1;unfold jZ sI;simp only;refine W.beq (λ_=>W.ret (by simp)) λhne=>?_
 have hne:0<c.length:=by unfold ln at hne;omega
 refine W.st (P:=λv=>∃ k:Nat,v=(k:Int)∧k<its.length) ?_ λv3 h3=>?_
 refine M4e c.length (λs=>s.2) (λt s=>∃ k:Nat,s.1=(k:Int)∧k<its.length) (by omega) rfl ⟨0,rfl,by omega⟩ λt s ht J I=>?_
 obtain ⟨m,i⟩:=s;simp only at J I ⊢;subst J;obtain ⟨k,rfl,hk⟩:=I;refine M49 (λq=>?_) (λq=>M4a ⟨k,rfl,hk⟩);have G:t<c.length:=by unfold ln at q;omega
 exact M4b G (M4b (by omega) (M48 (λ_=>W.nx ⟨G,rfl,t,rfl,by omega⟩) λ_=>W.nx ⟨G,rfl,k,rfl,hk⟩))
 ·obtain ⟨k,rfl,hk⟩:=h3;let B:Nat→Int→Prop:=λb r=>(0≤r∧r≤4096)∧(0<r→∃ a,∃ ha:a<its.length,kd its a b≠0∧∃ E:a<c.length,A1 (c[a]+if kd its a b=2 then 1 else 0)=r)
  refine M4c (QO g E hk) λv4 h4=>?_
  refine W.run (λs=>∃ b:Nat,s.1=(b:Int)∧b<its.length∧B b s.2.2∧(s.2.1.length:Int)+(its.getD b (0,0,0,0)).2.1≤32) (λs=>(its.getD s.1.toNat (0,0,0,0)).2.1.toNat) ⟨k,rfl,hk,h4,?_⟩ ?_ λs hs=>?_
  have:=g.b _ (M03 hk);rw [Au hk];simp;omega;have:=g.b _ (M03 hk);simp only [M1i];rw [Au hk];omega
  ·obtain ⟨i,p,r⟩:=s;obtain ⟨b,e,hb,hB,hp⟩:=hs;simp only at e hB hp ⊢;subst e;have ak:=g.b _ (M03 hb);rw [Au hb] at hp;refine M49 (λZ=>?_) λ_=>M4a (by (try simp only);omega)
   obtain ⟨a,ha,ka,aj,Y⟩:=hB.2 Z;refine W.st (P:=λv:AC=>∃ x:Nat,v=((x:Int),(x:Int)::p)∧x<its.length∧kd its x b≠0) ?_ λaq ab=>?_
   refine W.st (P:=λv:Int=>∃ x:Nat,v=(x:Int)∧x<its.length∧kd its x b≠0) ?_ λao aa=>M4d (by simp;omega) (W.nx ?_)
   refine W.run (λv=>∃ x:Nat,v=(x:Int)∧x≤a) (λv=>a-v.toNat) ⟨0,rfl,M2j _⟩ (by omega) λv hv=>?_
   obtain ⟨x,rfl,O⟩:=hv;have A:x<its.length:=by omega
   have ag:x<c.length:=by omega
   have nx:x≠a→∀ {Q:Al Int (Al AC (Al (Int×(List Int)×Int) (List Int)))→Prop},W (some (Al.next (A1 ((x:Int)+1)))) (BX (λU:Int=>(∃ x:Nat,U=(x:Int)∧x≤a)∧a-U.toNat<a-(x:Int).toNat) Q):=λne {Q}=>W.nx (by rw [A8 (by omega) (by omega)];exact ⟨⟨x+1,rfl,by omega⟩,by omega⟩)
   refine W.of (QN A hb) (W.beq (λe=>nx (λq=>by subst q;exact ka e)) λH=>M4b ag (W.of (Wo A hb) (M4i (λe=>nx λq=>?_) λ_=>M4a ⟨x,rfl,A,H⟩)));subst q;exact e Y;obtain ⟨x,rfl,O⟩:=aa;exact ⟨x,rfl,O⟩;obtain ⟨x,rfl,A,H⟩:=ab;have af:=qB H;rw [Au A,Au hb] at af;have am:=g.b _ (M03 A);refine M4c (QO g E A) λar ac=>W.nx ⟨⟨x,rfl,A,ac,?_⟩,?_⟩
   rw [Au A];simp only [M1N];omega;simp only [M1i];rw [Au A,Au hb];omega
end
theorem ou (its:List Aa)(w:Int):W (du (its,w)) λr=>r.2=0→QM its w∧Cds its.length r.1.2∧0≤r.1.1∧r.1.1≤12:=by
 unfold du sH;refine M4c (oh its w) λB A=>M4i (λhne=>W.ret λe=>absurd e hne) λh=>?_
 have g:=A h;exact W.mono (oi g) λr hr e=>⟨g,hr e⟩
theorem fv (j:Bb)(h:Hq j):W (zH j) λr=>r.2=0→r.1.1.2.length=j.1.length∧(0≤r.1.1.1∧r.1.1.1≤12)∧r.1.2.length≤1000∧j.1.length≤96:=by
 obtain ⟨its,w⟩:=j;obtain ⟨r,B,hr⟩:=ou its w;unfold zH B81;refine W.of B (M4i (λhne=>W.ret λe=>absurd e hne) λE=>M4c (P:=λr=>r.1.length≤1000) ?_ λv hv=>W.ret λ_=>?_)
 ·obtain ⟨g,A,_⟩:=hr E;unfold sL sK;refine W.of B (M4i (λ_=>W.ret (by simp)) λ_=>M4c (oq g A) λv hv=>W.ret (by (try simp only);omega))
 obtain ⟨g,A,h2⟩:=hr E;exact ⟨A.1,h2,hv,g.n⟩
end
section
def SJ (its:List Aa) (a:Nat):List Int:=(List.range its.length).map λb=>kd its a b
variable {a:Nat}
theorem IP {its:List Aa}(h:a<its.length):Go.V.idx (Js its) (a:Int)=some (SJ its a):=by
 rw [H1];unfold Js SJ;rw [M1n,M1I h];rfl
variable {b:Nat}
theorem IQ {its:List Aa}(h:b<its.length):Go.V.idx (SJ its a) (b:Int)=some (kd its a b):=by
 rw [H1];unfold SJ;rw [M1n,M1I h];rfl
def VK (its:List Aa) (b:Nat):Int:=(its.getD b (0,0,0,0)).2.2.1
def ky (its:List Aa) (x:Int):Int:=(its.getD x.toNat (0,0,0,0)).2.1
structure M0a (its:List Aa) (w:Int) (m:Int) (codes:List Int) (b:Nat):Prop where
 m0:0≤m∧m≤4096
 le:∀ a,a<its.length→kd its a b≠0→vw codes a+kd its a b-1≤m
 ex:0<m→∃ a,a<its.length∧kd its a b≠0∧vw codes a+kd its a b-1=m
 nx:Ye (m,VK its b,w)=some (vw codes b,0)
 c:m≤vw codes b∧vw codes b≤4095
 ok:eV (vw codes b,VK its b,w)=some true
structure Sol (its:List Aa) (w:Int) (base codes:List Int):Prop where
 bl:base.length=its.length
 cl:codes.length=its.length
 at':∀ b,b<its.length→M0a its w (vw base b) codes b
theorem Eh {d:List Int}{i:Nat}{x:Int}(k:Nat)(h:i<d.length):vw (d.set i x) k=if i=k then x else vw d k:=by
 unfold vw;rw [M1Q,M22,M1Q];split;rfl;rfl
theorem Wp (n k:Nat):vw (List.replicate n 0) k=0:=by
 unfold vw;rw [M1Q,M2N];split <;> rfl
theorem fw {its:List Aa}(h:kd its a b≠0):ky its (a:Int)<ky its (b:Int):=qB h
theorem Jy {its:List Aa}(h:kd its a b≠0):1≤kd its a b∧kd its a b≤2:=by
 have:=fu its a b;omega
section
variable {its : List Aa} {w : Int} (g : QM its w)
include g
theorem ox:W (yQ (its,w) ((List.range its.length).map λk:Nat=>(k:Int))) λo=>o.Perm ((List.range its.length).map λk:Nat=>(k:Int))∧o.Pairwise λa b=>ky its a≤ky its b:=by
 have H:=g.n;have key:∀ x∈(List.range its.length).map λk:Nat=>(k:Int),∃ k:Nat,x=(k:Int)∧k<its.length:=λx B=>by
  obtain ⟨k,hk,rfl⟩:=M1L.1 B;exact ⟨k,rfl,M2i.1 hk⟩
 obtain ⟨ys,h1,h2,h3⟩:=Un (cmp:=Xo (its,w)) (xs:=(List.range its.length).map λk:Nat=>(k:Int)) (ky its) (by simp;omega) λx B y hy=>by
  obtain ⟨a,rfl,A⟩:=key x B;obtain ⟨b,rfl,hb⟩:=key y hy;have E:=g.b _ (M03 A);have G:=g.b _ (M03 hb);unfold Xo ky;refine M4o (M4b A (M4b hb (W.ret ?_)));simp only [M1i];rw [Au A,Au hb,A8 (by omega) (by omega)]
 exact ⟨ys,h1,h2,h3⟩
theorem oy:W (V4 ((its,w),Js its)) λr=>r.2.2=0→Sol its w r.1 r.2.1:=by
 have gn:=g.n;have gw:=g.w;unfold V4 vX;simp only;refine W.mk (DP _) (by unfold ln;omega) (W.st (P:=λv=>v=(List.range its.length).map λk:Nat=>(k:Int)) ?_ λv2 h2=>?_);refine M4e its.length (λs=>s.1) (λt s=>s.2.length=its.length∧∀ i,i<t→s.2[i]? = some (i:Int)) (by omega) rfl (by exact ⟨by simp [ln],λi q=>by omega⟩) λt s ht A E=>?_
 obtain ⟨i,a⟩:=s;simp only at A E ⊢;subst A;obtain ⟨i1,Y⟩:=E;refine M49 (λq=>?_) (λq=>M4a ?_)
 have O:t<its.length:=by simp [ln] at q;omega
 refine M4b (by omega) (W.nx ⟨O,rfl,by simpa using i1,λi hi=>?_⟩);simp only [M1i];rw [M22];split;rw [M1d (by omega)];rename_i e;rw [e]
 exact Y i (by omega);have q:its.length≤t:=by simp [ln] at q;omega
 refine M23 λk=>?_
 rw [M1n];by_cases hk:k<its.length;rw [M1I hk];exact Y k (by omega);rw [M1h (by omega),M1h (by simp;omega)];rfl;subst h2;obtain ⟨o,eo,hp,hs⟩:=ox g;refine W.of eo ?_;have ol:o.length=its.length:=by rw [hp.length_eq];simp
 have om:∀ i (hi:i<o.length),∃ k:Nat,o[i]=(k:Int)∧k<its.length:=λi hi=>by
  have:=hp.mem_iff.1 (M03 hi);obtain ⟨k,hk,e⟩:=M1L.1 this;exact ⟨k,e.symm,M2i.1 hk⟩
 have nd:o.Nodup:=hp.nodup_iff.2 (List.Pairwise.map _ (λa b h e=>h (by omega)) List.nodup_range);have al:∀ b,b<its.length→∃ i,∃ hi:i<o.length,o[i]=(b:Int):=λb hb=>by
  have:=hp.mem_iff.2 (M1L.2 ⟨b,M2i.2 hb,rfl⟩);obtain ⟨i,hi,e⟩:=M1o.1 this;exact ⟨i,hi,e⟩
 have aA:∀ i j (hi:i<o.length) (hj:j<o.length),i<j→ky its o[i]≤ky its o[j]:=λi j hi hj h=>M2d.1 hs i j hi hj h
 refine W.mk (DP _) (by unfold ln;omega) (W.mk (DP _) (by unfold ln;omega) ?_);refine M4e o.length (λs=>s.2.2) (λk s=>s.1.length=its.length∧s.2.1.length=its.length∧(∀ b,0≤vw s.2.1 b∧vw s.2.1 b≤4095)∧(∀ i (hi:i<o.length),i<k→M0a its w (vw s.1 (o[i]).toNat) s.2.1 (o[i]).toNat)∧∀ i (hi:i<o.length),k≤i→vw s.1 (o[i]).toNat=0∧vw s.2.1 (o[i]).toNat=0) (by omega) rfl (by exact ⟨by simp [ln,ol],by simp [ln,ol],λb=>by simp only;rw [Wp];omega,λi _ q=>by omega,λi _ _=>by simp only;rw [Wp];exact ⟨rfl,rfl⟩⟩) λk s hk A E=>?_
 obtain ⟨base,codes,i⟩:=s;simp only at A E ⊢;subst A;obtain ⟨i1,Y,i3,i4,i5⟩:=E;refine M49 (λq=>?_) (λq=>M4a λ_=>⟨i1,Y,λb hb=>?_⟩)
 have G:k<o.length:=by unfold ln at q;omega
 obtain ⟨b,I,hb⟩:=om k G;have ge:A7 o (k:Int) o[k]=(b:Int):=by rw [Aw G,I]
 refine M4b G ?_;rw [ge];have z:=i5 k G (M1g _);rw [I] at z;simp only [M1i] at z;refine W.st (P:=λv=>∃ m,v=base.set b m∧(0≤m∧m≤4096)∧(∀ a,a<its.length→kd its a b≠0→vw codes a+kd its a b-1≤m)∧(0<m→∃ a,a<its.length∧kd its a b≠0∧vw codes a+kd its a b-1=m)) ?_ λaD av=>?_
 refine M4e its.length (λs=>s.1) (λt s=>∃ m,s.2=base.set b m∧(0≤m∧m≤4096)∧(∀ a,a<t→kd its a b≠0→vw codes a+kd its a b-1≤m)∧(0<m→∃ a,a<its.length∧kd its a b≠0∧vw codes a+kd its a b-1=m)) (by omega) rfl ⟨0,?_,by omega,λa q=>by omega,λq=>by omega⟩ λt s ht A E=>?_
 simp only;refine M23 λj=>?_
 rw [M22];split;rename_i e;subst e;rw [M1d (by omega),QE (by omega),z.1];rfl;obtain ⟨i,v⟩:=s;simp only at A E ⊢;subst A;obtain ⟨m,rfl,m0,Z,m2⟩:=E;refine M49 (λq=>?_) (λq=>M4a ⟨m,rfl,m0,λa J=>Z a (by unfold ln at q;omega),m2⟩);have O:t<its.length:=by unfold ln at q;omega
 refine W.of (IP O) (W.of (IQ hb) (M49 (λay=>?_) λay=>W.nx ⟨O,rfl,m,rfl,m0,λa J hne=>?_,m2⟩));have ab:b<(base.set b m).length:=by rw [M2x];omega
 have k1:=Jy (its:=its) (a:=t) (b:=b) (by omega);have A:=i3 t;have g1:∀ x,A7 (base.set b m) (b:Int) x=m:=λx=>AX (by simp only [M1i];rw [M2Q (by omega)])
 have g2:A7 codes (t:Int) codes[t]=vw codes t:=by rw [Aw (by omega),BB (by omega)]
 refine M4b ab (M4b (by omega) (M4b ab (W.nx ⟨O,rfl,max m (vw codes t+kd its t b-1),?_,by omega,λa J hne=>?_,λH=>?_⟩)));simp only [M1i];rw [g1,g2,A8 (n:=vw codes t+kd its t b) (by omega) (by omega),A8 (by omega) (by omega),List.set_set];by_cases e:a=t;subst e;omega;have:=Z a (by omega) hne;omega;rcases M3Y (vw codes t+kd its t b-1) m with h|h;rw [M3U h] at H ⊢;exact m2 H
 rw [M3L h] at H ⊢;exact ⟨t,O,by omega,rfl⟩
 by_cases e:a=t;subst e;have:=Jy hne;omega;exact Z a (by omega) hne;obtain ⟨m,rfl,m0,Z,m2⟩:=av;have ab:b<(base.set b m).length:=by rw [M2x];omega
 have g1:∀ x,A7 (base.set b m) (b:Int) x=m:=λx=>AX (by simp only [M1i];rw [M2Q (by omega)])
 have az:=g.s _ (M03 hb);have ai:VK its b=its[b].2.2.1:=by unfold VK;rw [Au hb]
 refine M4b ab (M4b hb ?_);rw [g1];have kk:=o7 m.toNat (its[b].2.2.1).toNat w.toNat (by omega) (by omega) (by omega);rw [M1v m0.1,M1v az.1,M1v gw.1] at kk;obtain ⟨r,er,hr⟩:=kk;refine W.of er (M4i (λhne=>M4a λe=>absurd e hne) λH=>M4b (by omega) (W.nx ⟨G,rfl,by simp only [M2x];exact i1,by simp only [M2x];exact Y,λx=>?_,λi hi ax=>?_,λi hi ax=>?_⟩))
 obtain ⟨r1,r2,r3⟩:=hr H;simp only [M1i];rw [Eh _ (by omega)];split;omega;exact i3 x;obtain ⟨r1,r2,r3⟩:=hr H;simp only [M1i];obtain ⟨c,B,aw⟩:=om i hi;rw [B];simp only [M1i];have keep:∀ a,kd its a c≠0→vw (codes.set b r.1) a=vw codes a:=λa hne=>by
  rw [Eh _ (by omega),M1e λe=>?_];subst e;have h1:=fw hne;rw [←B,←I] at h1;by_cases e:i=k;subst e;omega;have:=aA i k hi G (by omega);omega
 by_cases e:i=k;subst e;have ao:b=c:=by rw [I] at B;omega
 subst ao;rw [Eh _ (by omega),M1d rfl];refine ⟨m0,λa J hne=>by rw [keep a hne];exact Z a J hne,λhm=>?_,?_,?_,?_⟩;obtain ⟨a,a1,a2,a3⟩:=m2 hm;exact ⟨a,a1,a2,by rw [keep a a2];exact a3⟩;rw [Eh _ (by omega),M1d rfl,ai,er,←H];rw [Eh _ (by omega),M1d rfl];exact ⟨r1,r2⟩;rw [Eh _ (by omega),M1d rfl,ai];exact r3;have U:b≠c:=λe2=>by
  subst e2;exact e (Ct nd hi G (by rw [B,I]))
 have s:=i4 i hi (by omega);rw [B] at s;simp only [M1i] at s;rw [Eh _ (by omega),M1e U];have ae:vw (codes.set b r.1) c=vw codes c:=by rw [Eh _ (by omega),M1e U]
 refine ⟨s.m0,λa J hne=>by rw [keep a hne];exact s.le a J hne,λhm=>?_,by rw [ae];exact s.nx,by rw [ae];exact s.c,by rw [ae];exact s.ok⟩;obtain ⟨a,a1,a2,a3⟩:=s.ex hm;exact ⟨a,a1,a2,by rw [keep a a2];exact a3⟩;simp only [M1i];obtain ⟨c,B,aw⟩:=om i hi;have U:b≠c:=λe2=>by
  subst e2;have:=Ct nd hi G (show o[i]=o[k] by rw [B,I]);omega
 have z:=i5 i hi (by omega);rw [B] at z ⊢;simp only [M1i] at z ⊢;rw [Eh _ (by omega),Eh _ (by omega),M1e U,M1e U];exact z
 obtain ⟨i,hi,e⟩:=al b hb;have s:=i4 i hi (by unfold ln at q;omega);rw [e] at s
 simpa using s
end
end
section
def DW (its:List Aa) (t u:Nat):List Int:=(List.range its.length).map λb=>if b<u then kd its t b else 0
def Cu (its:List Aa) (t:Nat):List (List Int):=(List.range its.length).map λa=>if a<t then SJ its a else []
theorem fx (its:List Aa)(t:Nat):DW its t its.length=SJ its t:=by
 unfold DW SJ;exact M3A λb hb=>M1d (M2i.1 hb)
theorem Yy (its:List Aa):Cu its its.length=Js its:=by
 unfold Cu Js;exact M3A λb hb=>M1d (M2i.1 hb)
theorem Yz (its:List Aa)(t:Nat):DW its t 0=List.replicate its.length 0:=by
 unfold DW;refine M23 λk=>?_
 rw [M1n,M2N];by_cases hk:k<its.length;rw [M1I hk,M1d hk];rfl;rw [M1h (by simp;omega),M1e hk];rfl
theorem Vm (its:List Aa):Cu its 0=List.replicate its.length []:=by
 unfold Cu;refine M23 λk=>?_
 rw [M1n,M2N];by_cases hk:k<its.length;rw [M1I hk,M1d hk];rfl;rw [M1h (by simp;omega),M1e hk];rfl
variable {its:List Aa}{t u:Nat}
theorem fy(A:u<its.length):(DW its t u).set u (kd its t u)=DW its t (u+1):=by
 unfold DW;refine M23 λk=>?_
 rw [M22,M1n,M1n];by_cases hk:k<its.length;rw [M1I hk];by_cases e:u=k;subst e;rw [M1d rfl,M1d (by simpa using hk)];simp;rw [M1e e];simp only [M1W,M1J];by_cases h:k<u;rw [M1d h,M1d (by omega)];rw [M1e h,M1e (by omega)];rw [M1e (by omega),M1h (by simp;omega)];rfl
theorem PK(h:kd its t u=0):DW its t u=DW its t (u+1):=by
 unfold DW;refine M3A λb _=>?_
 by_cases e:b=u;subst e;rw [M1e (by omega),M1d (by omega),h];by_cases h:b<u;rw [M1d h,M1d (by omega)];rw [M1e h,M1e (by omega)]
theorem YA(ht:t<its.length):(Cu its t).set t (SJ its t)=Cu its (t+1):=by
 unfold Cu;refine M23 λk=>?_
 rw [M22,M1n,M1n];by_cases hk:k<its.length;rw [M1I hk];by_cases e:t=k;subst e;rw [M1d rfl,M1d (by simpa using hk)];simp;rw [M1e e];simp only [M1W,M1J];by_cases h:k<t;rw [M1d h,M1d (by omega)];rw [M1e h,M1e (by omega)];rw [M1e (by omega),M1h (by simp;omega)];rfl
theorem YB (its:List Aa)(t:Nat):(Cu its t).length=its.length:=by simp [Cu]
theorem IR (its:List Aa)(t u:Nat):(DW its t u).length=its.length:=by simp [DW]
theorem QP{w:Int}(g:QM its w):Yh (its,w)=some (Js its):=M1d (by have:=g.n;show its.length≤1000;omega)
end
section
variable {T : G8} {L : List Int} {s : Bp} (h : Dc T L s)
include h
theorem Wv {t:Nat}(ht:t<s.length):Rg L.length s[t]∧s[t].Nodup∧s[t].length≤192:=AN h _ (M03 ht)
theorem QS {t:Nat}(ht:t<s.length)(A:t<T.length):0≤T[t].2∧T[t].2≤100000∧sm L s[t]≤T[t].2:=h.2.2.2.2.2.2 t _ _ ht (M00 ht) (M00 A)
theorem fF {r:List Int}(hr:Rg L.length r)(hl:r.length≤1000):cR (L,r)=some (sm L r):=by
 unfold cR rV;refine M4o (M4e r.length (λs=>s.2) (λt s=>s.1=sm L (r.take t)) (by omega) rfl rfl λt s ht G E=>?_);obtain ⟨a,i⟩:=s;simp only at G E ⊢;subst G E;refine M49 (λq=>?_) (λq=>M4a (by rw [show t=r.length by unfold ln at q;omega,M1m]));have B:t<r.length:=by unfold ln at q;omega
 have A:=hr _ (M03 B);have hb:=We h.2.2.2.1 A;have hs:=fi h.2.2.2.1 (r:=r.take t) λx A=>hr x (M24 A)
 have H:(r.take t).length≤1000:=by simp;omega
 refine M4b B (W.of (JN A.1 A.2) (W.nx ⟨B,rfl,?_⟩));simp only;rw [A8 (by omega) (by omega),M08 B,OA,CE,QF];omega
theorem Ww {r:List Int}(hr:Rg L.length r)(hl:r.length≤1000)(nm:List UInt8)(n:Int)(H:0≤n)(h1:n≤100000):z6 ((nm,n),L,r)=some (n-sm L r):=by
 unfold z6 B29;refine M4o (M4e r.length (λs=>s.2) (λt s=>s.1=n-sm L (r.take t)) (by omega) rfl (by simp [sm]) λt s ht G E=>?_);obtain ⟨a,i⟩:=s;simp only at G E ⊢;subst G E;refine M49 (λq=>?_) (λq=>M4a (by rw [show t=r.length by unfold ln at q;omega,M1m]));have B:t<r.length:=by unfold ln at q;omega
 have A:=hr _ (M03 B);have hb:=We h.2.2.2.1 A;have hs:=fi h.2.2.2.1 (r:=r.take t) λx A=>hr x (M24 A)
 have I:(r.take t).length≤1000:=by simp;omega
 refine M4b B (W.of (JN A.1 A.2) (W.nx ⟨B,rfl,?_⟩));simp only;rw [A8 (by omega) (by omega),M08 B,OA,CE,QF];omega
def BA (s:Bp) (t i:Nat):List Int:=(s.take t).flatten++(s[t]?.getD []).take i
omit h in
theorem H5 {t:Nat}(ht:t<s.length):BA s t s[t].length=BA s (t+1) 0:=by
 unfold BA;rw [M00 ht,M1G,M1m,List.take_zero,M1w,M08 ht,M2G];simp
omit h in
theorem SR {t i:Nat}(ht:t<s.length)(hi:i≤s[t].length)(q:¬ (i:Int)<ln s[t]):mk L.length (BA s t i)=mk L.length (BA s (t+1) 0):=by
 rw [show i=s[t].length by unfold ln at q;omega,H5 ht]
theorem SS {t i:Nat}(ht:t<s.length)(hi:i<s[t].length):s[t][i]∉BA s t i:=by
 have hd:=h.2.2.2.2.2.1;have e:s.flatten=BA s t i++(s[t][i]::(s[t].drop (i+1)++(s.drop (t+1)).flatten)):=by
  have A:s[t]=s[t].take i++s[t][i]::s[t].drop (i+1):=by rw [←M2c hi,M2m]
  have B:∀ X,s[t]++X=s[t].take i++(s[t][i]::(s[t].drop (i+1)++X)):=λX=>by
   conv=>lhs;rw [A]
   exact M20 _ _ _
  unfold BA;rw [M00 ht,M1G]
  conv=>lhs;rw [←M2m t s,M2c ht,M2G,M2H,B]
  simp
 rw [e] at hd;intro E;exact (M2X.1 hd).2.2 _ E _ M2w rfl
omit h in
theorem C2 {t i:Nat}(ht:t<s.length)(hi:i<s[t].length):BA s t (i+1)=BA s t i++[s[t][i]]:=by
 unfold BA;rw [M00 ht,M1G,M08 hi,M20]
theorem fG:F12 (T,L,s)=some true:=by
 obtain ⟨h1,h2,h3,I,O,U,Y⟩:=id h;unfold F12 B12;simp only;refine M4o (M4g (by simp [ln,h1]) (W.df (by (try simp only);unfold ln;omega) (W.df (by (try simp only);unfold ln;omega) (W.st (P:=λ_=>True) ?_ λ_ _=>W.mk (by (try simp only);unfold ln;omega) (by (try simp only);unfold ln;omega) ?_))));refine M4h L.length (λ_=>True) (by omega) trivial λt ht _=>M49 (λq=>?_) (λq=>M4a trivial)
 have A:t<L.length:=by unfold ln at q;omega
 have:=I _ (M03 A);exact M4b A (W.df (by omega) (W.df (by omega) (W.nx ⟨A,rfl,trivial⟩)));refine M4e s.length (λs=>s.1) (λt a=>a.2=mk L.length (BA s t 0)) (by omega) rfl (by simp only [ln,M1i];rw [Vj];simp [BA]) λt a ht G E=>?_
 obtain ⟨i,m⟩:=a;simp only at G E ⊢;subst G E;refine M49 (λq=>?_) (λq=>M4a rfl);have A:t<s.length:=by unfold ln at q;omega
 obtain ⟨r1,r2,r3⟩:=Wv h A;obtain ⟨t1,J,Z⟩:=QS h A (by omega);refine M4b A (W.st (P:=λm=>m=mk L.length (BA s (t+1) 0)) ?_ λm hm=>?_);refine M4e s[t].length (λs=>s.1) (λi a=>a.2=mk L.length (BA s t i)) (by omega) rfl rfl λi a hi G E=>?_
 obtain ⟨j,m⟩:=a;simp only at G E ⊢;subst G E;refine M49 (λq=>?_) (λq=>M4a (SR A hi q));have H:i<s[t].length:=by unfold ln at q;omega
 have B:=r1 _ (M03 H);have hn:=SS h A H;refine M4b H (W.df (by omega) (W.df (by unfold ln;omega) (W.of (HO B.1 B.2) ?_)));have e:(mk L.length (BA s t i))[(s[t][i]).toNat]? = some false:=by
  have:=HO (pre:=BA s t i) B.1 B.2;rw [DQ _ B.1,M1K hn] at this;exact this
 refine M4g (by rw [AX e]) (W.of (HO B.1 B.2) (W.nx ⟨H,rfl,?_⟩));simp only;rw [Vh B.1 B.2,C2 A H];subst hm;refine M4b (by omega) (W.df (by omega) (M4b (by omega) (W.df (by omega) (M4b (by omega) (W.of (Ww h r1 (by omega) (T[t]'(by omega)).1 (T[t]'(by omega)).2 t1 J) (W.df (by omega) (W.nx ⟨A,rfl,rfl⟩)))))))
theorem oK:rZ (T,L,s)=some true:=by
 obtain ⟨h1,h2,h3,I,J,O,U⟩:=id h;unfold rZ rY;simp only;refine M4o (M4g (by simp [ln,h1]) (W.df (by (try simp only);unfold ln;omega) (W.df (by (try simp only);unfold ln;omega) (W.st (P:=λ_=>True) ?_ λ_ _=>W.mk (by (try simp only);unfold ln;omega) (by (try simp only);unfold ln;omega) ?_))));refine M4h L.length (λ_=>True) (by omega) trivial λt ht _=>M49 (λq=>?_) (λq=>M4a trivial)
 have A:t<L.length:=by unfold ln at q;omega
 have:=I _ (M03 A);exact M4b A (W.df (by omega) (M4b A (W.df (by omega) (W.nx ⟨A,rfl,trivial⟩))));refine M4e s.length (λs=>s.1) (λt a=>a.2=mk L.length (BA s t 0)) (by omega) rfl (by simp only [ln,M1i];rw [Vj];simp [BA]) λt a ht G E=>?_
 obtain ⟨i,m⟩:=a;simp only at G E ⊢;subst G E;refine M49 (λq=>?_) (λq=>M4a rfl);have A:t<s.length:=by unfold ln at q;omega
 obtain ⟨r1,r2,r3⟩:=Wv h A;obtain ⟨t1,Y,Z⟩:=QS h A (by omega);refine W.st (P:=λm=>m=mk L.length (BA s (t+1) 0)) ?_ λm hm=>?_
 refine M4e s[t].length (λs=>s.1) (λi a=>a.2=mk L.length (BA s t i)) (by omega) rfl rfl λi a hi G E=>?_
 obtain ⟨j,m⟩:=a;simp only at G E ⊢;subst G E;refine M4b A (M49 (λq=>?_) (λq=>M4a (SR A hi q)));have H:i<s[t].length:=by unfold ln at q;omega
 have B:=r1 _ (M03 H);have hn:=SS h A H;refine M4b A (M4b H (W.df (by omega) (W.df (by unfold ln;omega) (W.of (HO B.1 B.2) ?_))));have e:(mk L.length (BA s t i))[(s[t][i]).toNat]? = some false:=by
  have:=HO (pre:=BA s t i) B.1 B.2;rw [DQ _ B.1,M1K hn] at this;exact this
 refine M4g (by rw [AX e]) (W.of (HO B.1 B.2) (W.nx ⟨H,rfl,?_⟩));simp only;rw [Vh B.1 B.2,C2 A H];subst hm;refine M4b (by omega) (W.df (by omega) (M4b (by omega) (W.df (by omega) (M4b A (M4b (by omega) (W.of (fF h r1 (by omega)) (W.df (by omega) (W.nx ⟨A,rfl,rfl⟩))))))))
end
theorem fH (s:Bp)(h:Sml s):yk s=some s:=by
 unfold yk B69;refine M4o (M4e s.length (λs=>s.2) (λt a=>a.1=s.take t) (by have:=h.1;omega) rfl rfl λt a ht E B=>?_);obtain ⟨a,i⟩:=a;simp only at E B ⊢;subst E B;refine M49 (λq=>?_) (λq=>M4a (by rw [show t=s.length by unfold ln at q;omega,M1m]));have A:t<s.length:=by unfold ln at q;omega
 have h2:=h.2 _ (M03 A);have h1:=h.1;exact M4b A (M4d (by simp;omega) (M4d (by simp;omega) (W.nx ⟨A,rfl,by simp only [M2L];rw [M08 A]⟩)))
theorem Wx (ws:List A6)(h:ws.length≤100000):OR ws=some (ws.map λw=>w.2.1):=by
 unfold OR sa;refine M4o (M4e ws.length (λs=>s.2) (λt a=>a.1=(ws.take t).map λw=>w.2.1) (by omega) rfl rfl λt a ht E B=>?_);obtain ⟨a,i⟩:=a;simp only at E B ⊢;subst E B;refine M49 (λq=>?_) (λq=>M4a (by rw [show t=ws.length by unfold ln at q;omega,M1m]));have A:t<ws.length:=by unfold ln at q;omega
 exact M4b A (M4d (by simp;omega) (W.nx ⟨A,rfl,by simp only;rw [M08 A,M1A];rfl⟩))
section
theorem W.sub {α β:Type}{xs:List α}{l h:Int}{f:List α→Option β}{Q:β→Prop}(A:0≤l)(h1:l≤h)(h2:h≤xs.length)(k:∀ r,r=(xs.drop l.toNat).take (h.toNat-l.toNat)→r.length=h.toNat-l.toNat→W (f r) Q):W ((Go.E.sub xs l h).bind f) Q:=
 W.of (by unfold Go.E.sub;rw [M1d ⟨A,h1,h2⟩]) (k _ rfl (by simp;omega))
theorem YG (l:List A6)(hl:∀ w∈l,Jv w):W (F35 l) λr=>Bys r.1∧r.1.length≤3000:=by
 unfold F35 B35;refine M4c (QB l hl) λv hv=>M4i (λ_=>W.ret ⟨Bys.nil,by simp⟩) λh=>?_
 obtain ⟨h1,h2,h3⟩:=hv h;refine W.st (P:=λb=>Bys b∧b.length≤1+27*96) ?_ λb hb=>?_
 ·refine M4e l.length (λs=>s.2) (λt s=>Bys s.1∧s.1.length≤1+27*t) (by omega) rfl ⟨Bys.cons (BQ _) Bys.nil,by simp⟩ λt s ht hc A=>?_
  obtain ⟨b,i⟩:=s;simp only at hc A ⊢;subst hc;refine M49 (λq=>?_) (λq=>M4a ⟨A.1,by (try simp only);omega⟩);have B:t<l.length:=by unfold ln at q;omega
  obtain ⟨f1,J,O,U⟩:=h2 _ (M03 B);refine M4b B (W.st (P:=λb'=>Bys b'∧b'.length≤b.length+6) ?_ λb' H=>?_)
  ·refine W.run (λs=>∃ u:Nat,u≤6∧s.2=2*(u:Int)∧Bys s.1∧s.1.length≤b.length+u) (λs=>12-s.2.toNat) ⟨0,by omega,rfl,A.1,by simp⟩ (by simp) λs hs=>?_
   obtain ⟨a,j⟩:=s;obtain ⟨u,Y,G,E,I⟩:=hs;simp only at G E I ⊢;subst G;refine M49 (λq=>?_) (λq=>M4a ⟨E,by (try simp only);omega⟩);refine M4f (by omega) (by omega) λ_ _ _=>?_
   rw [A8 (n:=2*(u:Int)+1) (by omega) (by omega),A8 (n:=2*(u:Int)+2) (by omega) (by omega)];refine M4f (by omega) (by omega) λ_ _ _=>M4d (by simp;omega) (W.nx ⟨⟨u+1,by omega,by (try simp only);omega,E.app (Bys.cons (BQ _) Bys.nil),by simp;omega⟩,by (try simp only);omega⟩)
  refine W.st (P:=λn=>0≤n∧n<256) (M48 (λ_=>W.nx (BQ _)) λ_=>W.nx (BQ _)) λg hg=>?_
  refine M4d (by simp;omega) (M4d (by simp [HK];omega) (W.nx ⟨B,rfl,?_,?_⟩));refine (H.1.app ?_).app (M4L _);exact Bys.cons (BQ _) (Bys.cons (BQ _) (Bys.cons (BQ _) (Bys.cons (BQ _) (Bys.cons (BQ _) (Bys.cons (BQ _) (Bys.cons (BQ _) (Bys.cons hg (Bys.cons (BQ _) Bys.nil))))))));simp [HK];omega
 refine M4c (fe b (by omega)) λZ _=>M4d (by simp;omega) (W.ret ⟨hb.1.app (Bys.cons (BQ _) (Bys.cons (BQ _) Bys.nil)),by simp;omega⟩)
variable {b:Int}
theorem gM{k:List Int×Int}(s:List UInt8)(hs:s.length≤100000)(hk:Mk b k)(hb:b<10000000):W (F66 (s,k)) λr=>r.1.length≤s.length+2∧Mk (b+3) r.2:=by
 unfold F66 B66;simp only;refine M48 (λ_=>?_) λG=>?_
 exact M4c (At hk (by omega) (by omega) (by omega)) λv hv=>W.ret ⟨by simp [Bl],hv.2.up (by omega)⟩
 have hne:0<s.length:=by
  cases s with
  | nil=>exact absurd G (by decide)
  | cons a l=>simp
 refine M4c (At (n:=ln s) hk (by omega) (by unfold ln;omega) (by unfold ln;omega)) λB h1=>?_
 have hv:B.1<s.length:=h1.1.2;have H:=h1.1.1;rw [A8 (n:=B.1+1) (by omega) (by omega)];refine M4c (At h1.2 (by omega) (by omega) (by omega)) λI h2=>?_
 refine M48 (λ_=>?_) λ_=>M48 (λ_=>?_) λ_=>M48 (λ_=>?_) λ_=>?_
 refine W.sub (by omega) (by omega) (by omega) λa _ A=>W.sub (by omega) (by unfold ln;omega) (by unfold ln;omega) λc _ hc=>?_
 unfold ln at hc;exact M4d (by omega) (W.ret ⟨by simp;omega,h2.2.up (by omega)⟩)
 refine W.sub (by omega) (by omega) (by omega) λa _ A=>W.sub (by omega) (by unfold ln;omega) (by unfold ln;omega) λc _ hc=>?_
 unfold ln at hc;refine M4c (At h2.2 (by omega) (by omega) (by omega)) λE h3=>M4d (by simp [Bl];omega) (M4d (by simp [Bl];omega) (W.ret ⟨by simp [Bl];omega,h3.2.up (by omega)⟩))
 refine W.sub (by omega) (by omega) (by omega) λa _ A=>W.sub (by omega) (by unfold ln;omega) (by unfold ln;omega) λc _ hc=>?_
 unfold ln at hc;refine M4c (At h2.2 (by omega) (by omega) (by omega)) λE h3=>M4d (by simp [Bl];omega) (M4d (by simp [Bl];omega) (W.ret ⟨by simp [Bl];omega,h3.2.up (by omega)⟩))
 refine W.sub (by omega) (by omega) (by omega) λa _ A=>W.sub (by omega) (by unfold ln;omega) (by unfold ln;omega) λc _ hc=>?_
 unfold ln at hc;refine M4c (At h2.2 (by omega) (by omega) (by omega)) λE h3=>M4d (by simp [Bl];omega) (M4d (by simp [Bl];omega) (W.ret ⟨by simp [Bl];omega,h3.2.up (by omega)⟩))
theorem YH{k:List Int×Int}(s:List Int)(hs:s.length≤3000)(hk:Mk b k)(hb:b<10000000):W (F36 (s,k)) λr=>(Bys r.1∧r.1.length≤3002)∧Mk (b+3) r.2:=by
 unfold F36 B36;simp only;refine M4c (gM (E5 s) (by rw [Bl];omega) hk hb) λv hv=>?_
 rw [Bl] at hv;exact M4k (fa (by omega)) (W.ret ⟨⟨M4L _,by simp only [HK];omega⟩,hv.2⟩)
def OrdE (o:A0):Prop:=o.1.length≤100∧o.2.2.length≤100∧∀ d∈o.2.2,d.length≤100
theorem gN {c:A2}(hc:BF c){k:List Int×Int}(hk:Mk b k)(hb:b<1000000):W (F37 (c,k)) λr=>OrdE r.1∧Mk (b+20) r.2:=by
 have c0:=hc.l0;have Y:=hc.l1;unfold F37 B37;simp only;refine M4c (At hk (by omega) (by omega) (by omega)) λv0 E=>M4f E.1.1 E.1.2 λnm J B=>?_
 have B:nm.length≤100:=by
  simp only [M1y,M2o,M3u] at B;rcases B with rfl|rfl|rfl|rfl <;> simp
 refine M4c (At (n:=ln c.1) E.2 (by omega) (by unfold ln;omega) (by unfold ln;omega)) λv2 h2=>?_
 refine W.st (P:=λr=>(r.2.2.length≤4∧∀ d∈r.2.2,d.length≤100)∧Mk (b+12) (r.1,r.2.1)) ?_ λr hr=>?_
 ·refine M4e 4 (λs=>s.1) (λt s=>(s.2.1.length≤t∧∀ d∈s.2.1,d.length≤100)∧Mk (b+2+2*t) (s.2.2.2,s.2.2.1)) (by omega) rfl ⟨⟨by simp,λd h=>by cases h⟩,h2.2.up (by omega)⟩ λt s ht hc A=>?_
  obtain ⟨i,ds,kn,kl⟩:=s;simp only at hc A ⊢;subst hc;refine M49 (λq=>?_) (λq=>M4a ⟨⟨by (try simp only);omega,A.1.2⟩,A.2.up (by omega)⟩);refine M4c (At A.2 (by omega) (by omega) (by omega)) λv4 H=>M48 (λ_=>?_) λ_=>W.nx ⟨by omega,rfl,⟨by (try simp only);omega,A.1.2⟩,H.2.up (by omega)⟩
  refine M4c (At H.2 (by omega) (by omega) (by omega)) λG O=>?_
  rw [A8 (n:=(t:Int)+G.1) (by omega) (by omega)];have a1:=M3S (4:Int) (show (0:Int)≤(t:Int)+G.1 by omega);have a2:=M3D ((t:Int)+G.1) (show (0:Int)<4 by omega);refine M4f a1 (by simp;omega) λd Z hd=>M4d (by simp;omega) (W.nx ⟨by omega,rfl,⟨by simp;omega,λx hx=>?_⟩,O.2.up (by omega)⟩)
  rcases M1b.1 hx with hx|hx;exact A.1.2 x hx;rw [M19] at hx;subst hx;simp only [M1y,M2o,M3u] at hd;rcases hd with rfl|rfl|rfl|rfl|rfl|rfl <;> simp
 ·obtain ⟨l,n,ds⟩:=r;simp only at hr ⊢;refine M4c (At hr.2 (by omega) (by omega) (by omega)) λv8 I=>?_
  rw [AX J];refine M48 (λ_=>?_) λ_=>W.ret ⟨⟨B,by (try simp only);omega,hr.1.2⟩,I.2.up (by omega)⟩
  exact M4c (BK I.2 (by omega) (by simp) (by simp)) λv9 U=>W.ret ⟨⟨B,by (try simp only);omega,hr.1.2⟩,U.2.up (by omega)⟩
abbrev qG (w:A6):List UInt8:=w.2.2.2.2.2.2.2
structure PlanOK (c:A2) (y:AH) (p:Ab):Prop where
 items:p.2.1.1.length=p.1.length
 codes:p.2.2.1.1.2.length=p.1.length
 wl:p.1.length≤192
 wr:∀ w∈p.1,0≤w∧w<(y.1.length:Int)
 nd:p.1.Nodup
 ord:∀ (w:Nat) (hw:w<y.1.length),(w:Int)∈p.1→0≤(Hp y.2.2.1 (qG y.1[w])).1
 tr:∀ it∈p.2.1.1,0≤it.1∧it.1<(y.2.2.1.length:Int)
 ld:0≤p.2.2.2.1∧p.2.2.2.1<(c.1.length:Int)
 ts:∀ t∈p.2.2.2.2.1,0≤t∧t<(c.1.length:Int)
 tl:p.2.2.2.2.1.length≤10
 st:p.2.2.1.1.1=(p.2.2.2.2.1.length:Int)
 pu:0≤p.2.2.2.2.2∧p.2.2.2.2.2≤(p.2.2.2.2.1.length:Int)+1
 pf:y.2.2.2.2.2=false→p.2.2.2.2.2≤(p.2.2.2.2.1.length:Int)
 on:y.2.2.2.2.2=false→∀ (t:Nat),((t:Int)=p.2.2.2.1∨(t:Int)∈p.2.2.2.2.1)→∀ l,y.2.1[t]? = some l→∀ w∈l,w∈p.1
abbrev Bf (ws:List A6):List Int:=ws.map λw=>w.2.1
def PBd (p:Ab):Prop:=p.1.length≤1000∧p.2.1.1.length≤1000∧p.2.2.1.1.2.length≤1000∧p.2.2.1.2.length≤100000∧p.2.2.2.2.1.length≤1000
structure Inv (c:A2) (y:AH):Prop where
 vd:Dc c.1 (Bf y.1) y.2.1
 ww:∀ w∈y.1,FitW w
 ol:y.2.2.1.length≤8
 oo:∀ o∈y.2.2.1,(0≤o.2.1∧o.2.1<(c.1.length:Int))∧o.2.2.length≤16∧o.1.length≤12∧∀ d∈o.2.2,d.length≤100
 fb:y.2.2.2.2.2=true→y.2.2.2.1=true
 pb:PBd y.2.2.2.2.1
 pl:y.2.2.2.1=true→PlanOK c y y.2.2.2.2.1
theorem Inv.tl {c:A2}{y:AH}(h:Inv c y):y.2.1.length=c.1.length:=h.vd.1
theorem Inv.wl {c:A2}{y:AH}(h:Inv c y):y.1.length≤192:=by have:=h.vd.2.2.1;simpa using this
theorem Inv.wr {c:A2}{y:AH}(h:Inv c y):∀ l∈y.2.1,∀ w∈l,0≤w∧w<(y.1.length:Int):=λl hl w hw=>by
 have:=(AN h.vd l hl).1 w hw
 simpa using this
theorem Inv.len {c:A2}{y:AH}(h:Inv c y):∀ l∈y.2.1,l.length≤192:=λl hl=>(AN h.vd l hl).2.2
section
variable {c : A2} {y : AH} (hc : BF c) (h : Inv c y)
include h
include hc
theorem oS:W (F34 y) λr=>r.length≤8∧∀ t∈r,0≤t∧t<(c.1.length:Int):=by
 have ht:=h.tl;have Y:=hc.l1;have o1:=h.ol;unfold F34 B34;refine M4e y.2.1.length (λs=>s.2.2) (λt s=>s.1.length+s.2.1.length≤t∧(∀ t∈s.1,0≤t∧t<(c.1.length:Int))∧∀ t∈s.2.1,0≤t∧t<(c.1.length:Int)) (by omega) rfl (by simp) λt s Z A J=>?_
 obtain ⟨a,b,i⟩:=s;simp only at A J ⊢;subst A;obtain ⟨i1,G,H⟩:=J;refine M49 (λq=>?_) (λq=>M4d (by omega) (M4a ⟨by simp;omega,λt ht=>(M1b.1 ht).elim (G t) (H t)⟩));have E:t<y.2.1.length:=by unfold ln at q;omega
 have put:∀ {xs:List Int},(∀ t∈xs,0≤t∧t<(c.1.length:Int))→∀ x∈xs++[(t:Int)],0≤x∧x<(c.1.length:Int):=λO x hm=>by
  rcases M1b.1 hm with hm|hm;exact O x hm;rw [M19] at hm;omega
 refine W.st (P:=λ_=>True) ?_ λU _=>?_
 refine M4e y.2.2.1.length (λs=>s.2) (λ_ _=>True) (by omega) rfl trivial λu s hu A _=>?_
 obtain ⟨b,i⟩:=s;simp only at A ⊢;subst A;refine M49 (λq=>?_) (λq=>M4a trivial);have I:u<y.2.2.1.length:=by unfold ln at q;omega
 exact M48 (λ_=>W.nx ⟨I,rfl,trivial⟩) λ_=>M4b I (W.nx ⟨I,rfl,trivial⟩)
 ·have two:W (bif !U then bif room b [(t:Int)] then some (.next (a,b++[(t:Int)],A1 ((t:Int)+1))) else none else some (.next (a,b,A1 ((t:Int)+1)))) (BX (λB=>t<y.2.1.length∧B.2.2=A1 ((t:Int)+1)∧B.1.length+B.2.1.length≤t+1∧(∀ t∈B.1,0≤t∧t<(c.1.length:Int))∧∀ t∈B.2.1,0≤t∧t<(c.1.length:Int)) λr:List Int=>r.length≤8∧∀ t∈r,0≤t∧t<(c.1.length:Int)):=
   M48 (λ_=>M4d (by simp;omega) (W.nx ⟨E,rfl,by simp;omega,G,put H⟩)) λ_=>W.nx ⟨E,rfl,by (try simp only);omega,G,H⟩
  refine M48 (λ_=>M4b E (M48 (λ_=>M4d (by simp;omega) (W.nx ⟨E,rfl,by simp;omega,put G,H⟩)) λ_=>two)) λ_=>two
end
theorem JP (n:Int):0≤IntKind.u64.wrap n:=by
 have e:IntKind.u64.wrap n=n%18446744073709551616:=by
  simp [IntKind.wrap,IntKind.signed,IntKind.bits]
 rw [e];omega
theorem YI (os:List A0)(it:Aa)(En A:Int)(ts:List Int)(h1:0≤it.1∧it.1<(os.length:Int))(h2:0≤A)(h3:A≤1000)(B:ts.length≤1000):W (jH (os,it,En,A,ts)) λ_=>True:=by
 unfold jH rT;simp only;refine W.st (P:=λ_=>True) ?_ λ_ _=>M4f h1.1 h1.2 λ_ _ _=>W.ret trivial
 refine W.run (λs=>0≤s∧s≤1000) (λs=>1001-s.toNat) ⟨h2,h3⟩ (by omega) λs hs=>M49 (λq=>?_) (λq=>M4a trivial)
 unfold ln at q;refine M4k (by simpa using JP s) (M48 (λ_=>M4f hs.1 q λ_ _ _=>M4a trivial) λ_=>W.nx ?_);rw [A8 (by omega) (by omega)];omega
theorem OE {c:A2}{y:AH}(hp:PlanOK c y y.2.2.2.2.1)(l:List Int)(hl:l.length≤192)(hm:∀ w∈l,w∈y.2.2.2.2.1.1):W (zm (y,l)) λr=>r.length=l.length:=by
 have Z:=hp.items;have p2:=hp.codes;have p3:=hp.wl;have Y:=hp.pu;have p5:=hp.tl;unfold zm B68;simp only;refine M4e l.length (λs=>s.2) (λt s=>s.1.length=t) (by omega) rfl rfl λt s ht hc H=>?_
 obtain ⟨a,i⟩:=s;simp only at hc H ⊢;subst hc;refine M49 (λq=>?_) (λq=>M4a (by unfold ln at q;(try simp only);omega));have E:t<l.length:=by unfold ln at q;omega
 obtain ⟨m,U,J,_⟩:=IK (hm _ (M03 E));refine M4e y.2.2.2.2.1.1.length (λs=>s.2) (λk s=>s.1.length=t+if m<k then 1 else 0) (by omega) rfl (by simp [H]) λk s hk hc A=>?_
 obtain ⟨b,j⟩:=s;simp only at hc A ⊢;subst hc;refine M49 (λq=>?_) (λq=>?_)
 have B:k<y.2.2.2.2.1.1.length:=by unfold ln at q;omega
 refine M4b B (M4b E (W.beq (λe=>?_) λe=>W.nx ⟨B,rfl,?_⟩));have I:k=m:=Ct hp.nd B U (by rw [e,J]);subst I;refine M4b (by omega) (M4b (by omega) (M4c (YI _ _ _ _ _ (hp.tr _ (M03 _)) Y.1 (by omega) (by omega)) λv6 _=>?_));rw [M1e (by omega)] at A;exact M4d (by simp;omega) (W.nx ⟨B,rfl,by simp;omega⟩)
 have I:k≠m:=λO=>by subst O;exact e J
 simp only;rw [A];by_cases G:m<k;rw [M1d G,M1d (by omega)];rw [M1e G,M1e (by omega)]
 ·unfold ln at q;rw [M1d (by omega)] at A;exact M4a ⟨E,rfl,by (try simp only);omega⟩
theorem PN {c:A2}{y:AH}(hp:PlanOK c y y.2.2.2.2.1)(hf:y.2.2.2.2.2=false):W (zj y) λr=>(0≤r∧r<(c.1.length:Int))∧(r=y.2.2.2.2.1.2.2.2.1∨r∈y.2.2.2.2.1.2.2.2.2.1):=by
 have B:=hp.pu;have E:=hp.tl;have G:=hp.pf hf;unfold zj B67;refine W.beq (λe=>W.ret ⟨hp.ld,.inl rfl⟩) λe=>?_
 rw [A8 (by omega) (by omega)];refine M4f (by omega) (by omega) λx _ A=>W.ret ⟨hp.ts x A,.inr A⟩
theorem YJ {c:A2}{y:AH}(hc:BF c)(h:Inv c y):W (F38 y) λr=>r.2.1.length≤192:=by
 unfold F38 B38;refine M4q (λ_=>W.ret (by simp)) λhb=>M48 (λ_=>W.ret (by simp)) λhf=>?_
 have hp:=h.pl hb;refine M4c (PN hp hf) λE A=>M4f A.1.1 (by rw [h.tl];exact A.1.2) λl e hl=>?_
 have B:=h.len l hl;refine M4d (by simp;omega) (M4c (OE hp _ (by simpa using B) ?_) λG _=>W.ret (by simpa using B));intro w hw;refine hp.on hf E.toNat ?_ l e w (by simpa using hw);rw [M1v A.1.1];exact A.2
end
section
variable {x:List Int}
theorem oU(h:Bys x){i:Nat}(hi:i<x.length):0≤x[i]∧x[i]<256:=h _ (M03 hi)
structure Wlk (x:List Int) (n:Nat) (pos:Nat→Nat):Prop where
 z:pos 0=1
 s:∀ i,i<n→∃ h:pos i+14<x.length,pos (i+1)=pos i+15+(x[pos i+14]).toNat
theorem Wlk.le{n:Nat}{pos:Nat→Nat}(h:Wlk x n pos):∀ j i,i≤j→j≤n→pos i≤pos j
 | 0,i,h1,h2=>by rw [show i=0 by omega];exact M1g _
 | j+1,i,h1,h2=>by
  rcases M1V j i with q|q;rw [show i=j+1 by omega];exact M1g _;obtain ⟨_,e⟩:=h.s j (by omega);have:=h.le j i q (by omega);omega
theorem M14 (x:List Int)(hb:Bys x)(hl:x.length≤5000):W (jL x) λr=>0≤r→∃ h:0<x.length,∃ pos,Wlk x (x[0]).toNat pos∧r=((pos (x[0]).toNat:Nat):Int)+2∧pos (x[0]).toNat+2≤x.length:=by
 unfold jL se;refine W.beq (λ_=>W.ret λq=>by omega) λhne=>?_
 have A:0<x.length:=by unfold ln at hne;omega
 have b0:=oU hb A;refine W.st (P:=λv=>∃ pos,Wlk x (x[0]).toNat pos∧v=((pos (x[0]).toNat:Nat):Int)∧pos (x[0]).toNat≤x.length) ?_ λv hv=>?_
 refine M4e (x[0]).toNat (λs=>s.2) (λt s=>∃ pos,Wlk x t pos∧s.1=((pos t:Nat):Int)∧pos t≤x.length) (by omega) rfl ⟨λ_=>1,⟨rfl,λi h=>by omega⟩,rfl,A⟩ λt s ht H G=>?_
 obtain ⟨a,i⟩:=s;simp only at H G ⊢;obtain ⟨pos,E,rfl,Z⟩:=G;subst H;refine M4v (n:=0) rfl A λv1 I=>?_
 have O:v1=x[0]:=by rw [M00 A] at I;exact (M1x I).symm
 rw [O,A8 (n:=x[0]) (by omega) (by omega),A8 (n:=((pos t:Nat):Int)+15) (by omega) (by omega),A8 (n:=((pos t:Nat):Int)+14) (by omega) (by omega)];refine M49 (λq=>M49 (λ_=>M4a λq=>by omega) λY=>?_) (λq=>M4a ?_);unfold ln at Y;have hp:pos t+14<x.length:=by omega
 have af:=oU hb hp;refine M4v (n:=pos t+14) (by omega) hp λv2 J=>?_
 have U:v2=x[pos t+14]:=by rw [M00 hp] at J;exact (M1x J).symm
 rw [U,A8 (n:=x[pos t+14]) (by omega) (by omega),A8 (n:=15+x[pos t+14]) (by omega) (by omega),A8 (n:=((pos t:Nat):Int)+(15+x[pos t+14])) (by omega) (by omega)];refine M49 (λ_=>M4a λq=>by omega) λB=>W.nx ⟨by omega,rfl,λi=>if i≤t then pos i else pos t+15+(x[pos t+14]).toNat,⟨?_,λi hi=>?_⟩,?_,?_⟩
 rw [M1d (by omega)];exact E.z;rw [M1d (by omega)];by_cases e:i=t;subst e;exact ⟨hp,by rw [M1e (by omega)]⟩;obtain ⟨k1,k2⟩:=E.s i (by omega);exact ⟨k1,by rw [M1d (by omega)];exact k2⟩;simp only;rw [M1e (by omega)];omega;unfold ln at B;simp only;rw [M1e (by omega)];omega
 have:t=(x[0]).toNat:=by omega
 subst this;exact ⟨pos,E,rfl,Z⟩;obtain ⟨pos,h1,rfl,h2⟩:=hv;rw [A8 (by omega) (by omega)];refine M49 (λ_=>W.ret λq=>by omega) λB=>W.ret λ_=>⟨A,pos,h1,rfl,by unfold ln at B;omega⟩
theorem WA (x:List Int)(h:2≤x.length):W (UU x) λ_=>True:=by
 unfold UU sg;exact M4v (n:=0) rfl (by omega) λ_ _=>M4v (n:=1) rfl (by omega) λ_ _=>W.ret trivial
theorem gO (d:List Int)(hb:Bys d)(hd:d.length≤5000):W (F73 d) λr=>r.2=0→r.1.length≤96∧∀ w∈r.1,FitW w:=by
 unfold F73 B73;refine M4c (M14 d hb hd) λv0 Y=>M49 (λ_=>W.ret λq=>by cases q) λhn=>M49 (λ_=>W.ret λq=>by cases q) λhm=>?_
 obtain ⟨hl,pos,hw,rfl,aX⟩:=Y (by omega);have b0:=oU hb hl;rw [A8 (by omega) (by omega)];refine W.sub (by omega) (by unfold ln;omega) (by unfold ln;omega) λv1 _ aE=>W.sub (by omega) (by omega) (by omega) λv2 _ a2=>?_
 unfold ln at aE;refine M4c (WA v1 (by omega)) λv3 _=>M4c (fe v2 (by omega)) λv4 _=>M48 (λ_=>W.ret λq=>by cases q) λ_=>?_
 refine W.st (P:=λv=>v.length≤255∧∀ w∈v,Jv w) ?_ λaL aB=>M4c (QB aL aB.2) λa9 ak=>M4i (λhne=>W.ret λq=>absurd q hne) λY=>W.ret λ_=>⟨(ak Y).1,(ak Y).2.1⟩
 refine M4e (d[0]).toNat (λs=>s.2.2) (λt s=>s.1.length=t∧(∀ w∈s.1,Jv w)∧s.2.1=((pos t:Nat):Int)) (by omega) rfl (by exact ⟨rfl,λw h=>(by cases h),by rw [hw.z];rfl⟩) λt s ht U O=>?_
 obtain ⟨ws,a,i⟩:=s;simp only at U O ⊢;obtain ⟨i1,i2,rfl⟩:=O;subst U;refine M4v (n:=0) rfl hl λv6 an=>?_
 have e6:v6=d[0]:=by rw [M00 hl] at an;exact (M1x an).symm
 rw [e6,A8 (n:=d[0]) (by omega) (by omega)];refine M49 (λq=>?_) (λq=>M4a ⟨by omega,i2⟩);have am:t<(d[0]).toNat:=by omega
 obtain ⟨aD,aZ⟩:=hw.s t am;have aY:=hw.le (d[0]).toNat (t+1) (by omega) (M1g _);have aS:=oU hb aD;refine W.sub (by omega) (by unfold ln;omega) (by unfold ln;omega) λA aF al=>?_
 unfold ln at al;have al:A.length=d.length-pos t:=by omega
 have aC:W (std.run (λH:(List UInt8)×Int=>bif decide (H.2<6) then (Go.V.idx A H.2).bind λv9=>bif decide (IntKind.u8.wrap (Int.tdiv v9 16)>9) then some (.done (.done (.done (.done ([],11))))) else (Go.V.idx A H.2).bind λaJ=>bif decide (Int.tmod aJ 16>9) then some (.done (.done (.done (.done ([],11))))) else (Go.V.idx A H.2).bind λar=>(Go.V.idx A H.2).bind λau=>bif Go.T.room H.1 (E5 ([IntKind.u8.wrap (48+(IntKind.u8.wrap (Int.tdiv ar 16))),IntKind.u8.wrap (48+(Int.tmod au 16))])) then some (.next (H.1++(E5 ([IntKind.u8.wrap (48+(IntKind.u8.wrap (Int.tdiv ar 16))),IntKind.u8.wrap (48+(Int.tmod au 16))])),A1 (H.2+1))) else none else some (.done (.next H.1))) ([],0)) (BX (λv:List UInt8=>v.length≤12) (BX (λB:(List A6)×Int×Int=>t<(d[0]).toNat∧B.2.2=A1 ((t:Int)+1)∧B.1.length=t+1∧(∀ w∈B.1,Jv w)∧B.2.1=((pos (t+1):Nat):Int)) (BX (λv:List A6=>v.length≤255∧∀ w∈v,Jv w) λr:(List A6)×Int=>r.2=0→r.1.length≤96∧∀ w∈r.1,FitW w))):=by
  refine M4e 6 (λs=>s.2) (λt s=>s.1.length=2*t) (by omega) rfl rfl λu s hu U O=>?_
  obtain ⟨a,i⟩:=s;simp only at U O ⊢;subst U;refine M49 (λq=>?_) (λq=>M4a (show a.length≤12 by omega));have Z:u<A.length:=by omega
  exact M4b Z (M48 (λ_=>M4a λq=>by cases q) λ_=>M4b Z (M48 (λ_=>M4a λq=>by cases q) λ_=>M4b Z (M4b Z (M4d (by simp [Bl];omega) (W.nx ⟨by omega,rfl,by simp [Bl,O];omega⟩)))))
 refine W.st (by exact aC) λav a1=>?_
 have I:∀ {β:Type} {Q:β→Prop} (k:Int) (n:Nat) {f:Int→Option β},k=(n:Int)→n<15→(∀ x,A[n]? = some x→W (f x) Q)→W ((Go.V.idx A k).bind f) Q:=λ{β Q} k n {f} hk hn kk=>M4v hk (by omega) kk
 have aq:∀ G:Int,A[14]? = some G→W ((Go.E.sub A 6 (ln A)).bind λaa=>(Go.V.idx A 8).bind λab=>(Go.E.sub A 9 (ln A)).bind λac=>(Go.E.sub A 11 (ln A)).bind λad=>(Go.V.idx A 13).bind λae=>(Go.V.idx A 13).bind λaf=>(Go.E.sub A 15 (A1 (15+(A1 G)))).bind λag=>(UU aa).bind λah=>(UU ac).bind λai=>(UU ad).bind λaj=>bif Go.T.room ws ([(av,ah,A1 ab,ai,aj,A1 (Int.tmod ae 16),decide (af≥16),E5 ag)]) then some (Al.next (ws++([(av,ah,A1 ab,ai,aj,A1 (Int.tmod ae 16),decide (af≥16),E5 ag)]),A1 (((pos t:Nat):Int)+(A1 (15+(A1 G)))),A1 ((t:Int)+1))) else none) (BX (λB:(List A6)×Int×Int=>t<(d[0]).toNat∧B.2.2=A1 ((t:Int)+1)∧B.1.length=t+1∧(∀ w∈B.1,Jv w)∧B.2.1=((pos (t+1):Nat):Int)) (BX (λv:List A6=>v.length≤255∧∀ w∈v,Jv w) λr:(List A6)×Int=>r.2=0→r.1.length≤96∧∀ w∈r.1,FitW w)):=λG J=>by
  have aw:G=d[pos t+14]:=by
   rw [aF,M1r,M1d (by unfold ln;omega),M1C,M00 (by omega)] at J;have:=M1x J;rw [←this]
   congr 1
  rw [aw,A8 (n:=d[pos t+14]) (by omega) (by omega),A8 (n:=15+d[pos t+14]) (by omega) (by omega),A8 (n:=((pos t:Nat):Int)+(15+d[pos t+14])) (by omega) (by omega)];refine W.sub (by omega) (by unfold ln;omega) (by unfold ln;omega) λaa _ ay=>I 8 8 rfl (by omega) λab _=>W.sub (by omega) (by unfold ln;omega) (by unfold ln;omega) λac _ az=>W.sub (by omega) (by unfold ln;omega) (by unfold ln;omega) λad _ aA=>I 13 13 rfl (by omega) λae _=>I 13 13 rfl (by omega) λaf _=>W.sub (by omega) (by omega) (by omega) λag _ aU=>?_
  unfold ln at ay az aA;refine M4c (WA aa (by omega)) λah _=>M4c (WA ac (by omega)) λai _=>M4c (WA ad (by omega)) λaj _=>M4d (by simp;omega) (W.nx ⟨am,rfl,by simp [i1],λw hw2=>?_,by simp only;omega⟩)
  rcases M1b.1 hw2 with hw2|hw2;exact i2 w hw2;rw [M19] at hw2;subst hw2;exact ⟨by simp only;omega,by simp only [Bl];omega⟩
 refine I 13 13 rfl (by omega) λa4 _=>M48 (λ_=>M4a λq=>by cases q) λ_=>I 13 13 rfl (by omega) λa5 _=>M48 (λ_=>I 13 13 rfl (by omega) λa6 _=>M48 (λ_=>M4a λq=>by cases q) λ_=>I 14 14 rfl (by omega) λG J=>aq G J) λ_=>I 14 14 rfl (by omega) λG J=>aq G J
theorem oV (x:List UInt8)(B:x.length≤10000):W (l8 (x,12)) λr=>r=true→x.length=12:=by
 unfold l8 ug;simp only;refine M4h x.length (λ_=>True) (by omega) trivial λt ht _=>M49 (λq=>?_) (λq=>M4a λe=>?_)
 have A:t<x.length:=by unfold ln at q;omega
 exact M4b A (M48 (λ_=>M4a λh=>by cases h) λ_=>M4b A (M48 (λ_=>M4a λh=>by cases h) λ_=>W.nx ⟨A,rfl,trivial⟩));have:ln x=12:=by simpa using e
 unfold ln at this;omega
theorem oW (x:List UInt8)(G:x.length≤10000):W (lb x) λ_=>True:=by
 unfold lb ui;refine M4e x.length (λs=>s.2) (λt s=>True) (by omega) rfl trivial λt s ht B E=>?_
 obtain ⟨a,i⟩:=s;simp only at B ⊢;subst B;refine M49 (λq=>?_) (λq=>M4a trivial);have A:t<x.length:=by unfold ln at q;omega
 exact M4b A (M48 (λ_=>M48 (λ_=>W.nx ⟨A,rfl,trivial⟩) λ_=>W.nx ⟨A,rfl,trivial⟩) λ_=>W.nx ⟨A,rfl,trivial⟩)
theorem oX (x:List UInt8)(A:x.length≤10000):W (ll x) λr=>r.2=0→x.length=12:=by
 unfold ll ut;refine M4c (P:=λr=>r=0→x.length=12) ?_ λv hv=>M4i (λh=>W.ret λq=>absurd q h) λh=>?_
 unfold uq uo;refine M4c (oV x A) λv hv=>M4q (λ_=>W.ret λh=>by cases h) λh=>?_
 have e:=hv h;refine M4v (n:=11) rfl (by omega) λ_ _=>W.sub (by omega) (by omega) (by omega) λB _ h2=>M4c (P:=λ_=>True) ?_ λ_ _=>M48 (λ_=>W.ret λq=>by cases q) λ_=>W.ret λ_=>e
 unfold ul uk;exact M4c (oW B (by omega)) λ_ _=>W.ret trivial
 have e:=hv h;refine M4v (n:=4) rfl (by omega) λ_ _=>?_
 exact M48 (λ_=>W.ret λ_=>e) λ_=>M48 (λ_=>W.ret λ_=>e) λ_=>M48 (λ_=>W.ret λ_=>e) λ_=>M48 (λ_=>W.ret λ_=>e) λ_=>M48 (λ_=>W.ret λ_=>e) λ_=>W.ret λ_=>e
theorem oY (x:List UInt8)(B:x.length≤10000):W (dN x) λr=>r=true→x.length≤12:=by
 unfold dN uv;refine W.st (P:=λ_=>True) ?_ λ_ _=>M48 (λ_=>W.ret λh=>by have:=M1s h;unfold ln at this;omega) λ_=>W.ret λh=>by cases h
 refine M4h x.length (λ_=>True) (by omega) trivial λt ht _=>M49 (λq=>?_) (λq=>M4a trivial)
 have A:t<x.length:=by unfold ln at q;omega
 exact M4b A (M48 (λ_=>M48 (λ_=>M4a (by exact λh=>by cases h)) λ_=>M48 (λ_=>M4a (by exact λh=>by cases h)) λ_=>W.nx ⟨A,rfl,trivial⟩) λ_=>M48 (λ_=>M48 (λ_=>M4a (by exact λh=>by cases h)) λ_=>M48 (λ_=>M4a (by exact λh=>by cases h)) λ_=>W.nx ⟨A,rfl,trivial⟩) λ_=>W.nx ⟨A,rfl,trivial⟩)
theorem oZ (w:A6)(h1:w.1.length≤10000)(h2:w.2.2.2.2.2.2.2.length≤10000):W (lr w) λr=>r=0→FitW w:=by
 unfold lr ux;refine M4c (oX w.1 h1) λv hv=>M4i (λh=>W.ret λq=>absurd q h) λh=>?_
 have e:=hv h;refine W.st (P:=λr=>80≤r) (M48 (λ_=>W.nx (by simp)) λ_=>W.nx (by simp)) λE G=>?_
 have fin:w.2.1≥E→¬ w.2.1>400→W (bif decide (w.2.2.2.1<50) then some 2 else bif decide (w.2.2.2.1>2000) then some 2 else bif decide (w.2.2.2.2.1<0) then some 2 else bif decide (w.2.2.2.2.1>w.2.2.2.1) then some 2 else bif decide (w.2.2.2.2.2.1<0) then some 2 else bif decide (w.2.2.2.2.2.1>9) then some 2 else (dN w.2.2.2.2.2.2.2).bind λA=>bif !A then some 7 else some 0) λr:Int=>r=0→FitW w:=λa b=>
  M48 (λ_=>W.ret λh=>by omega) λ_=>M48 (λ_=>W.ret λh=>by omega) λ_=>M48 (λ_=>W.ret λh=>by omega) λ_=>M48 (λ_=>W.ret λh=>by omega) λ_=>M48 (λ_=>W.ret λh=>by omega) λ_=>M48 (λ_=>W.ret λh=>by omega) λ_=>M4c (oY _ h2) λA h3=>M4q (λ_=>W.ret λh=>by omega) λB=>W.ret λ_=>⟨e,h3 B,by omega,by omega⟩
 exact M48 (λ_=>M48 (λ_=>W.ret λh=>by omega) λ_=>M49 (λ_=>W.ret λh=>by omega) λa=>M49 (λ_=>W.ret λh=>by omega) λb=>fin (by omega) b) λ_=>M48 (λ_=>M48 (λ_=>W.ret λh=>by omega) λ_=>M49 (λ_=>W.ret λh=>by omega) λa=>M49 (λ_=>W.ret λh=>by omega) λb=>fin (by omega) b) λ_=>M48 (λ_=>W.ret λh=>by omega) λ_=>M49 (λ_=>W.ret λh=>by omega) λa=>M49 (λ_=>W.ret λh=>by omega) λb=>fin (by omega) b
theorem gP (l:List A6)(hl:∀ w∈l,w.1.length≤10000∧w.2.2.2.2.2.2.2.length≤10000):W (F58 l) λr=>r=0→l.length≤96∧∀ w∈l,FitW w:=by
 unfold F58 B58;refine M49 (λ_=>W.ret λh=>by omega) λA=>?_
 have A:l.length≤96:=by unfold ln at A;omega
 refine M4e l.length (λs=>s.1) (λt s=>∀ i (hi:i<l.length),i<t→FitW l[i]) (by omega) rfl (λi _ h=>by omega) λt s ht G E=>?_
 obtain ⟨i,m⟩:=s;simp only at G ⊢;subst G;refine M49 (λq=>?_) (λq=>M4a λ_=>⟨A,λw hw=>?_⟩)
 have B:t<l.length:=by unfold ln at q;omega
 have hw:=hl _ (M03 B);refine M4b B (M4c (oZ _ hw.1 hw.2) λv hv=>M4i (λh=>M4a λq=>absurd q h) λh=>M48 (λ_=>M4a λq=>by omega) λ_=>W.nx ⟨B,rfl,λi hi h2=>?_⟩);by_cases e:i=t;subst e;exact hv h;exact E i hi (by omega);obtain ⟨i,hi,rfl⟩:=M1o.1 hw;exact E i hi (by unfold ln at q;omega)
theorem xS (b:List Int)(hb:b.length≤10000):W (F60 b) λ_=>True:=by
 unfold F60 B60;refine M4e b.length (λs=>s.2) (λ_ _=>True) (by omega) rfl trivial λt s ht A _=>?_
 obtain ⟨a,i⟩:=s;simp only at A ⊢;subst A;exact M49 (λq=>M4b (by unfold ln at q;omega) (W.nx ⟨by unfold ln at q;omega,rfl,trivial⟩)) λq=>M4a trivial
theorem M9h (x:List Int)(hb:Bys x)(hl:x.length≤5000):W (lT x) λr=>r.2=true→∃ h:0<x.length,∃ pos,Wlk x (x[0]).toNat pos∧r.1=((pos (x[0]).toNat:Nat):Int)+2∧pos (x[0]).toNat+2≤x.length:=by
 unfold lT vI;refine W.beq (λ_=>W.ret λq=>by cases q) λhne=>?_
 have A:0<x.length:=by unfold ln at hne;omega
 have b0:=oU hb A;refine W.st (P:=λv=>∃ pos,Wlk x (x[0]).toNat pos∧v=((pos (x[0]).toNat:Nat):Int)∧pos (x[0]).toNat≤10000) ?_ λv hv=>?_
 refine M4e (x[0]).toNat (λs=>s.2) (λt s=>∃ pos,Wlk x t pos∧s.1=((pos t:Nat):Int)∧pos t≤10000) (by omega) rfl ⟨λ_=>1,⟨rfl,λi h=>by omega⟩,rfl,by simp⟩ λt s ht G E=>?_
 obtain ⟨a,i⟩:=s;simp only at G E ⊢;obtain ⟨pos,B,rfl,Y⟩:=E;subst G;refine M4v (n:=0) rfl A λv1 H=>?_
 have J:v1=x[0]:=by rw [M00 A] at H;exact (M1x H).symm
 rw [J,A8 (n:=x[0]) (by omega) (by omega),A8 (n:=((pos t:Nat):Int)+15) (by omega) (by omega),A8 (n:=((pos t:Nat):Int)+15-1) (by omega) (by omega)];refine M49 (λq=>M49 (λ_=>M4a λq=>by cases q) λU=>?_) (λq=>M4a ?_);unfold ln at U;have hp:pos t+14<x.length:=by omega
 have ae:=oU hb hp;refine M4v (n:=pos t+14) (by omega) hp λv2 I=>?_
 have O:v2=x[pos t+14]:=by rw [M00 hp] at I;exact (M1x I).symm
 rw [O,A8 (n:=x[pos t+14]) (by omega) (by omega),A8 (n:=((pos t:Nat):Int)+15+x[pos t+14]) (by omega) (by omega)];refine W.nx ⟨by omega,rfl,λi=>if i≤t then pos i else pos t+15+(x[pos t+14]).toNat,⟨?_,λi hi=>?_⟩,?_,?_⟩;rw [M1d (by omega)];exact B.z;rw [M1d (by omega)];by_cases e:i=t;subst e;exact ⟨hp,by rw [M1e (by omega)]⟩;obtain ⟨Z,k2⟩:=B.s i (by omega);exact ⟨Z,by rw [M1d (by omega)];exact k2⟩;simp only;rw [M1e (by omega)];omega;simp only;rw [M1e (by omega)];omega;have:t=(x[0]).toNat:=by omega
 subst this;exact ⟨pos,B,rfl,Y⟩;obtain ⟨pos,h1,rfl,h2⟩:=hv;rw [A8 (by omega) (by omega)];exact W.ret λq=>⟨A,pos,h1,rfl,by have:=M1s q;unfold ln at this;omega⟩
variable {a:Nat}
theorem YK(hb:Bys x)(hl:x.length≤5000)(h:a<x.length):Y9 (x,(a:Int))=some (x[a],x,((a+1:Nat):Int)):=by
 have b:=oU hb h;unfold Y9 vK;simp only;rw [A8 (n:=(a:Int)+1) (by omega) (by omega),A8 (n:=(a:Int)+1-1) (by omega) (by omega)];refine M4o (M4v (n:=a) (by omega) h λv hv=>W.ret ?_);rw [M00 h] at hv;cases hv;rw [A8 (by omega) (by omega)];rfl
theorem p8(hb:Bys x)(hl:x.length≤5000)(h:a+1<x.length):W (dV (x,(a:Int))) λr=>r.2=(x,((a+2:Nat):Int)):=by
 unfold dV vL;refine W.of (YK hb hl (by omega)) (W.of (YK hb hl h) (W.ret rfl))
theorem M9i(hb:Bys x)(hl:x.length≤5000)(h:a+14<x.length)(h2:a+15+(x[a+14]).toNat≤x.length):W (lX (x,(a:Int))) λr=>(r.1.1.length≤12∧r.1.2.2.2.2.2.2.2.length≤255)∧r.2.2=(x,((a+15+(x[a+14]).toNat:Nat):Int)):=by
 have am:=oU hb h;unfold lX vM;refine W.st (P:=λv=>v.1.length≤12∧v.2.2=(x,((a+6:Nat):Int))) ?_ λv2 ae=>?_
 ·refine W.run (λs=>∃ t:Nat,t≤6∧s.1.length≤2*t∧s.2.2.1=2*(t:Int)∧s.2.2.2=(((a+t:Nat):Int),x)) (λs=>12-s.2.2.1.toNat) ⟨0,by omega,by simp,rfl,rfl⟩ (by simp) λs hs=>?_
  obtain ⟨A,ok,i,s⟩:=s;obtain ⟨t,t1,t2,t3,t4⟩:=hs;simp only at t2 t3 t4 ⊢;subst t3 t4;refine M49 (λq=>?_) (λq=>M4a ⟨by (try simp only);omega,?_⟩)
  refine W.of (YK hb hl (by omega)) ?_;have nx:∀ (z:List Int) (o:Bool),z.length=2→W (bif Go.T.room A z then some (Al.next (A++z,o,A1 (2*(t:Int)+2),((a+t+1:Nat):Int),x)) else none) (BX (λH:(List Int)×Bool×Int×AC=>(∃ t:Nat,t≤6∧H.1.length≤2*t∧H.2.2.1=2*(t:Int)∧H.2.2.2=(((a+t:Nat):Int),x))∧12-H.2.2.1.toNat<12-(2*(t:Int)).toNat) (BX (λv:(List UInt8)×Bool×(List Int)×Int=>False) λ_:Int=>False) )→True:=λ_ _ _ _=>trivial
  have key:∀ (z:List Int) (o:Bool),z.length=2→(t+1≤6∧(A++z).length≤2*(t+1)∧A1 (2*(t:Int)+2)=2*((t+1:Nat):Int)):=λz o J=>⟨by omega,by simp [J];omega,by rw [A8 (by omega) (by omega)];omega⟩
  have fin:∀ (z:List Int) (o:Bool),z.length=2→(∃ I:Nat,I≤6∧(A++z).length≤2*I∧A1 (2*(t:Int)+2)=2*(I:Int)∧(((a+t+1:Nat):Int),x)=(((a+I:Nat):Int),x))∧12-(A1 (2*(t:Int)+2)).toNat<12-(2*(t:Int)).toNat:=λz o J=>by
   obtain ⟨k1,k2,Y⟩:=key z o J;exact ⟨⟨t+1,k1,k2,Y,rfl⟩,by rw [Y];omega⟩
  exact M48 (λ_=>M48 (λ_=>M4d (by simp;omega) (W.nx (fin _ true (by simp)))) λ_=>M4d (by simp;omega) (W.nx (fin _ true (by simp)))) λ_=>M4d (by simp;omega) (W.nx (fin _ true (by simp)))
  rw [show t=6 by omega]
 obtain ⟨A,ok,rd⟩:=v2;obtain ⟨G,Z⟩:=ae;simp only at G Z ⊢;subst Z;refine M4c (p8 hb hl (by omega)) λv3 h3=>?_
 rw [h3];refine W.of (YK hb hl (by omega)) (M4c (p8 hb hl (by omega)) λv5 h5=>?_);rw [h5];refine M4c (p8 hb hl (by omega)) λv6 h6=>?_
 rw [h6];refine W.of (YK hb hl (by omega)) ?_;have O:∀ (f:Int×(List Int)×Int→List Int→A6×Bool×(List Int)×Int),(∀ z r,((f z r).1.1.length≤12∧(f z r).1.2.2.2.2.2.2.2.length=r.length)∧(f z r).2.2=(z.2.1,A1 (z.2.2+z.1)))→W ((Y9 (x,((a+6+2+1+2+2+1:Nat):Int))).bind λB=>(Go.E.sub B.2.1 B.2.2 (A1 (B.2.2+B.1))).bind λv9=>some (f B v9)) λr=>(r.1.1.length≤12∧r.1.2.2.2.2.2.2.2.length≤255)∧r.2.2=(x,((a+15+(x[a+14]).toNat:Nat):Int)):=λf hf=>by
  refine W.of (YK hb hl (by omega)) ?_;have ac:x[a+6+2+1+2+2+1]=x[a+14]:=rfl;simp only [ac];have U:A1 (((a+6+2+1+2+2+1+1:Nat):Int)+x[a+14])=((a+15+(x[a+14]).toNat:Nat):Int):=by
   rw [A8 (by omega) (by omega)];omega
  rw [U];refine W.sub (by omega) (by omega) (by omega) λr _ hr=>W.ret ?_
  obtain ⟨f1,f2⟩:=hf (x[a+14],x,((a+6+2+1+2+2+1+1:Nat):Int)) r;refine ⟨⟨f1.1,by rw [f1.2];omega⟩,?_⟩;rw [f2];simp only;rw [U]
 refine M48 (λ_=>M48 (λ_=>?_) λ_=>?_) λ_=>?_
 exact O _ λz r=>⟨⟨by simp only [Bl];exact G,by simp only [Bl]⟩,rfl⟩
 exact O _ λz r=>⟨⟨by simp only [Bl];exact G,by simp only [Bl]⟩,rfl⟩
 exact O _ λz r=>⟨⟨by simp only [Bl];exact G,by simp only [Bl]⟩,rfl⟩
theorem WB (d:List Int)(hb:Bys d)(hd:d.length≤5000):W (Sz d) λr=>r.2=0→r.1.length≤96∧∀ w∈r.1,FitW w:=by
 unfold Sz vO;refine M4c (M9h d hb hd) λv0 B=>M4q (λ_=>W.ret λq=>by cases q) λhn=>M49 (λ_=>W.ret λq=>by cases q) λhm=>?_
 obtain ⟨hl,pos,hw,Z,aj⟩:=B hn;have b0:=oU hb hl;rw [Z,A8 (by omega) (by omega)];refine W.sub (by omega) (by omega) (by omega) λv1 _ al=>?_
 have ee:∀ z:Int,z+2-2=z:=λz=>by omega
 rw [ee];refine M4c (p8 hb hd (by omega)) λv2 h2=>M4c (xS v1 (by omega)) λv3 _=>M48 (λ_=>W.ret λq=>by cases q) λ_=>?_
 rw [h2];refine W.st (P:=λv=>v.1.length≤255∧∀ w∈v.1,w.1.length≤10000∧w.2.2.2.2.2.2.2.length≤10000) ?_ λv7 h7=>M48 (λ_=>W.ret λq=>by cases q) λ_=>M4c (gP v7.1 h7.2) λar ac=>M4i (λhne=>W.ret λq=>absurd q hne) λB=>W.ret λ_=>ac B
 refine M4e (d[0]).toNat (λs=>s.2.2.1) (λt s=>s.1.length=t∧(∀ w∈s.1,w.1.length≤10000∧w.2.2.2.2.2.2.2.length≤10000)∧s.2.2.2=(((pos t:Nat):Int),d)) (by omega) rfl (by exact ⟨rfl,λw h=>(by cases h),by rw [hw.z];rfl⟩) λt s ht J I=>?_
 obtain ⟨ws,ok,i,rd⟩:=s;simp only at J I ⊢;obtain ⟨U,Y,rfl⟩:=I;subst J;refine M4v (n:=0) rfl hl λA O=>?_
 have e6:A=d[0]:=by rw [M00 hl] at O;exact (M1x O).symm
 rw [e6,A8 (n:=d[0]) (by omega) (by omega)];refine M49 (λq=>?_) (λq=>M4a ⟨by (try simp only);omega,Y⟩);have E:t<(d[0]).toNat:=by omega
 obtain ⟨af,ae⟩:=hw.s t E;have ak:=hw.le (d[0]).toNat (t+1) (by omega) (M1g _);refine M4c (M9i hb hd af (by omega)) λA H=>?_
 have nx:∀ w∈ws++[A.1],w.1.length≤10000∧w.2.2.2.2.2.2.2.length≤10000:=λw hw2=>by
  rcases M1b.1 hw2 with hw2|hw2;exact Y w hw2;rw [M19] at hw2;subst hw2;have:=H.1;omega
 have G:(A.2.2.2,A.2.2.1)=(((pos (t+1):Nat):Int),d):=by rw [H.2,ae]
 exact M48 (λ_=>M4d (by simp;omega) (W.nx ⟨E,rfl,by simp [U],nx,G⟩)) λ_=>M4d (by simp;omega) (W.nx ⟨E,rfl,by simp [U],nx,G⟩)
end
structure EvOK (e:Ah):Prop where
 ts:e.2.2.2.2.2.1.length≤5
 ss:e.2.2.2.2.2.2.1.length≤2
 od:OrdE e.2.2.2.2.2.2.2.1
 by_:Bys e.2.2.2.2.2.2.2.2.2
 dl:e.2.2.2.2.2.2.2.2.2.length≤3002
theorem OrdE.nil:OrdE ([],0,[]):=⟨by simp,by simp,λd h=>by cases h⟩
section
variable {c : A2} {y : AH} (hc : BF c) (h : Inv c y)
include hc h
theorem SV {b ay:Int}{k:List Int×Int}(hk:Mk b k)(hb:b<100000):W (F20 (c,y,ay,k)) λr=>EvOK r.1∧Mk (b+400) r.2:=by
 have c0:=hc.l0;have c1:=hc.l1;have lc:0<ln c.1∧ln c.1≤8:=by unfold ln;omega
 unfold F20 B20;simp only;refine M4c (oS hc h) λf hf=>?_
 have lf:ln f≤8:=by unfold ln;omega
 refine M4c (At hk (by omega) (by omega) (by omega)) λv1 h1=>?_
 refine W.st (P:=λr=>Mk (b+3) (r.2.2,r.2.1)) ?_ λv5 B=>?_
 refine M48 (λ_=>?_) λ_=>?_
 refine M4c (At h1.2 (by omega) (by omega) (by omega)) λv2 h2=>M48 (λ_=>W.nx (h2.2.up (by omega))) λ_=>M48 (λ_=>?_) λ_=>W.nx (h2.2.up (by omega))
 exact M4c (At h2.2 (by omega) (by omega) (by omega)) λv3 h3=>M48 (λ_=>W.nx (h3.2.up (by omega))) λ_=>W.nx (h3.2.up (by omega))
 refine M48 (λ_=>?_) λ_=>W.nx (h1.2.up (by omega))
 exact M4c (At h1.2 (by omega) (by omega) (by omega)) λv3 h3=>M48 (λ_=>W.nx (h3.2.up (by omega))) λ_=>W.nx (h3.2.up (by omega))
 have ev0:∀ {kd t to n w:Int} {nm:List UInt8},EvOK (kd,t,to,n,w,[],[],([],0,[]),nm,[]):=⟨by simp,by simp,OrdE.nil,Bys.nil,by simp⟩
 refine M48 (λ_=>?_) λ_=>M48 (λ_=>?_) λ_=>?_
 ·
  refine M4c (At B (by omega) lc.1 (by omega)) λv6 h6=>?_
  refine W.st (P:=λr=>Mk (b+6) (r.2.2,r.2.1)) ?_ λaJ al=>?_
  refine M49 (λq=>?_) λ_=>W.nx (h6.2.up (by omega))
  refine M4c (At h6.2 (by omega) (by omega) (by omega)) λv7 h7=>M48 (λ_=>?_) λ_=>W.nx (h7.2.up (by omega))
  exact M4c (At h7.2 (by omega) q (by omega)) λv8 h8=>M4f h8.1.1 h8.1.2 λ_ _ _=>W.nx (h8.2.up (by omega))
  ·refine W.st (P:=λr=>(∀ w∈r.1,Jv w)∧Mk (b+300) (r.2.1,r.2.2)) ?_ λaA ad=>?_
   ·refine M4c (At al (by omega) (by omega) (by omega)) λaz J=>?_
    obtain ⟨n,l,j⟩:=az;simp only at J ⊢;obtain ⟨t,rfl⟩:=M1j J.1.1;refine M4B t (λs=>s.2.1) (λi s=>(s.1.length=i∧∀ w∈s.1,Jv w)∧Mk (b+7+31*i) (s.2.2.2,s.2.2.1)) (by omega) rfl ⟨⟨rfl,λw h=>by cases h⟩,J.2.up (by omega)⟩ λi s hi E A=>?_
    obtain ⟨ws,cn,kn,kl⟩:=s;simp only at E A ⊢;refine M49 (λq=>?_) (λq=>M4a ⟨A.1.2,A.2.up (by omega)⟩);refine M4c (fd A.2 (by omega)) λaK ab=>M4c (At ab.2 (by omega) (by omega) (by omega)) λaL ac=>M4f ac.1.1 (by simp;omega) λd _ hd=>M4d (by simp;omega) (W.nx ⟨by omega,by (try simp only);rw [E],⟨by simp [A.1.1],λw hw=>?_⟩,ac.2.up (by omega)⟩)
    rcases M1b.1 hw with hw|hw;exact A.1.2 w hw;rw [M19] at hw;subst hw;refine ⟨ab.1.1,?_⟩;simp only [M1y,M2o,M3u] at hd;rcases hd with rfl|rfl|rfl|rfl|rfl|rfl <;> simp
   ·refine M4c (YG aA.1 ad.1) λaB ae=>M4c (At ad.2 (by omega) (by omega) (by omega)) λaN af=>M48 (λ_=>?_) λ_=>W.ret ⟨⟨by simp,by simp,OrdE.nil,ae.1,by (try simp only);omega⟩,af.2.up (by omega)⟩
    exact M4c (YH aB.1 ae.2 af.2 (by omega)) λaO O=>W.ret ⟨⟨by simp,by simp,OrdE.nil,O.1.1,O.1.2⟩,O.2.up (by omega)⟩
 ·
  refine M4c (gN hc B (by omega)) λH U=>?_
  have I:∀ {t:Int},EvOK (v5.1,0,0,0,0,[],[],(H.1.1,t,H.1.2.2),[],[]):=⟨by simp,by simp,U.1,Bys.nil,by simp⟩
  refine M49 (λq=>?_) λ_=>W.ret ⟨I (t:=H.1.2.1),U.2.up (by omega)⟩
  refine M4c (At U.2 (by omega) (by omega) (by omega)) λaS ag=>M48 (λ_=>?_) λ_=>W.ret ⟨I (t:=H.1.2.1),ag.2.up (by omega)⟩
  exact M4f (by omega) q λaU _ _=>W.ret ⟨I,ag.2.up (by omega)⟩
 ·refine W.st (P:=λ_=>True) (M48 (λ_=>W.nx trivial) λ_=>M48 (λ_=>W.nx trivial) λ_=>W.nx trivial) λaX _=>M48 (λ_=>?_) λ_=>M48 (λ_=>?_) λ_=>M48 (λ_=>?_) λ_=>M48 (λ_=>?_) λ_=>W.ret ⟨ev0,B.up (by omega)⟩
  ·
   refine M4c (At B (by omega) lc.1 (by omega)) λaY am=>M4c (BK am.2 (by omega) (by simp) (by simp)) λaZ an=>?_
   refine W.st (P:=λ_=>True) ?_ λa0 _=>?_
   refine M48 (λ_=>M49 (λq=>?_) λ_=>M49 (λq=>?_) λ_=>W.nx trivial) λ_=>M49 (λq=>?_) λ_=>W.nx trivial
   rw [A8 (by omega) (by omega)];exact M4f (by omega) (by unfold ln;omega) λ_ _ _=>W.nx trivial
   exact M4f (by omega) q λ_ _ _=>W.nx trivial
   exact M4f (by omega) q λ_ _ _=>W.nx trivial
   ·refine W.st (P:=λr=>r.length≤4) ?_ λa1 aG=>?_
    refine M4e f.length (λs=>s.1) (λt s=>s.2.length≤4) (by omega) rfl (by simp) λt s ht E A=>?_
    obtain ⟨i,a⟩:=s;simp only at E A ⊢;subst E;refine M49 (λq=>M49 (λq2=>?_) λ_=>M4a A) (λq=>M4a A);have G:t<f.length:=by unfold ln at q;omega
    unfold ln at q2;exact M4b G (M48 (λ_=>M4b G (M4d (by simp;omega) (W.nx ⟨G,rfl,by simp;omega⟩))) λ_=>W.nx ⟨G,rfl,A⟩)
    ·refine M4c (At an.2 (by omega) (by omega) (by omega)) λa2 ah=>M48 (λ_=>?_) λ_=>W.ret ⟨⟨by (try simp only);omega,by simp,OrdE.nil,Bys.nil,by simp⟩,ah.2.up (by omega)⟩
     exact M4c (BK ah.2 (by omega) (by simp) (by simp)) λa3 ao=>M4d (by simp;omega) (W.ret ⟨⟨by simp;omega,by simp,OrdE.nil,Bys.nil,by simp⟩,ao.2.up (by omega)⟩)
  ·
   refine M4c (YJ hc h) λak aH=>M4c (BK B (by omega) (by simp) (by simp)) λaD Y=>?_
   obtain ⟨n,l,j⟩:=aD;simp only at Y ⊢;have hn:0≤n∧n≤2:=by
    have:=Y.1;simp only [M1y,M2o,M3u] at this;omega
   obtain ⟨t,rfl⟩:=M1j hn.1;refine M4B t (λs=>s.1) (λi s=>s.2.1.length=i∧Mk (b+4+2*i) (s.2.2.2,s.2.2.1)) (by omega) rfl ⟨rfl,Y.2.up (by omega)⟩ λi s hi E A=>?_
   obtain ⟨cn,ss,kn,kl⟩:=s;simp only at E A ⊢;refine M49 (λq=>?_) (λq=>M4a ⟨⟨by simp,by (try simp only);omega,OrdE.nil,Bys.nil,by simp⟩,A.2.up (by omega)⟩);have e:A1 (ln ak.2.1+1)=ln ak.2.1+1:=A8 (by unfold ln;omega) (by unfold ln;omega);rw [e];refine M4c (At A.2 (by omega) (by unfold ln;omega) (by unfold ln;omega)) λa4 aq=>M4c (At aq.2 (by omega) lc.1 (by omega)) λa5 ar=>M4d (by simp;omega) (W.nx ⟨by omega,by (try simp only);rw [E],by simp [A.1],ar.2.up (by omega)⟩)
  exact M4c (At B (by omega) lc.1 (by omega)) λa6 au=>M4c (At au.2 (by omega) lc.1 (by omega)) λa7 av=>M4c (At av.2 (by omega) (by omega) (by omega)) λa8 aw=>W.ret ⟨ev0,aw.2.up (by omega)⟩
  refine M49 (λq=>?_) λ_=>W.ret ⟨ev0,B.up (by omega)⟩
  exact M4c (At (n:=ln y.2.2.1) B (by omega) q (by have:=h.ol;unfold ln;omega)) λa9 Z=>M4f Z.1.1 Z.1.2 λ_ _ _=>W.ret ⟨ev0,Z.2.up (by omega)⟩
end
section
structure CG (d:Ac):Prop where
 i:d.1.length≤192
 h:d.2.1.length≤8
 t:d.2.2.length≤24
 l:∀ l∈d.2.2,l.length≤192
structure DisV (d:Ac):Prop where
 n:d.1.length≤96
 h:∀ it∈d.1,0≤it.1∧it.1<(d.2.1.length:Int)
 r:Rg d.1.length d.2.2.flatten
 d:d.2.2.flatten.Nodup
theorem DisV.row {d:Ac}(h:DisV d){l:List Int}(hl:l∈d.2.2):Rg d.1.length l:=λx A=>h.r x (M3v.2 ⟨l,hl,A⟩)
def YY (n:Nat) (pre:List Int):List Int:=(List.range n).map λk:Nat=>((pre.count (k:Int):Nat):Int)
theorem QV (n:Nat)(pre:List Int):(YY n pre).length=n:=by simp [YY]
variable {n:Nat}{x:Int}
theorem WC{pre:List Int}(h:0≤x)(h2:x<n):idx (YY n pre) x=some ((pre.count x:Nat):Int):=by
 rw [DQ _ h];unfold YY;rw [M1n,M1I (by omega)];simp [M1v h]
theorem p9{pre:List Int}(h:0≤x)(h2:x<n):(YY n pre).set x.toNat (((pre.count x:Nat):Int)+1)=YY n (pre++[x]):=by
 refine M23 λk=>?_
 rw [M22];unfold YY;by_cases hk:k<n;by_cases e:x.toNat=k;subst e;rw [M1d rfl,M1d (by simpa using hk),M1n,M1I hk];simp [M1v h];rw [M1e e,M1n,M1n,M1I hk];have:¬ x=(k:Int):=by omega
 simp [List.count_append,List.count_singleton,this];rw [M1e (by omega),M1h (by simp;omega),M1h (by simp;omega)]
theorem pa (n:Nat):List.replicate n (0:Int)=YY n []:=by
 refine M23 λk=>?_
 unfold YY;rw [M2N,M1n];by_cases hk:k<n;rw [M1d hk,M1I hk];simp;rw [M1e hk,M1h (by simp;omega)];rfl
theorem SW {s:List (List Int)}(h1:s.length≤24)(h2:∀ l∈s,l.length≤192)(t i:Nat):(BA s t i).length≤5000:=by
 have hf:∀ (q:List (List Int)),(∀ l∈q,l.length≤192)→q.flatten.length≤192*q.length:=by
  intro q;induction q with
  | nil=>intro _;simp
  | cons a q A=>intro hq;have:=A λl hl=>hq l (M1c _ hl);have:=hq a M2w;simp only [M2H,M1l,M1N];omega
 unfold BA;rw [M1l];have a:=hf (s.take t) λl hl=>h2 l (M24 hl)
 have b:(s.take t).length≤24:=by rw [M1q];omega
 have c:((s[t]?.getD []).take i).length≤192:=by
  rw [M1q];cases e:s[t]? with
  | none=>simp
  | some r=>have:=h2 r (M1k e);simp only [M1G];omega
 omega
theorem Dv (s:List (List Int)):BA s 0 0=[]:=by simp [BA]
theorem SX (s:List (List Int)):BA s s.length 0=s.flatten:=by simp [BA]
theorem WD (d:Ac)(h:CG d):W (dw d) λr=>r=true→DisV d:=by
 have hi:=h.i;have U:=h.h;have ht:=h.t;unfold dw sP;refine M49 (λ_=>W.ret λe=>by cases e) λl1=>M49 (λ_=>W.ret λe=>by cases e) λl2=>M49 (λ_=>W.ret λe=>by cases e) λl3=>W.st (P:=λ_=>∀ i (hi:i<d.1.length),0≤d.1[i].1∧d.1[i].1<(d.2.1.length:Int)) ?_ λ_ h1=>W.st (P:=λ_=>True) ?_ λ_ _=>W.mk (DP _) (by unfold ln;omega) (W.st (P:=λv=>v=YY d.1.length d.2.2.flatten∧Rg d.1.length d.2.2.flatten) ?_ λv hv=>?_)
 refine M4h d.1.length (λt=>∀ i (hi:i<d.1.length),i<t→0≤d.1[i].1∧d.1[i].1<(d.2.1.length:Int)) (by omega) (λi _ q=>by omega) λt ht B=>M49 (λq=>?_) (λq=>M4a λi hi=>B i hi (by unfold ln at q;omega))
 have A:t<d.1.length:=by unfold ln at q;omega
 refine M4b A (M49 (λ_=>M4a λe=>by cases e) λa1=>M49 (λ_=>M4a λe=>by cases e) λa2=>M48 (λ_=>M4a λe=>by cases e) λ_=>M48 (λ_=>M4a λe=>by cases e) λ_=>M48 (λ_=>M4a λe=>by cases e) λ_=>M48 (λ_=>M4a λe=>by cases e) λ_=>M48 (λ_=>M4a λe=>by cases e) λ_=>W.nx ⟨A,rfl,λi hi q=>?_⟩);by_cases e:i=t;subst e;unfold ln at a2;omega
 exact B i hi (by omega);refine M4h d.2.1.length (λ_=>True) (by omega) trivial λt ht _=>M49 (λq=>?_) (λq=>M4a trivial)
 have A:t<d.2.1.length:=by unfold ln at q;omega
 refine M4b A (M48 (λ_=>M4a λe=>by cases e) λ_=>M4b A (M48 (λ_=>M4a λe=>by cases e) λ_=>?_));refine M4h t (λ_=>True) (by omega) trivial λu J _=>M49 (λq=>?_) (λq=>M4a ⟨A,rfl,trivial⟩)
 exact M4b (by omega) (M4b A (M48 (λ_=>M4a λe=>by cases e) λ_=>W.nx ⟨by omega,rfl,trivial⟩));refine M4e d.2.2.length (λs=>s.1) (λt s=>s.2=YY d.1.length (BA d.2.2 t 0)∧Rg d.1.length (BA d.2.2 t 0)) (by omega) rfl ⟨by simp only [ln,M1i];rw [pa,Dv],by rw [Dv];exact λx hx=>by cases hx⟩ λt s Z E B=>?_
 obtain ⟨i,a⟩:=s;simp only at E B ⊢;subst E;refine M49 (λq=>?_) (λq=>M4a (by rw [show t=d.2.2.length by unfold ln at q;omega,SX] at B;exact B));have A:t<d.2.2.length:=by unfold ln at q;omega
 have Y:=h.l _ (M03 A);refine M4e d.2.2[t].length (λs=>s.1) (λu s=>s.2=YY d.1.length (BA d.2.2 t u)∧Rg d.1.length (BA d.2.2 t u)) (by omega) rfl B λu s J E B=>?_
 obtain ⟨j,a⟩:=s;simp only at E B ⊢;subst E;obtain ⟨rfl,hg⟩:=B;refine M4b A (M49 (λq=>?_) (λq=>M4a ⟨A,rfl,?_⟩))
 have G:u<d.2.2[t].length:=by unfold ln at q;omega
 refine M4b A (M4b G (M49 (λ_=>M4a λe=>by cases e) λa1=>M49 (λ_=>M4a λe=>by cases e) λa2=>?_));simp only [ln,QV] at a2;have e:=WC (pre:=BA d.2.2 t u) (n:=d.1.length) (x:=d.2.2[t][u]) (by omega) (by omega);have E:=List.count_le_length (a:=d.2.2[t][u]) (l:=BA d.2.2 t u);have hl:=SW h.t h.l t u;refine W.of e (W.of e (W.nx ⟨G,rfl,?_,?_⟩))
 simp only;rw [AX (by rw [←DQ _ (by omega)];exact e),A8 (by omega) (by omega),p9 (by omega) (by omega),C2 A G];rw [C2 A G];intro x hx;rcases M1b.1 hx with hx|hx
 exact hg x hx;rw [M19] at hx;subst hx;omega
 rw [←H5 A,show d.2.2[t].length=u by unfold ln at q;omega];exact ⟨rfl,hg⟩;obtain ⟨rfl,hg⟩:=hv;refine M4h d.1.length (λt=>∀ i:Nat,i<t→d.2.2.flatten.count (i:Int)=1) (by omega) (λi q=>by omega) λt ht B=>M49 (λq=>?_) (λq=>M4a λ_=>⟨by unfold ln at l1;omega,λit hit=>?_,hg,List.nodup_iff_count.2 λa=>?_⟩)
 simp only [ln,QV] at q;have e:=WC (pre:=d.2.2.flatten) (n:=d.1.length) (x:=(t:Int)) (by omega) (by omega);refine W.of e ?_;rw [AX (by rw [←DQ _ (by omega)];exact e)];refine M4i (λ_=>M4a λe=>by cases e) λO=>W.nx ⟨by omega,rfl,λi hi=>?_⟩
 by_cases I:i=t;subst I;omega;exact B i (by omega);obtain ⟨k,hk,rfl⟩:=M1o.1 hit;exact h1 k hk;simp only [ln,QV] at q;by_cases H:a∈d.2.2.flatten;have:=hg a H;have:=B a.toNat (by omega);rw [M1v (by omega)] at this;omega
 rw [List.count_eq_zero.2 H];omega
section
variable {d : Ac} (h : CG d) (v : DisV d)
include v
theorem WE (ht:d.2.2.length≤24)(hr:∀ l∈d.2.2,l.length≤192):W (dA d) λr=>r.length=d.1.length:=by
 have hn:=v.n;unfold dA sQ;refine W.mk (DP _) (by unfold ln;omega) ?_;refine M4e d.2.2.length (λs=>s.1) (λt s=>s.2.length=d.1.length) (by omega) rfl (by simp [ln]) λt s J B A=>?_
 obtain ⟨i,a⟩:=s;simp only at B A ⊢;subst B;refine M49 (λq=>?_) (λq=>M4a A);have E:t<d.2.2.length:=by unfold ln at q;omega
 have I:=hr _ (M03 E);refine M4e d.2.2[t].length (λs=>s.1) (λu s=>s.2.length=d.1.length) (by omega) rfl A λu s O B A=>?_
 obtain ⟨j,a⟩:=s;simp only at B A ⊢;subst B;refine M4b E (M49 (λq=>?_) (λq=>M4a ⟨E,rfl,A⟩));have G:u<d.2.2[t].length:=by unfold ln at q;omega
 have H:=v.row (M03 E) _ (M03 G);exact M4b E (M4b G (M4f H.1 (by omega) λ_ _ _=>W.nx ⟨G,rfl,by simpa using A⟩))
variable {sp : List (Int × Int)} (hs : sp.length = d.1.length)
include hs
theorem QW {i:Int}(A:0≤i)(h1:i<d.1.length):W (Y0 (d,sp,i)) λ_=>True:=by
 unfold Y0 sR;simp only;exact M4f A (by omega) λ_ _ _=>M4f A h1 λx _ B=>M4f (v.h x B).1 (v.h x B).2 λ_ _ _=>W.ret trivial
omit v in
theorem Kq {i j:Int}(A:0≤i)(h1:i<d.1.length)(h2:0≤j)(h3:j<d.1.length):W (UW (sp,i,j)) λ_=>True:=by
 unfold UW sS;simp only;exact M4f A (by omega) λ_ _ _=>M4f h2 (by omega) λ_ _ _=>M48 (λ_=>M4f A (by omega) λ_ _ _=>M4f h2 (by omega) λ_ _ _=>W.ret trivial) λ_=>W.ret trivial
omit v hs in
theorem Ks {i j:Int}(A:0≤i)(h1:i<d.1.length)(h2:0≤j)(h3:j<d.1.length):W (UY (d,i,j)) λ_=>True:=by
 unfold UY sT;simp only;exact M4f A h1 λ_ _ _=>M4f h2 h3 λ_ _ _=>M48 (λ_=>M4f A h1 λ_ _ _=>M4f h2 h3 λ_ _ _=>W.ret trivial) λ_=>W.ret trivial
theorem WF {i j:Int}(A:0≤i)(h1:i<d.1.length)(h2:0≤j)(h3:j<d.1.length):W (Y3 (d,sp,i,j)) λ_=>True:=by
 unfold Y3 sU;simp only;exact M4c (QW v hs A h1) λ_ _=>M48 (λ_=>M4c (Kq hs h2 h3 A h1) λ_ _=>M48 (λ_=>M4c (Ks h2 h3 A h1) λ_ _=>W.ret trivial) λ_=>W.ret trivial) λ_=>W.ret trivial
theorem WG {i:Int}(A:0≤i)(h1:i<d.1.length):W (dE (d,sp,i)) λr=>r.2=true→r.1.1=i∧r.1.2.2.1<d.1.length:=by
 have hn:=v.n;unfold dE sV;simp only;refine M4c (QW v hs A h1) λ_ _=>M4q (λ_=>W.ret λ_=>⟨rfl,by (try simp only);omega⟩) λ_=>?_
 refine M4h d.1.length (λ_=>True) (by omega) trivial λt ht _=>M49 (λq=>?_) (λq=>M4a λe=>by cases e)
 have B:t<d.1.length:=by unfold ln at q;omega
 exact M4c (WF v hs A h1 (by omega) (by omega)) λ_ _=>M48 (λ_=>M4a λ_=>⟨rfl,by (try simp only);omega⟩) λ_=>W.nx ⟨B,rfl,trivial⟩
variable {rs : List Int} (hr : rs.length = d.1.length)
include hr
theorem pc {i:Int}(B:0≤i)(h1:i<d.1.length)(k:Int):W (kj (d,sp,rs,i,k)) λr=>r.2=true→r.1.1=i∧r.1.2.2.1<d.1.length:=by
 have hn:=v.n;unfold kj sW;simp only;refine W.st (P:=λ_=>True) ?_ λ_ _=>?_
 ·refine M4h d.1.length (λ_=>True) (by omega) trivial λt ht _=>M49 (λq=>?_) (λq=>M4a trivial)
  have A:t<d.1.length:=by unfold ln at q;omega
  exact M4b (by (try simp only);omega) (M48 (λ_=>M4b (by (try simp only);omega) (M48 (λ_=>M4c (Kq hs B h1 (by omega) (by omega)) λ_ _=>M48 (λ_=>M4a λ_=>⟨rfl,by (try simp only);omega⟩) λ_=>W.nx ⟨A,rfl,trivial⟩) λ_=>W.nx ⟨A,rfl,trivial⟩)) λ_=>W.nx ⟨A,rfl,trivial⟩)
 ·refine M4h d.1.length (λ_=>True) (by omega) trivial λt ht _=>M49 (λq=>?_) (λq=>M4a λe=>by cases e)
  have A:t<d.1.length:=by unfold ln at q;omega
  exact M4b (by (try simp only);omega) (M48 (λ_=>M4b (by (try simp only);omega) (M48 (λ_=>M4c (Ks (by (try simp only);omega) (by (try simp only);omega) B h1) λ_ _=>M48 (λ_=>M4a λ_=>⟨rfl,by (try simp only);omega⟩) λ_=>W.nx ⟨A,rfl,trivial⟩) λ_=>W.nx ⟨A,rfl,trivial⟩)) λ_=>W.nx ⟨A,rfl,trivial⟩)
theorem pd (p:Aa)(A:0≤p.1)(h1:p.1<d.1.length):W (ko (d,sp,rs,p)) λ_=>True:=by
 unfold ko sY;simp only;refine M48 (λ_=>M48 (λ_=>M4c (QW v hs A h1) λ_ _=>W.ret trivial) λ_=>W.ret trivial) λ_=>M49 (λ_=>W.ret trivial) λa=>M49 (λ_=>W.ret trivial) λb=>?_
 unfold ln at b;have a':0≤p.2.2.1:=by omega
 have b':p.2.2.1<d.1.length:=by omega
 have f:W (Y3 (d,sp,p.1,p.2.2.1)) λ_=>True:=WF v hs A h1 a' b'
 exact M4f a' (by omega) λ_ _ _=>M48 (λ_=>M4f a' (by omega) λ_ _ _=>M48 (λ_=>M48 (λ_=>M4c (Kq hs A h1 a' b') λ_ _=>W.ret trivial) λ_=>W.ret trivial) λ_=>M48 (λ_=>M48 (λ_=>M4c (Ks a' b' A h1) λ_ _=>M48 (λ_=>W.ret trivial) λ_=>M48 (λ_=>M4c f λ_ _=>W.ret trivial) λ_=>W.ret trivial) λ_=>M48 (λ_=>M4c f λ_ _=>W.ret trivial) λ_=>W.ret trivial) λ_=>W.ret trivial) λ_=>M48 (λ_=>W.ret trivial) λ_=>M48 (λ_=>M48 (λ_=>M4c f λ_ _=>W.ret trivial) λ_=>W.ret trivial) λ_=>W.ret trivial
end
end
theorem pe (l:List Aa)(i:Int)(hl:l.length≤100000):W (kx (l,i)) λ_=>True:=by
 unfold kx t8;simp only;refine M4h l.length (λ_=>True) (by omega) trivial λt ht _=>M49 (λq=>?_) (λq=>M4a trivial)
 have A:t<l.length:=by unfold ln at q;omega
 exact M4b A (M48 (λ_=>M4a trivial) λ_=>W.nx ⟨A,rfl,trivial⟩)
theorem pg (d:Ac)(h:CG d)(v:DisV d)(l:List Aa)(hl:l.length≤192):W (ku (d,l)) λ_=>True:=by
 have hn:=v.n;unfold ku t6;simp only;refine M4c (WE v h.t h.l) λsp hs=>W.mk (DP _) (by unfold ln;omega) (W.st (P:=λr=>r.length=d.1.length) ?_ λr0 J=>W.st (P:=λr=>r.length=d.1.length∧∀ i (hi:i<l.length),0≤l[i].1∧l[i].1<d.1.length) ?_ λr1 h1=>W.st (P:=λ_=>True) ?_ λ_ _=>?_)
 refine M4e d.1.length (λs=>s.1) (λt s=>s.2.length=d.1.length) (by omega) rfl (by simp [ln]) λt s O E B=>?_
 obtain ⟨i,a⟩:=s;simp only at E B ⊢;subst E;refine M49 (λq=>?_) (λq=>M4a B);unfold ln at q;exact M4b (by omega) (W.nx ⟨by omega,rfl,by simpa using B⟩)
 refine M4e l.length (λs=>s.1) (λt s=>s.2.length=d.1.length∧∀ i (hi:i<l.length),i<t→0≤l[i].1∧l[i].1<d.1.length) (by omega) rfl ⟨J,λi _ q=>by omega⟩ λt s O E B=>?_
 obtain ⟨i,a⟩:=s;simp only at E B ⊢;subst E;obtain ⟨H,I⟩:=B;refine M49 (λq=>?_) (λq=>M4a ⟨H,λi hi=>I i hi (by unfold ln at q;omega)⟩);have A:t<l.length:=by unfold ln at q;omega
 refine M4b A (M49 (λ_=>M4a trivial) λa1=>M49 (λ_=>M4a trivial) λa2=>?_);unfold ln at a2;refine M4f (by omega) (by omega) λ_ _ _=>M48 (λ_=>M4a trivial) λ_=>M4b A (M48 (λ_=>M4a trivial) λ_=>M4b A (M4f (by omega) (by omega) λ_ _ _=>W.nx ⟨A,rfl,by simpa using H,λi hi q=>?_⟩))
 by_cases e:i=t;subst e;omega;exact I i hi (by omega);refine M4h l.length (λ_=>True) (by omega) trivial λt ht _=>M49 (λq=>?_) (λq=>M4a trivial)
 have A:t<l.length:=by unfold ln at q;omega
 exact M4b A (M4c (pd v hs h1.1 _ (h1.2 t A).1 (h1.2 t A).2) λ_ _=>M48 (λ_=>M4a trivial) λ_=>W.nx ⟨A,rfl,trivial⟩);have U:=h1.1;refine M4h d.1.length (λ_=>True) (by omega) trivial λt ht _=>M49 (λq=>?_) (λq=>M4a trivial)
 have A:t<d.1.length:=by unfold ln at q;omega
 refine M4b (by omega) (M48 (λ_=>W.nx ⟨A,rfl,trivial⟩) λ_=>M4c (WG v hs (by omega) (by omega)) λ_ _=>M48 (λ_=>M4a trivial) λ_=>?_);refine M4h d.1.length (λ_=>True) (by omega) trivial λu Y _=>M49 (λq=>?_) (λq=>M4a ⟨A,rfl,trivial⟩)
 have G:u<d.1.length:=by unfold ln at q;omega
 exact M4b (by omega) (M48 (λ_=>M4c (Kq hs (by omega) (by omega) (by omega) (by omega)) λ_ _=>M48 (λ_=>M4a trivial) λ_=>M4c (Ks (by omega) (by omega) (by omega) (by omega)) λ_ _=>M48 (λ_=>M4a trivial) λ_=>W.nx ⟨G,rfl,trivial⟩) λ_=>W.nx ⟨G,rfl,trivial⟩)
def Wh (d:Ac) (p:List Aa):Prop:=p.length=d.1.length∧∀ x∈p,(0≤x.1∧x.1<(d.1.length:Int))∧x.2.2.1<(d.1.length:Int)
theorem Wh.set {d:Ac}{p:List Aa}(h:Wh d p){i:Int}{x:Aa}(A:(0≤x.1∧x.1<(d.1.length:Int))∧x.2.2.1<(d.1.length:Int)):Wh d (p.set i.toNat x):=
 ⟨by simpa using h.1,λy hy=>by
  rcases List.mem_or_eq_of_mem_set hy with q|q;exact h.2 y q;rw [q];exact A⟩
def neg (l:List Int):Nat:=l.countP λx=>decide (x<0)
theorem QX {l:List Int}{i:Nat}(hi:i<l.length){x:Int}(G:0≤x)(A:l[i]<0):neg (l.set i x)+1=neg l:=by
 unfold neg;have:0<l.countP λx=>decide (x<0):=List.countP_pos_iff.2 ⟨l[i],M03 hi,by simpa using A⟩
 rw [List.countP_set hi];have B:decide (l[i]<0)=true:=M1p A;have E:decide (x<0)=false:=M1K (by omega);simp only [B,E,M2K];simp;omega
theorem QY (l:List Int):neg l≤l.length:=List.countP_le_length
theorem xT (d:Ac)(h:CG d):W (F86 d) λr=>r.1.length≤192∧∀ p∈r.1,(0≤p.1∧p.1<(d.1.length:Int))∧p.2.2.1<(d.1.length:Int):=by
 unfold F86 B86;refine M4c (WD d h) λv0 hv=>M4q (λ_=>W.ret ⟨by simp,λp hp=>by cases hp⟩) λh0=>?_
 have v:=hv h0;have hn:=v.n;refine M4c (WE v h.t h.l) λsp hs=>W.mk (DP _) (by unfold ln;omega) (W.mk (DP _) (by unfold ln;omega) (W.st (P:=λr=>Wh d r.1∧r.2.length=d.1.length) ?_ λr1 h1=>W.st (P:=λr=>r.1.length=d.1.length∧Wh d r.2) ?_ λr2 h2=>?_))
 refine M4e d.1.length (λs=>s.1) (λt s=>s.2.1.length=d.1.length∧Wh d s.2.2) (by omega) rfl (by exact ⟨by simp [ln],by simp [ln],λx hx=>by
  have:=M3F.1 hx;unfold ln at this;rw [this.2];simp only;omega⟩) λt s Z E A=>?_
 obtain ⟨i,a,b⟩:=s;simp only at E A ⊢;subst E;obtain ⟨H,B⟩:=A;refine M49 (λq=>?_) (λq=>M4a ⟨B,H⟩);unfold ln at q;refine M4b (by omega) (M4c (WG v hs (by omega) (by omega)) λr hr=>M48 (λhb=>?_) λ_=>W.nx ⟨by omega,rfl,by simpa using H,B⟩);obtain ⟨k1,Y⟩:=hr hb;exact M4b (by rw [B.1];omega) (M4b (by rw [M2x];omega) (W.nx ⟨by omega,rfl,by simpa using H,B.set ⟨by omega,Y⟩⟩))
 obtain ⟨ag,aa⟩:=r1;refine W.run (λs=>(s.2.2.2.length=d.1.length∧Wh d s.2.2.1)∧1≤s.1∧s.1.toNat+(neg s.2.2.2+if s.2.1=true then 1 else 0)≤d.1.length+2) (λs=>neg s.2.2.2+if s.2.1=true then 1 else 0) (by have:=QY aa;simp only at h1 ⊢;exact ⟨⟨h1.2,h1.1⟩,by omega,by simp only [M2K];have:=h1.2;omega⟩) (by have:=QY aa;have:=h1.2;simp only at this ⊢;simp only [M2K];omega) λs A=>?_
 obtain ⟨k,g,a,b⟩:=s;simp only at A ⊢;obtain ⟨⟨H,B⟩,i3,i4⟩:=A;refine M48 (λhg=>?_) λ_=>M4a ⟨H,B⟩
 subst hg;simp only [M2K] at i4 ⊢;refine M4e d.1.length (λs=>s.2.1) (λt s=>s.2.2.1.length=d.1.length∧Wh d s.2.2.2∧neg s.2.2.1+(if s.1=true then 1 else 0)≤neg b) (by omega) rfl (by exact ⟨H,B,by simp⟩) λt s Z E A=>?_
 obtain ⟨f,i,a',b'⟩:=s;simp only at E A ⊢;subst E;obtain ⟨I,J,O⟩:=A;refine M49 (λq=>?_) (λq=>M4a ⟨⟨⟨I,J⟩,?_,?_⟩,?_⟩)
 have G:t<d.1.length:=by unfold ln at q;omega
 have U:t<a'.length:=by omega
 refine M4b U ?_;rw [Aw U];refine M49 (λ_=>W.nx ⟨G,rfl,I,J,O⟩) λae=>M4c (pc v hs I (by omega) (by omega) k) λr hr=>M48 (λhb=>?_) λ_=>W.nx ⟨G,rfl,I,J,O⟩
 obtain ⟨k1,Y⟩:=hr hb;refine M4b (by rw [J.1];omega) (M4b U (W.nx ⟨G,rfl,by simpa using I,J.set ⟨by omega,Y⟩,?_⟩));have:=QX U (x:=k) (by omega) (by omega);simp only [M1i,M2K];split at O <;> omega
 simp only;rw [A8 (by omega) (by omega)];omega;simp only;rw [A8 (by omega) (by omega)];split at O <;> rename_i hf <;> simp only [hf] <;> simp <;> omega
 simp only;split at O <;> rename_i hf <;> simp only [hf] <;> simp <;> omega
 ·obtain ⟨a,b⟩:=r2;simp only at h2 ⊢;refine M4e d.1.length (λs=>s.2) (λt s=>s.1.length≤t∧∀ p∈s.1,(0≤p.1∧p.1<(d.1.length:Int))∧p.2.2.1<(d.1.length:Int)) (by omega) rfl (by exact ⟨by simp,λp hp=>by cases hp⟩) λt s Z E A=>?_
  obtain ⟨l,i⟩:=s;simp only at E A ⊢;subst E;obtain ⟨H,B⟩:=A;refine M49 (λq=>?_) (λq=>M4a ⟨by (try simp only);omega,B⟩);unfold ln at q;have G:t<d.1.length:=by omega
  have hb:t<b.length:=by rw [h2.2.1];exact G
  refine M4b (by omega) (M48 (λ_=>M4b hb ?_) λ_=>W.nx ⟨G,rfl,by (try simp only);omega,B⟩);rw [Aw hb];refine M4d (by simp;omega) (W.nx ⟨G,rfl,by simp;omega,λp hp=>?_⟩);rcases M1b.1 hp with hp|hp
  exact B p hp;rw [M19] at hp;subst hp;exact h2.2.2 _ (M03 hb)
theorem SY (s:List (List Int))(t i:Nat):(BA s t i).Sublist s.flatten:=by
 unfold BA;by_cases ht:t<s.length;rw [M00 ht,M1G];have e:s.flatten=(s.take t).flatten++(s[t]++(s.drop (t+1)).flatten):=by
  conv=>lhs;rw [←M2m t s,M2c ht,M2G,M2H]
 rw [e];exact List.Sublist.append (M34 _) ((List.take_sublist _ _).trans (M3b _ _));rw [M1h (by omega),List.take_of_length_le (by omega)];simp
theorem PO {l m:List Int}(h:l.Sublist m)(hd:m.Nodup):l.Nodup:=hd.sublist h
theorem xU (d:Ac)(h:CG d)(l:List Aa)(hl:l.length≤192)(w:Int):W (F87 (d,l,w)) λr=>r.2.1.length≤192∧r.1.1.length=r.2.1.length∧(∀ i∈r.2.1,0≤i∧i<(d.1.length:Int))∧r.2.1.Nodup∧(∀ it∈r.1.1,0≤it.1∧it.1<(d.2.1.length:Int))∧∀ (k:Nat) (hk:k<r.2.1.length),r.1.1[k]? = d.1[(r.2.1[k]).toNat]?:=by
 have err:∀ c:Int,(λr:Bb×List Int×Int=>r.2.1.length≤192∧r.1.1.length=r.2.1.length∧(∀ i∈r.2.1,0≤i∧i<(d.1.length:Int))∧r.2.1.Nodup∧(∀ it∈r.1.1,0≤it.1∧it.1<(d.2.1.length:Int))∧∀ (k:Nat) (hk:k<r.2.1.length),r.1.1[k]? = d.1[(r.2.1[k]).toNat]?) (([],0),[],c):=λc=>⟨by simp,rfl,(λi hi=>by cases hi),M42,(λi hi=>by cases hi),λk hk=>by simp at hk⟩
 unfold F87 B87;simp only;refine M4c (WD d h) λv0 hv=>M4q (λ_=>W.ret (err _)) λh0=>M48 (λ_=>W.ret (err _)) λ_=>M48 (λ_=>W.ret (err _)) λ_=>?_
 have v:=hv h0;have hn:=v.n;refine M4c (pg d h v l hl) λ_ _=>M4q (λ_=>W.ret (err _)) λ_=>?_
 let I:List Int→List Aa→List Int→Prop:=λo its u=>o.Sublist u∧its.length=o.length∧∀ (k:Nat) (hk:k<o.length),its[k]? = d.1[(o[k]).toNat]?
 have len:∀ {o u:List Int} {its},I o its u→u.Sublist d.2.2.flatten→o.length≤192∧(∀ i∈o,0≤i∧i<(d.1.length:Int))∧o.Nodup:=λ{o u its} hi Y=>by
  have s:=hi.1.trans Y;have g:Rg d.1.length o:=λx O=>v.r x (s.mem O)
  have nd:=PO s v.d;exact ⟨by have:=Gw g nd;omega,g,nd⟩
 have ht:=h.t;refine M4e d.2.2.length (λs=>s.2.1) (λt s=>I s.1 s.2.2 (BA d.2.2 t 0)) (by omega) rfl (by exact ⟨by rw [Dv];exact M34 _,rfl,λk hk=>by simp at hk⟩) λt s ac G A=>?_
 obtain ⟨o,i,its⟩:=s;simp only at G A ⊢;subst G;refine M49 (λq=>?_) (λq=>M4a ?_)
 have B:t<d.2.2.length:=by unfold ln at q;omega
 have ab:=h.l _ (M03 B);refine M4e d.2.2[t].length (λs=>s.2.1) (λu s=>I s.1 s.2.2 (BA d.2.2 t u)) (by omega) rfl A λu s Y G A=>?_
 obtain ⟨o,j,its⟩:=s;simp only at G A ⊢;subst G;refine M4b B (M49 (λq=>?_) (λq=>M4a ⟨B,rfl,?_⟩))
 have E:u<d.2.2[t].length:=by unfold ln at q;omega
 have O:=v.row (M03 B) _ (M03 E);have hb:=len A (SY _ _ _);obtain ⟨U,H,J⟩:=A;refine M4b B (M4b E (M4c (pe l _ (by omega)) λ_ _=>M48 (λ_=>M4f O.1 O.2 λit e _=>M4d (by simp;omega) (M4d (by simp;omega) (W.nx ⟨E,rfl,?_,?_,λk hk=>?_⟩))) λ_=>W.nx ⟨E,rfl,?_,H,J⟩));rw [C2 B E];exact U.append (M34 _);simp [H];simp only;simp only [M1l,M31] at hk;by_cases Z:k=o.length;subst Z;rw [M1a (by omega),M33 (by omega)];simp [H,e];rw [M1f (by omega),M3c (by omega)];exact J k (by omega);simp only;rw [C2 B E];exact U.trans (M3b _ _);rw [←H5 B,show d.2.2[t].length=u by unfold ln at q;omega];exact A;have hb:=len A (SY _ _ _);obtain ⟨U,H,J⟩:=A;refine ⟨hb.1,H,hb.2.1,hb.2.2,λit hit=>?_,J⟩;obtain ⟨k,hk,rfl⟩:=M1o.1 hit;have e:=J k (by simp only at hk;omega);rw [M00 hk] at e;exact v.h _ (M1k e.symm)
section
variable {T:G8}{s:Bp}
theorem WH{L:List Int}(h:Dc T L s)(w f t:Int)(fr:Bool):OQ (T,L,s,w,f,t,fr)=some (if cd T L s w f t=0 then (mv s w t fr,0) else ([],cd T L s w f t)):=M1d h
theorem WI{L:List Int}(h:Dc T L s)(l:List jm)(hl:l.length≤100000):Y6 (T,L,s,l)=some (match BJ T L l 0 s with | .inl (i,c)=>([],i,c) | .inr b=>(b,(l.length:Int),0)):=M1d ⟨h,hl⟩
end
theorem Jz (c:A2)(t:Int):qu (c,t)=some (decide (0≤t∧t<(c.1.length:Int))):=by
 unfold qu B70;refine M4o (M49 (λh=>W.ret ?_) λh=>W.ret (M1K (by simp only at h;omega)).symm);unfold ln;refine M3l.2 ?_;simp only at h ⊢;omega
theorem gQ (c:A2)(o:A0)(ho:OrdE o):W (zt (c,o)) λr=>r=true→(0≤o.2.1∧o.2.1<(c.1.length:Int))∧(1≤o.2.2.length∧o.2.2.length≤16)∧o.1.length≤12∧∀ d∈o.2.2,d.length≤12:=by
 obtain ⟨o1,o2,G⟩:=ho;unfold zt B76;simp only;refine M4c (Ve _ (by omega)) λv hv=>M4q (λ_=>W.ret λh=>by cases h) λe=>M49 (λ_=>W.ret λh=>by cases h) λa=>M49 (λ_=>W.ret λh=>by cases h) λb=>M49 (λ_=>W.ret λh=>by cases h) λc=>M49 (λ_=>W.ret λh=>by cases h) λd=>?_
 unfold ln at b c d;refine M4h o.2.2.length (λt=>∀ i (hi:i<o.2.2.length),i<t→o.2.2[i].length≤12) (by omega) (λi _ h=>by omega) λt ht B=>M49 (λq=>?_) (λq=>M4a λ_=>⟨by omega,by omega,hv e,λd hd=>?_⟩)
 have A:t<o.2.2.length:=by unfold ln at q;omega
 have hd:=G _ (M03 A);refine M4b A (M4c (Ve _ (by omega)) λH h3=>M4q (λ_=>M4a λh=>by cases h) λE=>M4b A (W.of (QD o _ (by omega)) (M4i (λ_=>M4a λh=>by cases h) λ_=>W.nx ⟨A,rfl,λi hi h=>?_⟩)));by_cases e:i=t;subst e;exact h3 E;exact B i hi (by omega);obtain ⟨i,hi,rfl⟩:=M1o.1 hd;exact B i hi (by unfold ln at q;omega)
theorem gR (x:AR)(h:x.2.2.1.2.2.2.2.2.1.length≤5):W (zx x) λr=>r.2=x∧(r.1=true→(0≤x.2.2.1.2.1∧x.2.2.1.2.1<(x.1.1.length:Int))∧(∀ t∈x.2.2.1.2.2.2.2.2.1,0≤t∧t<(x.1.1.length:Int))∧0≤x.2.2.1.2.2.2.2.1∧x.2.2.1.2.2.2.2.1≤12):=by
 have G:∀ b:Bool,W (std.run (λA:Bool×Int=>bif decide (A.2<ln x.2.2.1.2.2.2.2.2.1) then bif A.1 then (Go.V.idx x.2.2.1.2.2.2.2.2.1 A.2).bind λJ=>(qu (x.1,J)).bind λO=>some (.next (O,A1 (A.2+1))) else some (.next (false,A1 (A.2+1))) else some (.done (A.1,x))) (b,0)) λr=>r.2=x∧(r.1=true→b=true∧∀ t∈x.2.2.1.2.2.2.2.2.1,0≤t∧t<(x.1.1.length:Int)):=λb=>by
  refine M4e x.2.2.1.2.2.2.2.2.1.length (λs=>s.2) (λt s=>s.1=true→b=true∧∀ i (hi:i<x.2.2.1.2.2.2.2.2.1.length),i<t→0≤x.2.2.1.2.2.2.2.2.1[i]∧x.2.2.1.2.2.2.2.2.1[i]<(x.1.1.length:Int)) (by omega) rfl (λh=>⟨h,λi _ h=>by omega⟩) λt s ht H B=>?_
  obtain ⟨a,i⟩:=s;simp only at H B ⊢;subst H;refine M49 (λq=>?_) (λq=>M4a ⟨rfl,λh2=>⟨(B h2).1,λd hd=>?_⟩⟩)
  have E:t<x.2.2.1.2.2.2.2.2.1.length:=by unfold ln at q;omega
  refine M48 (λe=>M4b E (W.of (Jz _ _) (W.nx ⟨E,rfl,λh3=>⟨(B e).1,λi hi U=>?_⟩⟩))) λ_=>W.nx ⟨E,rfl,λh3=>by cases h3⟩
  by_cases I:i=t;subst I;exact M1s h3;exact (B e).2 i hi (by omega);obtain ⟨i,hi,rfl⟩:=M1o.1 hd;exact (B h2).2 i hi (by unfold ln at q;omega)
 unfold zx B78;refine W.of (Jz _ _) (M48 (λe=>M49 (λw0=>W.mono (G _) λr hr=>⟨hr.1,λh1=>?_⟩) λ_=>W.mono (G false) λr hr=>⟨hr.1,λh1=>?_⟩) λ_=>W.mono (G false) λr hr=>⟨hr.1,λh1=>?_⟩);exact ⟨M1s e,(hr.2 h1).2,w0,M1s (hr.2 h1).1⟩;have:=(hr.2 h1).1;cases this;have:=(hr.2 h1).1;cases this
theorem gS (x:AR)(h:x.2.2.1.2.2.2.2.2.1.length≤5)(ho:x.2.1.2.2.1.length≤8):W (zz x) λr=>r.2=x:=by
 unfold zz B79;refine W.of (Jw _ _ (by omega)) ?_;refine M4e x.2.2.1.2.2.2.2.2.1.length (λs=>s.2) (λt s=>True) (by omega) rfl trivial λt s ht B _=>?_
 obtain ⟨a,i⟩:=s;simp only at B ⊢;subst B;refine M49 (λq=>?_) (λq=>M4a rfl);have A:t<x.2.2.1.2.2.2.2.2.1.length:=by unfold ln at q;omega
 have n:∀ b:Bool,W (some (.next (b,A1 ((t:Int)+1)):Al (Bool×Int) (Bool×AR))) (BX (λE=>t<x.2.2.1.2.2.2.2.2.1.length∧E.2=A1 ((t:Int)+1)∧True) λr=>r.2=x):=λb=>W.nx ⟨A,rfl,trivial⟩
 refine M48 (λ_=>M4b A (M48 (λ_=>W.of (Vd (by omega)) (M4b A (W.of (QC _ _ (by simp;omega)) (M48 (λ_=>M4b A (W.of (Jw _ _ (by omega)) (n _))) λ_=>n _)))) λ_=>n _)) λ_=>n _
section
variable {c : A2} {y : AH} (h : Inv c y)
include h
theorem gT (l:List Int)(hl:l.length≤192)(hr:Rg y.1.length l):W (zJ (y,l)) λr=>0≤r∧r≤400*(l.length:Int):=by
 have ww:=h.ww;unfold zJ B88;simp only;refine M4e l.length (λs=>s.2) (λt s=>0≤s.1∧s.1≤400*(t:Int)) (by omega) rfl (by simp) λt s ht B G=>?_
 obtain ⟨a,i⟩:=s;simp only at B G ⊢;subst B;refine M49 (λq=>?_) (λq=>M4a (by (try simp only);unfold ln at q;omega));have A:t<l.length:=by unfold ln at q;omega
 have E:=hr _ (M03 A);refine M4b A (M4f E.1 E.2 λw _ hw=>W.nx ⟨A,rfl,?_⟩);have:=ww w hw;unfold FitW at this;simp only;rw [A8 (by omega) (by omega)];omega
theorem gU (j:Bb)(p:AC)(ts:List Int)(H:Bp)(hj:j.1.length≤96)(hp:p.2.length=j.1.length)(hs:0≤p.1)(hit:∀ it∈j.1,0≤it.2.2.2∧it.2.2.2≤400)(J:∀ t∈ts,0≤t∧t<(c.1.length:Int))(A:ts.length≤1000)(hr:H.length=c.1.length)(I:∀ r∈H,r.length≤192∧Rg y.1.length r):W (zL (c,y,j,p,ts,H)) λr=>r=true→p.1≤(ts.length:Int):=by
 have Y:=h.ol;unfold zL B82;simp only;refine M49 (λ_=>W.ret λh=>by cases h) λG=>?_
 have G:p.1≤(ts.length:Int):=by unfold ln at G;omega
 obtain ⟨n,hn⟩:=M1j hs;have u64:∀ n:Int,(!(decide (IntKind.u64.wrap n<0)))=true:=λn=>by simpa using JP n
 refine W.st (P:=λ_=>True) ?_ λ_ _=>?_
 refine M4h n (λ_=>True) (by omega) trivial λb hb _=>?_
 rw [hn];refine M49 (λq=>?_) (λq=>M4a trivial);refine W.st (P:=λa=>True) ?_ λv4 _=>?_
 refine M4e j.1.length (λs=>s.2) (λt s=>True) (by omega) rfl trivial λt s ht B _=>?_
 obtain ⟨a,i⟩:=s;simp only at B ⊢;subst B;refine M49 (λq=>?_) (λq=>M4a trivial);have A:t<j.1.length:=by unfold ln at q;omega
 refine M4b (by omega) (M4k (u64 _) (M48 (λ_=>M4b A (W.nx ⟨A,rfl,trivial⟩)) λ_=>W.nx ⟨A,rfl,trivial⟩));refine M4b (by omega) (M4f (J _ (M03 _)).1 (J _ (M03 _)).2 λv6 _ _=>M48 (λ_=>M4a λh=>by cases h) λ_=>W.nx ⟨by omega,rfl,trivial⟩);refine M4h y.2.2.1.length (λ_=>True) (by omega) trivial λt ht _=>M49 (λq=>?_) (λq=>M4a λ_=>G)
 have A:t<y.2.2.1.length:=by unfold ln at q;omega
 have ho:=(h.oo _ (M03 A)).1;refine M4b A (M4f ho.1 (by omega) λU _ O=>M4c (gT h U (I _ O).1 (I _ O).2) λaa _=>?_);refine W.st (P:=λa=>True) ?_ λab _=>M4b A (M4f ho.1 ho.2 λac _ _=>M48 (λ_=>M4a λh=>by cases h) λ_=>W.nx ⟨A,rfl,trivial⟩)
 refine M4e j.1.length (λs=>s.2) (λt s=>True) (by omega) rfl trivial λu s Z B _=>?_
 obtain ⟨a,i⟩:=s;simp only at B ⊢;subst B;refine M49 (λq=>?_) (λq=>M4a trivial);have E:u<j.1.length:=by unfold ln at q;omega
 exact M4b E (M48 (λ_=>M4b E (W.nx ⟨E,rfl,trivial⟩)) λ_=>W.nx ⟨E,rfl,trivial⟩)
end
theorem gV (l:List Int)(j:Bb)(p:BE)(x:AR)(B:x.2.2.1.2.2.2.2.2.1.length≤1000)(A:0≤p.1.1)(h1:p.1.1≤(x.2.2.1.2.2.2.2.2.1.length:Int))(h2:p.1.2.length≤1000)(h3:p.2.length≤100000) :
  ∃ r,yv (l,j,p,x)=some (x.1,(x.2.1.1,x.2.1.2.1,x.2.1.2.2.1,true,(l,j,p,x.2.2.1.2.1,x.2.2.1.2.2.2.2.2.1.take p.1.1.toNat,0),false),x.2.2.1,r):=by
 obtain ⟨n,hn⟩:=M1j A;have key:W (yv (l,j,p,x)) λa=>∃ r,a=(x.1,(x.2.1.1,x.2.1.2.1,x.2.1.2.2.1,true,(l,j,p,x.2.2.1.2.1,x.2.2.1.2.2.2.2.2.1.take p.1.1.toNat,0),false),x.2.2.1,r):=by
  unfold yv B83;simp only;rw [hn];refine W.of (Vd (by omega)) (M4d (by simp;omega) (M4d (by simp;omega) (M4d (by simp;omega) (W.ret ⟨_,rfl⟩))))
 obtain ⟨a,e,r,rfl⟩:=key;exact ⟨r,e⟩
def OnP (ld:Int) (ts pl:List Int) (s:Bp):Prop:=∀ (t:Nat),((t:Int)=ld∨(t:Int)∈ts)→∀ l,s[t]? = some l→∀ w∈l,w∈pl
theorem OnP.mv {ld:Int}{ts pl:List Int}{s:Bp}(h:OnP ld ts pl s){w t:Int}{fr:Bool}(k:w∈pl∨(t≠ld∧t∉ts)):OnP ld ts pl (mv s w t fr):=λu hu l hl x A=>by
 obtain ⟨row,hrow,rfl⟩:=OB hl;rcases IM.1 A with ⟨e,rfl⟩|⟨q,_⟩
 rcases k with k|⟨B,E⟩;exact k;rcases hu with hu|hu;exact absurd (by rw [←hu,e]) B;exact absurd (e ▸ hu) E;exact h u hu row hrow x q
section
variable {s:Bp}
theorem QZ {T:G8}{L:List Int}(h:Dc T L s)(M:List Int)(I:Ln M)(hl:L.length+M.length≤192):Dc T (L++M) s:=by
 obtain ⟨h1,h2,h3,E,B,G,H⟩:=h;have O:∀ r,Rg L.length r→sm (L++M) r=sm L r:=λr hr=>by
  induction r with
  | nil=>rfl
  | cons x r J=>
   have A:=hr x M2w;rw [CE,CE,J λy hy=>hr y (M1c _ hy),xh,M1d (by omega)]
 refine ⟨h1,h2,by simpa using hl,λn hn=>(M1b.1 hn).elim (E n) (I n),λx A=>by have:=B x A;simp;omega,G,λk row tr hk hr ht=>?_⟩;obtain ⟨a,b,d⟩:=H k row tr hk hr ht;refine ⟨a,b,?_⟩;rw [O row λx A=>B x (M3v.2 ⟨row,M1k hr,A⟩)];exact d
theorem R1 {ws:List A6}(h:∀ w∈ws,FitW w):Ln (Bf ws):=λn hn=>by
 obtain ⟨w,hw,rfl⟩:=M1L.1 hn;have:=h w hw;unfold FitW at this;omega
theorem M4C {c:A2}{wag:List A6}{trk:Bp}{ord:List A0}{busy:Bool}{prog:Ab}{flt:Bool}{l:List A6}(hp:PlanOK c (wag,trk,ord,busy,prog,flt) prog)(hl:(wag++l).length≤192)(B:flt=false→OnP prog.2.2.2.1 prog.2.2.2.2.1 prog.1 s):PlanOK c (wag++l,s,ord,busy,prog,flt) prog:=
 {items:=hp.items,codes:=hp.codes,wl:=hp.wl,nd:=hp.nd,tr:=hp.tr,ld:=hp.ld,ts:=hp.ts,tl:=hp.tl,st:=hp.st,pu:=hp.pu,pf:=hp.pf
  wr:=λw hw=>by have:=hp.wr w hw;simp only [M1l] at this ⊢;omega
  ord:=λw hw hm=>by
   have:=hp.wr _ hm;simp only at this hw ⊢;have A:w<wag.length:=by omega
   rw [M3c A];exact hp.ord w A hm
  on:=B }
section
variable {c : A2} {wag : List A6} {trk : Bp} {ord : List A0} {busy : Bool} {prog : Ab} {flt : Bool} {e : Ah} {r : Ag} (hc : BF c) (h : Inv c (wag, trk, ord, busy, prog, flt)) (he : EvOK e) (hr : r.2.1 = [])
include hc h he hr
def gW (c:A2) (o:Int×A2×(List A6)×(List (List Int))×(List A0)×Bool×Ab×Bool×Ah×Ag):Prop:=o.1=0→Inv c (o.2.2.1,o.2.2.2.1,o.2.2.2.2.1,o.2.2.2.2.2.1,o.2.2.2.2.2.2.1,o.2.2.2.2.2.2.2.1)
theorem ph:W (F41 (c,wag,trk,ord,busy,prog,flt,e,r)) (gW c):=by
 have I:=h.ol;have A:=h.tl;obtain ⟨o1,o2,O⟩:=id he.od;simp only at I A;unfold F41 B41;simp only;refine M48 (λ_=>W.ret λq=>by cases q) λhb=>?_
 refine M4c (gQ c _ he.od) λU H=>M4q (λ_=>W.ret λq=>by cases q) λG=>?_
 obtain ⟨a1,a2,a3,a4⟩:=H G;refine W.st (P:=λ_=>True) ?_ λ_ _=>M48 (λ_=>W.ret λq=>by cases q) λB=>?_
 ·refine M4h ord.length (λ_=>True) (by omega) trivial λt ht _=>M49 (λq=>?_) (λq=>M4a trivial)
  have A:t<ord.length:=by unfold ln at q;omega
  have ho:=h.oo _ (M03 A);refine M4b A ?_;simp only [Aw A];refine M48 (λ_=>M4a λq=>by cases q) λ_=>M48 (λ_=>M4a λq=>by cases q) λ_=>?_
  refine M4h e.2.2.2.2.2.2.2.1.2.2.length (λ_=>True) (by omega) trivial λu J _=>M49 (λq=>?_) (λq=>M4a ⟨A,rfl,trivial⟩)
  have E:u<e.2.2.2.2.2.2.2.1.2.2.length:=by unfold ln at q;omega
  exact M4b E (W.of (QD _ _ (by (try simp only);omega)) (M48 (λ_=>M4a λq=>by cases q) λ_=>W.nx ⟨E,rfl,trivial⟩))
 have B:ord.length≠8:=λq=>by
  have:(ln ord==8)=true:=by unfold ln;rw [q];rfl
  rw [this] at B;cases B
 refine M4f a1.1 (by omega) λrow _ _=>M48 (λ_=>W.ret λq=>by cases q) λ_=>M4d (by simp;omega) (M4d (by simp;omega) (W.ret λ_=>?_))
 refine ⟨h.vd,h.ww,by simp;omega,λo ho=>?_,h.fb,h.pb,λq=>?_⟩;rcases M1b.1 ho with ho|ho;exact h.oo o ho;rw [M19] at ho;subst ho;exact ⟨a1,by simpa using a2.2,a3,he.od.2.2⟩
 simp only at q;rw [hb] at q;cases q
theorem gX:W (F40 (c,wag,trk,ord,busy,prog,flt,e,r)) (gW c):=by
 have ai:=h.ol;have J:=h.tl;have aq:=h.wl;have ak:=λhb=>(h.pl hb).tl
 obtain ⟨Y,sh,rr⟩:=r;simp only at hr;subst hr;simp only at ai J aq ak;unfold F40 B40;simp only;refine W.of (Jz _ _) (M4q (λ_=>W.ret λq=>by cases q) λaj=>M48 (λ_=>W.ret λq=>by cases q) λhf=>?_);have aj:=M1s aj;subst hf;have lp:(busy=true→e.2.1≠prog.2.2.2.1∧e.2.1∉prog.2.2.2.2.1)→∀ l:List A6,(∀ w∈l,FitW w)→wag.length+l.length≤192→
   W (std.run (λA:Int×(List A6)×(List Ap)×List (List Int)=>bif decide (A.1<ln l) then (cU (A.2.2.2,A1 ((ln wag)+A.1))).bind λad=>(OR A.2.1).bind λaw=>(OQ (c.1,aw,A.2.2.2,A1 ((ln wag)+A.1),ad.1,e.2.1,false)).bind λam=>bif am.2 != 0 then some (.done (14,c,A.2.1,A.2.2.2,ord,busy,prog,false,e,Y,A.2.2.1,rr)) else bif room A.2.2.1 ([(A1 ((ln wag)+A.1),ad.1,e.2.1,false)]) then some (.next (A1 (A.1+1),A.2.1,A.2.2.1++([(A1 ((ln wag)+A.1),ad.1,e.2.1,false)]),am.1)) else none else some (.done (0,c,A.2.1,A.2.2.2,ord,busy,prog,false,e,Y,A.2.2.1,rr))) (0,wag++l,[],trk)) (gW c):=λG l hl aB=>by
  have ar:∀ w∈wag++l,FitW w:=λw hw=>(M1b.1 hw).elim (h.ww w) (hl w)
  refine M4e l.length (λs=>s.1) (λt s=>s.2.1=wag++l∧s.2.2.1.length=t∧Dc c.1 (Bf (wag++l)) s.2.2.2∧(busy=true→OnP prog.2.2.2.1 prog.2.2.2.2.1 prog.1 s.2.2.2)) (by omega) rfl (by
   refine ⟨rfl,rfl,?_,λhb=>(h.pl hb).on rfl⟩;have:=QZ h.vd (Bf l) (R1 hl) (by simp;omega);unfold Bf at this ⊢;rw [M1A];exact this) λt s ht ah hI=>?_
  obtain ⟨i,ws,ss,s⟩:=s;simp only at ah hI ⊢;obtain ⟨rfl,i2,O,i4⟩:=hI;subst ah;have H:=Bw O;refine M49 (λq=>?_) (λq=>M4a λ_=>?_)
  refine W.of (Oz s _ (by have:=H.1;omega) λl hl=>by have:=H.2 l hl;omega) ?_;refine W.of (Wx _ (by simp;omega)) ?_;refine W.of (WH O _ _ _ _) ?_;split;rename_i U;refine M4g rfl (M4d (by simp;omega) (W.nx ⟨by unfold ln at q;omega,rfl,rfl,by simp [i2],Gx O _ U,λhb=>(i4 hb).mv (.inr (G hb))⟩));rename_i U;exact M4k (M2I.2 U) (M4a λq=>by cases q);refine ⟨O,ar,ai,h.oo,h.fb,h.pb,λhb=>?_⟩;exact M4C (h.pl hb) (by simp;omega) λ_=>i4 hb
 have af:∀ l:List A6,l.length≤96→∀ P:Int×A2×(List A6)×(List (List Int))×(List A0)×Bool×Ab×Bool×Ah×Ag→Prop,(∀ x,x.1=8→P x)→∀ {σ:Type} {f:PUnit→Option _},W (f ()) P→
   W ((std.run (λv4:Int=>bif decide (v4<ln l) then std.run (λE:Int=>bif decide (E<ln wag) then (cU (trk,E)).bind λv6=>bif decide (v6.1≥0) then (Go.V.idx wag E).bind λv7=>(Go.V.idx l v4).bind λv8=>bif ((A7 wag E v7).1)==v8.1 then some (.done (.done (.done (8,c,wag,trk,ord,busy,prog,false,e,Y,[],rr)))) else some (.next (A1 (E+1))) else some (.next (A1 (E+1))) else some (.done (.next (A1 (v4+1))))) 0 else some (.done (.next ()))) 0).bind (AF f)) P:=λl hl P I σ f hf=>by
  have H:=Bw h.vd;refine W.st (P:=λ_=>True) ?_ λ_ _=>hf
  refine M4h l.length (λ_=>True) (by omega) trivial λt ht _=>M49 (λq=>?_) (λq=>M4a trivial)
  have J:t<l.length:=by unfold ln at q;omega
  refine M4h wag.length (λ_=>True) (by omega) trivial λu hu _=>M49 (λq=>?_) (λq=>M4a ⟨J,rfl,trivial⟩)
  have aa:u<wag.length:=by unfold ln at q;omega
  refine W.of (Oz trk _ (by have:=H.1;simp only at this;omega) λl hl=>by have:=H.2 l hl;omega) ?_;exact M48 (λ_=>M4b aa (M4b J (M48 (λ_=>M4a (I _ rfl)) λ_=>W.nx ⟨aa,rfl,trivial⟩))) λ_=>W.nx ⟨aa,rfl,trivial⟩
 have I:∀ x:Int×A2×(List A6)×(List (List Int))×(List A0)×Bool×Ab×Bool×Ah×Ag,x.1=8→gW c x:=λx hx q=>by rw [hx] at q;cases q
 have fin:∀ l:List A6,l.length≤96→wag.length+l.length≤384→¬ (A1 (ln wag+ln l)>192)→wag.length+l.length≤192:=λl h1 h2 h3=>by
  unfold ln at h3;rw [A8 (by omega) (by omega)] at h3;omega
 refine M48 (λhb=>M48 (λ_=>W.ret λq=>by cases q) λan=>W.of (QC _ _ (by have:=ak hb;omega)) (M48 (λ_=>W.ret λq=>by cases q) λao=>?_)) λhb=>?_
 ·have G:busy=true→e.2.1≠prog.2.2.2.1∧e.2.1∉prog.2.2.2.2.1:=λ_=>⟨by simpa using an,M21 ao⟩
  refine W.of (Jw _ _ (by (try simp only);omega)) (M48 (λ_=>W.ret λq=>by cases q) λ_=>?_);refine M4c (gO _ he.by_ (by have:=he.dl;omega)) λB h3=>M4i (λhne=>W.ret λq=>absurd q hne) λZ=>?_
  obtain ⟨l1,l2⟩:=h3 Z;refine af B.1 l1 _ I (σ:=Unit) (M49 (λ_=>W.ret λq=>by cases q) λhk=>?_);have hk:=fin B.1 l1 (by omega) hk;exact M4d (by omega) (lp G B.1 l2 hk)
 ·have G:busy=true→e.2.1≠prog.2.2.2.1∧e.2.1∉prog.2.2.2.2.1:=λq=>by rw [hb] at q;cases q
  refine W.of (Jw _ _ (by (try simp only);omega)) (M48 (λ_=>W.ret λq=>by cases q) λ_=>?_);refine M4c (gO _ he.by_ (by have:=he.dl;omega)) λB h3=>M4i (λhne=>W.ret λq=>absurd q hne) λZ=>?_
  obtain ⟨l1,l2⟩:=h3 Z;refine af B.1 l1 _ I (σ:=Unit) (M49 (λ_=>W.ret λq=>by cases q) λhk=>?_);have hk:=fin B.1 l1 (by omega) hk;exact M4d (by omega) (lp G B.1 l2 hk)
end
end
def WJ (c:A2) (o:Int×AR):Prop:=o.1=0→Inv c o.2.2.1
theorem H7 {os:List A0}{w:A6}(h:0≤(Bq os w).1):0≤(Bq os w).1∧(Bq os w).1<(os.length:Int):=by
 refine ⟨h,?_⟩;unfold Bq at h ⊢;simp only at h ⊢;rcases Vf os (qG w) with ⟨i,hi,_,e⟩|⟨_,e⟩
 rw [e];simp only;omega;rw [e] at h;simp only at h;omega
section
variable {c : A2} {wag : List A6} {trk : Bp} {ord : List A0} {busy : Bool} {prog : Ab} {flt : Bool} {e : Ah} {r : Ag} (hc : BF c) (h : Inv c (wag, trk, ord, busy, prog, flt)) (he : EvOK e) (hr : r.2.1 = [])
include hc h he hr
omit hc he hr in
theorem WK:∀ o∈ord,o.2.2.length<4611686018427387904:=λo ho=>by have:=(h.oo o ho).2.1;omega
omit hc he hr in
theorem C6 {t:Int}{l:List Int}(hl:trk[t.toNat]? = some l):l.length≤192∧Rg wag.length l∧l.Nodup:=by
 have hm:l∈trk:=M1k hl;obtain ⟨a,b,d⟩:=AN h.vd l hm;exact ⟨d,by simpa using a,b⟩
theorem xV:W (F42 (c,(wag,trk,ord,busy,prog,flt),e,r)) (WJ c):=by
 have ae:=h.ol;have A:=h.tl;have aG:=h.wl;have ag:=he.ts;have ad:=WK h;simp only at ae A aG;unfold F42 B42;simp only;refine M48 (λ_=>W.ret λq=>by cases q) λhb=>?_
 subst hb;refine M4c (gR _ ag) λv0 E=>?_
 obtain ⟨b0,x0⟩:=v0;obtain ⟨e0,E⟩:=E;simp only at e0 E ⊢;subst e0;refine M4q (λ_=>W.ret λq=>by cases q) λav=>?_
 obtain ⟨Z,O,n3,n4⟩:=E av;refine M4c (gS _ ag (by (try simp only);omega)) λv1 h1=>?_
 obtain ⟨b1,x1⟩:=v1;simp only at h1 ⊢;subst h1;simp only at Z O ⊢;refine W.st (P:=λb=>b=true→∀ t∈e.2.2.2.2.2.1,trk[t.toNat]? = some []) ?_ λv5 h5=>?_
 refine M4e e.2.2.2.2.2.1.length (λs=>s.2) (λt s=>s.1=true→∀ i (hi:i<e.2.2.2.2.2.1.length),i<t→trk[(e.2.2.2.2.2.1[i]).toNat]? = some []) (by omega) rfl (λ_ i _ h=>by omega) λt s ht I G=>?_
 obtain ⟨a,i⟩:=s;simp only at I G ⊢;subst I;refine M49 (λq=>?_) (λq=>M4a λh2 d hd=>?_)
 have A:t<e.2.2.2.2.2.1.length:=by unfold ln at q;omega
 have B:=O _ (M03 A);refine M48 (λea=>M4b A (M4f B.1 (by omega) λl hl _=>W.nx ⟨A,rfl,λh3 i hi h4=>?_⟩)) λ_=>W.nx ⟨A,rfl,λh3=>by cases h3⟩
 by_cases H:i=t;subst H;rw [hl];have:ln l=0:=by simpa using h3
 unfold ln at this;have az:l=[]:=M1F.1 (by omega);rw [az]
 exact G ea i hi (by omega);obtain ⟨i,hi,rfl⟩:=M1o.1 hd;exact G h2 i hi (by unfold ln at q;omega);refine M4q (λ_=>W.ret λq=>by cases q) λaw=>?_
 have ax:=h5 aw;refine M4f Z.1 (by omega) λl hl aO=>?_
 obtain ⟨l1,Y,l3⟩:=C6 h hl;refine M4d (by simp;omega) ?_;rw [M2L];refine W.st (P:=λits=>its.length=l.length∧∀ (i:Nat) (hi:i<l.length) (hw:(l[i]).toNat<wag.length),its[i]? = some (Bq ord wag[(l[i]).toNat])∧0≤(Bq ord wag[(l[i]).toNat]).1) ?_ λits ay=>?_
 ·refine M4e l.length (λs=>s.1) (λt s=>s.2.length=t∧∀ (i:Nat) (hi:i<l.length) (hw:(l[i]).toNat<wag.length),i<t→s.2[i]? = some (Bq ord wag[(l[i]).toNat])∧0≤(Bq ord wag[(l[i]).toNat]).1) (by omega) rfl ⟨rfl,λi _ _ h=>by omega⟩ λt s ht I G=>?_
  obtain ⟨i,its⟩:=s;simp only at I G ⊢;subst I;obtain ⟨U,i2⟩:=G;refine M49 (λq=>?_) (λq=>M4a ⟨by unfold ln at q;(try simp only);omega,λi hi hw=>i2 i hi hw (by unfold ln at q;omega)⟩);have A:t<l.length:=by unfold ln at q;omega
  have B:=Y _ (M03 A);have aH:(l[t]).toNat<wag.length:=by omega
  refine M4b A ?_;rw [Aw A];refine M4f B.1 B.2 λw hw _=>W.of (Vg ord w (by omega) ad) (M4d (by simp;omega) ?_)
  have aF:w=wag[(l[t]).toNat]:=by rw [M00 aH] at hw;exact (M1x hw).symm
  subst aF;have ac:t<(its++[Bq ord wag[(l[t]).toNat]]).length:=by simp [U]
  refine M4b ac ?_;rw [Aw ac,M33 (by omega)];refine M49 (λ_=>M4a λq=>by cases q) λhn=>W.nx ⟨A,rfl,by simp [U],λi hi hw h4=>?_⟩
  simp only [List.getElem_singleton] at hn;by_cases H:i=t;subst H;refine ⟨?_,by omega⟩;rw [M1a (by omega),U];simp;rw [M1f (by omega)];exact i2 i hi hw (by omega)
 obtain ⟨aA,ab⟩:=ay;have hit:∀ it∈its,(0≤it.1∧it.1<(ord.length:Int))∧(0≤it.2.2.2∧it.2.2.2≤400):=λit hm=>by
  obtain ⟨i,hi,rfl⟩:=M1o.1 hm;have B:=Y _ (M03 (show i<l.length by omega));obtain ⟨a,b⟩:=ab i (by omega) (by omega);rw [M00 hi] at a;rw [M1x a];have hw:=h.ww _ (M03 (show (l[i]).toNat<wag.length by omega));unfold FitW at hw;refine ⟨H7 b,?_⟩;unfold Bq;simp only;omega
 refine M48 (λ_=>W.ret λq=>by cases q) λ_=>?_
 refine W.st (P:=λ_=>True) ?_ λ_ _=>?_
 ·refine M4h l.length (λ_=>True) (by omega) trivial λt ht _=>M49 (λq=>?_) (λq=>M4a trivial)
  have A:t<l.length:=by unfold ln at q;omega
  have J:t<its.length:=by omega
  obtain ⟨af,_⟩:=hit _ (M03 J);refine M4b J ?_;rw [Aw J];refine M4f af.1 af.2 λo _ aB=>?_
  have ho:=(h.oo o aB).1;refine M4f ho.1 (by (try simp only at ho);omega) λrow hrow _=>M49 (λaC=>?_) λ_=>W.nx ⟨A,rfl,trivial⟩
  obtain ⟨r1,r2,r3⟩:=C6 h hrow;unfold ln at aC;rw [A8 (by unfold ln;omega) (by unfold ln;omega)];refine M4f (by unfold ln;omega) (by unfold ln;omega) λx _ B=>M4f (r2 x B).1 (r2 x B).2 λw _ _=>M4b J (W.of (Vg ord w (by omega) ad) (M48 (λ_=>M4a λq=>by cases q) λ_=>W.nx ⟨A,rfl,trivial⟩))
 ·refine M4c (fv _ (by unfold Hq;(try simp only);omega)) λal ao=>M4i (λhne=>W.ret λq=>absurd q hne) λE=>?_
  obtain ⟨p1,p2,p3,p4⟩:=ao E;refine M4c (gU h (its,e.2.2.2.2.1) al.1.1 e.2.2.2.2.2.1 trk p4 p1 p2.1 (λit hm=>(hit it hm).2) O (by omega) A λrow hrow=>⟨h.len row hrow,λx B=>h.wr row hrow x B⟩) λaY aq=>M4q (λ_=>W.ret λq=>by cases q) λaD=>?_
  have aE:=aq aD;simp only at p1 p4;obtain ⟨rr,eq⟩:=gV l (its,e.2.2.2.2.1) al.1 (c,(wag,trk,ord,false,prog,flt),e,r) (by (try simp only);omega) p2.1 aE (by omega) (by omega);refine W.of eq (W.ret λ_=>?_);simp only;refine ⟨h.vd,h.ww,ae,h.oo,(λq=>by cases q),⟨by (try simp only);omega,by (try simp only);omega,by (try simp only);omega,by (try simp only);omega,by simp;omega⟩,λ_=>?_⟩;refine { items:=aA,codes:=by (try simp only);omega,wl:=l1,wr:=λw hw=>Y w hw,nd:=l3,ord:=λw hw hm=>?_,tr:=λit hm=>(hit it hm).1,ld:=Z,ts:=λt ht=>O t (M24 ht),tl:=by simp;omega,st:=by simp;omega,pu:=by simp;omega,pf:=λ_=>by simp,on:=λ_ t ht row hrow w hw=>?_ }
  simp only at hw hm;obtain ⟨i,hi,H⟩:=M1o.1 hm;have e3:(l[i]).toNat=w:=by rw [H];rfl
  have:=(ab i hi (by omega)).2;unfold Bq at this;simp only [e3] at this;exact this
  simp only at ht hrow;rcases ht with ht|ht
  rw [←ht] at hl;rw [show ((t:Int)).toNat=t from rfl,hrow] at hl;cases hl;exact hw
  have:=ax _ (M24 ht);rw [show ((t:Int)).toNat=t from rfl,hrow] at this;cases this;cases hw
end
theorem FitW.len {w:A6}(h:FitW w):Jv w:=⟨by have:=h.1;omega,by have:=h.2.1;omega⟩
section
variable {l : List A6} (hl : l.length ≤ 192) (hw : ∀ w ∈ l, FitW w)
include hl
theorem WL (o:List Int)(x:Int)(ho:o.length≤1000):W (dG (o,x)) λ_=>True:=by
 unfold dG tm;simp only;refine M4h o.length (λ_=>True) (by omega) trivial λt ht _=>M49 (λq=>?_) (λq=>M4a trivial)
 have A:t<o.length:=by unfold ln at q;omega
 exact M4b A (M48 (λ_=>M4a trivial) λ_=>W.nx ⟨A,rfl,trivial⟩)
include hw
theorem pi:W (kC l) λ_=>True:=by
 unfold kC tj;refine M4c (QB l λw h=>(hw w h).len) λv _=>M48 (λ_=>W.ret trivial) λ_=>W.st (P:=λ_=>True) ?_ λ_ _=>W.ret trivial
 refine M4e l.length (λs=>s.2.2.2) (λ_ _=>True) (by omega) rfl trivial λt s ht B _=>?_
 obtain ⟨a,b,d,i⟩:=s;simp only at B ⊢;subst B;refine M49 (λq=>?_) (λq=>M4a trivial);have A:t<l.length:=by unfold ln at q;omega
 exact M4b A (M4b A (M4b A (W.nx ⟨A,rfl,trivial⟩)))
theorem R2:W (Y5 (l,[])) λ_=>True:=by
 unfold Y5 tu;simp only;refine M4c (pi hl hw) λv _=>M48 (λ_=>W.ret trivial) λ_=>W.st (P:=λ_=>True) ?_ λ_ _=>W.st (P:=λ_=>True) ?_ λ_ _=>W.st (P:=λ_=>True) ?_ λ_ _=>?_
 exact M4h 0 (λ_=>True) (by omega) trivial λt ht _=>M49 (λq=>by simp [ln] at q;omega) (λq=>M4a trivial)
 exact M4h 0 (λ_=>True) (by omega) trivial λt ht _=>M49 (λq=>by simp [ln] at q;omega) (λq=>M4a trivial)
 refine M4e l.length (λs=>s.1) (λ_ _=>True) (by omega) rfl trivial λt s ht B _=>?_
 obtain ⟨i,a⟩:=s;simp only at B ⊢;subst B;refine M49 (λq=>?_) (λq=>M4a trivial);have A:t<l.length:=by unfold ln at q;omega
 exact M4c (WL hl [] _ (by simp)) λ_ _=>M48 (λ_=>M4b A (W.nx ⟨A,rfl,trivial⟩)) λ_=>W.nx ⟨A,rfl,trivial⟩
 refine M4c (P:=λ_=>True) ?_ λ_ _=>M49 (λh=>M4i (λ_=>W.ret trivial) λe=>by omega) λ_=>W.ret trivial
 unfold tp tn;exact M48 (λ_=>W.ret trivial) λ_=>M48 (λ_=>W.ret trivial) λ_=>W.ret trivial
theorem pj (x:Ba){k:Nat}(hk:k<l.length):W (kL (x,l,(k:Int))) λ_=>True:=by
 unfold kL tL;simp only;refine W.st (P:=λ_=>True) (M48 (λ_=>W.nx trivial) λ_=>M48 (λ_=>W.nx trivial) λ_=>M48 (λ_=>W.nx trivial) λ_=>W.nx trivial) λ_ _=>M48 (λ_=>?_) λ_=>M48 (λ_=>?_) λ_=>M48 (λ_=>M4b hk (M48 (λ_=>W.ret trivial) λ_=>W.ret trivial)) λ_=>M48 (λ_=>M4b hk (M4b hk (W.ret trivial))) λ_=>M48 (λ_=>W.st (P:=λ_=>True) ?_ λ_ _=>M4b hk (M48 (λ_=>W.ret trivial) λ_=>W.ret trivial)) λ_=>W.ret trivial
 refine M4e (k+1) (λs=>s.2) (λ_ _=>True) (by omega) rfl trivial λt s ht A _=>?_
 obtain ⟨a,i⟩:=s;simp only at A ⊢;subst A;refine M49 (λq=>M4b (by omega) (M4c (P:=λ_=>True) ?_ λ_ _=>W.nx ⟨by omega,rfl,trivial⟩)) (λq=>M4a trivial);unfold tG tF;exact M48 (λ_=>W.ret trivial) λ_=>M48 (λ_=>W.ret trivial) λ_=>W.ret trivial
 refine M4h k (λ_=>True) (by omega) trivial λt ht _=>M49 (λq=>M4b (by omega) (M4b hk (M4c (P:=λ_=>True) ?_ λ_ _=>M48 (λ_=>M48 (λ_=>M4a trivial) λ_=>W.nx ⟨by omega,rfl,trivial⟩) λ_=>W.nx ⟨by omega,rfl,trivial⟩))) (λq=>M4a trivial)
 unfold tJ tI;exact M48 (λ_=>M48 (λ_=>W.ret trivial) λ_=>M48 (λ_=>W.ret trivial) λ_=>W.ret trivial) λ_=>M48 (λ_=>W.ret trivial) λ_=>W.ret trivial
 rw [A8 (by omega) (by omega)];refine W.run (λs=>k+1≤s.2.toNat∧s.2≤(l.length:Int)) (λs=>l.length-s.2.toNat) (by exact ⟨by simp only;omega,by simp only;omega⟩) (by omega) λs hs=>?_
 obtain ⟨a,i⟩:=s;simp only at hs ⊢;refine M49 (λq=>?_) (λq=>M4a trivial);unfold ln at q;refine M4f (by omega) (by omega) λ_ _ _=>W.nx ?_
 simp only;rw [A8 (by omega) (by omega)];omega
theorem pk (x:Ba)(H:CB x):W (kN (x,l,[])) λ_=>True:=by
 obtain ⟨_,I,J,O⟩:=H;unfold kN tN;simp only;refine W.st (P:=λ_=>True) (M48 (λ_=>M4c (R2 hl hw) λ_ _=>M48 (λ_=>M48 (λ_=>M4a trivial) λ_=>M4a trivial) λ_=>M4a trivial) λ_=>M48 (λ_=>W.st (P:=λ_=>True) ?_ λ_ _=>M48 (λ_=>M4a trivial) λ_=>M4a trivial) λ_=>W.nx trivial) λ_ _=>?_
 have E:0≤ln l-min x.2.2.1 (ln l)∧ln l-min x.2.2.1 (ln l)≤(l.length:Int):=by unfold ln;omega
 rw [A8 (by omega) (by omega)];refine W.run (λs=>0≤s.2∧s.2≤(l.length:Int)) (λs=>l.length-s.2.toNat) E (by omega) λs hs=>?_
 obtain ⟨a,i⟩:=s;simp only at hs ⊢;refine M49 (λq=>?_) (λq=>M4a trivial);unfold ln at q;have G:A1 (i+1)=i+1:=A8 (by omega) (by omega);have nx:∀ (b:Int) {Q:Al Int (Al PUnit Int)→Prop},W (some (Al.next (b,A1 (i+1)))) (BX (λA:Int×Int=>(0≤A.2∧A.2≤(l.length:Int))∧l.length-A.2.toNat<l.length-i.toNat) Q):=λb {Q}=>W.nx (by simp only;rw [G];omega)
 exact M4f (by omega) (by omega) λ_ _ _=>M48 (λ_=>M4c (WL hl [] _ (by simp)) λ_ _=>M48 (λ_=>nx _) λ_=>nx _) λ_=>nx _
 refine M4h l.length (λ_=>True) (by omega) trivial λt ht _=>M49 (λq=>?_) (λq=>M4a trivial)
 have B:t<l.length:=by unfold ln at q;omega
 exact M4c (pj hl hw x B) λ_ _=>M48 (λ_=>M4a trivial) λ_=>W.nx ⟨B,rfl,trivial⟩
end
theorem pn (v:List Int)(n:Int)(hn:n≤1000):W (kS (v,n)) λ_=>True:=by
 unfold kS tZ;simp only;refine M48 (λ_=>W.ret trivial) λ_=>M48 (λ_=>W.ret trivial) λ_=>M49 (λ_=>W.ret trivial) λG=>?_
 unfold ln at G;refine M4c (P:=λ_=>True) ?_ λ_ _=>M48 (λ_=>W.ret trivial) λ_=>?_
 unfold tU tS;simp only;refine M4h v.length (λ_=>True) (by omega) trivial λt ht _=>M49 (λq=>?_) (λq=>M4a trivial)
 have E:t<v.length:=by unfold ln at q;omega
 exact M4b E (M48 (λ_=>M4a trivial) λ_=>M4b E (M48 (λ_=>M4a trivial) λ_=>W.nx ⟨E,rfl,trivial⟩))
 ·refine M4e n.toNat (λs=>s.2) (λt s=>s.1.length≤t) (by omega) rfl (by exact M1g 0) λt s ht B H=>?_
  obtain ⟨a,i⟩:=s;simp only at B H ⊢;subst B;refine M49 (λq=>M4c (P:=λ_=>True) ?_ λ_ _=>M48 (λ_=>M4d (by simp;omega) (W.nx ⟨by omega,rfl,by simp;omega⟩)) λ_=>W.nx ⟨by omega,rfl,by (try simp only);omega⟩) (λq=>M4a trivial);unfold tX tW;simp only;refine M4e v.length (λs=>s.2.2.2) (λ_ _=>True) (by omega) rfl trivial λu s I B _=>?_
  obtain ⟨a,b,c,i⟩:=s;simp only at B ⊢;subst B;refine M49 (λq=>?_) (λq=>M4a trivial);have A:u<v.length:=by unfold ln at q;omega
  exact M4b A (M48 (λ_=>M48 (λ_=>W.nx ⟨A,rfl,trivial⟩) λ_=>W.nx ⟨A,rfl,trivial⟩) λ_=>M4b A (M48 (λ_=>W.nx ⟨A,rfl,trivial⟩) λ_=>W.nx ⟨A,rfl,trivial⟩))
theorem xW {c:A2}(B:BF c)(o:A0)(ho:OrdE o)(l:List A6)(hl:l.length≤192)(hw:∀ w∈l,FitW w):W (F90 (c,o,l)) λ_=>True:=by
 obtain ⟨o1,o2,Y⟩:=id ho;have hr:=B.ru.1;have U:=B.t1;unfold F90 B90;simp only;refine M4c (P:=λ_=>True) ?_ λZ O=>M48 (λ_=>W.ret trivial) λJ=>M48 (λ_=>W.ret trivial) λ_=>M4c (P:=λr=>r.1.length≤192) ?_ λG h1=>M48 (λ_=>W.ret trivial) λ_=>W.st (P:=λ_=>True) ?_ λI _=>M4c (P:=λ_=>True) ?_ λv8 _=>M48 (λ_=>W.ret trivial) λ_=>M4c (P:=λ_=>True) ?_ λv9 _=>M48 (λ_=>W.ret trivial) λ_=>M48 (λ_=>W.ret trivial) λ_=>M4d (by simp;omega) (M4c (pn I _ (by unfold ln;omega)) λ_ _=>W.ret trivial)
 unfold td tc;exact W.of (f8 B) (M4g rfl (M4c (gQ c o ho) λ_ _=>M48 (λ_=>W.ret trivial) λ_=>M4c (QB l λw h=>(hw w h).len) λ_ _=>W.ret trivial))
 ·unfold tg tf;simp only;refine M4e l.length (λs=>s.2) (λt s=>s.1.length=t) (by omega) rfl rfl λt s ht B E=>?_
  obtain ⟨a,i⟩:=s;simp only at B E ⊢;subst B;refine M49 (λq=>?_) (λq=>M4a (by (try simp only);omega));have A:t<l.length:=by unfold ln at q;omega
  exact M4b A (W.of (QD o _ (by omega)) (M48 (λ_=>M4a (by simp)) λ_=>M4d (by simp;omega) (W.nx ⟨A,rfl,by simp;omega⟩)))
 refine M4e G.1.length (λs=>s.2) (λt s=>s.1.length=t) (by omega) rfl rfl λt s ht B E=>?_
 obtain ⟨a,i⟩:=s;simp only at B E ⊢;subst B;refine M49 (λq=>?_) (λq=>M4a trivial);have A:t<G.1.length:=by unfold ln at q;omega
 refine M49 (λhp=>M4b A ?_) λ_=>M4b A (M4d (by simp;omega) (W.nx ⟨A,rfl,by simp;omega⟩))
 rw [A8 (by omega) (by omega)];exact M4f (by omega) (by omega) λ_ _ _=>M48 (λ_=>M4a trivial) λ_=>M4b A (M4d (by simp;omega) (W.nx ⟨A,rfl,by simp;omega⟩))
 ·unfold tD tC;refine M4c (R2 hl hw) λ_ _=>M48 (λ_=>W.ret trivial) λ_=>M4c (P:=λ_=>True) ?_ λ_ _=>M48 (λ_=>W.ret trivial) λ_=>W.ret trivial
  unfold tA tz;refine W.of (eY B) (M4g rfl (M48 (λ_=>W.ret trivial) λ_=>M48 (λ_=>W.ret trivial) λ_=>M48 (λ_=>W.ret trivial) λ_=>M48 (λ_=>W.ret trivial) λ_=>M4c (P:=λ_=>True) ?_ λ_ _=>M48 (λ_=>W.ret trivial) λ_=>W.ret trivial));unfold tw tv;refine M4e c.2.2.1.length (λs=>s.2.2) (λ_ _=>True) (by omega) rfl trivial λt s ht B _=>?_
  obtain ⟨a,b,i⟩:=s;simp only at B ⊢;subst B;refine M49 (λq=>?_) (λq=>M4a trivial);have A:t<c.2.2.1.length:=by unfold ln at q;omega
  have nx:∀ (a:Int) (b:Bool) {Q:Int×Bool→Prop},W (some (Al.next (a,b,A1 ((t:Int)+1)))) (BX (λH:Int×Bool×Int=>t<c.2.2.1.length∧H.2.2=A1 ((t:Int)+1)∧True) Q):=λa b {Q}=>W.nx ⟨A,rfl,trivial⟩
  repeat' first | exact nx _ _ | refine M4b A ?_ | refine M48 (λ_=>?_) λ_=>?_
 unfold tQ tP;simp only;refine W.of (eX B) (M4g rfl (M4c (R2 hl hw) λ_ _=>M48 (λ_=>W.ret trivial) λ_=>?_));refine M4h c.2.1.length (λ_=>True) (by omega) trivial λt ht _=>M49 (λq=>?_) (λq=>M4a trivial)
 have A:t<c.2.1.length:=by simp only [ln] at q;omega
 exact M4b A (M4c (pk hl hw _ (B.ru.2 t _ (M00 A)).1) λ_ _=>M48 (λ_=>M4b A (M4a trivial)) λ_=>W.nx ⟨A,rfl,trivial⟩)
theorem PBd.zero:PBd ([],([],0),((0,[]),[]),0,[],0):=⟨by simp,by simp,by simp,by simp,by simp⟩
section
variable {c : A2} {wag : List A6} {trk : Bp} {ord : List A0} {busy : Bool} {prog : Ab} {flt : Bool} {e : Ah} {r : Ag} (hc : BF c) (h : Inv c (wag, trk, ord, busy, prog, flt)) (he : EvOK e) (hr : r.2.1 = [])
include hc h he hr
omit hc he hr in
theorem Ku {s:Bp}(hs:Dc c.1 (Bf wag) s)(w t:Int){β:Type}{Q:β→Prop}{f:(Int×Int)→(Bp×Int)→Option β}(H:cd c.1 (Bf wag) s w (JW s w).1 t=0→W (f (JW s w) (mv s w t false,0)) Q)(I:∀ x,x≠0→W (f (JW s w) ([],x)) Q) :
  W ((cU (s,w)).bind λE=>(OR wag).bind λJ=>(OQ (c.1,J,s,w,E.1,t,false)).bind (f E)) Q:=by
 have G:=h.wl;simp only at G;have B:=Bw hs;refine W.of (Oz s _ (by have:=B.1;omega) λl hl=>by have:=B.2 l hl;omega) ?_;refine W.of (Wx _ (by omega)) ?_;refine W.of (WH hs _ _ _ _) ?_
 split;rename_i A;exact H A;rename_i A;exact I _ A
theorem xX:W (F43 (c,(wag,trk,ord,busy,prog,flt),e,r)) (WJ c):=by
 have U:=h.ol;have A:=h.tl;have ah:=h.wl;have au:=he.ss;obtain ⟨er,sh,rr⟩:=r;simp only at hr;subst hr;simp only at U A ah;unfold F43 B43;simp only;refine M4q (λ_=>W.ret λq=>by cases q) λhb=>M48 (λ_=>W.ret λq=>by cases q) λhf=>M49 (λ_=>W.ret λq=>by cases q) λ_=>?_
 subst hb hf;have hp:=h.pl rfl;have B:PlanOK c (wag,trk,ord,true,prog,false) prog:=hp;refine M4c (PN hp rfl) λv0 I=>M4f I.1.1 (by (try simp only);rw [A];exact I.1.2) λl hl ao=>?_
 obtain ⟨l1,l2,l3⟩:=C6 h hl;refine M4d (by simp;omega) ?_;rw [M2L];have Z:∀ w∈l,w∈prog.1:=λw hw=>B.on rfl v0.toNat (by rw [M1v I.1.1];exact I.2) l hl w hw
 refine M4c (OE hp l l1 Z) λv2 ag=>M4d (by simp;omega) ?_
 rw [M2L];refine W.st (P:=λ_=>∀ x∈e.2.2.2.2.2.2.1,0≤x.1∧x.1<(l.length:Int)) ?_ λ_ af=>?_
 refine M4h e.2.2.2.2.2.2.1.length (λt=>∀ i (hi:i<e.2.2.2.2.2.2.1.length),i<t→0≤(e.2.2.2.2.2.2.1[i]).1∧(e.2.2.2.2.2.2.1[i]).1<(l.length:Int)) (by omega) (λi _ h=>by omega) λt ht E=>M49 (λq=>?_) (λq=>M4a λx H=>?_)
 have A:t<e.2.2.2.2.2.2.1.length:=by unfold ln at q;omega
 refine M4b A (M49 (λ_=>M4a λq=>by cases q) λa1=>M49 (λ_=>M4a λq=>by cases q) λa2=>W.of (Jz _ _) (M4q (λ_=>M4a λq=>by cases q) λ_=>W.nx ⟨A,rfl,λi hi h4=>?_⟩));by_cases e2:i=t;subst e2;unfold ln at a2;omega
 exact E i hi (by omega);obtain ⟨i,hi,rfl⟩:=M1o.1 H;exact E i hi (by unfold ln at q;omega);refine W.st (P:=λ_=>True) ?_ λ_ _=>?_
 refine M4h e.2.2.2.2.2.2.1.length (λ_=>True) (by omega) trivial λt ht _=>M49 (λq=>?_) (λq=>M4a trivial)
 have A:t<e.2.2.2.2.2.2.1.length:=by unfold ln at q;omega
 refine M4h t (λ_=>True) (by omega) trivial λu hu _=>M49 (λq=>?_) (λq=>M4a ⟨A,rfl,trivial⟩)
 exact M4b (by omega) (M4b A (M48 (λ_=>M4a λq=>by cases q) λ_=>W.nx ⟨by omega,rfl,trivial⟩));refine W.st (P:=λto=>to.length=l.length) ?_ λto aw=>?_
 refine M4e e.2.2.2.2.2.2.1.length (λs=>s.1) (λt s=>s.2.length=l.length) (by omega) rfl ag λt s ht G E=>?_
 obtain ⟨i,to⟩:=s;simp only at G E ⊢;subst G;refine M49 (λq=>?_) (λq=>M4a E);have A:t<e.2.2.2.2.2.2.1.length:=by unfold ln at q;omega
 have H:=af _ (M03 A);exact M4b A (M48 (λ_=>M4a λq=>by cases q) λ_=>M4b A (M4b A (M4f H.1 (by omega) λ_ _ _=>W.nx ⟨A,rfl,by simpa using E⟩)));refine W.st (P:=λv=>Dc c.1 (Bf wag) v.1∧OnP prog.2.2.2.1 prog.2.2.2.2.1 prog.1 v.1) ?_ λal J=>?_
 refine M4e l.length (λs=>s.1) (λt s=>s.2.2.1.length=t∧Dc c.1 (Bf wag) s.2.2.2∧OnP prog.2.2.2.1 prog.2.2.2.2.1 prog.1 s.2.2.2) (by omega) rfl (by exact ⟨rfl,h.vd,B.on rfl⟩) λt s ht G E=>?_
 obtain ⟨i,f,ss,s⟩:=s;simp only at G E ⊢;subst G;obtain ⟨i1,O,i3⟩:=E;refine M49 (λq=>?_) (λq=>M4a ⟨O,i3⟩);have A:t<l.length:=by unfold ln at q;omega
 refine M4b A (M4b (by omega) ?_);rw [Aw (show t<to.length by omega)];refine Ku h O _ _ ?_ ?_;intro ab;refine M4g rfl (M4d (by simp;omega) (M48 (λ_=>W.nx ⟨A,rfl,by simp [i1],Gx O _ ab,i3.mv (.inl (Z _ (M03 A)))⟩) λ_=>M4b (by omega) (M4b (by omega) (W.nx ⟨A,rfl,by simp [i1],Gx O _ ab,i3.mv (.inl (Z _ (M03 A)))⟩))));intro x H;exact M4k (M2I.2 H) (M4a λq=>by cases q)
 ·obtain ⟨v1,v2,f⟩:=al;simp only at J ⊢;have ar:=B.pu;have aq:=B.pf rfl;have av:=B.st;have A:=B.tl;have Y:=h.pb;simp only at Y;unfold PBd at Y;rw [A8 (by omega) (by omega)];have ext:∀ f:Bool,(f=false→prog.2.2.2.2.2+1≤(prog.2.2.2.2.1.length:Int))→Inv c (wag,v1,ord,true,(prog.1,prog.2.1,prog.2.2.1,prog.2.2.2.1,prog.2.2.2.2.1,prog.2.2.2.2.2+1),f):=λf hf=>
   ⟨J.1,h.ww,U,h.oo,λ_=>rfl,Y,λ_=>{ items:=B.items,codes:=B.codes,wl:=B.wl,wr:=B.wr,nd:=B.nd,ord:=B.ord,tr:=B.tr,ld:=B.ld,ts:=B.ts,tl:=B.tl,st:=B.st,pu:=by (try simp only);omega,pf:=hf,on:=λ_=>J.2 }⟩
  refine M4q (λac=>M49 (λ_=>W.ret λ_=>?_) λhn=>W.ret λ_=>?_) λac=>W.ret λ_=>?_
  exact ⟨J.1,h.ww,U,h.oo,(λq=>by cases q),PBd.zero,(λq=>by cases q)⟩;exact ext f λ_=>by omega
  exact ext f λq=>by rw [ac] at q;cases q
theorem xY:W (F45 (c,(wag,trk,ord,busy,prog,flt),e,r)) (WJ c):=by
 have H:=h.ol;have A:=h.tl;have U:=h.wl;obtain ⟨er,sh,rr⟩:=r;simp only at hr;subst hr;simp only at H A U;unfold F45 B45;simp only;refine M48 (λ_=>W.ret λq=>by cases q) λhb=>?_
 subst hb;refine W.of (Jz _ _) (M4q (λ_=>W.ret λq=>by cases q) λh1=>W.of (Jz _ _) (M4q (λ_=>W.ret λq=>by cases q) λh2=>M48 (λ_=>W.ret λq=>by cases q) λ_=>W.of (Jw _ _ (by (try simp only);omega)) (M48 (λ_=>W.ret λq=>by cases q) λ_=>W.of (Jw _ _ (by (try simp only);omega)) (M48 (λ_=>W.ret λq=>by cases q) λ_=>M49 (λ_=>W.ret λq=>by cases q) λh3=>?_))));have h1:=M1s h1;have h2:=M1s h2;refine M4f h1.1 (by omega) λl hl ae=>M49 (λ_=>W.ret λq=>by cases q) λO=>?_
 obtain ⟨l1,l2,l3⟩:=C6 h hl;unfold ln at O;refine M4c (P:=λv=>v.1.length≤192) ?_ λI h5=>?_
 ·unfold F89 B89;simp only;refine M48 (λ_=>W.ret (by simp)) λ_=>M48 (λ_=>W.ret (by simp)) λ_=>M48 (λ_=>W.ret (by simp)) λ_=>M48 (λ_=>W.ret (by simp)) λ_=>M48 (λ_=>W.ret (by simp)) λ_=>M48 (λ_=>W.ret (by simp)) λ_=>?_
  have ix:∀ {β:Type} {Q:β→Prop} {f:List Int→Option β},W (f l) Q→W ((Go.V.idx trk e.2.1).bind f) Q:=λk=>W.of (by rw [DQ _ h1.1];exact hl) k
  refine ix (M48 (λ_=>W.ret (by simp)) λ_=>ix ?_);obtain ⟨n,hn⟩:=M1j (show 0≤ln l-e.2.2.2.1 by unfold ln;omega);rw [A8 (by unfold ln;omega) (by unfold ln;omega),hn];unfold ln at hn;refine W.run (λs=>∃ t:Nat,s.2=(t:Int)∧t≤l.length∧s.1.length≤t) (λs=>l.length-s.2.toNat) ⟨n,rfl,by omega,by simp⟩ (by (try simp only);omega) λs hs=>?_
  obtain ⟨a,i⟩:=s;obtain ⟨t,t1,t2,t3⟩:=hs;simp only at t1 t2 t3 ⊢;subst t1;refine ix (M49 (λq=>?_) λq=>M4a (by (try simp only);omega));have A:t<l.length:=by unfold ln at q;omega
  refine ix (M4b A (M4d (by simp;omega) (W.nx ⟨⟨t+1,by simp only;rw [A8 (by omega) (by omega)];rfl,by omega,by simp;omega⟩,?_⟩)));simp only;rw [A8 (by omega) (by omega)];omega
 refine M4e I.1.length (λs=>s.1) (λt s=>s.2.1.length=t∧Dc c.1 (Bf wag) s.2.2) (by omega) rfl ⟨rfl,h.vd⟩ λt s ht G E=>?_
 obtain ⟨i,ss,s⟩:=s;simp only at G E ⊢;subst G;obtain ⟨Z,B⟩:=E;refine M49 (λq=>?_) (λq=>M4a λ_=>⟨B,h.ww,H,h.oo,h.fb,h.pb,(λq=>by cases q)⟩);have A:t<I.1.length:=by unfold ln at q;omega
 exact M4b A (Ku h B _ _ (λJ=>M4g rfl (M4d (by simp;omega) (W.nx ⟨A,rfl,by simp [Z],Gx B _ J⟩))) λx Y=>M4k (M2I.2 Y) (M4a λq=>by cases q))
theorem gY:W (F46 (c,wag,trk,ord,busy,prog,flt,e,r)) (gW c):=by
 have ab:=h.ol;have ac:=h.tl;have ae:=h.wl;obtain ⟨er,sh,rr⟩:=r;simp only at hr;subst hr;simp only at ab ac ae;unfold F46 B46;simp only;refine M48 (λ_=>W.ret λq=>by cases q) λhb=>?_
 subst hb;refine M4h ord.length (λ_=>True) (by omega) trivial λt ht _=>M49 (λq=>?_) (λq=>M4a λq=>by cases q)
 have G:t<ord.length:=by unfold ln at q;omega
 refine M4b G ?_;rw [Aw G];refine M48 (λ_=>W.nx ⟨G,rfl,trivial⟩) λ_=>?_
 obtain ⟨ho,ai,aa⟩:=h.oo _ (M03 G);refine M4f ho.1 (by omega) λl hl ah=>?_
 obtain ⟨l1,l2,l3⟩:=C6 h hl;refine M4d (by simp;omega) ?_;rw [M2L];refine W.st (P:=λws=>ws.length≤192∧∀ w∈ws,FitW w) ?_ λws I=>?_
 ·refine M4e l.length (λs=>s.2) (λt s=>s.1.length=t∧∀ w∈s.1,FitW w) (by omega) rfl ⟨rfl,λw h=>by cases h⟩ λu s hu E B=>?_
  obtain ⟨a,i⟩:=s;simp only at E B ⊢;subst E;refine M49 (λq=>?_) (λq=>M4a ⟨by (try simp only);omega,B.2⟩);have A:u<l.length:=by unfold ln at q;omega
  have hx:=l2 _ (M03 A);refine M4b A ?_;rw [Aw A];refine M4f hx.1 hx.2 λw _ hw=>M4d (by simp;omega) (W.nx ⟨A,rfl,by simp [B.1],λx hx=>?_⟩)
  rcases M1b.1 hx with hx|hx;exact B.2 x hx;rw [M19] at hx;subst hx;exact h.ww x hw
 refine M4c (xW hc _ ⟨by (try simp only);omega,by (try simp only);omega,aa.2⟩ ws I.1 I.2) λv7 _=>M4i (λhne=>M4a λq=>absurd q hne) λ_=>?_
 refine W.st (P:=λv=>Dc c.1 (Bf wag) v.1) ?_ λam Z=>?_
 ·refine M4e l.length (λs=>s.1) (λt s=>s.2.1.length≤t∧Dc c.1 (Bf wag) s.2.2) (by omega) rfl ⟨by simp,h.vd⟩ λu s hu E B=>?_
  obtain ⟨i,ss,s⟩:=s;simp only at E B ⊢;subst E;obtain ⟨i1,H⟩:=B;refine M49 (λq=>?_) (λq=>M4a H);have A:u<l.length:=by unfold ln at q;omega
  refine M4b A ?_;rw [Aw A];exact Ku h H _ _ (λJ=>M4g rfl (M4d (by simp;omega) (W.nx ⟨A,rfl,by simp;omega,Gx H _ J⟩))) λx hx=>M4k (M2I.2 hx) (W.nx ⟨A,rfl,by (try simp only);omega,H⟩)
 rw [A8 (n:=(t:Int)+1) (by omega) (by omega)];have O:(bif decide ((0:Int)≤(t:Int)) then (bif decide ((t:Int)≤(t:Int)) then decide ((t:Int)≤ln ord) else false) else false)=true:=by
  rw [M1p (by omega),M1p (by omega),M1p (by unfold ln;omega)];rfl
 have U:(bif decide ((0:Int)≤(t:Int)+1) then (bif decide ((t:Int)+1≤ln ord) then decide (ln ord≤ln ord) else false) else false)=true:=by
  rw [M1p (by omega),M1p (by unfold ln;omega),M1p (by omega)];rfl
 have pl:∀ (a b:Nat),(part ord a b).length≤8:=λa b=>by unfold Go.T.part;simp;omega
 have pm:∀ (a b:Nat),∀ o∈part ord a b,o∈ord:=λa b o ho=>List.mem_of_mem_drop (M24 ho)
 have Y:(bif Nat.beq (CZ (t:Int) 0) (CZ (t:Int) 0) then Go.T.room (Go.T.part ord (Int.toNat 0) (CZ (t:Int) 0)) (Go.T.part ord (Int.toNat ((t:Int)+1)) (CZ (ln ord) ((t:Int)+1))) else false)=true:=by
  rw [show Nat.beq (CZ (t:Int) 0) (CZ (t:Int) 0)=true from M46 _,M2B];unfold Go.T.room;refine M27 ?_;have:=pl (Int.toNat 0) (CZ (t:Int) 0);have:=pl (Int.toNat ((t:Int)+1)) (CZ (ln ord) ((t:Int)+1));omega
 refine M4k O (M4k U (M4k Y (M4a λ_=>?_)));refine ⟨Z,h.ww,?_,λo ho=>?_,h.fb,h.pb,(λq=>by cases q)⟩;simp only [M1l,Go.T.part,CZ,M1q,M2f,ln];omega;rcases M1b.1 ho with ho|ho;exact h.oo o (pm _ _ o ho);exact h.oo o (pm _ _ o ho)
end
section
variable {c : A2} {wag : List A6} {trk : Bp} {ord : List A0} {busy : Bool} {prog : Ab} {flt : Bool} {e : Ah} {r : Ag} (hc : BF c) (h : Inv c (wag, trk, ord, busy, prog, flt)) (he : EvOK e) (hr : r.2.1 = []) (hr2 : r.2.2.2.1 = [])
include hc h
structure gZ (wag:List A6) (ord:List A0) (d:Ac) (of:List Int):Prop where
 bd:CG d
 hm:d.2.1.length=ord.length
 len:d.1.length=of.length
 ofl:of.length≤192
 rg:Rg wag.length of
 nd:of.Nodup
 it:∀ (i:Nat) (hi:i<of.length) (hw:(of[i]).toNat<wag.length),d.1[i]? = some (Bq ord wag[(of[i]).toNat])
theorem po (pl:List Int)(ap:pl.length≤1000):W (F85 (wag,trk,ord,pl)) λr=>gZ wag ord r.1 r.2:=by
 have ai:=h.ol;have ak:=h.tl;have al:=h.wl;have c1:=hc.l1;have O:=Bw h.vd;have ah:=WK h;simp only at ai ak al O;unfold F85 B85;simp only;refine W.st (P:=λ(v:List Int×List Aa)=>v.1.length≤wag.length∧v.2.length=v.1.length∧Rg wag.length v.1∧v.1.Nodup∧∀ (i:Nat) (hi:i<v.1.length) (hw:(v.1[i]).toNat<wag.length),v.2[i]? = some (Bq ord wag[(v.1[i]).toNat])) ?_ λv8 h8=>?_
 ·refine M4e wag.length (λs=>s.2.1) (λt (s:List Int×Int×List Aa)=>s.1.length≤t∧s.2.2.length=s.1.length∧(∀ x∈s.1,0≤x∧x<(t:Int))∧s.1.Nodup∧∀ (i:Nat) (hi:i<s.1.length) (hw:(s.1[i]).toNat<wag.length),s.2.2[i]? = some (Bq ord wag[(s.1[i]).toNat])) (by omega) rfl (by simp) λt s ht A B=>?_
  obtain ⟨of,i,its⟩:=s;simp only at A B ⊢;subst A;obtain ⟨i1,H,I,i4,Y⟩:=B;refine M49 (λq=>?_) (λq=>M4a ⟨by (try simp only);omega,H,λx hx=>by have:=I x hx;omega,i4,Y⟩);have U:t<wag.length:=by unfold ln at q;omega
  refine W.of (Oz trk _ (by have:=O.1;omega) λl hl=>by have:=O.2 l hl;omega) (W.of (QC _ _ (by omega)) ?_);refine W.st (P:=λ_=>True) ?_ λv5 _=>?_
  refine M4e ord.length (λs=>s.2) (λ_ _=>True) (by omega) rfl trivial λu s hu A _=>?_
  obtain ⟨b,i⟩:=s;simp only at A ⊢;subst A;refine M49 (λq=>?_) (λq=>M4a trivial);have E:u<ord.length:=by unfold ln at q;omega
  exact M48 (λ_=>W.nx ⟨E,rfl,trivial⟩) λ_=>M4b E (W.nx ⟨E,rfl,trivial⟩)
  have keep:t<wag.length∧A1 ((t:Int)+1)=A1 ((t:Int)+1)∧of.length≤t+1∧its.length=of.length∧(∀ x∈of,0≤x∧x<((t+1:Nat):Int))∧of.Nodup∧∀ (i:Nat) (hi:i<of.length) (hw:(of[i]).toNat<wag.length),its[i]? = some (Bq ord wag[(of[i]).toNat]):=⟨U,rfl,by omega,H,λx hx=>by have:=I x hx;omega,i4,Y⟩
  refine M48 (λ_=>M48 (λ_=>M4d (by simp;omega) (M4b U (W.of (Vg ord _ (by omega) ah) (M4d (by simp;omega) (W.nx ⟨U,rfl,by simp;omega,by simp [H],λx hx=>?_,?_,λi hi hw=>?_⟩))))) λ_=>W.nx keep) λ_=>W.nx keep
  rcases M1b.1 hx with hx|hx;have:=I x hx;omega;rw [M19] at hx;omega
  refine M2X.2 ⟨i4,by simp,λx hx y hy=>?_⟩;rw [M19] at hy;have:=I x hx;omega
  simp only at hi hw;by_cases ab:i<of.length;have J:(of++[(t:Int)])[i]'hi=of[i]:=M3c ab;rw [M1f (by omega)];simp only [J] at hw ⊢;exact Y i ab hw
  have ag:i=of.length:=by simp at hi;omega
  subst ag;have J:(of++[(t:Int)])[of.length]'hi=(t:Int):=by simp
  rw [M1a (by omega),H];simp only [J];simp
 ·obtain ⟨of,its⟩:=v8;simp only at h8 ⊢;obtain ⟨a1,a2,a3,a4,a5⟩:=h8;refine W.st (P:=λv=>v.length=ord.length) ?_ λam ae=>?_
  refine M4e ord.length (λs=>s.1) (λt s=>s.2.length=t) (by omega) rfl rfl λu s hu A B=>?_
  obtain ⟨i,b⟩:=s;simp only at A B ⊢;subst A;refine M49 (λq=>?_) (λq=>M4a (show b.length=ord.length by unfold ln at q;omega));have E:u<ord.length:=by unfold ln at q;omega
  exact M4b E (M4d (by simp;omega) (W.nx ⟨E,rfl,by simp [B]⟩))
  ·refine M4e trk.length (λs=>s.1) (λt s=>s.2.length=t∧∀ l∈s.2,l.length≤192) (by omega) rfl ⟨rfl,λl h=>by cases h⟩ λt s ht A B=>?_
   obtain ⟨i,b⟩:=s;simp only at A B ⊢;subst A;obtain ⟨b1,Z⟩:=B;refine M49 (λq=>?_) (λq=>M4a (gZ.mk (CG.mk (show its.length≤192 by omega) (show am.length≤8 by omega) (show b.length≤24 by omega) Z) ae a2 (show of.length≤192 by omega) a3 a4 a5));have G:t<trk.length:=by unfold ln at q;omega
   have aj:=h.len _ (M03 G)
   (try simp only at aj)
   refine W.st (P:=λv=>v.length≤192) ?_ λar af=>M4d (by simp;omega) (W.nx ⟨G,rfl,by simp [b1],λl hl=>?_⟩)
   ·refine M4e trk[t].length (λs=>s.2) (λu s=>s.1.length≤u) (by omega) rfl (by simp) λu s hu A B=>?_
    obtain ⟨a,i⟩:=s;simp only at A B ⊢;subst A;refine M4b G (M49 (λq=>?_) (λq=>M4a (show a.length≤192 by omega)));have E:u<trk[t].length:=by unfold ln at q;omega
    refine M4b G (M4b E (W.of (nR _ _ (by omega)) (M48 (λ_=>M4d (by simp;omega) (W.nx ⟨E,rfl,by simp;omega⟩)) λ_=>W.nx ⟨E,rfl,by (try simp only);omega⟩)))
   rcases M1b.1 hl with hl|hl;exact Z l hl;rw [M19] at hl;subst hl;exact af
include he hr hr2
theorem hJ:W (F44 (c,(wag,trk,ord,busy,prog,flt),e,r)) (WJ c):=by
 have al:=h.ol;have B:=h.tl;have a7:=h.wl;have aA:=he.ts;have az:=h.pb;have c1:=hc.l1;obtain ⟨er,sh,pf,pu,rr⟩:=r;simp only at hr hr2;subst hr hr2;simp only at al B a7 az;unfold F44 B44;simp only;refine M4q (λ_=>W.ret λq=>by cases q) λhf=>?_
 subst hf;refine M4c (gR _ aA) λv0 J=>?_
 obtain ⟨b0,x0⟩:=v0;obtain ⟨e0,J⟩:=J;simp only at e0 J ⊢;subst e0;refine M4q (λ_=>W.ret λq=>by cases q) λaS=>?_
 obtain ⟨n1,n2,n3,n4⟩:=J aS;refine M4c (gS _ aA (by (try simp only);omega)) λv1 h1=>?_
 obtain ⟨b1,x1⟩:=v1;simp only at h1 ⊢;subst h1;simp only at n1 n2 ⊢;refine M4q (λ_=>W.ret λq=>by cases q) λ_=>?_
 refine M4c (po hc h prog.1 az.1) λv2 h2=>?_
 obtain ⟨d,of⟩:=v2;simp only at h2 ⊢;refine M49 (λ_=>W.ret λq=>by cases q) λbr=>?_
 refine M4c (xT d h2.bd) λv3 h3=>M48 (λ_=>W.ret λ_=>?_) λ_=>?_
 exact ⟨h.vd,h.ww,al,h.oo,(λq=>by cases q),PBd.zero,(λq=>by cases q)⟩;obtain ⟨ps,ec⟩:=v3;simp only at h3 ⊢;have bt:=h2.len;have bu:=h2.ofl;refine W.st (P:=λ_=>True) ?_ λv8 _=>?_
 refine M4e ps.length (λs=>s.1) (λt s=>s.2.length=t) (by omega) rfl rfl λt s ht E A=>?_
 obtain ⟨i,a⟩:=s;simp only at E A ⊢;subst E;refine M49 (λq=>?_) (λq=>M4a trivial);have B:t<ps.length:=by unfold ln at q;omega
 have H:=h3.2 _ (M03 B);refine M4b B (M4f H.1.1 (by omega) λ_ _ _=>M49 (λhb=>M4f hb (by omega) λ_ _ _=>M4d (by simp;omega) (W.nx ⟨B,rfl,by simp [A]⟩)) λ_=>M4d (by simp;omega) (W.nx ⟨B,rfl,by simp [A]⟩));refine M4c (xU d h2.bd ps h3.1 e.2.2.2.2.1) λv9 h9=>?_
 obtain ⟨j,its,bq⟩:=v9;simp only at h9 ⊢;obtain ⟨j1,j2,j3,j4,j5,j6⟩:=h9;refine W.st (P:=λl=>l.length=its.length∧∀ (k:Nat) (hk:k<its.length),l[k]? = of[(its[k]).toNat]?) ?_ λl hl=>?_
 ·refine M4e its.length (λs=>s.2) (λt s=>s.1.length=t∧∀ (k:Nat) (hk:k<its.length),k<t→s.1[k]? = of[(its[k]).toNat]?) (by omega) rfl ⟨rfl,λk _ h=>by omega⟩ λt s ht E A=>?_
  obtain ⟨a,i⟩:=s;simp only at E A ⊢;subst E;refine M49 (λq=>?_) (λq=>M4a ⟨by unfold ln at q;(try simp only);omega,λk hk=>A.2 k hk (by unfold ln at q;omega)⟩);have B:t<its.length:=by unfold ln at q;omega
  have H:=j3 _ (M03 B);refine M4b B (M4f H.1 (by omega) λw hw _=>M4d (by simp;omega) (W.nx ⟨B,rfl,by simp [A.1],λk hk h4=>?_⟩));by_cases G:k=t;subst G;rw [M1a (by omega),A.1,hw];simp;rw [M1f (by omega)];exact A.2 k hk (by omega)
 obtain ⟨l1,l2⟩:=hl;have af:∀ (k:Nat) (hk:k<l.length),∃ hi:(its[k]'(by omega)).toNat<of.length,l[k]=of[(its[k]'(by omega)).toNat]:=λk hk=>by
  have H:=j3 _ (M03 (show k<its.length by omega));have hi:(its[k]'(by omega)).toNat<of.length:=by omega
  refine ⟨hi,?_⟩;have:=l2 k (by omega);rw [M00 hk,M00 hi] at this;exact M1x this
 have aD:Rg wag.length l:=λx H=>by
  obtain ⟨k,hk,rfl⟩:=M1o.1 H;obtain ⟨hi,G⟩:=af k hk;rw [G];exact h2.rg _ (M03 hi)
 have ba:l.Nodup:=by
  refine M2d.2 λa b ha hb bs G=>?_
  obtain ⟨hi,e3⟩:=af a ha;obtain ⟨aY,I⟩:=af b hb;rw [e3,I] at G;have e5:=Ct h2.nd hi aY G;have x1:=j3 _ (M03 (show a<its.length by omega));have x2:=j3 _ (M03 (show b<its.length by omega));have:=Ct j4 (show a<its.length by omega) (show b<its.length by omega) (by omega);omega
 have hit:∀ it∈j.1,(0≤it.1∧it.1<(ord.length:Int))∧(0≤it.2.2.2∧it.2.2.2≤400):=λit hm=>by
  refine ⟨by have:=j5 it hm;rw [h2.hm] at this;exact this,?_⟩;obtain ⟨k,hk,rfl⟩:=M1o.1 hm;have H:=j3 _ (M03 (show k<its.length by omega));have G:=j6 k (by omega);have hi:(its[k]'(by omega)).toNat<of.length:=by omega
  have hg:=h2.rg _ (M03 hi);rw [h2.it _ hi (by omega),M00 hk] at G;rw [M1x G];have hw:=h.ww _ (M03 (show (of[(its[k]'(by omega)).toNat]).toNat<wag.length by omega));unfold FitW at hw;unfold Bq;simp only;omega
 have a1:=Bw h.vd;refine W.of (fH trk a1) ?_;refine W.st (P:=λv=>v=trk.map λrow=>row.filter λx=>!decide (x∈l)) ?_ λY aj=>?_
 ·refine M4e trk.length (λs=>s.1) (λt s=>s.2=(trk.take t).map (λrow=>row.filter λx=>!decide (x∈l))++trk.drop t) (by omega) rfl (by simp) λt s ht E A=>?_
  obtain ⟨i,a⟩:=s;simp only at E A ⊢;subst E A;have aQ:((trk.take t).map (λrow=>row.filter λx=>!decide (x∈l))++trk.drop t).length=trk.length:=by simp;omega
  refine M49 (λq=>?_) (λq=>M4a ?_)
  ·have O:t<trk.length:=by unfold ln at q;omega
   have ax:((trk.take t).map (λrow=>row.filter λx=>!decide (x∈l))++trk.drop t)[t]'(by omega)=trk[t]:=by
    rw [M33 (by simp;omega)];simp [M2h (M2J O)]
   have ae:∀ {β:Type} {Q:β→Prop} {f:List Int→Option β},W (f trk[t]) Q→W ((Go.V.idx ((trk.take t).map (λrow=>row.filter λx=>!decide (x∈l))++trk.drop t) (t:Int)).bind f) Q:=λk=>M4b (by omega) (by rw [ax];exact k)
   have aX:∀ v,A7 ((trk.take t).map (λrow=>row.filter λx=>!decide (x∈l))++trk.drop t) (t:Int) v=trk[t]:=λv=>by rw [Aw (by omega),ax]
   simp only [aX];have am:=h.len _ (M03 O)
   (try simp only at am)
   refine M4e trk[t].length (λs=>s.2) (λu s=>s.1=(trk[t].take u).filter λx=>!decide (x∈l)) (by omega) rfl (by simp) λu s hu E A=>?_
   obtain ⟨b,i⟩:=s;simp only at E A ⊢;subst E A;refine ae (M49 (λq=>?_) (λq=>?_))
   have U:u<trk[t].length:=by unfold ln at q;omega
   refine ae (M4b U (W.of (QC _ _ (by omega)) (M4q (λhn=>?_) λhn=>?_)));refine ae (M4b U (M4d (by
    have:=M2y (λx=>!decide (x∈l)) (trk[t].take u);simp at this ⊢;omega) (W.nx ⟨U,rfl,?_⟩)))
   simp only;rw [M08 U,M2n,M2W (by rw [hn];rfl),M3p];refine W.nx ⟨U,rfl,?_⟩;simp only;rw [M08 U,M2n,M2A (by rw [hn];decide),M3p,M1w];have a4:u=trk[t].length:=by unfold ln at q;omega
   subst a4;refine ae (M4a ⟨O,rfl,?_⟩);simp only [M1i,M1m];rw [M08 O,M1A];rw [List.set_append_right _ _ (by simp;omega)];simp [M2h (M2J O)];rw [M2c O];rfl
  have:t=trk.length:=by unfold ln at q;rw [aQ] at q;omega
  subst this;show _=_
  simp
 have am:Y.length=c.1.length:=by rw [aj];simpa using B
 have hrow:∀ row∈Y,row.length≤192∧Rg wag.length row:=λrow hm=>by
  rw [aj] at hm;obtain ⟨q,hq,rfl⟩:=M1L.1 hm;obtain ⟨a,b,d2⟩:=AN h.vd q hq;refine ⟨M1B (M2y _ _) d2,λx H=>?_⟩;have:=a x (M1Z.1 H).1
  simpa using this
 have aw:∀ (t:Nat) (row:List Int),Y[t]? = some []→trk[t]? = some row→∀ w∈row,w∈l:=λt row h1 h2 w hw=>by
  rw [aj,M1n,h2] at h1;have h1:=M1x h1;have:=List.filter_eq_nil_iff.1 h1 w hw
  simpa using this
 refine M4f n1.1 (by omega) λac ak _=>?_
 rw [AX ak];have a5:((ln ac)==0)=true→ac=[]:=λq=>by
  have:ln ac=0:=by simpa using q
  unfold ln at this;exact M1F.1 (by omega)
 refine W.st (P:=λb=>b=true→ac=[]∧∀ t∈e.2.2.2.2.2.1,Y[t.toNat]? = some []) ?_ λbE aJ=>?_
 refine M4e e.2.2.2.2.2.1.length (λs=>s.2) (λt s=>s.1=true→ac=[]∧∀ i (hi:i<e.2.2.2.2.2.1.length),i<t→Y[(e.2.2.2.2.2.1[i]).toNat]? = some []) (by omega) rfl (λq=>⟨a5 q,λi _ h=>by omega⟩) λt s ht E A=>?_
 obtain ⟨a,i⟩:=s;simp only at E A ⊢;subst E;refine M49 (λq=>?_) (λq=>M4a λh2=>⟨(A h2).1,λd hd=>?_⟩)
 have B:t<e.2.2.2.2.2.1.length:=by unfold ln at q;omega
 have H:=n2 _ (M03 B);refine M48 (λea=>M4b B (M4f H.1 (by omega) λrow Z _=>?_)) λ_=>W.nx ⟨B,rfl,λh3=>by cases h3⟩
 rw [AX Z];refine W.nx ⟨B,rfl,λh3=>⟨(A ea).1,λi hi h4=>?_⟩⟩;by_cases G:i=t;subst G;rw [Z];have:ln row=0:=by simpa using h3
 unfold ln at this;have aZ:row=[]:=M1F.1 (by omega);rw [aZ]
 exact (A ea).2 i hi (by omega);obtain ⟨i,hi,rfl⟩:=M1o.1 hd;exact (A h2).2 i hi (by unfold ln at q;omega);refine M4q (λ_=>W.ret λq=>by cases q) λaU=>?_
 obtain ⟨a6,a3⟩:=aJ aU;subst a6;refine M4f n1.1 n1.2 λbF _ _=>M4c (gT h l (by omega) aD) λbG _=>M48 (λ_=>W.ret λq=>by cases q) λ_=>?_
 refine M4c (fv j (by unfold Hq;omega)) λah aK=>M4i (λhne=>W.ret λq=>absurd q hne) λJ=>?_
 obtain ⟨p1,p2,p3,p4⟩:=aK J;refine M4c (gU h j ah.1.1 e.2.2.2.2.2.1 Y p4 p1 p2.1 (λit hm=>(hit it hm).2) n2 (by omega) am hrow) λbH aL=>M4q (λ_=>W.ret λq=>by cases q) λa0=>?_
 have a2:=aL a0;refine W.st (P:=λv=>Dc c.1 (Bf wag) v.1∧OnP e.2.1 (e.2.2.2.2.2.1.take ah.1.1.1.toNat) l v.1) ?_ λaF au=>?_
 ·refine M4e l.length (λs=>s.1) (λt s=>s.2.1.length≤t∧Dc c.1 (Bf wag) s.2.2∧OnP e.2.1 (e.2.2.2.2.2.1.take ah.1.1.1.toNat) l s.2.2) (by omega) rfl (by
   refine ⟨by simp,h.vd,λt ht row Z w hw=>?_⟩;rcases ht with ht|ht
   refine aw t row ?_ Z w hw;rw [←ht] at ak;exact ak
   refine aw t row ?_ Z w hw;exact a3 _ (M24 ht)) λt s ht E A=>?_
  obtain ⟨i,ss,s⟩:=s;simp only at E A ⊢;subst E;obtain ⟨i1,i2,i3⟩:=A;refine M49 (λq=>?_) (λq=>M4a ⟨i2,i3⟩);have B:t<l.length:=by unfold ln at q;omega
  refine M4b B ?_;rw [Aw B];refine Ku h i2 _ _ ?_ ?_;intro aG;exact M4g rfl (M4d (by simp;omega) (W.nx ⟨B,rfl,by simp;omega,Gx i2 _ aG,i3.mv (.inl (M03 B))⟩))
  ·intro x H;exact M4k (M2I.2 H) (W.nx ⟨B,rfl,by (try simp only);omega,i2,i3⟩)
 ·obtain ⟨bD,eq⟩:=gV l j ah.1 (c,(wag,aF.1,ord,busy,prog,true),e,er,aF.2,pf,v8,rr) (by (try simp only);omega) p2.1 a2 (by omega) (by omega);refine W.of eq (W.ret λ_=>?_);simp only;refine ⟨au.1,h.ww,al,h.oo,(λq=>by cases q),⟨by (try simp only);omega,by (try simp only);omega,by (try simp only);omega,by (try simp only);omega,by simp;omega⟩,λ_=>?_⟩;refine { items:=by (try simp only);omega,codes:=by (try simp only);omega,wl:=by (try simp only);omega,wr:=λw hw=>aD w hw,nd:=ba,ord:=λw hw hm=>?_,tr:=λit hm=>(hit it hm).1,ld:=n1,ts:=λt ht=>n2 t (M24 ht),tl:=by simp;omega,st:=by simp;omega,pu:=by simp;omega,pf:=λ_=>by simp,on:=λ_=>au.2 };simp only at hw hm;obtain ⟨k,hk,G⟩:=M1o.1 hm;obtain ⟨hi,e3⟩:=af k hk;have ay:k<j.1.length:=by omega
  have I:=j6 k (by omega);have hg:=h2.rg _ (M03 hi);rw [h2.it _ hi (by omega),M00 ay] at I;have I:=M1x I;have:=(j5 _ (M03 ay)).1;rw [I] at this;unfold Bq at this;have e5:(of[(its[k]'(by omega)).toNat]).toNat=w:=by rw [←e3,G];rfl
  simp only [e5] at this;exact this
end
section
variable {c : A2} {wag : List A6} {trk : Bp} {ord : List A0} {busy : Bool} {prog : Ab} {flt : Bool} {e : Ah} (hc : BF c) (h : Inv c (wag, trk, ord, busy, prog, flt)) (he : EvOK e)
include hc h
theorem M4y {ρ:Type}{K:Bp→(List A0×Int)→Option (Al (List A0×Int) ρ)}{Q:ρ→Prop}(I:W (K trk (ord,(ord.length:Int))) (BX (λ_=>False) Q)) :
  W (bif Go.T.room [] wag then (yk trk).bind λY=>std.run (λB:(List A0)×Int=>bif decide (B.2<ln ord) then (Go.V.idx ord B.2).bind λA=>bif Go.T.room [] A.2.2 then bif Go.T.room B.1 ([(A.1,A.2.1,[]++A.2.2)]) then some (.next (B.1++([(A.1,A.2.1,[]++A.2.2)]),A1 (B.2+1))) else none else none else K Y B) ([],0) else none) Q:=by
 have J:=h.ol;have U:=h.wl;simp only at J U;refine M4d (by simp;omega) (W.of (fH trk (Bw h.vd)) ?_);refine M4e ord.length (λs=>s.2) (λt s=>s.1=ord.take t) (by omega) rfl rfl λt s ht H G=>?_
 obtain ⟨a,i⟩:=s;simp only at H G ⊢;subst H G;refine M49 (λq=>?_) (λq=>?_)
 have E:t<ord.length:=by unfold ln at q;omega
 have ho:=h.oo _ (M03 E);exact M4b E (M4d (by have:=ho.2.1;simp;omega) (M4d (by simp;omega) (W.nx ⟨E,rfl,by simp only [M2L];rw [M08 E]⟩)))
 ·have O:t=ord.length:=by unfold ln at q;omega
  subst O;rw [M1m];refine W.mono I λr hr=>?_
  cases r with
  | next s=>exact hr.elim
  | done d=>exact hr
theorem M4z {ρ:Type}{K:Option ρ}{Q:ρ→Prop}(k:W K Q):W (bif Go.T.room [] prog.1 then bif Go.T.room [] prog.2.2.2.2.1 then bif Go.T.room [] prog.2.1.1 then bif Go.T.room [] prog.2.2.1.1.2 then bif Go.T.room [] prog.2.2.1.2 then K else none else none else none else none else none) Q:=by
 obtain ⟨A,B,E,G,H⟩:=h.pb;simp only at A B E G H;exact M4d (by simp;omega) (M4d (by simp;omega) (M4d (by simp;omega) (M4d (by simp;omega) (M4d (by simp;omega) k))))
include he
theorem hP:W (F21 (c,(wag,trk,ord,busy,prog,flt),e)) λo=>Inv c o.1:=by
 have err:∀ (a b d:Int) (sh:List Ap) (p:BE) (u:List Aa) (f:Gt),W (some (.done ((wag,trk,ord,busy,(prog.1,(prog.2.1.1,prog.2.1.2),((prog.2.2.1.1.1,prog.2.2.1.1.2),prog.2.2.1.2),prog.2.2.2.1,prog.2.2.2.2.1,prog.2.2.2.2.2),flt),(a,sh,p,u,f,b,d))):Option (Al (List A0×Int) (AH×Ag))) (BX (λ_=>False) λo=>Inv c o.1):=λ_ _ _ _ _ _ _=>M4a h
 unfold F21 B21;simp only [M2L];refine M4y hc h (M4z hc h ?_);refine M4c (P:=λo=>Inv c o.1) ?_ λa B=>M4a B
 refine M48 (λ_=>M4c (gX hc h he rfl) λv hv=>M4i (λ_=>M4y hc h (M4z hc h (err _ _ _ _ _ _ _))) λA=>W.ret (hv A)) λ_=>?_
 refine M48 (λ_=>M4c (ph hc h he rfl) λv hv=>M4i (λ_=>M4y hc h (M4z hc h (err _ _ _ _ _ _ _))) λA=>W.ret (hv A)) λ_=>?_
 refine M48 (λ_=>M4c (xV hc h he rfl) λv hv=>M4i (λ_=>M4y hc h (M4z hc h (err _ _ _ _ _ _ _))) λA=>W.ret (hv A)) λ_=>?_
 refine M48 (λ_=>M4c (xX hc h he rfl) λv hv=>M4i (λ_=>M4y hc h (M4z hc h (err _ _ _ _ _ _ _))) λA=>W.ret (hv A)) λ_=>?_
 refine M48 (λ_=>M4c (hJ hc h he rfl rfl) λv hv=>M4i (λ_=>M4y hc h (M4z hc h (err _ _ _ _ _ _ _))) λA=>W.ret (hv A)) λ_=>?_
 refine M48 (λ_=>M4c (xY hc h he rfl) λv hv=>M4i (λ_=>M4y hc h (M4z hc h (err _ _ _ _ _ _ _))) λA=>W.ret (hv A)) λ_=>?_
 refine M48 (λ_=>M4c (gY hc h he rfl) λv hv=>M4i (λ_=>M4y hc h (M4z hc h (err _ _ _ _ _ _ _))) λA=>W.ret (hv A)) λ_=>?_
 exact M4y hc h (M4z hc h (err _ _ _ _ _ _ _))
end
theorem Inv.zero {c:A2}(hc:BF c):Inv c (zY c.1.length):=by
 have E:=hc.l1;refine ⟨⟨by simp,by omega,by simp,λn hn=>(by cases hn),λx A=>?_,?_,λk row tr hk hrow B=>?_⟩,λw hw=>(by cases hw),by simp,λo ho=>(by cases ho),(λq=>by cases q),⟨by simp,by simp,by simp,by simp,by simp⟩,(λq=>by cases q)⟩;obtain ⟨l,hl,A⟩:=M3v.1 A;rw [(M3F.1 hl).2] at A;cases A
 have:(List.replicate c.1.length ([]:List Int)).flatten=[]:=by simp
 rw [this];exact M42;have hrow:=M1k hrow;rw [(M3F.1 hrow).2];obtain ⟨a,b,d⟩:=hc.tr k tr B;simp only [QF];omega
theorem EvOK.order {nm:List UInt8}{t:Int}{ds:List (List UInt8)}(h:OrdE (nm,t,ds)):EvOK (2,0,0,0,0,[],[],(nm,t,ds),[],[]):=⟨by simp,by simp,h,Bys.nil,by simp⟩
theorem YL {c:A2}(hc:BF c){b:Int}{k:List Int×Int}(hk:Mk b k)(hb:b<10000):W (F6 (c,24,k)) λr=>(r.1.length≤30∧∀ e∈r.1,EvOK e)∧Mk (b+40000) r.2:=by
 have c0:=hc.l0;have c1:=hc.l1;unfold F6 B6;refine W.of (xf hc) (M4g rfl ?_);refine W.st (P:=λv=>(v.1.length≤3∧∀ e∈v.1,EvOK e)∧Mk (b+1300) (v.2.1,v.2.2.1)∧Inv c (v.2.2.2.2.2.2.2.2.2.2.2.2.2.2.2.2,v.2.2.2.2.2.2.2.2.2.2.2.2.2.2.2.1,v.2.2.2.2.2.2.2.2.2.2.2.2.2.2.1,v.2.2.2.2.2.2.2.2.2.2.2.2.2.1,(v.2.2.2.2.2.2.2.2.2.2.2.2.1,(v.2.2.2.2.2.2.2.2.2.2.2.1,v.2.2.2.2.2.2.2.2.2.2.1),((v.2.2.2.2.2.2.2.2.2.1,v.2.2.2.2.2.2.2.2.1),v.2.2.2.2.2.2.2.1),v.2.2.2.2.2.2.1,v.2.2.2.2.2.1,v.2.2.2.2.1),v.2.2.2.1)) ?_ λv hv=>?_
 ·refine M4e 3 (λs=>s.2.1) (λt s=>(s.1.length=t∧∀ e∈s.1,EvOK e)∧Mk (b+400*t) (s.2.2.2.2.2.2.2.2.2.2.2.2.2.2.2.2.2,s.2.2.2.2.2.2.2.2.2.2.2.2.2.2.2.2.1)∧Inv c (s.2.2.1,s.2.2.2.1,s.2.2.2.2.1,s.2.2.2.2.2.1,(s.2.2.2.2.2.2.1,(s.2.2.2.2.2.2.2.1,s.2.2.2.2.2.2.2.2.1),((s.2.2.2.2.2.2.2.2.2.1,s.2.2.2.2.2.2.2.2.2.2.1),s.2.2.2.2.2.2.2.2.2.2.2.1),s.2.2.2.2.2.2.2.2.2.2.2.2.1,s.2.2.2.2.2.2.2.2.2.2.2.2.2.1,s.2.2.2.2.2.2.2.2.2.2.2.2.2.2.1),s.2.2.2.2.2.2.2.2.2.2.2.2.2.2.2.1)) (by omega) rfl (by exact ⟨⟨rfl,λe h=>by cases h⟩,hk.up (by omega),Inv.zero hc⟩) λt s ht B A=>?_
  obtain ⟨out,i,s⟩:=s;simp only at B A ⊢;subst B;obtain ⟨⟨U,E⟩,G,i4⟩:=A;refine M49 (λq=>M4w (by (try simp only);omega) ?_) (λq=>M4a ⟨⟨by (try simp only);omega,E⟩,G.up (by omega),i4⟩);refine M4c (SV hc i4 G (by omega)) λJ h2=>?_
  refine M4b (by simp;omega) ?_;have O:EvOK ([(2,0,0,0,0,[],[],([120,49],A1 ((ln c.1)-1),[[98],[97]]),[],[]),(2,0,0,0,0,[],[],([120,50],A1 ((ln c.1)-2),[[99],[100]]),[],[]),J.1][t]'(by simp;omega)):=by
   rcases (by omega:t=0∨t=1∨t=2) with rfl|rfl|rfl;exact EvOK.order ⟨by simp,by simp,λd hd=>by
    simp only [M1y,M2o,M3u] at hd;rcases hd with rfl|rfl <;> simp⟩
   exact EvOK.order ⟨by simp,by simp,λd hd=>by
    simp only [M1y,M2o,M3u] at hd;rcases hd with rfl|rfl <;> simp⟩
   exact h2.1
  refine M4c (hP hc i4 O) λY H=>M4d (by simp;omega) (W.nx ⟨by omega,rfl,⟨by simp [U],λx hx=>?_⟩,h2.2.up (by omega),H⟩)
  rcases M1b.1 hx with hx|hx;exact E x hx;rw [M19] at hx;subst hx;exact O
 ·obtain ⟨v1,J,v3,v⟩:=v;simp only at hv ⊢;obtain ⟨⟨a1,a2⟩,a3,a4⟩:=hv;rw [show A1 (24+1)=25 from by decide];refine M4c (At a3 (by omega) (by omega) (by omega)) λZ I=>?_
  obtain ⟨n,l,j⟩:=Z;simp only at I ⊢;obtain ⟨t,rfl⟩:=M1j I.1.1;refine M4B t (λs=>s.2.1) (λt s=>(s.1.length≤3+t∧∀ e∈s.1,EvOK e)∧Mk (b+1301+400*t) (s.2.2.2.2.2.2.2.2.2.2.2.2.2.2.2.2.2,s.2.2.2.2.2.2.2.2.2.2.2.2.2.2.2.2.1)∧Inv c (s.2.2.1,s.2.2.2.1,s.2.2.2.2.1,s.2.2.2.2.2.1,(s.2.2.2.2.2.2.1,(s.2.2.2.2.2.2.2.1,s.2.2.2.2.2.2.2.2.1),((s.2.2.2.2.2.2.2.2.2.1,s.2.2.2.2.2.2.2.2.2.2.1),s.2.2.2.2.2.2.2.2.2.2.2.1),s.2.2.2.2.2.2.2.2.2.2.2.2.1,s.2.2.2.2.2.2.2.2.2.2.2.2.2.1,s.2.2.2.2.2.2.2.2.2.2.2.2.2.2.1),s.2.2.2.2.2.2.2.2.2.2.2.2.2.2.2.1)) (by omega) rfl (by exact ⟨⟨by (try simp only);omega,a2⟩,I.2.up (by omega),a4⟩) λu s hu B A=>?_
  obtain ⟨out,i,s⟩:=s;simp only at B A ⊢;obtain ⟨⟨U,E⟩,G,i4⟩:=A;refine M49 (λq=>?_) (λq=>M4a ⟨⟨by (try simp only);omega,E⟩,G.up (by omega)⟩);refine M4c (SV hc i4 G (by omega)) λJ h2=>?_
  refine M4c (hP hc i4 h2.1) λY H=>M4d (by simp;omega) (W.nx ⟨by omega,by (try simp only);rw [B],⟨by simp;omega,λx hx=>?_⟩,h2.2.up (by omega),H⟩)
  rcases M1b.1 hx with hx|hx;exact E x hx;rw [M19] at hx;subst hx;exact h2.1
theorem pp (d:Ac)(h:CG d):W (K0 d) λr=>r.2=true→Rg d.1.length d.2.2.flatten∧d.2.2.flatten.Nodup∧r.1.length=d.1.length:=by
 have hi:=h.i;have ht:=h.t;unfold K0 wj;refine W.mk (DP _) (by unfold ln;omega) (W.mk (DP _) (by unfold ln;omega) (W.st (P:=λv=>Rg d.1.length d.2.2.flatten∧d.2.2.flatten.Nodup∧v.2.2.length=d.1.length) ?_ λv hv=>W.ret λ_=>hv));let I:List Int→List (Int×Int)→List Bool→Prop:=λu sp O=>O=mk d.1.length u∧Rg d.1.length u∧u.Nodup∧sp.length=d.1.length
 refine M4e d.2.2.length (λs=>s.2.1) (λt s=>I (BA d.2.2 t 0) s.2.2.1 s.2.2.2) (by omega) rfl (by exact ⟨by simp only [ln,M1i];rw [Vj,Dv],by rw [Dv];exact λx hx=>(by cases hx),by rw [Dv];exact M42,by simp [ln]⟩) λt s Y E A=>?_
 obtain ⟨c,i,a,b⟩:=s;simp only at E A ⊢;subst E;refine M49 (λq=>?_) (λq=>M4a (by rw [show t=d.2.2.length by unfold ln at q;omega,SX] at A;exact ⟨A.2.1,A.2.2.1,A.2.2.2⟩));have B:t<d.2.2.length:=by unfold ln at q;omega
 have U:=h.l _ (M03 B);refine M4b B ?_;refine M4e d.2.2[t].length (λs=>s.2.1) (λu s=>I (BA d.2.2 t u) s.2.2.2 s.2.2.1) (by omega) rfl A λu s Z E A=>?_
 obtain ⟨c,j,b,a⟩:=s;simp only at E A ⊢;subst E;obtain ⟨rfl,H,J,i4⟩:=A;refine M49 (λq=>?_) (λq=>M4a ⟨B,rfl,?_⟩)
 have G:u<d.2.2[t].length:=by unfold ln at q;omega
 refine M4b G (M49 (λ_=>M4a λe=>by cases e) λa1=>M49 (λ_=>M4a λe=>by cases e) λa2=>?_);unfold ln at a2;have e:=HO (pre:=BA d.2.2 t u) (n:=d.1.length) (x:=d.2.2[t][u]) (by omega) (by omega);refine W.of e ?_;rw [AX (by rw [←DQ _ (by omega)];exact e)];refine M49 (λ_=>M4a λe=>by cases e) λhn=>M4f (by omega) (by omega) λ_ _ _=>W.of e (W.nx ⟨G,rfl,?_,?_,?_,?_⟩)
 simp only;rw [Vh (by omega) (by omega),C2 B G];rw [C2 B G];intro x hx;rcases M1b.1 hx with hx|hx
 exact H x hx;rw [M19] at hx;subst hx;omega
 rw [C2 B G];exact M2X.2 ⟨J,by simp,λx hx y hy e=>by rw [M19] at hy;subst hy;exact hn (e ▸ hx)⟩;simp only [M2x];exact i4;rw [←H5 B,show d.2.2[t].length=u by unfold ln at q;omega];exact ⟨rfl,H,J,i4⟩
theorem R3 (d:Ac)(h:CG d):W (V5 d) λr=>r=true→DisV d∧∃ s,K0 d=some s∧s.1.length=d.1.length:=by
 have hi:=h.i;have I:=h.h;have ht:=h.t;unfold V5 wk;refine M49 (λ_=>W.ret λe=>by cases e) λl1=>M49 (λ_=>W.ret λe=>by cases e) λO=>M49 (λ_=>W.ret λe=>by cases e) λU=>W.st (P:=λ_=>True) ?_ λ_ _=>W.st (P:=λ_=>∀ i (hi:i<d.1.length),0≤d.1[i].1∧d.1[i].1<(d.2.1.length:Int)) ?_ λ_ h1=>?_
 refine M4h d.2.1.length (λ_=>True) (by omega) trivial λt ht _=>M49 (λq=>?_) (λq=>M4a trivial)
 have A:t<d.2.1.length:=by unfold ln at q;omega
 refine M4b A (M48 (λ_=>M4a λe=>by cases e) λ_=>M48 (λ_=>M4a λe=>by cases e) λ_=>W.sub (by omega) (by omega) (by omega) λY _ J=>W.of (CD _ _ (by omega)) (M48 (λ_=>M4a λe=>by cases e) λ_=>W.nx ⟨A,rfl,trivial⟩));refine M4h d.1.length (λt=>∀ i (hi:i<d.1.length),i<t→0≤d.1[i].1∧d.1[i].1<(d.2.1.length:Int)) (by omega) (λi _ q=>by omega) λt ht B=>M49 (λq=>?_) (λq=>M4a λi hi=>B i hi (by unfold ln at q;omega))
 have A:t<d.1.length:=by unfold ln at q;omega
 refine M4b A (M49 (λ_=>M4a λe=>by cases e) λa1=>M49 (λ_=>M4a λe=>by cases e) λa2=>M48 (λ_=>M4a λe=>by cases e) λ_=>M48 (λ_=>M4a λe=>by cases e) λ_=>M48 (λ_=>M4a λe=>by cases e) λ_=>M48 (λ_=>M4a λe=>by cases e) λ_=>M48 (λ_=>M4a λe=>by cases e) λ_=>W.nx ⟨A,rfl,λi hi q=>?_⟩);by_cases e:i=t;subst e;unfold ln at a2;omega
 exact B i hi (by omega);obtain ⟨s,es,hs⟩:=pp d h;refine W.of es (W.ret λe=>?_);obtain ⟨E,G,H⟩:=hs e;refine ⟨⟨by unfold ln at l1;omega,λit hit=>?_,E,G⟩,s,es,H⟩;obtain ⟨k,hk,rfl⟩:=M1o.1 hit;exact h1 k hk
def PP (d:Ac) (sp:List (Int×Int)) (i j:Nat):Prop:=∃ (a b:Aa) (x y:Int×Int),d.1[i]? = some a∧d.1[j]? = some b∧sp[i]? = some x∧sp[j]? = some y∧b.1=a.1∧b.2.1<a.2.1∧y.1=x.1∧y.2>x.2
def Hb (d:Ac) (sp:List (Int×Int)) (i:Nat):Prop:=∃ (a:Aa) (x:Int×Int),d.1[i]? = some a∧sp[i]? = some x∧d.2.1[a.1.toNat]? = some x.1
section
variable {d : Ac} (v : DisV d) {sp : List (Int × Int)} (hs : sp.length = d.1.length) {rs : List Int} (hr : rs.length = d.1.length)
include v hs hr
theorem pq {i:Nat}(hi:i<d.1.length)(k:Int):W (mE (i,k,d,sp,rs)) λr=>r.2.2=(d,sp,rs)∧(r.2.1=true→r.1.1=i∧(r.1.2.2.1 = -1∨(0≤r.1.2.2.1∧r.1.2.2.1<d.1.length)))∧(r.2.1=false→k=0→Hb d sp i∧∀ j,¬ PP d sp i j):=by
 have hn:=v.n;have E:i<sp.length:=by omega
 have hm:=v.h _ (M03 hi);obtain ⟨hd,ad⟩:∃ hd,d.2.1[d.1[i].1.toNat]? = some hd:=⟨_,M00 (show d.1[i].1.toNat<d.2.1.length by omega)⟩
 have eh:idx d.2.1 d.1[i].1=some hd:=by rw [DQ _ hm.1,ad]
 unfold mE wm;simp only;refine W.beq (λhk=>?_) λhk=>?_
 ·subst hk;refine M4b E (M4b hi (W.of eh (M4q (λ_=>W.ret ⟨rfl,λ_=>⟨rfl,.inl rfl⟩,λe=>by cases e⟩) λah=>?_)));have ae:sp[i].1=hd:=by simpa using ah
  have hH:Hb d sp i:=⟨_,_,M00 hi,M00 E,by rw [ad,ae]⟩
  refine M4k (by decide) ?_;refine M4h 1 (λt=>0<t→∀ j,¬ PP d sp i j) (by omega) (λq=>by omega) λt ht hI=>M49 (λq=>?_) (λq=>M4a ⟨rfl,(λe=>by cases e),λ_ _=>⟨hH,hI (by
   have:Dj (CZ (ln [(2:Nat),3]) 1)=1:=by decide
   rw [this] at q;omega)⟩⟩)
  have t0:t=0:=by
   have:Dj (CZ (ln [(2:Nat),3]) 1)=1:=by decide
   rw [this] at q;omega
  subst t0;refine M4b (by decide) ?_;have J:∀ x:Int,A7 [(2:Int),3] (Dj (G7 (Int.toNat 1) ((0:Nat):Int))) x=3:=λx=>rfl
  simp only [J];refine M4h d.1.length (λt=>∀ j,j<t→¬ PP d sp i j) (by omega) (λj q=>by omega) λj hj hB=>M49 (λq=>?_) (λq=>M4a ⟨by omega,rfl,λ_ j hb=>?_⟩)
  ·have B:j<d.1.length:=by unfold ln at q;omega
   have G:j<sp.length:=by omega
   have nb:∀ {Q:Al Int (Aa×Bool×MD)→Prop},¬ PP d sp i j→W (some (Al.next (A1 ((j:Int)+1)))) (BX (λA:Int=>j<d.1.length∧A=A1 ((j:Int)+1)∧∀ H,H<j+1→¬ PP d sp i H) Q):=λ{Q} nb=>W.nx ⟨B,rfl,λH aj=>by
    by_cases e:H=j;subst e;exact nb;exact hB H (by omega)⟩
   have un:(d.1[j].1=d.1[i].1→d.1[j].2.1<d.1[i].2.1→sp[j].1=sp[i].1→sp[j].2>sp[i].2→False)→¬ PP d sp i j:=λf ⟨a,b,x,y,e1,I,J,e4,O,U,Y,Z⟩=>by
    rw [M00 hi] at e1;rw [M00 B] at I;rw [M00 E] at J;rw [M00 G] at e4;cases e1;cases I;cases J;cases e4;exact f O U Y Z
   refine M4g (by decide) (W.df (by omega) (W.df (by unfold ln;omega) (M4k (by decide) (M4k (by decide) (M4b E (M4b hi (W.of eh (M4k (by rw [ae];exact M3j _) ?_))))))));refine M4b B (M4b hi (W.beq (λO=>?_) λO=>nb (un λa _ _ _=>O a)));refine M4b B (M4b hi (M49 (λU=>?_) λU=>nb (un λ_ a _ _=>U a)));refine M4b G (M4b E (W.beq (λY=>?_) λY=>nb (un λ_ _ a _=>Y a)));refine M4b G (M4b E (M49 (λZ=>?_) λZ=>nb (un λ_ _ _ a=>Z a)));exact M4a ⟨rfl,λ_=>⟨rfl,.inr (by (try simp only);omega)⟩,λe=>by cases e⟩
  obtain ⟨a,b,x,y,e1,I,_⟩:=id hb;have B:j<d.1.length:=(M09.1 I).1;exact hB j (by unfold ln at q;omega) hb
 ·refine M4h 2 (λ_=>True) (by omega) trivial λt ht _=>M49 (λq=>?_) (λq=>M4a ⟨rfl,(λe=>by cases e),λ_ e=>absurd e hk⟩)
  have q:t<2:=by simp [ln] at q;omega
  refine M4b (by simpa using q) ?_;refine M4h d.1.length (λ_=>True) (by omega) trivial λj hj _=>M49 (λq=>?_) (λq=>M4a ⟨by omega,rfl,trivial⟩)
  have B:j<d.1.length:=by unfold ln at q;omega
  have G:j<sp.length:=by omega
  have ai:j<rs.length:=by omega
  have nx:W (some (Al.next (A1 ((j:Int)+1)))) (BX (λA:Int=>j<d.1.length∧A=A1 ((j:Int)+1)∧True) (BX (λA:Int=>t<2∧A=A1 ((t:Int)+1)∧True) λr:Aa×Bool×MD=>r.2.2=(d,sp,rs)∧(r.2.1=true→r.1.1=i∧(r.1.2.2.1 = -1∨(0≤r.1.2.2.1∧r.1.2.2.1<d.1.length)))∧(r.2.1=false→k=0→Hb d sp i∧∀ j,¬ PP d sp i j))):=W.nx ⟨B,rfl,trivial⟩;have dn:∀ z:Int,W (some (Al.done (Al.done (((i:Int),z,(j:Int),k),true,(d,sp,rs))))) (BX (λA:Int=>j<d.1.length∧A=A1 ((j:Int)+1)∧True) (BX (λA:Int=>t<2∧A=A1 ((t:Int)+1)∧True) λr:Aa×Bool×MD=>r.2.2=(d,sp,rs)∧(r.2.1=true→r.1.1=i∧(r.1.2.2.1 = -1∨(0≤r.1.2.2.1∧r.1.2.2.1<d.1.length)))∧(r.2.1=false→k=0→Hb d sp i∧∀ j,¬ PP d sp i j))):=λz=>M4a ⟨rfl,λ_=>⟨rfl,.inr (by (try simp only);omega)⟩,λe=>by cases e⟩
  repeat' first | exact nx | exact dn _ | refine W.of eh ?_ | refine M4b hi ?_ | refine M4b B ?_ | refine M4b E ?_ | refine M4b G ?_ | refine M4b ai ?_ | refine M48 (λ_=>?_) λ_=>?_
end
theorem YM (xs:List Aa)(h:xs.length≤1000):W (Zt xs) λr=>r.Perm xs:=by
 have G:Go.Sort.SWO (ltOf U3):=⟨λx=>M1K (by simp only [U3,Lib.compareInt];split <;>(try split) <;> omega),λx y z h1 h2=>by
  have h1:=M1s h1;have h2:=M1s h2;refine M1p ?_;simp only [U3,Lib.compareInt] at h1 h2 ⊢;split at h1 <;> split at h2 <;>(try split at h1) <;>(try split at h2) <;> split <;>(try split) <;> omega,λx y z h1 h2=>by
  have h1:=M21 h1;have h2:=M21 h2;refine M1K ?_;simp only [U3,Lib.compareInt] at h1 h2 ⊢;split at h1 <;> split at h2 <;>(try split at h1) <;>(try split at h2) <;> split <;>(try split) <;> omega⟩
 have hp:=Go.Sort.pdq_sorts (ltOf U3) G xs.toArray 0 xs.toArray.size (Lib.bitLen xs.toArray.size) true true (M2j _) (M1g _) (Or.inl rfl);unfold Zt;rw [M1d (by omega)];refine W.ret ?_;have A:∀ (d:Array Aa) (n:Nat),d.size=n→d.extract 0 n=d:=λd n h=>by subst h;simp
 have B:=A _ _ hp.1.1;have E:=A xs.toArray _ rfl;have:=hp.1.2.2;rw [B,E] at this
 simpa using this
theorem Vn {l:List Int}{i:Nat}(hi:i<l.length){x:Int}(E:0≤x):neg (l.set i x)≤neg l:=by
 by_cases h:l[i]<0;have:=QX hi E h;omega;unfold neg;rw [List.countP_set hi];have A:decide (l[i]<0)=false:=M1K h;have B:decide (x<0)=false:=M1K (by omega);simp [A,B]
def Pu (d:Ac) (p:Aa):Prop:=(0≤p.1∧p.1<(d.1.length:Int))∧(p.2.2.1 = -1∨(0≤p.2.2.1∧p.2.2.1<(d.1.length:Int)))
theorem hU {d:Ac}{l:List Aa}(h:∀ p∈l,Pu d p)(hn:(l.map (·.1)).Nodup):l.length≤d.1.length:=by
 have:=Gw (n:=d.1.length) (l:=l.map (·.1)) (λx A=>by obtain ⟨p,hp,rfl⟩:=M1L.1 A;exact (h p hp).1) hn
 simpa using this
theorem WM (d:Ac)(h:CG d):W (Oq d) λr=>(r.1.length≤192∧∀ p∈r.1,Pu d p)∧(r=([],0)→DisV d∧∃ s,K0 d=some s∧s.1.length=d.1.length∧∀ i,i<d.1.length→Hb d s.1 i∧∀ j,¬ PP d s.1 i j):=by
 unfold Oq mG;refine M4c (R3 d h) λv0 hv=>M4q (λ_=>W.ret ⟨⟨by simp,λp hp=>by cases hp⟩,λe=>by cases e⟩) λh0=>?_
 obtain ⟨v,⟨sp,ok⟩,es,hs⟩:=hv h0;simp only at hs;have hn:=v.n;refine W.mk (DP _) (by unfold ln;omega) (W.of es ?_);refine M4e d.1.length (λs=>s.1) (λt s=>s.2.length=d.1.length∧∀ k (hk:k<s.2.length),k<t→s.2[k] = -1) (by omega) rfl (by exact ⟨by simp [ln],λk _ q=>by omega⟩) λt s ht B A=>?_
 obtain ⟨i,a⟩:=s;simp only at B A ⊢;subst B;obtain ⟨i1,i2⟩:=A;refine M49 (λq=>?_) (λq=>?_)
 have I:t<d.1.length:=by simp [ln] at q;omega
 refine M4b (by omega) (W.nx ⟨I,rfl,by simpa using i1,λk hk q=>?_⟩);simp only [M1i] at hk ⊢;rw [List.getElem_set]
 split;rfl;exact i2 k (by simpa using hk) (by omega);have q:d.1.length≤t:=by simp [ln] at q;omega
 refine M4c (P:=λr:Bb=>(r.1.length≤192∧∀ p∈r.1,Pu d p)∧(r=([],0)→DisV d∧∃ s,K0 d=some s∧s.1.length=d.1.length∧∀ i,i<d.1.length→Hb d s.1 i∧∀ j,¬ PP d s.1 i j)) ?_ λr hr=>M4a hr
 let J:List Aa→List Int→Prop:=λpl rs=>(∀ p∈pl,Pu d p)∧(pl.map (·.1)).Nodup∧rs.length=d.1.length
 refine W.run (λs=>(J s.1 s.2.2.2.2.2.2∧(∀ p∈s.1,∀ y,s.2.2.2.2.2.2[p.1.toNat]? = some y→0≤y)∧0≤s.2.1)∧s.2.2.2.2.2.1=sp∧s.2.2.2.2.1=d.1∧s.2.2.2.1=d.2.1∧s.2.2.1=d.2.2∧(s.2.1.toNat+(neg s.2.2.2.2.2.2+if s.2.1=0 then 1 else 0)≤d.1.length+1)∧(s.2.1=0→∀ y∈s.2.2.2.2.2.2,y<0)∧(0<s.2.1→s.1=[]→∀ i,i<d.1.length→Hb d sp i∧∀ j,¬ PP d sp i j)) (λs=>neg s.2.2.2.2.2.2+if s.2.1=0 then 1 else 0) (by exact ⟨⟨⟨λp hp=>(by cases hp),M42,i1⟩,λp hp=>(by cases hp),M45 0⟩,rfl,rfl,rfl,rfl,by have:=QY a;simp;omega,λ_ y hy=>by
  obtain ⟨k,hk,rfl⟩:=M1o.1 hy;have aG:k<a.length:=hk;have:=i2 k aG (by omega);simp only;omega,λq=>absurd q (by simp)⟩) (by have:=QY a;simp only at this ⊢;split <;> omega) λs A=>?_
 obtain ⟨pl,k,trk,aQ,its,ak,rs⟩:=s;simp only at A ⊢;obtain ⟨⟨⟨j1,j2,j3⟩,j4,j5⟩,rfl,rfl,rfl,rfl,j6,j7,j8⟩:=A;have aY:=hU j1 j2;refine M4e d.1.length (λs=>s.2.1) (λt s=>s.2.2.1=rs∧s.2.2.2.1=ak∧s.2.2.2.2=d∧∃ new,s.1=pl++new∧(∀ p∈s.1,Pu d p)∧(s.1.map (·.1)).Nodup∧(∀ p∈new,p.1<(t:Int)∧∃ y,rs[p.1.toNat]? = some y∧y<0)∧(k=0→new=[]→∀ i,i<t→Hb d ak i∧∀ j,¬ PP d ak i j)) (by omega) rfl (by exact ⟨rfl,rfl,rfl,[],by simp,j1,j2,λp hp=>(by cases hp),λ_ _ i q=>by omega⟩) λt s ht B A=>?_
 obtain ⟨ps,i,a',b',c'⟩:=s;simp only at B A ⊢;subst B;obtain ⟨rfl,rfl,rfl,new,rfl,G,k2,E,k4⟩:=A;have aH:=hU G k2;refine M49 (λq=>?_) (λq=>?_)
 have I:t<c'.1.length:=by unfold ln at q;omega
 have aa:t<a'.length:=by omega
 refine M4b aa ?_;rw [Aw aa];refine M49 (λhp=>W.nx ⟨I,rfl,rfl,rfl,rfl,new,rfl,G,k2,λp hp=>⟨by have:=(E p hp).1;omega,(E p hp).2⟩,λe _=>absurd (j7 e _ (M03 aa)) (by omega)⟩) λaX=>M4c (pq v hs j3 I k) λr hr=>?_
 obtain ⟨r1,r2,r3⟩:=hr;have H:r.2.2.2.2=a':=by rw [r1]
 have Z:r.2.2.2.1=b':=by rw [r1]
 have e3:r.2.2.1=c':=by rw [r1]
 rw [H,Z,e3];refine M48 (λhb=>M4d (by simp;simp at aH;omega) (W.nx ⟨I,rfl,rfl,rfl,rfl,new++[r.1],by simp,?_,?_,?_,λ_ e=>by simp at e⟩)) λhb=>W.nx ⟨I,rfl,rfl,rfl,rfl,new,rfl,G,k2,λp hp=>⟨by have:=(E p hp).1;omega,(E p hp).2⟩,λek en i hi=>?_⟩
 obtain ⟨O,m2⟩:=r2 hb;intro p hp;rcases M1b.1 hp with hp|hp
 exact G p hp;rw [M19] at hp;subst hp;exact ⟨by rw [O];omega,m2⟩
 obtain ⟨O,m2⟩:=r2 hb;simp only;rw [M1A];refine M2X.2 ⟨k2,by simp,λx hx y hy e=>?_⟩;simp only [M1X,M3H,M19] at hy;subst hy;subst e;obtain ⟨p,hp,e⟩:=M1L.1 hx;rw [O] at e;rcases M1b.1 hp with hp|hp
 have:=j4 p hp a'[t] (by rw [e];simp [M00 aa]);omega;have:=(E p hp).1;omega;obtain ⟨O,m2⟩:=r2 hb;intro p hp;rcases M1b.1 hp with hp|hp
 exact ⟨by have:=(E p hp).1;omega,(E p hp).2⟩;rw [M19] at hp;subst hp;exact ⟨by rw [O];omega,a'[t],by rw [O];simp [M00 aa],by omega⟩
 by_cases e:i=t;subst e;exact r3 hb ek;exact k4 ek en i (by omega);have q:c'.1.length≤t:=by unfold ln at q;omega
 have aS:(pl++new).length=pl.length+new.length:=M1l;refine W.st (P:=λY=>Y.length=c'.1.length∧neg Y+(if 0<new.length then 1 else 0)≤neg a'∧(new.length=0→Y=a')∧∀ p∈pl++new,∀ y,Y[p.1.toNat]? = some y→0≤y) ?_ λY aI=>?_
 refine M4k (by unfold ln;simp;omega) ?_;refine M4e new.length (λs=>s.1) (λt s=>s.2.length=c'.1.length∧neg s.2+(if 0<t then 1 else 0)≤neg a'∧(t=0→s.2=a')∧(∀ p∈pl,∀ y,s.2[p.1.toNat]? = some y→0≤y)∧∀ m (hm:m<new.length),m<t→∀ y,s.2[(new[m]).1.toNat]? = some y→0≤y) (by omega) rfl (by exact ⟨j3,by simp,λ_=>rfl,j4,λm _ q=>by omega⟩) λu s hu B A=>?_
 obtain ⟨i,a⟩:=s;simp only at B A ⊢;subst B;obtain ⟨n1,U,n3,n4,n5⟩:=A;have ec:Dj (CZ (ln (pl++new)) (ln pl))=(new.length:Int):=by simp [Dj,CZ,ln];omega
 have ep:part (pl++new) (Int.toNat (ln pl)) (CZ (ln (pl++new)) (ln pl))=new:=by
  have H:Int.toNat (ln pl)=pl.length:=by simp [ln]
  have Z:CZ (ln (pl++new)) (ln pl)=new.length:=by simp [CZ,ln];omega
  unfold part;rw [H,Z,List.drop_left,M1m]
 rw [ec,ep];refine M49 (λq=>?_) (λq=>M4a ⟨n1,?_,λe=>n3 (by omega),λp hp y hy=>?_⟩);have ab:u<new.length:=by omega
 refine M4b ab ?_;have eg:A7 (pl++new) (Dj (G7 (Int.toNat (ln pl)) (u:Int))) new[u]=new[u]:=by
  refine AX ?_;have:(Dj (G7 (Int.toNat (ln pl)) (u:Int))).toNat=pl.length+u:=by unfold Dj G7 ln;omega
  rw [this,M1a (by omega)];simp [M00 ab]
 rw [eg];have hp:=G new[u] (M1b.2 (.inr (M03 ab)));have hi:(new[u]).1.toNat<a.length:=by have:=hp.1;omega
 have keep:∀ z:Nat,∀ y,(∀ y,a[z]? = some y→0≤y)→(a.set (new[u]).1.toNat k)[z]? = some y→0≤y:=λz y f hy=>by
  rw [M22] at hy;split at hy;cases hy;exact j5;exact f y hy
 refine M4f hp.1.1 (by have:=hp.1;omega) λ_ _ _=>W.nx ⟨ab,rfl,by simpa using n1,?_,λe=>by omega,λp hp y hy=>keep _ y (n4 p hp) hy,λm hm aU y hy=>?_⟩
 simp only;by_cases e:u=0;subst e;rw [n3 rfl];obtain ⟨_,y,hy,aK⟩:=E new[0] (M03 ab);have am:(new[0]).1.toNat<a'.length:=by rw [n3 rfl] at hi;exact hi
 rw [M00 am] at hy;cases hy;have:=QX am j5 aK;simp;omega
 have:=Vn hi j5;rw [M1d (by omega)] at U;rw [M1d (by omega)];omega
 by_cases e:m=u;subst e;simp only [M22] at hy;simp only [M2K] at hy;rw [M1d hi] at hy;cases hy;exact j5
 exact keep _ y (n5 m hm (by omega)) hy;rw [show u=new.length by omega] at U;exact U
 rcases M1b.1 hp with hp|hp;exact n4 p hp y hy;obtain ⟨m,hm,rfl⟩:=M1o.1 hp;exact n5 m hm (by omega) y hy;obtain ⟨n1,U,n3,n4⟩:=aI;have az:∀ {P:List Aa×Int×List Int×List (Int×Int)×Ac→Prop},(k=0∨0<new.length)→W (some (Al.done (Al.next (pl++new,A1 (k+1),c'.2.2,c'.2.1,c'.1,b',Y)))) (BX P (BX (λs:List Aa×Int×List (List Int)×List Int×List Aa×List (Int×Int)×List Int=>((J s.1 s.2.2.2.2.2.2∧(∀ p∈s.1,∀ y,s.2.2.2.2.2.2[p.1.toNat]? = some y→0≤y)∧0≤s.2.1)∧s.2.2.2.2.2.1=b'∧s.2.2.2.2.1=c'.1∧s.2.2.2.1=c'.2.1∧s.2.2.1=c'.2.2∧(s.2.1.toNat+(neg s.2.2.2.2.2.2+if s.2.1=0 then 1 else 0)≤c'.1.length+1)∧(s.2.1=0→∀ y∈s.2.2.2.2.2.2,y<0)∧(0<s.2.1→s.1=[]→∀ i,i<c'.1.length→Hb c' b' i∧∀ j,¬ PP c' b' i j))∧(neg s.2.2.2.2.2.2+if s.2.1=0 then 1 else 0)<neg a'+if k=0 then 1 else 0) λr:Bb=>(r.1.length≤192∧∀ p∈r.1,Pu c' p)∧(r=([],0)→DisV c'∧∃ s,K0 c'=some s∧s.1.length=c'.1.length∧∀ i,i<c'.1.length→Hb c' s.1 i∧∀ j,¬ PP c' s.1 i j))):=λ{P} hk=>by
  have e:A1 (k+1)=k+1:=A8 (by omega) (by omega);refine M4a ⟨⟨⟨⟨G,k2,n1⟩,n4,by simp only;omega⟩,rfl,rfl,rfl,rfl,?_,λZ=>by simp only at Z;omega,λ_ en i hi=>?_⟩,?_⟩;simp only;rw [e,M1e (by omega)];split at U <;> split at j6 <;> omega
  simp only at en;have H:=(List.append_eq_nil_iff.1 en)
  rcases Int.lt_or_le 0 k with hk0|hk0;exact j8 hk0 H.1 i hi;exact k4 (by omega) H.2 i (by omega);simp only;rw [e,M1e (by omega)];split at U <;> split <;> omega
 refine M49 (λhk=>W.beq (λel=>?_) λne=>az (.inr ?_)) λhk=>az (.inl (by omega))
 have e0:new=[]:=M2k (by unfold ln at el;omega);refine M4c (YM _ (by omega)) λr hr=>M4a ⟨⟨by have:=hr.length_eq;simp only;omega,λp hp=>G p (hr.mem_iff.1 hp)⟩,λe=>⟨v,_,es,hs,?_⟩⟩
 have er:r=[]:=M1t Prod.fst e;rw [er,e0] at hr;have:=hr.length_eq;have ep:pl=[]:=M2k (by simp at this;omega);exact j8 hk ep
 unfold ln at ne;omega
theorem WN (d:Ac)(v:DisV d)(l:List Aa)(hl:l.length≤192){sp:List (Int×Int)}{ok:Bool}(es:K0 d=some (sp,ok))(hs:sp.length=d.1.length):W (mI (d,l)) λr=>(l=[]∧∀ i,i<d.1.length→Hb d sp i∧∀ j,¬ PP d sp i j)→r=true:=by
 have hn:=v.n;unfold mI wq;simp only;refine W.mk (DP _) (by unfold ln;omega) (W.of es ?_);refine M4e d.1.length (λs=>s.1) (λt s=>s.2.length=d.1.length∧∀ k (hk:k<s.2.length),k<t→s.2[k] = -1) (by omega) rfl (by exact ⟨by simp [ln],λk _ q=>by omega⟩) λt s ht J I=>?_
 obtain ⟨i,a⟩:=s;simp only at J I ⊢;subst J;obtain ⟨Z,i2⟩:=I;refine M49 (λq=>?_) (λq=>?_)
 have B:t<d.1.length:=by simp [ln] at q;omega
 refine M4b (by omega) (W.nx ⟨B,rfl,by simpa using Z,λk hk q=>?_⟩);simp only [M1i] at hk ⊢;rw [List.getElem_set]
 split;rfl;exact i2 k (by simpa using hk) (by omega);have q:d.1.length≤t:=by simp [ln] at q;omega
 refine M4c (P:=λr:Bool=>(l=[]∧∀ i,i<d.1.length→Hb d sp i∧∀ j,¬ PP d sp i j)→r=true) ?_ λr hr=>M4a hr
 refine W.st (P:=λrs=>rs.length=d.1.length∧(∀ p∈l,0≤p.1∧p.1<(d.1.length:Int))∧(l=[]→∀ k (hk:k<rs.length),rs[k] = -1)) ?_ λrs av=>?_
 refine M4e l.length (λs=>s.1) (λt s=>s.2.length=d.1.length∧(∀ i (hi:i<l.length),i<t→0≤l[i].1∧l[i].1<d.1.length)∧(t=0→s.2=a)) (by omega) rfl (by exact ⟨Z,λi _ q=>by omega,λ_=>rfl⟩) λt s aw J I=>?_
 obtain ⟨i,a'⟩:=s;simp only at J I ⊢;subst J;obtain ⟨Z,i3,i4⟩:=I;refine M49 (λq=>?_) (λq=>M4a ⟨Z,λp hp=>?_,λe k hk=>?_⟩)
 have B:t<l.length:=by unfold ln at q;omega
 have ne:∀ {P:Prop},(l=[]∧P)→False:=λh=>by rw [h.1] at B;simp at B
 refine M4b B (M49 (λ_=>M4a λe=>(ne e).elim) λa1=>M49 (λ_=>M4a λe=>(ne e).elim) λa2=>?_);unfold ln at a2;refine M4f (by omega) (by omega) λ_ _ _=>M48 (λ_=>M4a λe=>(ne e).elim) λ_=>M48 (λ_=>M4a λe=>(ne e).elim) λ_=>M4f (by omega) (by omega) λ_ _ _=>W.nx ⟨B,rfl,by simpa using Z,λi hi q=>?_,λe=>by omega⟩
 by_cases e:i=t;subst e;omega;exact i3 i hi (by omega);obtain ⟨k,hk,rfl⟩:=M1o.1 hp;exact i3 k hk (by unfold ln at q;omega);subst e;have e:=i4 (by simpa using aw);subst e;exact i2 k hk (by omega)
 ·obtain ⟨r1,r2,r3⟩:=av;refine W.st (P:=λ_=>True) ?_ λ_ _=>?_
  ·refine M4h l.length (λ_=>True) (by omega) trivial λt ht _=>M49 (λq=>?_) (λq=>M4a trivial)
   have B:t<l.length:=by unfold ln at q;omega
   refine M4b B ?_;have hp:=r2 _ (M03 B);generalize l[t]=p at hp;obtain ⟨p1,p2⟩:=hp;have p3:p.1<(sp.length:Int):=by omega
   have dn:∀ {P:Int→Prop} {G:PUnit→Prop},W (some (Al.done (Al.done false))) (BX P (BX G λr:Bool=>(l=[]∧∀ i,i<d.1.length→Hb d sp i∧∀ j,¬ PP d sp i j)→r=true)):=λ{P G}=>M4a (show BX G _ (Al.done false) from λe=>by rw [e.1] at B;simp at B)
   have nx:∀ {Q:Al PUnit Bool→Prop},W (some (Al.next (A1 ((t:Int)+1)))) (BX (λs':Int=>t<l.length∧s'=A1 ((t:Int)+1)∧True) Q):=λ{Q}=>W.nx ⟨B,rfl,trivial⟩
   refine M48 (λ_=>?_) λ_=>M49 (λ_=>dn) λa1=>M49 (λ_=>dn) λa2=>?_
   ·repeat' first | exact nx | exact dn | refine M4f p1 p2 λ_ _ _=>?_ | refine M4f p1 p3 λ_ _ _=>?_ | refine M4f (v.h _ (by assumption)).1 (v.h _ (by assumption)).2 λ_ _ _=>?_ | refine M48 (λ_=>?_) λ_=>?_
   ·have p4:0≤p.2.2.1:=by omega
    have p5:p.2.2.1<(d.1.length:Int):=by unfold ln at a2;omega
    have p6:p.2.2.1<(sp.length:Int):=by omega
    have p7:p.2.2.1<(rs.length:Int):=by omega
    repeat' first | exact nx | exact dn | refine M4f p1 p2 λ_ _ _=>?_ | refine M4f p1 p3 λ_ _ _=>?_ | refine M4f p4 p5 λ_ _ _=>?_ | refine M4f p4 p6 λ_ _ _=>?_ | refine M4f p4 p7 λ_ _ _=>?_ | refine M4f (v.h _ (by assumption)).1 (v.h _ (by assumption)).2 λ_ _ _=>?_ | refine M48 (λ_=>?_) λ_=>?_
  ·refine M4h d.1.length (λ_=>True) (by omega) trivial λi hi _=>M49 (λq=>?_) (λq=>M4a λ_=>rfl)
   have A:i<d.1.length:=by unfold ln at q;omega
   have au:i<rs.length:=by omega
   have E:i<sp.length:=by omega
   refine M4b au (M48 (λ_=>W.nx ⟨A,rfl,trivial⟩) λ_=>?_);refine M4h d.1.length (λ_=>True) (by omega) trivial λj hj _=>M49 (λq=>?_) (λq=>M4a ⟨A,rfl,trivial⟩)
   have O:j<d.1.length:=by unfold ln at q;omega
   have U:j<rs.length:=by omega
   have Y:j<sp.length:=by omega
   have hm:=v.h _ (M03 A);obtain ⟨hd,aj⟩:∃ hd,d.2.1[d.1[i].1.toNat]? = some hd:=⟨_,M00 (show d.1[i].1.toNat<d.2.1.length by omega)⟩
   have eh:idx d.2.1 d.1[i].1=some hd:=by rw [DQ _ hm.1,aj]
   have nx:∀ {Q:Al Int Bool→Prop},W (some (Al.next (A1 ((j:Int)+1)))) (BX (λs':Int=>j<d.1.length∧s'=A1 ((j:Int)+1)∧True) Q):=λ{Q}=>W.nx ⟨O,rfl,trivial⟩
   by_cases hC:l=[]∧∀ i,i<d.1.length→Hb d sp i∧∀ j,¬ PP d sp i j;obtain ⟨a,x,e1,e2,e3⟩:=(hC.2 i A).1;have hB:=(hC.2 i A).2 j;rw [M00 A] at e1;rw [M00 E] at e2;cases e1;cases e2;rw [aj] at e3;cases e3;have al:¬ A7 rs (j:Int) rs[j]≥0:=by rw [Aw U,r3 hC.1 j U];omega
   have H:A7 sp (i:Int) sp[i]=sp[i]:=Aw E;have g2:A7 sp (j:Int) sp[j]=sp[j]:=Aw Y;refine M4b E (M4b A (W.of eh ?_));refine M4k (by rw [H];exact M3j _) ?_;have tl:∀ {x:Option (Al Int (Al Int Bool))} {Q:Al Int Bool→Prop},W ((idx sp (i:Int)).bind λv=>(idx d.1 (i:Int)).bind λw=>(idx d.2.1 w.1).bind λu=>bif !((A7 sp (i:Int) v).1==u) then some (.done (.done false)) else (idx rs (j:Int)).bind λr=>bif decide (A7 rs (j:Int) r≥0) then x else some (.next (A1 ((j:Int)+1)))) (BX (λs':Int=>j<d.1.length∧s'=A1 ((j:Int)+1)∧True) Q):=λ{x Q}=>M4b E (M4b A (W.of eh (M4g (by rw [H];simp) (M4b U (W.df al nx)))))
   refine M4b O (M4b A (W.beq (λk1=>?_) λ_=>tl));refine M4b O (M4b A (M49 (λk2=>?_) λ_=>tl));refine M4b Y (M4b E (W.beq (λk3=>?_) λ_=>tl));refine M4b Y (M4b E (M4b E (M4b A (W.of eh (M4g (by rw [H];simp) (W.df ?_ (M4b U (W.df al nx))))))));rw [H,g2];rw [H,g2] at k3;exact λk4=>hB ⟨_,_,_,_,M00 A,M00 O,M00 E,M00 Y,k1,k2,k3,k4⟩
   ·have dn:∀ {P:Int→Prop} {G:Int→Prop},W (some (Al.done (Al.done false))) (BX P (BX G λr:Bool=>(l=[]∧∀ i,i<d.1.length→Hb d sp i∧∀ j,¬ PP d sp i j)→r=true)):=λ{P G}=>M4a (show BX G _ (Al.done false) from λe=>absurd e hC)
    repeat' first | exact nx | exact dn | refine W.of eh ?_ | refine M4b A ?_ | refine M4b O ?_ | refine M4b E ?_ | refine M4b Y ?_ | refine M4b U ?_ | refine M48 (λ_=>?_) λ_=>?_
theorem pt (d:Ac)(h:CG d)(l:List Aa)(hl:l.length≤192):W (Yk (d,l)) λr=>r.2=0→DisV d:=by
 unfold Yk mK;simp only;refine M4c (R3 d h) λB hv=>M4q (λ_=>W.ret λe=>by cases e) λA=>?_
 obtain ⟨v,⟨sp,ok⟩,es,hs⟩:=hv A;exact M4c (WN d v l hl es hs) λr _=>W.ret λ_=>v
theorem hZ (d:Ac)(h:CG d){s:List (Int×Int)×Bool}(v:DisV d)(es:K0 d=some s)(hs:s.1.length=d.1.length)(A:∀ i,i<d.1.length→Hb d s.1 i∧∀ j,¬ PP d s.1 i j)(hv:V5 d=some true):Yk (d,[])=some (true,0):=by
 obtain ⟨sp,ok⟩:=s;unfold Yk mK;simp only;refine M4o (W.of hv (M4q (λe=>by cases e) λ_=>M4c (WN d v [] (by simp) es hs) λr hr=>W.ret ?_));rw [hr ⟨rfl,A⟩]
theorem WO (s:List (List Int))(h1:s.length≤24)(h2:∀ l∈s,l.length≤192):mM s=some s.flatten:=by
 have lf:∀ t,t≤s.length→((s.take t).flatten).length≤5000:=λt ht=>by
  have:=SW h1 h2 t 0;unfold BA at this
  simpa using this
 unfold mM wx;refine M4o (W.st (P:=λv=>v=(s.flatten.length:Int)) ?_ λv hv=>?_);refine M4e s.length (λa=>a.2) (λt a=>a.1=((s.take t).flatten.length:Int)) (by omega) rfl (by simp) λt a ht G E=>?_
 obtain ⟨c,i⟩:=a;simp only at G E ⊢;subst G E;refine M49 (λq=>?_) (λq=>M4a (show _=_ by rw [show t=s.length by unfold ln at q;omega,M1m]));have A:t<s.length:=by unfold ln at q;omega
 have h3:=lf t (by omega);have O:=h2 _ (M03 A);refine M4b A ?_;unfold ln;rw [A8 (by omega) (by omega)];refine W.df (by omega) (W.nx ⟨A,rfl,?_⟩);simp only;rw [M08 A,M2G];simp
 ·have hl:=lf s.length (M1g _);rw [M1m] at hl;subst hv;have H:∀ z:List Int,z=[]→W (std.run (λB:(List Int)×Int=>bif decide (B.2<ln s) then (idx s B.2).bind λI=>bif Go.T.room B.1 I then some (Al.next (B.1++I,A1 (B.2+1))) else none else some (.done B.1)) (z,0)) λr=>r=s.flatten:=λz U=>by
   subst U;refine M4e s.length (λa=>a.2) (λt a=>a.1=(s.take t).flatten) (by omega) rfl (by simp) λt a ht G E=>?_
   obtain ⟨c,i⟩:=a;simp only at G E ⊢;subst G E;refine M49 (λq=>?_) (λq=>M4a (by (try simp only);rw [show t=s.length by unfold ln at q;omega,M1m]));have A:t<s.length:=by unfold ln at q;omega
   have h3:=lf t (by omega);have O:=h2 _ (M03 A);refine M4b A (M4d (by omega) (W.nx ⟨A,rfl,?_⟩));simp only;rw [M08 A,M2G];simp
  have J:A1 (0-0)=0:=rfl;rw [J,A8 (by omega) (by omega)];refine W.df (by omega) (M49 (λ_=>M4k (by rw [Int.sub_zero,M1p (show (0:Int)<(s.flatten.length:Int) by omega),M1p (show (s.flatten.length:Int)≤4294967296 by omega)];rfl) (W.sub (by omega) (by omega) (by omega) λY h3 _=>?_)) λ_=>H [] rfl);exact H Y (by rw [h3];simp)
def SubR (a b:List (List Int)):Prop:=a.length=b.length∧∀ (t:Nat) (r s:List Int),a[t]? = some r→b[t]? = some s→r.Sublist s
theorem SubR.flat:∀ {a b:List (List Int)},SubR a b→a.flatten.Sublist b.flatten
 | [],[],_=>M34 _
 | [],b::bs,h=>by cases h.1
 | a::q,[],h=>by cases h.1
 | a::q,b::bs,h=>by
  rw [M2H,M2H];exact (h.2 0 a b rfl rfl).append (SubR.flat ⟨by have:=h.1;simpa using this,λt r s h1 h2=>h.2 (t+1) r s (by simpa using h1) (by simpa using h2)⟩)
theorem WP (d:Ac)(h:CG d)(l:List Aa)(hl:l.length≤192):W (mN (d,l,false)) λr=>SubR r d.2.2∧(l=[]→∀ x∈r,x=[]):=by
 refine ⟨_,M1d ⟨by have:=h.t;show d.2.2.length≤_;omega,λr hr=>by have:=h.l r hr;omega,by show l.length≤_;omega⟩,⟨by simp,λt r s h1 h2=>?_⟩,λe x A=>?_⟩;rw [M1n,h2] at h1;cases h1;exact M2Y
 obtain ⟨r,_,rfl⟩:=M1L.1 A;subst e;exact List.filter_eq_nil_iff.2 λa _=>by simp
theorem WQ (l:List Aa)(w:Int)(hl:l.length≤100000):W (Jt (l,w)) λr=>(l=[]→0≤w→w≤12→r=0):=by
 unfold Jt ma;simp only;refine M49 (λq=>W.ret λe=>by subst e;simp [ln] at q) λ_=>M49 (λ_=>M4q (λq=>W.ret λe _ h=>absurd h (M21 q)) λ_=>?_) λq=>W.ret λe h=>absurd h q
 refine M4h l.length (λ_=>True) (by omega) trivial λt ht _=>M49 (λq=>?_) (λq=>M4a λ_ _ _=>rfl)
 have A:t<l.length:=by unfold ln at q;omega
 have dn:∀ {P:Int→Prop} {z:Int},W (some (Al.done z)) (BX P λr:Int=>(l=[]→0≤w→w≤12→r=0)):=λ{P z}=>M4a λe=>by rw [e] at A;simp at A
 have nx:W (some (Al.next (A1 ((t:Int)+1)))) (BX (λB:Int=>t<l.length∧B=A1 ((t:Int)+1)∧True) λr:Int=>(l=[]→0≤w→w≤12→r=0)):=W.nx ⟨A,rfl,trivial⟩;refine M4b A (M48 (λ_=>M48 (λ_=>dn) λ_=>M48 (λ_=>M48 (λ_=>dn) λ_=>M48 (λ_=>M48 (λ_=>dn) λ_=>M48 (λ_=>M48 (λ_=>dn) λ_=>M49 (λE=>?_) λ_=>nx) λ_=>dn) λ_=>dn) λ_=>dn) λ_=>dn);rw [A8 (by omega) (by omega)];exact M4f (by omega) (by omega) λ_ _ _=>M48 (λ_=>dn) λ_=>nx
theorem SZ {ρ:Type}(its:List Aa)(o:List Int)(ho:Rg its.length o)(hl:o.length≤1000){f:List Aa→Option ρ}{Q:ρ→Prop}(k:∀ v:List Aa,v.length=o.length→(∀ (k:Nat) (hk:k<o.length),v[k]? = its[(o[k]).toNat]?)→W (f v) Q):W ((std.run (λA:Int×List Aa=>bif decide (A.1<ln o) then (idx o A.1).bind λU=>(idx its U).bind λO=>bif Go.T.room A.2 ([O]) then some (Al.next (A1 (A.1+1),A.2++([O]))) else none else some (.done (Al.next A.2))) (0,[])).bind (AF f)) Q:=by
 refine W.st (P:=λv:List Aa=>v.length=o.length∧∀ (k:Nat) (hk:k<o.length),v[k]? = its[(o[k]).toNat]?) ?_ λv hv=>k v hv.1 hv.2
 refine M4e o.length (λs=>s.1) (λt s=>s.2.length=t∧∀ (k:Nat) (hk:k<o.length),k<t→s.2[k]? = its[(o[k]).toNat]?) (by omega) rfl (by exact ⟨rfl,λk _ q=>by omega⟩) λt s ht G E=>?_
 obtain ⟨i,a⟩:=s;simp only at G E ⊢;subst G;obtain ⟨I,J⟩:=E;refine M49 (λq=>?_) (λq=>M4a (by
  have e:t=o.length:=by unfold ln at q;omega
  exact ⟨by (try simp only);omega,λk hk=>J k hk (by omega)⟩))
 have B:t<o.length:=by unfold ln at q;omega
 have H:=ho _ (M03 B);refine M4b B (M4f H.1 H.2 λx ex _=>M4d (by simp;omega) (W.nx ⟨B,rfl,by simp [I],λk hk q=>?_⟩));by_cases e:k=t;subst e;simp only;rw [M1a (by omega),I,ex];simp;simp only;rw [M1f (by omega)];exact J k hk (by omega)
theorem WR (d:Ac)(h:CG d)(l:List Aa)(hl:l.length≤192)(w:Int):W (OT (d,l,w)) λr=>r.2.2=0→r.2.1.length≤192∧r.1.1.length=r.2.1.length∧r.1.2=w∧(∀ i∈r.2.1,0≤i∧i<(d.1.length:Int))∧r.2.1.Nodup∧(∀ it∈d.1,0≤it.1∧it.1<(d.2.1.length:Int))∧∀ (k:Nat) (hk:k<r.2.1.length),r.1.1[k]? = d.1[(r.2.1[k]).toNat]?:=by
 unfold OT mO;simp only;refine M4c (pt d h l hl) λI hv=>M4i (λe=>W.ret λq=>absurd q e) λe=>M48 (λ_=>W.ret λq=>by cases q) λ_=>M48 (λ_=>W.ret λq=>by cases q) λ_=>M4q (λ_=>W.ret λq=>by cases q) λ_=>?_
 have v:=hv e;have hn:=v.n;refine M4c (WP d h l hl) λB A=>?_
 have hs:=A.1.flat;have H:∀ x∈B,x.length≤192:=λx E=>by
  obtain ⟨t,ht,rfl⟩:=M1o.1 E;have G:t<d.2.2.length:=by rw [←A.1.1];exact ht
  have:=(A.1.2 t _ _ (M00 ht) (M00 G)).length_le;have:=h.l _ (M03 G);omega
 have g:Rg d.1.length B.flatten:=λx E=>v.r x (hs.mem E)
 have nd:=PO hs v.d;have gl:=Gw g nd;refine W.of (WO B (by rw [A.1.1];exact h.t) H) ?_;refine SZ d.1 B.flatten g (by omega) λits h1 h2=>M4c (WQ its w (by omega)) λc _=>M4i (λe=>W.ret λq=>absurd q e) λ_=>W.ret λ_=>⟨by (try simp only);omega,h1,rfl,g,nd,v.h,h2⟩
theorem WS (d:Ac)(h:CG d):W (Oq d) λr=>r.1.length≤192∧∀ p∈r.1,(0≤p.1∧p.1<(d.1.length:Int))∧(p.2.2.1 = -1∨(0≤p.2.2.1∧p.2.2.1<(d.1.length:Int))):=
 W.mono (WM d h) λr hr=>hr.1
theorem i7 (d:Ac)(h:CG d)(w:Int)(H:0≤w∧w≤12)(hp:Oq d=some ([],0)):OT (d,[],w)=some (([],w),[],0)∧∀ it∈d.1,0≤it.1:=by
 obtain ⟨r,G,_,hr⟩:=WM d h;rw [hp] at G;cases G;obtain ⟨v,s,es,hs,U⟩:=hr rfl;have hv:V5 d=some true:=by
  obtain ⟨b,E,hb⟩:=R3 d h;cases b with
  | true=>exact E
  | false=>
   unfold Oq mG at hp;rw [E] at hp;cases hp
 refine ⟨?_,λit hit=>(v.h it hit).1⟩;unfold OT mO;simp only;refine M4o (W.of (hZ d h v es hs U hv) (M4g (by rfl) (W.df (by omega) (W.df (by omega) (M4g (by rfl) (M4c (WP d h [] (by simp)) λI A=>?_))))));have J:I.flatten=[]:=List.flatten_eq_nil_iff.2 (A.2 rfl);refine W.of (WO I (by rw [A.1.1];exact h.t) λx B=>by rw [A.2 rfl x B];simp) ?_;rw [J];refine SZ d.1 [] (λx B=>by cases B) (by simp) λits h1 _=>?_
 have O:its=[]:=M2k h1;subst O;exact M4c (WQ [] w (by simp)) λc Y=>M4i (λe=>absurd (Y rfl H.1 H.2) e) λ_=>W.ret rfl
theorem pv (v:List Int)(B:0<v.length)(h1:v.length≤100000):W (mn v) λm=>m∈v∧∀ y∈v,y≤m:=by
 unfold mn w5;refine W.st (P:=λ_=>True) (W.df (by unfold ln;omega) (W.nx trivial)) λ_ _=>M4v (n:=0) rfl B λG A=>?_
 have E:G∈v:=M1k A;refine W.run (λs=>(1≤s.2∧s.2≤(v.length:Int))∧s.1∈v∧∀ i (hi:i<v.length),(i:Int)<s.2→v[i]≤s.1) (λs=>v.length-s.2.toNat) (by exact ⟨⟨by (try simp only);omega,by (try simp only);omega⟩,E,λi hi q=>by
  simp only at q;have:i=0:=by omega
  subst this;rw [M00 B] at A;cases A;exact M45 _⟩) (by (try simp only);omega) λs hs=>?_
 obtain ⟨m,i⟩:=s;obtain ⟨⟨a1,a2⟩,a3,a4⟩:=hs;simp only at a1 a2 a3 a4 ⊢;refine M49 (λq=>?_) λq=>M4a ⟨a3,λy hy=>?_⟩
 ·unfold ln at q;obtain ⟨t,rfl⟩:=M1j (show 0≤i by omega);have ht:t<v.length:=by omega
  refine M4b ht (W.nx ?_);rw [A8 (by omega) (by omega)];refine ⟨⟨⟨by (try simp only);omega,by (try simp only);omega⟩,?_,λj hj q2=>?_⟩,by (try simp only);omega⟩;simp only;rcases M3Y m v[t] with h|h
  rw [M3L h];exact M03 ht;rw [M3U h];exact a3;simp only at q2 ⊢;by_cases e:j=t;subst e;exact Int.le_max_right _ _;exact M3I (a4 j hj (by omega)) (Int.le_max_left _ _)
 obtain ⟨j,hj,rfl⟩:=M1o.1 hy;exact a4 j hj (by unfold ln at q;omega)
theorem xZ (p:List Int)(h0:0<p.length)(h1:p.length≤1000):W (std.run (λA:Int×AC=>bif decide (A.1<A.2.1) then (Go.V.idx A.2.2 A.2.1).bind λO=>(Go.V.idx A.2.2 A.1).bind λZ=>(Go.V.idx A.2.2 A.1).bind λac=>(Go.V.idx (List.set A.2.2 (Int.toNat A.1) (A7 A.2.2 A.2.1 O)) A.2.1).bind λad=>some (Al.next (A1 (A.1+1),A1 (A.2.1-1),List.set (List.set A.2.2 (Int.toNat A.1) (A7 A.2.2 A.2.1 O)) (Int.toNat A.2.1) (A7 A.2.2 A.1 Z))) else some (.done (A.2.2,(0:Int)))) (0,A1 ((ln p)-1),p)) λr=>r.2=0∧r.1.length=p.length∧∀ k,k<p.length→r.1[k]? = p[p.length-1-k]?:=by
 have U:A1 (ln p-1)=((p.length-1:Nat):Int):=by unfold ln;rw [A8 (by omega) (by omega)];omega
 rw [U];refine W.run (λs=>∃ i j:Nat,s.1=(i:Int)∧(j:Int)=s.2.1+1∧i+j=p.length∧s.2.2.length=p.length∧∀ k,k<p.length→s.2.2[k]? = if k<i∨j≤k then p[p.length-1-k]? else p[k]?) (λs=>(s.2.1-s.1+1).toNat) ⟨0,p.length,rfl,by (try simp only);omega,by omega,rfl,λk hk=>by rw [M1e (by omega)]⟩ (by (try simp only);omega) λs hs=>?_
 obtain ⟨a,b,l⟩:=s;obtain ⟨i,j,G,Y,e3,E,B⟩:=hs;simp only at G Y E B ⊢;subst G;refine M49 (λq=>?_) λq=>M4a ⟨rfl,E,λk hk=>?_⟩
 ·obtain ⟨t,rfl⟩:=M1j (show 0≤b by omega);have hi:i<l.length:=by omega
  have ht:t<l.length:=by omega
  refine M4b ht (M4b hi (M4b hi (M4b (by rw [M2x];exact ht) (W.nx ?_))));rw [Aw ht,Aw hi,A8 (by omega) (by omega),A8 (by omega) (by omega)];refine ⟨⟨i+1,t,by (try simp only);omega,by (try simp only);omega,by omega,by simp only [M2x];exact E,λk hk=>?_⟩,by (try simp only);omega⟩;simp only [M1i];rw [M22,M22];by_cases H:t=k;subst H;have:=B i (by omega);rw [M1e (by omega),M00 hi] at this;rw [M1d rfl,M1d (by rw [M2x];exact ht),M1d (by omega),this,show p.length-1-t=i by omega]
  rw [M1e H];by_cases I:i=k;subst I;have:=B t (by omega);rw [M1e (by omega),M00 ht] at this;rw [M1d rfl,M1d hi,M1d (by omega),this,show p.length-1-i=t by omega]
  rw [M1e I,B k hk];by_cases J:k<i∨j≤k;rw [M1d J,M1d (by omega)];rw [M1e J,M1e (by omega)]
 rw [B k hk];split;rfl;rw [show p.length-1-k=k by omega]
structure y4 (its:List Aa) (base codes:List Int) (m:Nat) (f:Nat→Nat):Prop where
 pm:m≤32
 pz:m=0→its.length=0
 pf:∀ t,t<m→f t<its.length
 ps:∀ t,t+1<m→kd its (f t) (f (t+1))≠0∧vw codes (f t)+kd its (f t) (f (t+1))-1=vw base (f (t+1))
 pb:0<m→vw base (f 0)=0
 pl:0<m→∀ b,b<its.length→vw codes b≤vw codes (f (m-1))
def qH (m:Nat) (f:Nat→Nat):List Int:=(List.range m).map λt=>(f t:Int)
theorem IV (m:Nat)(f:Nat→Nat):(qH m f).length=m:=by simp [qH]
theorem Kv {m:Nat}{f:Nat→Nat}{t:Nat}(h:t<m):Go.V.idx (qH m f) (t:Int)=some (f t:Int):=by
 rw [H1];unfold qH;rw [M1n,M1I h];rfl
section
variable {its : List Aa} {w : Int}
theorem pw:W (mj (its,w)) λr=>r.2=0→QM its w∧Jt (its,w)=some 0∧∃ base,V4 ((its,w),Js its)=some (base,r.1.2,0)∧Sol its w base r.1.2∧0≤r.1.1∧(∀ b,b<its.length→∃ d,BM (vw r.1.2 b).toNat d∧d≤r.1.1)∧(r.1.1=0∨∃ b,b<its.length∧BM (vw r.1.2 b).toNat r.1.1):=by
 obtain ⟨v0,ev,hv⟩:=Yx its w;unfold mj vY;refine W.of ev (M4i (λhne=>W.ret λe=>absurd e hne) λA=>?_);subst A;have g:=hv rfl;have Z:=g.n;obtain ⟨⟨base,codes,Y⟩,es,hs⟩:=oy g;refine W.of (QP g) (W.of es (M4i (λhne=>W.ret λe=>absurd e hne) λA=>?_));simp only at A;subst A;have s:=hs rfl;simp only at s;have sl:=s.cl;simp only;refine M4e codes.length (λs=>s.1) (λt x=>0≤x.2∧(∀ b,b<t→∃ d,BM (vw codes b).toNat d∧d≤x.2)∧(x.2=0∨∃ b,b<its.length∧BM (vw codes b).toNat x.2)) (by omega) rfl (by exact ⟨M45 0,λb q=>by omega,.inl rfl⟩) λt x ht G E=>?_
 obtain ⟨i,x⟩:=x;simp only at G E ⊢;subst G;obtain ⟨U,H,I⟩:=E;refine M49 (λq=>?_) (λq=>M4a λ_=>⟨g,ev,base,es,s,U,λb hb=>H b (by unfold ln at q;omega),I⟩);have B:t<codes.length:=by unfold ln at q;omega
 have c:=(s.at' t (by omega)).c;have m0:=(s.at' t (by omega)).m0;refine M4b B ?_;rw [Aw B,←BB B];have k:=QL (vw codes t).toNat (by omega);rw [M1v (by omega)] at k;refine M4c k λr hr=>W.nx ⟨B,rfl,?_,λb hb=>?_,?_⟩
 simp only;omega;simp only;by_cases e:b=t;subst e;exact ⟨r.1,hr.2,Int.le_max_right _ _⟩;obtain ⟨d,J,O⟩:=H b (by omega);exact ⟨d,J,M3I O (Int.le_max_left _ _)⟩;simp only;rcases M3Y x r.1 with h|h
 rw [M3L h];exact .inr ⟨t,by omega,hr.2⟩;rw [M3U h];exact I
variable (g : QM its w) (hv : Jt (its, w) = some 0) {base codes : List Int} (es : V4 ((its, w), Js its) = some (base, codes, 0)) (s : Sol its w base codes)
include g hv es s
theorem px:W (mq (its,w)) λr=>∃ m f,r.1=qH m f∧y4 its base codes m f:=by
 have gn:=g.n;have sl:=s.cl;have bl:=s.bl;unfold mq w7;refine W.of hv (M4g rfl (W.of (QP g) (W.of es (M4g rfl (W.beq (λe=>W.ret ⟨0,λ_=>0,rfl,by omega,λ_=>by unfold ln at e;simp only at e;omega,(λt q=>by omega),(λt q=>by omega),(λq=>by omega),λq=>by omega⟩) λhne=>?_)))));have ag:0<codes.length:=by unfold ln at hne;simp only at hne;omega
 simp only;refine M4c (pv codes ag (by omega)) λmx aa=>?_
 obtain ⟨B,af,ei,eo⟩:=IK aa.1;refine W.of (Dl codes mx (by omega)) ?_;rw [eo];have cm:∀ b,b<its.length→vw codes b≤vw codes B:=λb hb=>by
  rw [BB af,ei];exact aa.2 _ (Jx (by omega))
 let N:List Nat→Nat→Nat:=λl k=>l.getD k 0
 have E:∀ l x k,N (l++[x]) k=if k<l.length then N l k else if k=l.length then x else 0:=λl x k=>by
  show (l++[x]).getD k 0=_
  rw [M1Q,List.getElem?_append];split;show _=l.getD k 0
  rw [M1Q];by_cases e:k=l.length;subst e;simp;rw [M1h (by simp;omega),M1e e];rfl
 let Ch:List Nat→Nat→Prop:=λl c=>0<l.length∧N l 0=B∧N l (l.length-1)=c∧(∀ k,k<l.length→N l k<its.length)∧(∀ k,k+1<l.length→kd its (N l (k+1)) (N l k)≠0∧vw codes (N l (k+1))+kd its (N l (k+1)) (N l k)-1=vw base (N l k))
 refine W.st (P:=λp=>∃ l:List Nat,p=l.map (λa:Nat=>(a:Int))∧∃ c,Ch l c∧vw base c=0∧l.length≤32) ?_ λp hp=>?_
 refine W.run (λv=>∃ c l,v=(((c:Nat):Int),l.map (λa:Nat=>(a:Int)))∧Ch l c∧(l.length:Int)+ky its (c:Int)≤32) (λv=>(ky its v.1).toNat) ⟨B,[B],rfl,⟨by simp,rfl,rfl,λk hk=>?_,λk hk=>by simp at hk⟩,?_⟩ ?_ λv U=>?_
 have:k=0:=by simpa using hk
 subst this;show B<_
 omega;have:=g.b _ (M03 (show B<its.length by omega));unfold ky;simp only [M1i];rw [Au (by omega)];simp;omega;have:=g.b _ (M03 (show B<its.length by omega));unfold ky;simp only [M1i];rw [Au (by omega)];omega;obtain ⟨c,l,rfl,Y,ak⟩:=U;obtain ⟨J,O,c3,I,c5⟩:=id Y;have H:c<its.length:=by rw [←c3];exact I _ (by omega)
 have kc:0≤ky its (c:Int)∧ky its (c:Int)≤31:=by
  have:=g.b _ (M03 H);unfold ky;simp only [M1i];rw [Au H];exact this
 simp only;refine M4b (by omega) ?_;rw [←BB (by omega)];refine M49 (λhb=>?_) λhb=>M4a ⟨l,rfl,c,Y,by have:=(s.at' c H).m0;omega,by omega⟩
 obtain ⟨a0,a1,a2,a3⟩:=(s.at' c H).ex hb;refine M4e its.length (λs=>s.2) (λt s=>s.1=(c:Int)∧t≤a0) (by omega) rfl (by exact ⟨rfl,M2j _⟩) λt st ht Z U=>?_
 obtain ⟨cc,i⟩:=st;obtain ⟨rfl,am⟩:=U;simp only at Z ⊢;subst Z;have A:t<its.length:=by omega
 refine M4w (by unfold ln;omega) (W.of (IP A) (W.of (IQ H) ?_));have nx:t≠a0→∀ {Q:Al AC (Al (List Int) ((List Int)×Int))→Prop},W (some (Al.next ((c:Int),A1 ((t:Int)+1)))) (BX (λs':Int×Int=>t<its.length∧s'.2=A1 ((t:Int)+1)∧s'.1=(c:Int)∧t+1≤a0) Q):=λh {Q}=>W.nx ⟨A,rfl,rfl,by omega⟩
 refine M49 (λhk=>?_) λhk=>nx λe=>by subst e;have:=Jy a2;omega
 have k1:=Jy (its:=its) (a:=t) (b:=c) (by omega);have ct:=(s.at' t A).c;have mt:=(s.at' t A).m0;refine M4b (by omega) (M4b (by omega) ?_);rw [Aw (by omega),←BB (d:=codes) (by omega),←BB (d:=base) (by omega),A8 (n:=vw codes t+kd its t c) (by omega) (by omega),A8 (by omega) (by omega)];refine W.beq (λe=>M4d (by simp;omega) (M4a ?_)) λe=>nx λG=>by subst G;exact e a3
 have al:=fw (its:=its) (a:=t) (b:=c) (by omega);refine ⟨⟨t,l++[t],by simp,⟨by simp,?_,?_,λk hk=>?_,λk hk=>?_⟩,by simp only [M1l,M31];omega⟩,?_⟩;rw [E,M1d J];exact O;rw [M1l,M31,E,M1e (by omega),M1d (by omega)];rw [E];split;exact I k (by omega);rw [M1l,M31] at hk;rw [M1d (by omega)];exact A
 rw [M1l,M31] at hk;rw [E,E]
 by_cases G:k+1<l.length;rw [M1d G,M1d (by omega)];exact c5 k G;rw [M1e G,M1d (by omega),M1d (by omega),show k=l.length-1 by omega,c3];exact ⟨by omega,e⟩;have:0≤ky its (t:Int):=by
  have:=g.b _ (M03 A);unfold ky;simp only [M1i];rw [Au A];omega
 simp only;omega;obtain ⟨l,rfl,c,⟨J,O,c3,I,c5⟩,hb,hl⟩:=hp;have h:=xZ (l.map λa:Nat=>(a:Int)) (by simpa using J) (by simp;omega);refine W.mono h λr hr=>?_
 obtain ⟨r1,r2,r3⟩:=hr;rw [M2E] at r2 r3;refine ⟨l.length,λt=>N l (l.length-1-t),?_,by omega,λe=>by omega,λt ht=>I _ (by omega),λt ht=>?_,λ_=>?_,λ_ b hb=>?_⟩
 refine M23 λk=>?_
 by_cases hk:k<l.length;rw [r3 k hk];unfold qH;rw [M1n,M1n,M1I hk,M00 (by omega)];show some _=some _
 congr 1;show _=((l.getD (l.length-1-k) 0:Nat):Int)
 rw [M1Q,M00 (by omega)];rfl;rw [M1h (by omega),M1h (by rw [IV];omega)];have:=c5 (l.length-1-(t+1)) (by omega);rw [show l.length-1-(t+1)+1=l.length-1-t by omega] at this;exact this
 simp only [M3f];rw [c3];exact hb;rw [show l.length-1-(l.length-1)=0 by omega,O];exact cm b hb
theorem py {m:Nat}{f:Nat→Nat}(p:y4 its base codes m f):nB ((its,w),qH m f)=some (if m=0 then 0 else vw codes (f (m-1)),0):=by
 have O:=g.n;have pm:=p.pm;unfold nB x8;simp only;refine M4o (W.of hv (M4g rfl (W.of (QP g) (W.st (P:=λ_=>True) ?_ λ_ _=>?_))));refine M4h m (λ_=>True) (by omega) trivial λt ht _=>M49 (λq=>?_) (λq=>M4a trivial)
 have A:t<m:=by unfold ln at q;rw [IV] at q;omega
 have hf:=p.pf t A;refine W.of (Kv A) (W.df (by omega) (W.df (by unfold ln;omega) (M49 (λG=>?_) λ_=>W.nx ⟨A,rfl,trivial⟩)));obtain ⟨u,rfl⟩:∃ u,t=u+1:=⟨t-1,by omega⟩
 have e:A1 (((u+1:Nat):Int)-1)=(u:Int):=by rw [A8 (by omega) (by omega)];omega
 rw [e];refine W.of (Kv (by omega)) (W.of (IP (p.pf u (by omega))) (W.of (IQ hf) (W.beq (λe=>absurd e (p.ps u A).1) λ_=>W.nx ⟨A,rfl,trivial⟩)));refine M4e m (λs=>s.2) (λt x=>x.1=if t=0 then 0 else vw codes (f (t-1))) (by omega) rfl rfl λt x ht H E=>?_
 obtain ⟨x,i⟩:=x;simp only at H E ⊢;subst H;refine M49 (λq=>?_) (λq=>M4a (by
  have e:t=m:=by unfold ln at q;rw [IV] at q;omega
  rw [E,e]))
 have A:t<m:=by unfold ln at q;rw [IV] at q;omega
 have hf:=p.pf t A;have J:=s.at' _ hf;have B:=J.nx;unfold VK at B;rw [Au hf] at B;refine W.of (Kv A) (M49 (λG=>?_) λG=>?_)
 obtain ⟨u,rfl⟩:∃ u,t=u+1:=⟨t-1,by omega⟩
 have e:A1 (((u+1:Nat):Int)-1)=(u:Int):=by rw [A8 (by omega) (by omega)];omega
 have hs:=p.ps u A;have U:=Jy hs.1;have I:=s.at' _ (p.pf u (by omega));have Y:=I.c;have Z:=I.m0;rw [e,E,M1e (by omega),M3X];refine W.of (Kv (by omega)) (W.of (IP (p.pf u (by omega))) (W.of (IQ hf) (M4b hf ?_)));rw [A8 (n:=kd its (f u) (f (u+1))-1) (by omega) (by omega),A8 (by omega) (by omega),show vw codes (f u)+(kd its (f u) (f (u+1))-1)=vw base (f (u+1)) by omega];exact W.of B (M4g rfl (W.nx ⟨A,rfl,by simp⟩));have t0:t=0:=by omega
 subst t0;rw [E,M1d rfl];rw [p.pb A] at B;exact M4b hf (W.of B (M4g rfl (W.nx ⟨A,rfl,by simp⟩)))
theorem pA {a b:Nat}(A:a<its.length)(hb:b<its.length):nz ((its,w),(a:Int),(b:Int))=some (kd its a b,0):=by
 have B:=g.n;unfold nz x6;simp only;have e:A1 (ln its-1)=(its.length:Int)-1:=by unfold ln;exact A8 (by omega) (by omega)
 rw [e];refine M4o (W.of hv (M4g rfl (M4w (by omega) (M4g (by rw [M1p (by omega)];rfl) (M4w (by omega) (M4g (by rw [M1p (by omega)];rfl) (W.of (og A hb) (W.ret rfl))))))))
theorem pB {S:Int}(H:0≤S∧S≤12)(hL:∀ b,b<its.length→∃ d,BM (vw codes b).toNat d∧d≤S):ns ((its,w),S,codes)=some 0:=by
 have I:=g.n;have sl:=s.cl;unfold ns wY;simp only;refine M4o (W.of hv (M4g rfl (W.df (by omega) (W.df (by omega) (M4g (by unfold ln;rw [sl];simp) ?_)))));refine M4h codes.length (λ_=>True) (by omega) trivial λt ht _=>M49 (λq=>?_) (λq=>M4a rfl)
 have B:t<codes.length:=by unfold ln at q;omega
 have A:t<its.length:=by omega
 have E:=s.at' t A;have G:=E.ok;unfold VK at G;rw [Au A] at G;obtain ⟨d,⟨n,rfl,J,O,_⟩,hd⟩:=hL t A;have U:=E.c;have sm:=E.m0;refine M4b B (M4b A ?_);rw [←BB B];refine W.of G (M4g rfl (M4k (by rw [M1K (by omega)];rfl) ?_));have e:=IN (vw codes t).toNat S.toNat (by omega);rw [M1v (by omega),M1v H.1] at e;have h2:2 ^ n≤2 ^ S.toNat:=M3N (by omega) (by omega);rw [e,M3w (by omega)];exact M4g rfl (W.nx ⟨B,rfl,trivial⟩)
theorem pC {S:Int}(Y:0≤S)(hL:∀ b,b<its.length→∃ d,BM (vw codes b).toNat d∧d≤S)(G:S=0∨∃ b,b<its.length∧BM (vw codes b).toNat S){m:Nat}{f:Nat→Nat}(p:y4 its base codes m f):S≤12∧Yq ((its,w),(S,codes),qH m f)=some 0:=by
 have gn:=g.n;have sl:=s.cl;have H:S≤12:=by
  rcases G with e|⟨b,_,n,rfl,h,_⟩;omega;omega
 refine ⟨H,?_⟩;unfold Yq xa;simp only;refine M4o (W.of (pB g hv es s ⟨Y,H⟩ hL) (M4g rfl (W.st (P:=λ_=>True) ?_ λ_ _=>?_)));refine M4h its.length (λ_=>True) (by omega) trivial λa _ _=>M49 (λq=>?_) (λq=>M4a trivial)
 have B:a<its.length:=by unfold ln at q;omega
 refine M4h its.length (λ_=>True) (by omega) trivial λb _ _=>M49 (λq=>?_) (λq=>M4a ⟨B,rfl,trivial⟩)
 have hb:b<its.length:=by unfold ln at q;omega
 refine W.of (pA g hv es s B hb) (M4g rfl (M49 (λhk=>?_) λ_=>W.nx ⟨hb,rfl,trivial⟩));have k1:=Jy (its:=its) (a:=a) (b:=b) (by omega);have A:=s.at' a B;have I:=s.at' b hb;have l1:=I.le a B (by omega);have Z:=A.c;have c2:=I.c;have m1:=A.m0;refine M4b (by omega) (M4b (by omega) ?_);rw [←BB (by omega),←BB (by omega),A8 (n:=vw codes a+kd its a b) (by omega) (by omega),A8 (by omega) (by omega)];exact W.df (by omega) (W.nx ⟨hb,rfl,trivial⟩);refine W.of (py g hv es s p) (M4g rfl ?_);simp only;by_cases E:m=0;rw [M1d E];have n0:=p.pz E;have J:S=0:=by
  rcases G with e|⟨b,hb,_⟩;exact e;omega
 refine M4c (QL 0 (by omega)) λr hr=>?_
 obtain ⟨r1,n,e,_,h3,h4⟩:=hr;have U:n=0:=by
  rcases h4 with h4|h4;exact h4;rw [Nat.zero_div] at h4;cases h4
 rw [r1,e,J,U];exact M4g rfl (M4g rfl (W.ret rfl));rw [M1e E];have hf:=p.pf (m-1) (by omega);have A:=s.at' _ hf;have sc:=A.c;have sm:=A.m0;have k:=QL (vw codes (f (m-1))).toNat (by omega);rw [M1v (by omega)] at k;refine M4c k λr hr=>?_
 obtain ⟨r1,r2⟩:=hr;have e1:r.1≤S:=by
  obtain ⟨d,O,d2⟩:=hL _ hf;have:=PI (M1g _) r2 O;omega
 have e2:S≤r.1:=by
  rcases G with e|⟨b,hb,hd⟩;obtain ⟨n,e3,_⟩:=r2;omega;have:=p.pl (by omega) b hb;exact PI (by omega) hd r2
 have e:r.1=S:=by omega
 rw [r1,e];exact M4g rfl (M4g (by simp) (W.ret rfl))
end
theorem H8 (j:Bb)(h:Hq j):W (JZ j) λr=>r.2=0→r.1.1.2.length=j.1.length∧(0≤r.1.1.1∧r.1.1.1≤12)∧r.1.2.length≤1000∧j.1.length≤96∧Yq (j,r.1)=some 0:=by
 obtain ⟨its,w⟩:=j;unfold JZ w9;refine M4c pw λG B=>M4i (λhne=>W.ret λe=>absurd e hne) λh1=>?_
 obtain ⟨⟨S,codes⟩,c0⟩:=G;obtain ⟨g,hv,base,es,s,h2,h3,A⟩:=B h1;simp only at es s h2 h3 A;refine M4c (px g hv es s) λI E=>M4i (λhne=>W.ret λe=>absurd e hne) λH=>W.ret λ_=>?_
 obtain ⟨m,f,e,p⟩:=E;have k:=pC g hv es s h2 h3 A p;simp only;rw [e];exact ⟨s.cl,⟨h2,k.1⟩,by rw [IV];have:=p.pm;omega,g.n,k.2⟩
theorem Ei {xs:List Int}(h:xs.length≤4294967296):W5 xs=some xs:=by unfold W5;simp only [M27 h,M2B]
theorem Vo {xs:List A6}(h:xs.length≤4294967296):qx xs=some xs:=by unfold qx;simp only [M27 h,M2B]
theorem y5 {xs:List Aa}(h:xs.length≤4294967296):yA xs=some xs:=by unfold yA;simp only [M27 h,M2B]
theorem pD {xs:List (List UInt8)}(h:xs.length≤4294967296):dX xs=some xs:=by unfold dX;simp only [M27 h,M2B]
theorem i8 {o:A0}(h:o.2.2.length≤4294967296):yy o=some o:=by
 unfold yy B91;rw [pD h,BR]
theorem Vq {p:BE}(h:p.1.2.length≤4294967296)(h2:p.2.length≤4294967296):wa p=some p:=by
 unfold wa B93;rw [Ei h,BR,Ei h2,BR]
theorem i9 (x:List UInt8)(E:x.length<4611686018427387904):W (yw x) λr=>r=true→x.length≤12:=by
 unfold yw B50;refine W.st (P:=λ_=>True) ?_ λ_ _=>M48 (λ_=>W.ret λh=>by have:=M1s h;unfold ln at this;omega) λ_=>W.ret λh=>by cases h
 have f:∀ {P:Int→Prop},W (some (Al.done (Al.done false):Al Int (Al PUnit Bool))) (BX P (BX (λ_=>True) λr=>r=true→x.length≤12)):=λ{P}=>M4a (λh=>by cases h)
 refine M4h x.length (λ_=>True) (by omega) trivial λt ht _=>M49 (λq=>?_) (λq=>M4a trivial)
 have A:t<x.length:=by unfold ln at q;omega
 have n:W (some (Al.next (A1 ((t:Int)+1)):Al Int (Al PUnit Bool))) (BX (λB=>t<x.length∧B=A1 ((t:Int)+1)∧True) (BX (λ_=>True) λr=>r=true→x.length≤12)):=W.nx ⟨A,rfl,trivial⟩;refine M4b A (M48 (λ_=>M4b A (M48 (λ_=>f) λ_=>M4b A (M48 (λ_=>f) λ_=>n))) λ_=>M4b A (M48 (λ_=>M4b A (M48 (λ_=>f) λ_=>M4b A (M48 (λ_=>f) λ_=>n))) λ_=>n))
theorem WT (c:A2)(o:A0)(ho:OrdE o):W (dM (c,o)) λr=>r=true→(0≤o.2.1∧o.2.1<(c.1.length:Int))∧(1≤o.2.2.length∧o.2.2.length≤16)∧o.1.length≤12:=by
 obtain ⟨o1,o2,B⟩:=ho;unfold dM uf;simp only;refine M4c (i9 _ (by omega)) λv hv=>M4q (λ_=>W.ret λh=>by cases h) λe=>M49 (λ_=>W.ret λh=>by cases h) λa=>M49 (λ_=>W.ret λh=>by cases h) λb=>M49 (λ_=>W.ret λh=>by cases h) λc=>M49 (λ_=>W.ret λh=>by cases h) λd=>?_
 unfold ln at b c d;refine M4h o.2.2.length (λt=>True) (by omega) trivial λt ht G=>M49 (λq=>?_) (λq=>M4a λ_=>⟨by omega,by omega,hv e⟩)
 have A:t<o.2.2.length:=by unfold ln at q;omega
 have hd:=B _ (M03 A);refine M4b A (M4c (i9 _ (by omega)) λH h3=>M4q (λ_=>M4a λh=>by cases h) λE=>W.of (Vd (by omega)) (W.of (Wb _ _ (by simp;omega)) (M48 (λ_=>M4a λh=>by cases h) λ_=>W.nx ⟨A,rfl,trivial⟩)))
theorem pE (ds:List (List UInt8))(o:A0)(h:ds.length≤100)(h2:o.2.2.length≤100):W (Iy (ds,o)) λr=>r.2=o:=by
 unfold Iy Oh;refine M4c (P:=λr=>r.2=o) ?_ λv hv=>W.ret hv
 unfold Of Oe;simp only;refine M4h ds.length (λt=>True) (by omega) trivial λt ht B=>M49 (λq=>?_) (λq=>M4a rfl)
 have A:t<ds.length:=by unfold ln at q;omega
 exact M4b A (W.of (Wb _ _ (by (try simp only);omega)) (M48 (λ_=>M4a rfl) λ_=>W.nx ⟨A,rfl,trivial⟩))
theorem pF (ws:List A6)(n:List UInt8)(h:ws.length≤1000):W (Gu (ws,n)) λ_=>True:=by
 unfold Gu Oc;refine M4c (P:=λ_=>True) ?_ λv hv=>W.ret trivial
 unfold Oa O9;refine M4h ws.length (λt=>True) (by (try simp only);omega) trivial λt ht B=>M49 (λq=>?_) (λq=>M4a trivial)
 have A:t<ws.length:=by unfold ln at q;(try simp only at q);omega
 exact M4b A (M48 (λ_=>M4a trivial) λ_=>W.nx ⟨A,rfl,trivial⟩)
theorem Eb {T:G8}{L:List Int}:∀ {l:List jm} {i:Nat} {s:Bp} {x:Int×Int},BJ T L l i s=.inl x→x.2≠0
 | [],_,s,x,h=>by cases h
 | m::l,i,s,x,h=>by
  unfold BJ at h;split at h;exact Eb h;rename_i c;cases h;exact c
theorem qI {ws:List A6}(h:ws.length≤100000){τ:Type}{ρ:Type}{f:List Int→Option ρ}{Q:ρ→Prop}(k:W (f (Bf ws)) Q):W ((std.run (λA:(List Int)×Int=>bif decide (A.2<ln ws) then (Go.V.idx ws A.2).bind λH=>bif Go.T.room A.1 [H.2.1] then some (.next (A.1++[H.2.1],A1 (A.2+1))) else none else some (.done (.next A.1))) ([],0)).bind (AF f)) Q:=by
 refine W.st (P:=λv=>v=Bf ws) ?_ λv hv=>by subst hv;exact k
 refine M4e ws.length (λs=>s.2) (λt s=>s.1=(ws.take t).map λw=>w.2.1) (by omega) rfl rfl λt s ht G E=>?_
 obtain ⟨a,i⟩:=s;simp only at G E ⊢;subst G E;refine M49 (λq=>?_) (λq=>M4a ?_)
 have B:t<ws.length:=by unfold ln at q;omega
 exact M4b B (M4d (by simp;omega) (W.nx ⟨B,rfl,by simp only;rw [M08 B,M1A];rfl⟩));have:t=ws.length:=by unfold ln at q;omega
 subst this;show _=_
 rw [M1m]
theorem OF {c:A2}{y:AH}{e:Ah}{r:Ag}(hv:Dc c.1 (Bf y.1) y.2.1)(l:List Ap)(hl:l.length≤100000):Qv (l,c,y,e,r)=some (match BJ c.1 (Bf y.1) l 0 y.2.1 with | .inl x=>(x.2,c,y,e,r) | .inr s=>(0,c,(y.1,s,y.2.2),e,(r.1,l,r.2.2))):=by
 have B:y.1.length≤192:=by have:=hv.2.2.1;simpa using this
 unfold Qv ud;refine M4o (qI (τ:=Unit) (by (try simp only);omega) ?_);simp only;refine W.of (WI hv l hl) ?_;cases A:BJ c.1 (Bf y.1) l 0 y.2.1 with
 | inl x=>exact M4k (M2I.2 (Eb A)) (W.ret rfl)
 | inr s=>exact M4g rfl (W.ret rfl)
end Go.T
