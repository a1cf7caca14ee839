/- Part M of the proof of TopConserved. No condition. -/
import Derived.OwnWalk
import Derived.Test.YtmihkgopplkcjaaGreatDoorL
import Derived.Test.YtmihkgopplkcjaaGreatDoorK
set_option linter.all false
set_option maxRecDepth 1000000
set_option maxHeartbeats 0
namespace Go.T
open Go Go.E Go.V Go.Proofs Go.Shelf Go.RowKit Go.Lib Go.Sort
theorem oN {wr:World}{T:G8}{L:List Int}{s:Bp}{aT aL ao:Option Addr}{cT cL co:Nat}{B:List Nat}(hv:Dc T L s)(hg:GlP (R0 wr))(hT:SlR (eT (.pair .str ti)) wr [] aT cT T)(hL:SlR (eT ti) wr [] aL cL L)(hR:Rows wr B ao co s)(hB:∀ b∈B,b<wr.heap.size)(w f t:Int)(fr:Bool) :
  Calls Tryz.prog 246 #[.slice aT T.length cT,.slice aL L.length cL,.slice ao s.length co,.agg #[.int .i64 w,.int .i64 f,.int .i64 t,.bool fr]] wr λe w'=>e=.returned (.int .i64 (cd T L s w f t))∧Ev B wr w'∧∃ A,(∀ b∈A,b∈B∨wr.heap.size≤b)∧Rows w' A ao co (fL T L s w f t fr):=by
 have same:∀ (w':World) (x:Int),x≠0→cd T L s w f t=x→Ev [] wr w'→Ev B wr w'∧∃ A,(∀ b∈A,b∈B∨wr.heap.size≤b)∧Rows w' A ao co (fL T L s w f t fr):=λw' x I e G=>
  ⟨G.nil,B,λb hb=>.inl hb,by unfold fL;rw [M1e (by rw [e];exact I)];exact OwnR.step (λ_ _ _ _ _ _ h=>h) hR G λ_ _ h=>(by cases h)⟩
 by_cases c:w<0∨(L.length:Int)≤w∨f < -1∨(s.length:Int)≤f∨t < -1∨(s.length:Int)≤t;have e:cd T L s w f t=2:=by unfold cd;rw [M1d c]
 exact (fI wr aT aL ao T.length cT L.length cL s.length co w f t fr c).mono λr w' ⟨h1,h2⟩=>⟨by rw [h1,e],same w' 2 (by decide) e h2⟩
 by_cases E:(Su s w).1≠f∨(f = -1∧t = -1)
 have e:cd T L s w f t=17:=by unfold cd;rw [M1e c,M1d E]
 refine (YD wr aT aL ao T.length cT L.length cL s.length co w f t fr ⟨⟨by omega,by omega⟩,⟨by omega,by omega⟩,by omega,by omega⟩ (Su s w) E λX H=>?_).mono λr w' ⟨h1,h2⟩=>⟨by rw [h1,e],same w' 17 (by decide) e h2⟩
 exact QT oJ (Kn s w (by have:=(Bw hv).1;omega) λl hl=>by have:=(Bw hv).2 l hl;omega) (OC hg H) (OwnR.ro (λ_ _ _ _ _ _ h=>h) (OwnR.step (λ_ _ _ _ _ _ h=>h) hR H λ_ _ h=>(by cases h)) λ_ _ h=>(by cases h));exact fM fr ⟨hv,hg,hT,hL,hR,hB,⟨⟨by omega,by omega⟩,⟨by omega,by omega⟩,by omega,by omega⟩,rfl,by omega,λh=>E (.inr h)⟩
section
variable {w:World}{c:Nat}
theorem xI{M:List Nat}{A o0:Nat}{l:List jm}(hs:SlR (eT Aj) w M (some ⟨A,o0,none⟩) c l){k:Nat}(hk:k<l.length):w.cell? ⟨A,o0+k*4,none⟩=some (.int .i64 l[k].1)∧w.cell? ⟨A,o0+k*4+1,none⟩=some (.int .i64 l[k].2.1)∧w.cell? ⟨A,o0+k*4+2,none⟩=some (.int .i64 l[k].2.2.1)∧w.cell? ⟨A,o0+k*4+3,none⟩=some (.bool l[k].2.2.2):=by
 obtain ⟨_,_,_,H⟩:=hs.at_ _ rfl (by omega);obtain ⟨cs,⟨G,I,rfl,h1,c3,J,rfl,h2,c5,c6,rfl,h3,E⟩,B⟩:=H k l[k] (M00 hk);have h1:G=[.int .i64 l[k].1]:=h1;have h2:c3=[.int .i64 l[k].2.1]:=h2;have h3:c5=[.int .i64 l[k].2.2.1]:=h3;have E:c6=[.bool l[k].2.2.2]:=E;subst h1;subst h2;subst h3;subst E;exact ⟨B 0 _ rfl,by rw [M1P];exact B 1 _ rfl,by rw [M1P];exact B 2 _ rfl,by rw [M1P];exact B 3 _ rfl⟩
theorem fN{B:List Nat}{a:Option Addr}{d:List (List Int)}(h:Rows w B a c d):Rows w (B.filter λb=>decide (b<w.heap.size)) a c d:=by
 obtain ⟨hs,h1,h2,h3,H,I⟩:=h;refine ⟨hs,h1,h2,λx A=>M1Z.2 ⟨h3 x A,M1p (h1.lt x A)⟩,λi k xs hi A hk=>?_,I⟩;obtain ⟨E,q2,G⟩:=H i k xs hi A hk;exact ⟨E,q2,λx A=>⟨M1Z.2 ⟨(G x A).1,M1p (E.lt x A)⟩,(G x A).2⟩⟩
noncomputable def GW (T:G8) (L:List Int) (l:List jm) (s:Bp):Bp×Int×Int:=match BJ T L l 0 s with | .inl (i,c)=>([],i,c) | .inr b=>(b,(l.length:Int),0)
theorem M0s{T:G8}{L:List Int}{s:Bp}{l:List jm}{a0 a1 a2 a3:Option Addr}{c0 c1 Z c3:Nat}(hv:Dc T L s)(hl:l.length≤100000)(hg:GlP (R0 w))(h0:SlR (eT (.pair .str ti)) w [] a0 c0 T)(h1:SlR (eT ti) w [] a1 c1 L)(h2:SlR (eT (.sl ti)) w [] a2 Z s)(h3:SlR (eT Aj) w [] a3 c3 l) :
  Calls Tryz.prog 181 #[.slice a0 T.length c0,.slice a1 L.length c1,.slice a2 s.length Z,.slice a3 l.length c3] w λe w'=>∃ a' c' B,e=.returned (.tuple #[.slice a' (GW T L l s).1.length c',.int .i64 (GW T L l s).2.1,.int .i64 (GW T L l s).2.2])∧Ev [] w w'∧(∀ b∈B,w.heap.size≤b)∧Rows w' B a' c' (GW T L l s).1:=by
 have aF:=Ej;have ap:=Wy s12 (fG hv) hg h0 h1 h2;have hsl:=Bw hv
 go_enter Tryz.func181,Tryz.ntmps181
 go_wp2_with fail
 refine ap.mono ?_;rintro e w1 ⟨rfl,ab⟩;have al:=fC w1 a2 Z s [] (h2.step (Stp.same ab λ_ h=>(by cases h))) (by have:=hv.1;have:=hv.2.1;omega) λr hr=>by have:=(AN hv r hr).2.2;omega
 go_wp2_with fail
 refine al.mono ?_;rintro e w2 ⟨ao,co,B,rfl,av,hB,hR⟩;have aj:Ev [] w w2:=ab.ext av;have aG:=ab.size;generalize hn:l.length=n at *
 go_wp2_with fail
 go_loopg [24] n (λg yD wr=>∃ i:Nat,yD=.int .i64 i∧i+g=n∧Ev [] w wr∧∃ b B,(∀ k∈B,w.heap.size≤k∧k<wr.heap.size)∧Rows wr B ao co b∧Dc T L b∧b.length=s.length∧BJ T L (l.drop i) i b=BJ T L l 0 s)
 case atStart=>exact ⟨0,rfl,by omega,aj,s,B,λk hk=>⟨by have:=(hB k hk).1;omega,(hB k hk).2⟩,hR,hv,rfl,rfl⟩
 case round=>
  clear hB hR aj al ap;obtain ⟨i,rfl,hi,E,b,B,hB,hR,af,O,A⟩:=hrel;by_cases aC:i<n
  ·obtain ⟨p3,o3,rfl⟩:=Gy h3 (by omega);have st:∀ {Y:World},Ev [] w Y→SlR (eT Aj) Y [] (some ⟨p3,o3,none⟩) c3 l:=λhY=>h3.step (Stp.same hY λ_ h=>(by cases h))
   obtain ⟨t0,t1,t2,t3⟩:=xI (st E) (k:=i) (by omega);have l1:p3<wr.heap.size:=C1 t0;obtain ⟨X,hX⟩:∃ X,X=wr.alloc (PM l[i].1 l[i].2.1 l[i].2.2.1 l[i].2.2.2):=⟨_,rfl⟩
   have G:Ev [] wr X:=by rw [hX];exact (Ev.alloc wr _).nil
   have an:=oN af (OC hg (E.ext G)) (h0.step (Stp.same (E.ext G) λ_ h=>(by cases h))) (h1.step (Stp.same (E.ext G) λ_ h=>(by cases h))) (OwnR.step (λ_ _ _ _ _ _ h=>h) hR G λ_ _ h=>(by cases h)) (λk hk=>M1D (hB k hk).2 G.size) l[i].1 l[i].2.1 l[i].2.2.1 l[i].2.2.2;rw [hX,O] at an;rw [nY (by omega:i<l.length)] at A;have A:Hid ((if cd T L b l[i].1 l[i].2.1 l[i].2.2.1=0 then BJ T L (l.drop (i+1)) (i+1) (mv b l[i].1 l[i].2.2.1 l[i].2.2.2) else .inl ((i:Int),cd T L b l[i].1 l[i].2.1 l[i].2.2.1))=BJ T L l 0 s):=A;have aE:=G.size
   go_wp2_with fail
   refine an.mono ?_;rintro e U ⟨rfl,ac,B',aa,J⟩;rw [←hX] at ac aa;have ai:Ev [] w U:=(E.ext G).then ac λk hk=>.inr (hB k hk).1
   have aD:=ac.size;by_cases H:cd T L b l[i].1 l[i].2.1 l[i].2.2.1=0
   ·have ae:=A.out;rw [M1d H] at ae;have aq:=Gx af l[i].2.2.2 H;have ak:Rows U B' ao co (mv b l[i].1 l[i].2.2.1 l[i].2.2.2):=by unfold fL at J;rw [M1d H] at J;exact J
    have am:(mv b l[i].1 l[i].2.2.1 l[i].2.2.2).length=s.length:=by rw [QI];exact O
    have K:Hid (∃ b B,(∀ k∈B,w.heap.size≤k∧k<U.heap.size)∧Rows U B ao co b∧Dc T L b∧b.length=s.length∧BJ T L (l.drop (i+1)) (i+1) b=BJ T L l 0 s):=
     ⟨_,_,λk hk=>⟨(aa k (M1Z.1 hk).1).elim (λh=>(hB k h).1) λh=>by have:=E.size;omega,M1s (M1Z.1 hk).2⟩,fN ak,aq,am,ae⟩
    clear ak aq am ae A aa J hR hB af O;have ax:cd T L b l[i].1 l[i].2.1 l[i].2.2.1=0:=H;generalize cd T L b l[i].1 l[i].2.1 l[i].2.2.1=cc at *;subst ax
    go_wp2
    go_roundg (n-(i+1))
    case measure=>omega
    case rel=>exact ⟨i+1,rfl,by omega,ai,K.out⟩
   ·have aB:(cd T L b l[i].1 l[i].2.1 l[i].2.2.1==0)=false:=by simp [H]
    have I:GW T L l s=([],(i:Int),cd T L b l[i].1 l[i].2.1 l[i].2.2.1):=by
     unfold GW;rw [←A.out,M1e H]
    have K:Hid (GW T L l s=([],(i:Int),cd T L b l[i].1 l[i].2.1 l[i].2.2.1)):=I;clear I J A H
    go_wp2
    go_ret3
    rw [K.out];exact ⟨none,0,[],rfl,ai,λk hk=>(by cases hk),OwnR.nil _ _ _ _ _⟩
  ·have e:i=n:=by omega
   subst e;have I:GW T L l s=(b,(l.length:Int),0):=by
    unfold GW;rw [←A,←hn,List.drop_length];rfl
   have K:Hid (GW T L l s=(b,(l.length:Int),0)):=I;clear A I
   go_wp2
   go_ret3
   rw [K.out];exact ⟨ao,co,B,by rw [O,hn];rfl,E,λk hk=>(hB k hk).1,hR⟩
end
end Go.T
namespace Go.T
open Go Go.E Go.V Go.Proofs
section
variable {w:World}
theorem gl0 {q:Go.E.Ren}(h:GlP q)(B:q.zw=w):GlP (R0 w):=by
 have A:GlP ⟨λ_=>none,λ_=>none,q.zw,q.zM⟩:=h.same rfl rfl;refine A.mono ⟨λ_ _ h=>h,λ_ _ h=>h,?_⟩;show Stp q.zM q.zw [] w
 rw [B];exact Stp.sub w λb hb=>by cases hb
variable {c:Nat}
theorem xJ {α:Type}{e:Enc α}{M:List Nat}{a:Option Addr}{xs:List α}(h:SlR e w M a c xs):SlR e w [] a c xs:=h.sub λ_ h=>by cases h
theorem M5t {wr:World}{T:G8}{L:List Int}{s:Bp}{aT aL B:Option Addr}{cT cL E:Nat}(hv:Dc T L s)(hg:GlP (R0 wr))(hT:SlR (eT (.pair .str ti)) wr [] aT cT T)(hL:SlR (eT ti) wr [] aL cL L)(H:SlR (eT (.sl ti)) wr [] B E s)(w f t:Int)(fr:Bool) :
  Calls Tryz.prog 120 #[.slice aT T.length cT,.slice aL L.length cL,.slice B s.length E,.agg #[.int .i64 w,.int .i64 f,.int .i64 t,.bool fr]] wr (iD wr T L s w f t fr):=by
 have st:∀ {α:Type} {e:Enc α} {a:Option Addr} {c:Nat} {xs:List α} {X:World},SlR e wr [] a c xs→Ev [] wr X→SlR e X [] a c xs:=λh A=>h.step (Stp.same A λ_ h=>(by cases h))
 have I:∀ X,Ev [] wr X→Calls Tryz.prog 189 #[.slice aT T.length cT,.slice aL L.length cL,.slice B s.length E] X λe w'=>e=.returned (.bool true)∧Ev [] X w':=λX A=>Wy M5q (oK hv) (OC hg A) (st hT A) (st hL A) (st H A)
 have J:∀ X,Ev [] wr X→Calls Tryz.prog 74 #[.slice B s.length E,.int .i64 w] X λe w'=>e=.returned (.tuple #[.int .i64 (Su s w).1,.int .i64 (Su s w).2])∧Ev [] X w':=λX A=>QT xC (Oz s w (by have:=(Bw hv).1;omega) λl hl=>by have:=(Bw hv).2 l hl;omega) (OC hg A) (st H A)
 have no:∀ (w':World) (x:Int),x≠0→cd T L s w f t=x→Ev [] wr w'→iD wr T L s w f t fr (.returned (.tuple #[.slice none 0 0,.int .i64 x])) w':=λw' x Y e U=>by
  have O:fK T L s w f t fr=([],x):=by unfold fK;rw [M1e (by rw [e];exact Y),e]
  unfold iD;rw [O];exact ⟨none,0,[],rfl,U,λk hk=>(by cases hk),OwnR.nil _ _ _ _ _⟩
 by_cases c:w<0∨(L.length:Int)≤w∨f < -1∨(s.length:Int)≤f∨t < -1∨(s.length:Int)≤t;have e:cd T L s w f t=2:=by unfold cd;rw [M1d c]
 exact (M0n wr aT aL B T.length cT L.length cL s.length E w f t fr c I).mono λr w' ⟨h1,h2⟩=>by rw [h1];exact no w' 2 (by decide) e h2
 have hd:Bd L.length s.length w f t:=⟨⟨by omega,by omega⟩,⟨by omega,by omega⟩,by omega,by omega⟩
 by_cases G:(Su s w).1≠f∨(f = -1∧t = -1)
 have e:cd T L s w f t=17:=by unfold cd;rw [M1e c,M1d G]
 have h1:-1≤(Su s w).1:=by
  rcases QG s w with ⟨h,_⟩|⟨u,i,row,h,_⟩;rw [show Su s w=(-1,-1) from h];decide;rw [show Su s w=((u:Int),(i:Int)) from h];show -1≤(u:Int);omega
 exact (xG wr aT aL B T.length cT L.length cL s.length E w f t fr hd (Su s w) h1 G I J).mono λr w' ⟨h1,h2⟩=>by rw [h1];exact no w' 17 (by decide) e h2
 exact M0r fr hv hg hT hL H hd rfl (by omega) (λh=>G (.inr h)) I J
theorem fO {w':World}{B:List Nat}{a:Option Addr}{d:List (List Int)}(h:Rows w' B a c d)(hB:∀ b∈B,w.heap.size≤b):c≤maxLen∧(∀ b∈Av a,w.heap.size≤b)∧∀ q:Go.E.Ren,q.zw=w'→(∀ k∈q.zM,k<w.heap.size∨k∈Av a)→OwnX (eZ q (.sl ti)) 22 w' [] a c d:=
 ⟨(SN h).1,λb hb=>hB b ((SN h).2 b hb),λq G A=>xx h hB q G A⟩
open Classical in
theorem fP:AW Tryz.prog 120 (XV OQ):=by
 refine oB (ins:=[.slot 0 (.d (.sl (.pair .str ti))),.slot 1 (.d (.sl ti)),.slot 2 (.d (.sl (.sl ti))),.slot 3 (.d Aj)]) (t:=.sl ti) (T:=22) (F:=OQ) λx y hy=>⟨_,rfl,λq w vargs hl hf hgl A hM=>?_⟩
 obtain ⟨T,L,s,m,f,t,fr⟩:=x;obtain ⟨U,Y,Z,v3,rfl⟩:=qD hl;obtain ⟨a0,c0,rfl,O⟩:=G4 A (hf 0 (.ro (.pair .str ti) T) rfl:RV q _ U);obtain ⟨a1,c1,rfl,h1⟩:=G4 A (hf 1 (.ro ti L) rfl:RV q _ Y);obtain ⟨a2,c2,rfl,h2⟩:=G4 A (hf 2 (.ro (.sl ti) s) rfl:RV q _ Z);have h3:RV q (.agg [.int .i64 m,.int .i64 f,.int .i64 t,.bool fr]) v3:=hf 3 _ rfl;obtain ⟨vs,rfl,E⟩:=h3
 match vs,E with
 | [u0,u1,u2,u3],E=>
  obtain ⟨rfl,rfl,rfl,rfl,_⟩:=E;have hy:(if Dc T L s then some (if cd T L s m f t=0 then (mv s m t fr,(0:Int)) else ([],cd T L s m f t)) else none)=some y:=hy;by_cases hv:Dc T L s;rw [M1d hv] at hy;cases hy;refine ⟨(M5t hv (gl0 hgl A) (xJ O) (xJ h1) (xJ h2) m f t fr).mono λe w' ⟨a,c,B,G,H,I,J⟩=>?_,⟨_,Tryz.func120,by kernel_rfl,by kernel_rfl⟩⟩;obtain ⟨r1,r2,r3⟩:=fO J I;exact ⟨_,G,a,c,rfl,r1,r2,H,r3⟩
  rw [M1e hv] at hy;cases hy
open Classical in
theorem M0t:AW Tryz.prog 181 (uc Y6):=by
 refine oC (ins:=[.slot 0 (.d (.sl (.pair .str ti))),.slot 1 (.d (.sl ti)),.slot 2 (.d (.sl (.sl ti))),.slot 3 (.d (.sl Aj))]) (t:=.sl ti) (T:=22) (F:=Y6) λx y hy=>⟨_,rfl,λq w vargs hl hf hgl A hM=>?_⟩
 obtain ⟨T,L,s,m⟩:=x;obtain ⟨O,U,Y,Z,rfl⟩:=qD hl;obtain ⟨a0,c0,rfl,J⟩:=G4 A (hf 0 (.ro (.pair .str ti) T) rfl:RV q _ O);obtain ⟨a1,c1,rfl,h1⟩:=G4 A (hf 1 (.ro ti L) rfl:RV q _ U);obtain ⟨a2,c2,rfl,h2⟩:=G4 A (hf 2 (.ro (.sl ti) s) rfl:RV q _ Y);obtain ⟨a3,c3,rfl,h3⟩:=G4 A (hf 3 (.ro Aj m) rfl:RV q _ Z);have hy:(if Dc T L s∧List.length m≤100000 then some (GW T L m s) else none)=some y:=hy;by_cases hv:Dc T L s∧List.length m≤100000;rw [M1d hv] at hy;cases hy;refine ⟨(M0s hv.1 hv.2 (gl0 hgl A) (xJ J) (xJ h1) (xJ h2) (xJ h3)).mono λe w' ⟨a,c,B,E,G,H,I⟩=>?_,⟨_,Tryz.func181,by kernel_rfl,by kernel_rfl⟩⟩;obtain ⟨r1,r2,r3⟩:=fO I H;exact ⟨_,E,a,c,rfl,r1,r2,G,r3⟩
 rw [M1e hv] at hy;cases hy
theorem M5u:AW Tryz.prog 228 (M06 mN):=by
 refine fB (ins:=[.slot 0 (.d AB),.slot 1 (.d (.sl Ai)),.slot 2 (.d .bool)]) (s:=.sl ti) (F:=mN) λx y hy=>⟨_,rfl,λq w vargs hl hf hgl A hM=>?_⟩
 obtain ⟨⟨its,af,trk⟩,l,b⟩:=x;obtain ⟨v0,v1,v2,rfl⟩:=qC hl;have h0:RV q (.agg [.ro Ai its,.ro ti af,.ro (.sl ti) trk]) v0:=hf 0 _ rfl;obtain ⟨a1,J,rfl,h1⟩:=G4 A (hf 1 (.ro Ai l) rfl:RV q _ v1);have h2:v2=.bool b:=hf 2 (.bool b) rfl;subst h2;obtain ⟨vs,rfl,E⟩:=h0
 match vs,E with
 | [u0,u1,u2],E=>
  obtain ⟨k0,k1,k2,_⟩:=E;obtain ⟨G,O,rfl,j0⟩:=G4 A k0;obtain ⟨H,U,rfl,j1⟩:=G4 A k1;obtain ⟨I,Y,rfl,j2⟩:=G4 A k2;have hy:(if List.length trk≤1000000∧(∀ r∈(trk:List (List Int)),r.length≤1000000)∧List.length l≤1000000 then some (List.map (Kh l b) trk) else none)=some y:=hy;by_cases g:List.length trk≤1000000∧(∀ r∈(trk:List (List Int)),r.length≤1000000)∧List.length l≤1000000;rw [M1d g] at hy;cases hy;exact ⟨(oA w I a1 Y J G H _ _ O U trk l b q.zM j2 h1 g.1 g.2.1 g.2.2).mono λv w' ⟨a,c,B,Z,e2,e3,e4⟩=>⟨_,Z,e2,λM' ae=>⟨a,c,by rw [M2E],OwnR.ro (λ_ _ _ _ _ _ h=>h) e4 λb hb q=>by have:=e3 b hb;have:=ae b q;omega⟩⟩,⟨_,Tryz.func228,by kernel_rfl,by kernel_rfl⟩⟩
  rw [M1e g] at hy;cases hy
theorem xK:AW Tryz.prog 291 (mg Yh):=by
 refine fB (ins:=[.slot 0 (.d Cx)]) (s:=.sl ti) (F:=Yh) λx y hy=>⟨_,rfl,λq w vargs hl hf hgl Z hM=>?_⟩
 obtain ⟨its,m⟩:=x;obtain ⟨v0,rfl⟩:=Wt hl;have U:RV q (.agg [.ro Ai its,.int .i64 m]) v0:=hf 0 _ rfl;obtain ⟨vs,rfl,A⟩:=U
 match vs,A with
 | [u0,u1],A=>
  obtain ⟨k0,rfl,_⟩:=A;obtain ⟨E,G,rfl,j0⟩:=G4 Z k0;have hy:(if List.length its≤1000 then some (Js its) else none)=some y:=hy;by_cases g:List.length its≤1000;rw [M1d g] at hy;cases hy;exact ⟨(M0d w E G its m q.zM j0 g).mono λv w' ⟨a,c,B,H,I,J,O⟩=>⟨_,H,I,λM' Y=>⟨a,c,by simp only [Js,M2E,List.length_range],OwnR.ro (λ_ _ _ _ _ _ h=>h) O λb hb q=>by have:=J b hb;have:=Y b q;omega⟩⟩,⟨_,Tryz.func291,by kernel_rfl,by kernel_rfl⟩⟩
  rw [M1e g] at hy;cases hy
end
end Go.T
