/- Part K of the proof of TopConserved. No condition. -/
import Derived.Deep.Cut
import Derived.Deep.CutRange
import Derived.Deep.DeepCutAuto
import Derived.Deep.RegionHeld
import Derived.Deep.RegionHeldLaw
import Derived.OwnWalk
import Derived.Test.YtmihkgopplkcjaaGreatDoorJ
set_option linter.all false
set_option maxRecDepth 1000000
set_option maxHeartbeats 0
namespace Go.T
open Go Go.E Go.V Go.Proofs Go.Shelf Go.RowKit Go.Lib Go.Sort
section
structure ShG (wr:World) (T:G8) (L:List Int) (s:Bp) (aT aL ao:Option Addr) (cT cL co:Nat) (B:List Nat) (w f t:Int) (p:Int×Int):Prop where
 hv:Dc T L s
 hg:GlP (R0 wr)
 hT:SlR (eT (.pair .str ti)) wr [] aT cT T
 hL:SlR (eT ti) wr [] aL cL L
 hR:Rows wr B ao co s
 hB:∀ b∈B,b<wr.heap.size
 hd:Bd L.length s.length w f t
 hp:Su s w=p
 hf:p.1=f
 ft:¬ (f = -1∧t = -1)
noncomputable def fL (T:G8) (L:List Int) (s:Bp) (w f t:Int) (fr:Bool):Bp:=if cd T L s w f t=0 then mv s w t fr else s
variable {w t:Int}
theorem H6 {X:World}{k:Nat}{f:Int}{fr:Bool}(hb:X.heap[k]? = some (PM w f t fr)):X.cell? ⟨k,0,none⟩=some (.int .i64 w)∧X.cell? ⟨k,1,none⟩=some (.int .i64 f)∧X.cell? ⟨k,2,none⟩=some (.int .i64 t)∧X.cell? ⟨k,3,none⟩=some (.bool fr):=⟨by rw [Af hb];rfl,by rw [Af hb];rfl,by rw [Af hb];rfl,by rw [Af hb];rfl⟩
theorem fM {wr:World}{T:G8}{L:List Int}{s:Bp}{aT aL ao:Option Addr}{cT cL co:Nat}{B:List Nat}{f:Int}{p:Int×Int}(fr:Bool)(h:ShG wr T L s aT aL ao cT cL co B w f t p) :
  Calls Tryz.prog 246 #[.slice aT T.length cT,.slice aL L.length cL,.slice ao s.length co,.agg #[.int .i64 w,.int .i64 f,.int .i64 t,.bool fr]] wr λe w'=>e=.returned (.int .i64 (cd T L s w f t))∧Ev B wr w'∧∃ E,(∀ b∈E,b∈B∨wr.heap.size≤b)∧Rows w' E ao co (fL T L s w f t fr):=by
 have b0:=Ej;obtain ⟨hv,hg,hT,hL,hR,hB,⟨⟨k1,k2⟩,⟨k3,k4⟩,k5,k6⟩,hp,bE,bL⟩:=h;obtain ⟨X,hX⟩:∃ X,X=wr.alloc (PM w f t fr):=⟨_,rfl⟩
 have hE:Ev [] wr X:=by rw [hX];exact (Ev.alloc _ _).nil
 have hb:X.heap[wr.heap.size]? = some (PM w f t fr):=by rw [hX];exact Aq _ _
 have aN:Rows X B ao co s:=OwnR.step (λ_ _ _ _ _ _ h=>h) hR hE λ_ _ h=>(by cases h)
 have aB:=QT oJ (Kn s w (by have:=(Bw hv).1;omega) λl hl=>by have:=(Bw hv).2 l hl;omega) (OC hg hE) (OwnR.ro (λ_ _ _ _ _ _ h=>h) aN λ_ _ h=>(by cases h));rw [hX] at aB;rw [show JW s w=p from hp] at aB;subst bE;have hw:=QG s w;rw [show JW s w=p from hp] at hw
 go_enter Tryz.func246,Tryz.ntmps246
 go_wp2_with fail
 refine aB.mono ?_;rintro e w1 ⟨rfl,av⟩;rw [←hX] at av;have al:=av.box hb (by simp);have y0:w1.cell? ⟨wr.heap.size,0,none⟩=some (.int .i64 w):=by rw [Af al];rfl
 have y1:w1.cell? ⟨wr.heap.size,1,none⟩=some (.int .i64 p.1):=by rw [Af al];rfl
 have y2:w1.cell? ⟨wr.heap.size,2,none⟩=some (.int .i64 t):=by rw [Af al];rfl
 have y3:w1.cell? ⟨wr.heap.size,3,none⟩=some (.bool fr):=by rw [Af al];rfl
 have ah:Ev [] wr w1:=hE.ext av;have bc:Rows w1 B ao co s:=OwnR.step (λ_ _ _ _ _ _ h=>h) aN av λ_ _ h=>(by cases h)
 clear aB aN;have z:p.1≠-1∨(p.1 = -1∧(t == -1)=false):=by
  by_cases e:p.1 = -1;exact .inr ⟨e,by simp;omega⟩;exact .inl e
 go_upto_region 4 with fail
 go_cut [65] (λs65 wc=>s65=.bool false∧wc=w1)
 case first=>
  rcases z with z|⟨z,z2⟩;all_goals
   go_wp2
   go_meet
   case rel=>exact ⟨rfl,rfl⟩
 case rest=>
  obtain ⟨rfl,rfl⟩:=hcut;obtain ⟨q,hq⟩:∃ q:Bool,q=decide (0≤t∧t≠p.1∧(T[t.toNat]?.getD ([],0)).2-sm L (s[t.toNat]?.getD [])<vw L w.toNat):=⟨_,rfl⟩
  go_upto_region 6 with fail
  go_cut [95] (λs95 w2=>s95=.bool q∧Ev [] wc w2)
  case first=>
   by_cases c4:0≤t
   ·by_cases c5:t=p.1
    ·have Q:Hid (q=false):=by rw [hq];exact M1K (by omega)
     clear hq;subst c5
     go_region_o
     all_goals
      go_wp2
      go_meet
      case rel=>exact ⟨by rw [Q.out],rfl,rfl,rfl,M1g _,λ_ _ _=>rfl⟩
    ·have c6:(t==p.1)=false:=by simp [c5]
     have c7:(t != p.1)=true:=by simp [c5]
     obtain ⟨A,rfl⟩:=M1j c4;obtain ⟨J,rfl⟩:=M1j k1;have Z:A<s.length:=by omega
     have aZ:A<T.length:=by have:=hv.1;omega
     have hrow:=AN hv _ (M03 Z);have aO:=QS hv Z aZ;have be:q=decide (T[A].2-sm L s[A]<vw L J):=by
      rw [hq];simp only [M1i,M00 Z,M00 aZ,M1G];rw [M3l];exact ⟨λh=>h.2.2,λh=>⟨by omega,c5,h⟩⟩
     obtain ⟨g0,ai,ci,rfl,ak,bK,ho,_,_,_⟩:=BY bc (M00 Z);obtain ⟨pT,oT,rfl⟩:=Gy hT (by omega);obtain ⟨pL,oL,rfl⟩:=Gy hL (by omega);obtain ⟨_,_,m3,m4⟩:=hT.at_ _ rfl (by omega);obtain ⟨_,_,n3,n4⟩:=hL.at_ _ rfl (by omega);obtain ⟨cs,⟨ca,cb,rfl,aS,aU⟩,m5⟩:=m4 A _ (M00 aZ);have aS:ca=[Vs T[A].1]:=aS;have aU:cb=[.int .i64 T[A].2]:=aU;subst aS;subst aU;have m6:=m5 0 _ rfl;have m7:=m5 1 _ rfl;obtain ⟨cs,aX,n5⟩:=n4 J _ (QE (by omega:J<L.length));have aX:cs=[.int .i64 (vw L J)]:=aX;subst aX;have n6:=n5 0 _ rfl;have a8:(eT (.pair .str ti)).n=2:=rfl;have bu:(eT ti).n=1:=rfl;have m3:pT<wr.heap.size:=m3;have n3:pL<wr.heap.size:=n3;rw [a8,M1M,←ah.cell (a:=⟨pT,_,none⟩) m3 (by simp)] at m6;rw [a8,←M1P,←ah.cell (a:=⟨pT,_,none⟩) m3 (by simp)] at m7;rw [bu,M29,M1M,←ah.cell (a:=⟨pL,_,none⟩) n3 (by simp)] at n6;have bz:=xF (nm:=T[A].1) (Ww hv hrow.1 (by omega) T[A].1 T[A].2 aO.1 aO.2.1) (w:=wc.drew) (OC hg (ah.ext ⟨rfl,rfl,rfl,M1g _,λ_ _ _=>rfl⟩)) (hL.step (Stp.same (ah.ext ⟨rfl,rfl,rfl,M1g _,λ_ _ _=>rfl⟩) λ_ h=>(by cases h))) ((ho.evp (M':=[]) (λ_ _ _ _ _ _ h=>h) (Mo:=[]) (w':=wc.drew) ⟨rfl,rfl,rfl,M1g _,λ_ _ _=>rfl⟩ λ_ _ h=>(by cases h)).ro (λ_ h=>h) λ_ _ h=>(by cases h));have ar:Ev [] wc wc.drew:=⟨rfl,rfl,rfl,M1g _,λ_ _ _=>rfl⟩
     have a0:∀ Y,Ev [] wc Y→Y.cell? ⟨wr.heap.size,0,none⟩=some (.int .i64 J)∧Y.cell? ⟨wr.heap.size,1,none⟩=some (.int .i64 p.1)∧Y.cell? ⟨wr.heap.size,2,none⟩=some (.int .i64 A)∧Y.cell? ⟨pT,oT+A*2,none⟩=some (Vs T[A].1)∧Y.cell? ⟨pT,oT+A*2+1,none⟩=some (.int .i64 T[A].2)∧Y.cell? ⟨g0,A,none⟩=some (.slice ai (s[A]).length ci)∧Y.cell? ⟨pL,oL+J,none⟩=some (.int .i64 (vw L J)):=λY hY=>by
      have k:∀ {a:Addr} {v:Value},wc.cell? a=some v→Y.cell? a=some v:=λ{a v} h=>by rw [hY.cell (C1 h) (by simp)];exact h
      exact ⟨k y0,k y1,k y2,k m6,k m7,k ak,k n6⟩
     have Q:Hid (q=decide (T[A].2-sm L s[A]<vw L J)):=be;clear hq be c5 m4 n4 m5 n5 aO hrow
     go_region_held (λY=>Y.cell? ⟨wr.heap.size,0,none⟩=some (.int .i64 J)∧Y.cell? ⟨wr.heap.size,1,none⟩=some (.int .i64 p.1)∧Y.cell? ⟨wr.heap.size,2,none⟩=some (.int .i64 A)∧Y.cell? ⟨pT,oT+A*2,none⟩=some (Vs T[A].1)∧Y.cell? ⟨pT,oT+A*2+1,none⟩=some (.int .i64 T[A].2)∧Y.cell? ⟨g0,A,none⟩=some (.slice ai (s[A]).length ci)∧Y.cell? ⟨pL,oL+J,none⟩=some (.int .i64 (vw L J)))
      (first|exact a0 _ ar|exact a0 _ (ar.ext ba)) (first | (go_at_call 29;refine bz.mono ?_;rintro e w3 ⟨rfl,ba⟩))
     go_wp2
     go_meet
     case rel=>exact ⟨by rw [Q.out],ar.ext ba⟩
   ·have Q:Hid (q=false):=by rw [hq];exact M1K (by omega)
    have c4:t<0:=by omega
    clear hq
    go_region_o
    all_goals
     go_wp2
     go_meet
     case rel=>exact ⟨by rw [Q.out],rfl,rfl,rfl,M1g _,λ_ _ _=>rfl⟩
  case rest=>
   obtain ⟨rfl,aw⟩:=hcut;have ax:=ah.ext aw;have am:=aw.box al (by simp);obtain ⟨y0,y1,y2,y3⟩:=H6 am;have ay:=OwnR.step (λ_ _ _ _ _ _ h=>h) bc aw λ_ _ h=>(by cases h)
   have I:Hid (cd T L s w p.1 t=if q then 14 else 0):=by
    unfold cd;rw [M1e (by omega),M1e (by rw [show Su s w=p from hp];simp;omega),hq];by_cases e:(0≤t∧t≠p.1∧(T[t.toNat]?.getD ([],0)).2-sm L (s[t.toNat]?.getD [])<vw L w.toNat);rw [M1d e,M1p e];rfl;rw [M1e e,M1K e];rfl
   clear hq;cases q with
   | true=>
    go_wp2
    go_ret
    have I:cd T L s w p.1 t=14:=I.out;exact ⟨by rw [I];rfl,ax.nil,B,λb hb=>.inl hb,by unfold fL;rw [M1e (by rw [I];decide)];exact ay⟩
   | false=>
    have I:Hid (cd T L s w p.1 t=0):=I.out;have bd:=fk hv hw;have K:Hid (∀ j:Nat,(if 0≤p.1 then s.set p.1.toNat ((s[p.1.toNat]?.getD []).take p.2.toNat++(s[p.1.toNat]?.getD []).drop (p.2.toNat+1)) else s)[j]? =(s[j]?).map λrow:List Int=>row.filter (·≠w)):=bd;obtain ⟨s1,aY⟩:∃ s1,s1=if 0≤p.1 then s.set p.1.toNat ((s[p.1.toNat]?.getD []).take p.2.toNat++(s[p.1.toNat]?.getD []).drop (p.2.toNat+1)) else s:=⟨_,rfl⟩
    have K:Hid (∀ j:Nat,s1[j]? =(s[j]?).map λrow:List Int=>row.filter (·≠w)):=by rw [aY];exact K.out
    have S1:Hid (s1=if 0≤p.1 then s.set p.1.toNat ((s[p.1.toNat]?.getD []).take p.2.toNat++(s[p.1.toNat]?.getD []).drop (p.2.toNat+1)) else s):=aY;have aQ:∀ {U:List Nat},(∀ b∈U,b∈B∨wr.heap.size<b)→wr.heap.size∉U:=λh1 h2=>(h1 _ h2).elim (λh=>M3g _ (hB _ h)) (M3g _)
    clear bd aY
    go_upto_if 97 with fail
    go_cut [] (λw4=>Ev B wr w4∧w4.heap[wr.heap.size]? = some (PM w p.1 t fr)∧∃ U,(∀ b∈U,b∈B∨wr.heap.size<b)∧Rows w4 U ao co s1)
    case first=>
     rcases hw with ⟨rfl,hn⟩|⟨u,i,row,rfl,j1,j2,j3⟩
     ·go_wp2
      go_meet
      case rel=>exact ⟨ax.nil,am,B,λb hb=>.inl hb,by rw [S1.out,M1e (by decide)];exact ay⟩
     ·have hi:=(M09.1 j2.1).1;have bF:=(AN hv row (M1k j1)).2.2;obtain ⟨g0,ai,ci,rfl,ak,bA⟩:=M0o ay j1 hi;have bQ:=(M09.1 j1).1;have a9:s1=s.set u (row.take i++row.drop (i+1)):=by rw [S1.out,M1d (by simp)];simp only [M1i,j1,M1G]
      have es:Hid (s1=s.set u (row.take i++row.drop (i+1))):=a9;clear j2 j3 K I a9
      go_wp2_with fail
      refine bA.mono ?_;rintro e w3 ⟨rfl,q1,q2,q3,q4,q5,E,q6,q7⟩;have bN:=Am am
      go_wp2
      go_meet
      case rel=>exact ⟨ax.nil.then q5 λb hb=>.inl hb,q5.box am (aQ λb hb=>.inl hb),E,λb hb=>(q6 b hb).imp id λh=>by omega,by rw [es.out];exact q7⟩
    case rest=>
     obtain ⟨bb,an,U,au,aj⟩:=hcut;clear ay aw am y0 y1 y2 y3 ax;obtain ⟨y0,y1,y2,y3⟩:=H6 an;have sl:s1.length=s.length:=by rw [S1.out];split <;> simp
     have rl:=SH hv K.out;have O:(if 0≤t then s1.set t.toNat (if fr then w::(s1[t.toNat]?.getD []) else (s1[t.toNat]?.getD [])++[w]) else s1)=mv s w t fr:=fj K.out;have fin:∀ (G:World) (B2:List Nat) (sx:Bp),Ev U wc G→(∀ b∈B2,b∈U∨wc.heap.size≤b)→Rows G B2 ao co sx→sx=mv s w t fr→Ev B wr G∧∃ E,(∀ b∈E,b∈B∨wr.heap.size≤b)∧Rows G E ao co (fL T L s w p.1 t fr):=λG B2 sx f1 f2 f3 f4=>by
      have bO:=bb.size;refine ⟨bb.then f1 λb hb=>(au b hb).imp id M2J,B2,λb hb=>?_,by unfold fL;rw [M1d I.out,←f4];exact f3⟩;rcases f2 b hb with h|h
      exact (au b h).imp id M2J;exact .inr (by omega)
     have F:=fin;clear fin S1 K hw;by_cases c4:0≤t
     ·obtain ⟨A,rfl⟩:=M1j c4;have Z:A<s1.length:=by omega
      have bF:=rl _ (M03 Z);rw [M1d c4,M1i,M00 Z,M1G] at O;have ar:Ev [] wc wc.drew:=⟨rfl,rfl,rfl,M1g _,λ_ _ _=>rfl⟩
      have a0:∀ Y:World,Y.heap[wr.heap.size]? = some (PM w p.1 A fr)→Y.cell? ⟨wr.heap.size,0,none⟩=some (.int .i64 w)∧Y.cell? ⟨wr.heap.size,2,none⟩=some (.int .i64 A):=λY hY=>⟨(H6 hY).1,(H6 hY).2.2.1⟩
      cases fr with
      | true=>
       rw [M1d rfl] at O;obtain ⟨g0,ai,ci,rfl,ak,bB⟩:=M0p w aj (M00 Z) (by omega);have bC:g0<wc.heap.size:=C1 ak;have bD:wr.heap.size<wc.heap.size:=Am an;have SM:Hid (s1.set A (w::s1[A])=mv s w A true):=O;clear O aj rl
       go_wp2_with fail
       go_region_with_o (first | (go_at_call 285;refine bB.mono ?_;rintro e G ⟨a',c',rfl,q1,q2,q3,q4,q5,q6⟩;have z2:=(H6 (q4.box an (aQ au))).2.2.1))
       all_goals
        obtain ⟨E,q7,q8⟩:=q6;have R:=F _ E _ q5 q7 q8 SM.out;have R:Hid (Ev B wr (G.setCell ⟨g0,A,none⟩ (.slice a' (s1[A].length+1) c'))∧∃ E,(∀ b∈E,b∈B∨wr.heap.size≤b)∧Rows (G.setCell ⟨g0,A,none⟩ (.slice a' (s1[A].length+1) c')) E (some ⟨g0,0,none⟩) co (fL T L s w p.1 A true)):=R;clear F q5 q7 q8
        go_wp2
        go_ret
        exact ⟨by rw [I.out];rfl,R.out⟩
      | false=>
       rw [M1e (by decide)] at O;obtain ⟨g0,ai,ci,a',c',G,rfl,ak,bf,q1,q2,q3,q4,q5,E,q7,q8⟩:=qE w aj (M00 Z) (by omega);have bC:g0<wc.heap.size:=C1 ak;have bD:wr.heap.size<wc.heap.size:=Am an;have R:=F _ E _ q5 q7 q8 O;have R:Hid (Ev B wr (G.setCell ⟨g0,A,none⟩ (.slice a' (s1[A].length+1) c'))∧∃ E,(∀ b∈E,b∈B∨wr.heap.size≤b)∧Rows (G.setCell ⟨g0,A,none⟩ (.slice a' (s1[A].length+1) c')) E (some ⟨g0,0,none⟩) co (fL T L s w p.1 A false)):=R;have H:Hid ((Builtin.append_ #[22,22] 22 #[.slice ai (s1[A]).length ci,.slice (some ⟨wc.heap.size,0,none⟩) 1 1]).run Tryz.prog (wc.alloc (.cells #[.int .i64 w] 3 (0,0))).drew=.ok (.slice a' ((s1[A]).length+1) c') G):=bf;have z2:=(H6 (q4.box an (aQ au))).2.2.1;clear F O aj rl bf q7 q8
       go_wp2_with fail
       go_region_law_o (refine Gz rfl _ _ 22 rfl rfl rfl H.out ?_)
       all_goals
        go_wp2
        go_ret
        exact ⟨by rw [I.out];rfl,R.out⟩
     ·rw [M1e c4] at O;have c4:t<0:=by omega
      have R:=F wc U s1 (Ev.refl _ _) (λb hb=>.inl hb) aj O;have R:Hid (Ev B wr wc∧∃ E,(∀ b∈E,b∈B∨wr.heap.size≤b)∧Rows wc E ao co (fL T L s w p.1 t fr)):=R;clear F aj O
      go_wp2
      go_ret
      exact ⟨by rw [I.out];rfl,R.out⟩
end
theorem oN {wr:World}{T:G8}{L:List Int}{s:Bp}{aT aL ao:Option Addr}{cT cL co:Nat}{B:List Nat}(hv:Dc T L s)(hg:GlP (R0 wr))(hT:SlR (eT (.pair .str ti)) wr [] aT cT T)(hL:SlR (eT ti) wr [] aL cL L)(hR:Rows wr B ao co s)(hB:∀ b∈B,b<wr.heap.size)(w f t:Int)(fr:Bool) :
  Calls Tryz.prog 246 #[.slice aT T.length cT,.slice aL L.length cL,.slice ao s.length co,.agg #[.int .i64 w,.int .i64 f,.int .i64 t,.bool fr]] wr λe w'=>e=.returned (.int .i64 (cd T L s w f t))∧Ev B wr w'∧∃ A,(∀ b∈A,b∈B∨wr.heap.size≤b)∧Rows w' A ao co (fL T L s w f t fr):=by
 have same:∀ (w':World) (x:Int),x≠0→cd T L s w f t=x→Ev [] wr w'→Ev B wr w'∧∃ A,(∀ b∈A,b∈B∨wr.heap.size≤b)∧Rows w' A ao co (fL T L s w f t fr):=λw' x I e G=>
  ⟨G.nil,B,λb hb=>.inl hb,by unfold fL;rw [M1e (by rw [e];exact I)];exact OwnR.step (λ_ _ _ _ _ _ h=>h) hR G λ_ _ h=>(by cases h)⟩
 by_cases c:w<0∨(L.length:Int)≤w∨f < -1∨(s.length:Int)≤f∨t < -1∨(s.length:Int)≤t;have e:cd T L s w f t=2:=by unfold cd;rw [M1d c]
 exact (fI wr aT aL ao T.length cT L.length cL s.length co w f t fr c).mono λr w' ⟨h1,h2⟩=>⟨by rw [h1,e],same w' 2 (by decide) e h2⟩
 by_cases E:(Su s w).1≠f∨(f = -1∧t = -1)
 have e:cd T L s w f t=17:=by unfold cd;rw [M1e c,M1d E]
 refine (YD wr aT aL ao T.length cT L.length cL s.length co w f t fr ⟨⟨by omega,by omega⟩,⟨by omega,by omega⟩,by omega,by omega⟩ (Su s w) E λX H=>?_).mono λr w' ⟨h1,h2⟩=>⟨by rw [h1,e],same w' 17 (by decide) e h2⟩
 exact QT oJ (Kn s w (by have:=(Bw hv).1;omega) λl hl=>by have:=(Bw hv).2 l hl;omega) (OC hg H) (OwnR.ro (λ_ _ _ _ _ _ h=>h) (OwnR.step (λ_ _ _ _ _ _ h=>h) hR H λ_ _ h=>(by cases h)) λ_ _ h=>(by cases h));exact fM fr ⟨hv,hg,hT,hL,hR,hB,⟨⟨by omega,by omega⟩,⟨by omega,by omega⟩,by omega,by omega⟩,rfl,by omega,λh=>E (.inr h)⟩
section
variable {w:World}{c:Nat}
theorem xI{M:List Nat}{A o0:Nat}{l:List jm}(hs:SlR (eT Aj) w M (some ⟨A,o0,none⟩) c l){k:Nat}(hk:k<l.length):w.cell? ⟨A,o0+k*4,none⟩=some (.int .i64 l[k].1)∧w.cell? ⟨A,o0+k*4+1,none⟩=some (.int .i64 l[k].2.1)∧w.cell? ⟨A,o0+k*4+2,none⟩=some (.int .i64 l[k].2.2.1)∧w.cell? ⟨A,o0+k*4+3,none⟩=some (.bool l[k].2.2.2):=by
 obtain ⟨_,_,_,H⟩:=hs.at_ _ rfl (by omega);obtain ⟨cs,⟨G,I,rfl,h1,c3,J,rfl,h2,c5,c6,rfl,h3,E⟩,B⟩:=H k l[k] (M00 hk);have h1:G=[.int .i64 l[k].1]:=h1;have h2:c3=[.int .i64 l[k].2.1]:=h2;have h3:c5=[.int .i64 l[k].2.2.1]:=h3;have E:c6=[.bool l[k].2.2.2]:=E;subst h1;subst h2;subst h3;subst E;exact ⟨B 0 _ rfl,by rw [M1P];exact B 1 _ rfl,by rw [M1P];exact B 2 _ rfl,by rw [M1P];exact B 3 _ rfl⟩
theorem fN{B:List Nat}{a:Option Addr}{d:List (List Int)}(h:Rows w B a c d):Rows w (B.filter λb=>decide (b<w.heap.size)) a c d:=by
 obtain ⟨hs,h1,h2,h3,H,I⟩:=h;refine ⟨hs,h1,h2,λx A=>M1Z.2 ⟨h3 x A,M1p (h1.lt x A)⟩,λi k xs hi A hk=>?_,I⟩;obtain ⟨E,q2,G⟩:=H i k xs hi A hk;exact ⟨E,q2,λx A=>⟨M1Z.2 ⟨(G x A).1,M1p (E.lt x A)⟩,(G x A).2⟩⟩
noncomputable def GW (T:G8) (L:List Int) (l:List jm) (s:Bp):Bp×Int×Int:=match BJ T L l 0 s with | .inl (i,c)=>([],i,c) | .inr b=>(b,(l.length:Int),0)
theorem M0s{T:G8}{L:List Int}{s:Bp}{l:List jm}{a0 a1 a2 a3:Option Addr}{c0 c1 Z c3:Nat}(hv:Dc T L s)(hl:l.length≤100000)(hg:GlP (R0 w))(h0:SlR (eT (.pair .str ti)) w [] a0 c0 T)(h1:SlR (eT ti) w [] a1 c1 L)(h2:SlR (eT (.sl ti)) w [] a2 Z s)(h3:SlR (eT Aj) w [] a3 c3 l) :
  Calls Tryz.prog 181 #[.slice a0 T.length c0,.slice a1 L.length c1,.slice a2 s.length Z,.slice a3 l.length c3] w λe w'=>∃ a' c' B,e=.returned (.tuple #[.slice a' (GW T L l s).1.length c',.int .i64 (GW T L l s).2.1,.int .i64 (GW T L l s).2.2])∧Ev [] w w'∧(∀ b∈B,w.heap.size≤b)∧Rows w' B a' c' (GW T L l s).1:=by
 have aF:=Ej;have ap:=Wy s12 (fG hv) hg h0 h1 h2;have hsl:=Bw hv
 go_enter Tryz.func181,Tryz.ntmps181
 go_wp2_with fail
 refine ap.mono ?_;rintro e w1 ⟨rfl,ab⟩;have al:=fC w1 a2 Z s [] (h2.step (Stp.same ab λ_ h=>(by cases h))) (by have:=hv.1;have:=hv.2.1;omega) λr hr=>by have:=(AN hv r hr).2.2;omega
 go_wp2_with fail
 refine al.mono ?_;rintro e w2 ⟨ao,co,B,rfl,av,hB,hR⟩;have aj:Ev [] w w2:=ab.ext av;have aG:=ab.size;generalize hn:l.length=n at *
 go_wp2_with fail
 go_loopg [24] n (λg yD wr=>∃ i:Nat,yD=.int .i64 i∧i+g=n∧Ev [] w wr∧∃ b B,(∀ k∈B,w.heap.size≤k∧k<wr.heap.size)∧Rows wr B ao co b∧Dc T L b∧b.length=s.length∧BJ T L (l.drop i) i b=BJ T L l 0 s)
 case atStart=>exact ⟨0,rfl,by omega,aj,s,B,λk hk=>⟨by have:=(hB k hk).1;omega,(hB k hk).2⟩,hR,hv,rfl,rfl⟩
 case round=>
  clear hB hR aj al ap;obtain ⟨i,rfl,hi,E,b,B,hB,hR,af,O,A⟩:=hrel;by_cases aC:i<n
  ·obtain ⟨p3,o3,rfl⟩:=Gy h3 (by omega);have st:∀ {Y:World},Ev [] w Y→SlR (eT Aj) Y [] (some ⟨p3,o3,none⟩) c3 l:=λhY=>h3.step (Stp.same hY λ_ h=>(by cases h))
   obtain ⟨t0,t1,t2,t3⟩:=xI (st E) (k:=i) (by omega);have l1:p3<wr.heap.size:=C1 t0;obtain ⟨X,hX⟩:∃ X,X=wr.alloc (PM l[i].1 l[i].2.1 l[i].2.2.1 l[i].2.2.2):=⟨_,rfl⟩
   have G:Ev [] wr X:=by rw [hX];exact (Ev.alloc wr _).nil
   have an:=oN af (OC hg (E.ext G)) (h0.step (Stp.same (E.ext G) λ_ h=>(by cases h))) (h1.step (Stp.same (E.ext G) λ_ h=>(by cases h))) (OwnR.step (λ_ _ _ _ _ _ h=>h) hR G λ_ _ h=>(by cases h)) (λk hk=>M1D (hB k hk).2 G.size) l[i].1 l[i].2.1 l[i].2.2.1 l[i].2.2.2;rw [hX,O] at an;rw [nY (by omega:i<l.length)] at A;have A:Hid ((if cd T L b l[i].1 l[i].2.1 l[i].2.2.1=0 then BJ T L (l.drop (i+1)) (i+1) (mv b l[i].1 l[i].2.2.1 l[i].2.2.2) else .inl ((i:Int),cd T L b l[i].1 l[i].2.1 l[i].2.2.1))=BJ T L l 0 s):=A;have aE:=G.size
   go_wp2_with fail
   refine an.mono ?_;rintro e U ⟨rfl,ac,B',aa,J⟩;rw [←hX] at ac aa;have ai:Ev [] w U:=(E.ext G).then ac λk hk=>.inr (hB k hk).1
   have aD:=ac.size;by_cases H:cd T L b l[i].1 l[i].2.1 l[i].2.2.1=0
   ·have ae:=A.out;rw [M1d H] at ae;have aq:=Gx af l[i].2.2.2 H;have ak:Rows U B' ao co (mv b l[i].1 l[i].2.2.1 l[i].2.2.2):=by unfold fL at J;rw [M1d H] at J;exact J
    have am:(mv b l[i].1 l[i].2.2.1 l[i].2.2.2).length=s.length:=by rw [QI];exact O
    have K:Hid (∃ b B,(∀ k∈B,w.heap.size≤k∧k<U.heap.size)∧Rows U B ao co b∧Dc T L b∧b.length=s.length∧BJ T L (l.drop (i+1)) (i+1) b=BJ T L l 0 s):=
     ⟨_,_,λk hk=>⟨(aa k (M1Z.1 hk).1).elim (λh=>(hB k h).1) λh=>by have:=E.size;omega,M1s (M1Z.1 hk).2⟩,fN ak,aq,am,ae⟩
    clear ak aq am ae A aa J hR hB af O;have ax:cd T L b l[i].1 l[i].2.1 l[i].2.2.1=0:=H;generalize cd T L b l[i].1 l[i].2.1 l[i].2.2.1=cc at *;subst ax
    go_wp2
    go_roundg (n-(i+1))
    case measure=>omega
    case rel=>exact ⟨i+1,rfl,by omega,ai,K.out⟩
   ·have aB:(cd T L b l[i].1 l[i].2.1 l[i].2.2.1==0)=false:=by simp [H]
    have I:GW T L l s=([],(i:Int),cd T L b l[i].1 l[i].2.1 l[i].2.2.1):=by
     unfold GW;rw [←A.out,M1e H]
    have K:Hid (GW T L l s=([],(i:Int),cd T L b l[i].1 l[i].2.1 l[i].2.2.1)):=I;clear I J A H
    go_wp2
    go_ret3
    rw [K.out];exact ⟨none,0,[],rfl,ai,λk hk=>(by cases hk),OwnR.nil _ _ _ _ _⟩
  ·have e:i=n:=by omega
   subst e;have I:GW T L l s=(b,(l.length:Int),0):=by
    unfold GW;rw [←A,←hn,List.drop_length];rfl
   have K:Hid (GW T L l s=(b,(l.length:Int),0)):=I;clear A I
   go_wp2
   go_ret3
   rw [K.out];exact ⟨ao,co,B,by rw [O,hn];rfl,E,λk hk=>(hB k hk).1,hR⟩
end
end Go.T
namespace Go.T
open Go Go.E Go.V Go.Proofs
section
variable {w:World}
theorem gl0 {q:Go.E.Ren}(h:GlP q)(B:q.zw=w):GlP (R0 w):=by
 have A:GlP ⟨λ_=>none,λ_=>none,q.zw,q.zM⟩:=h.same rfl rfl;refine A.mono ⟨λ_ _ h=>h,λ_ _ h=>h,?_⟩;show Stp q.zM q.zw [] w
 rw [B];exact Stp.sub w λb hb=>by cases hb
variable {c:Nat}
theorem xJ {α:Type}{e:Enc α}{M:List Nat}{a:Option Addr}{xs:List α}(h:SlR e w M a c xs):SlR e w [] a c xs:=h.sub λ_ h=>by cases h
theorem M5t {wr:World}{T:G8}{L:List Int}{s:Bp}{aT aL B:Option Addr}{cT cL E:Nat}(hv:Dc T L s)(hg:GlP (R0 wr))(hT:SlR (eT (.pair .str ti)) wr [] aT cT T)(hL:SlR (eT ti) wr [] aL cL L)(H:SlR (eT (.sl ti)) wr [] B E s)(w f t:Int)(fr:Bool) :
  Calls Tryz.prog 120 #[.slice aT T.length cT,.slice aL L.length cL,.slice B s.length E,.agg #[.int .i64 w,.int .i64 f,.int .i64 t,.bool fr]] wr (iD wr T L s w f t fr):=by
 have st:∀ {α:Type} {e:Enc α} {a:Option Addr} {c:Nat} {xs:List α} {X:World},SlR e wr [] a c xs→Ev [] wr X→SlR e X [] a c xs:=λh A=>h.step (Stp.same A λ_ h=>(by cases h))
 have I:∀ X,Ev [] wr X→Calls Tryz.prog 189 #[.slice aT T.length cT,.slice aL L.length cL,.slice B s.length E] X λe w'=>e=.returned (.bool true)∧Ev [] X w':=λX A=>Wy M5q (oK hv) (OC hg A) (st hT A) (st hL A) (st H A)
 have J:∀ X,Ev [] wr X→Calls Tryz.prog 74 #[.slice B s.length E,.int .i64 w] X λe w'=>e=.returned (.tuple #[.int .i64 (Su s w).1,.int .i64 (Su s w).2])∧Ev [] X w':=λX A=>QT xC (Oz s w (by have:=(Bw hv).1;omega) λl hl=>by have:=(Bw hv).2 l hl;omega) (OC hg A) (st H A)
 have no:∀ (w':World) (x:Int),x≠0→cd T L s w f t=x→Ev [] wr w'→iD wr T L s w f t fr (.returned (.tuple #[.slice none 0 0,.int .i64 x])) w':=λw' x Y e U=>by
  have O:fK T L s w f t fr=([],x):=by unfold fK;rw [M1e (by rw [e];exact Y),e]
  unfold iD;rw [O];exact ⟨none,0,[],rfl,U,λk hk=>(by cases hk),OwnR.nil _ _ _ _ _⟩
 by_cases c:w<0∨(L.length:Int)≤w∨f < -1∨(s.length:Int)≤f∨t < -1∨(s.length:Int)≤t;have e:cd T L s w f t=2:=by unfold cd;rw [M1d c]
 exact (M0n wr aT aL B T.length cT L.length cL s.length E w f t fr c I).mono λr w' ⟨h1,h2⟩=>by rw [h1];exact no w' 2 (by decide) e h2
 have hd:Bd L.length s.length w f t:=⟨⟨by omega,by omega⟩,⟨by omega,by omega⟩,by omega,by omega⟩
 by_cases G:(Su s w).1≠f∨(f = -1∧t = -1)
 have e:cd T L s w f t=17:=by unfold cd;rw [M1e c,M1d G]
 have h1:-1≤(Su s w).1:=by
  rcases QG s w with ⟨h,_⟩|⟨u,i,row,h,_⟩;rw [show Su s w=(-1,-1) from h];decide;rw [show Su s w=((u:Int),(i:Int)) from h];show -1≤(u:Int);omega
 exact (xG wr aT aL B T.length cT L.length cL s.length E w f t fr hd (Su s w) h1 G I J).mono λr w' ⟨h1,h2⟩=>by rw [h1];exact no w' 17 (by decide) e h2
 exact M0r fr hv hg hT hL H hd rfl (by omega) (λh=>G (.inr h)) I J
theorem fO {w':World}{B:List Nat}{a:Option Addr}{d:List (List Int)}(h:Rows w' B a c d)(hB:∀ b∈B,w.heap.size≤b):c≤maxLen∧(∀ b∈Av a,w.heap.size≤b)∧∀ q:Go.E.Ren,q.zw=w'→(∀ k∈q.zM,k<w.heap.size∨k∈Av a)→OwnX (eZ q (.sl ti)) 22 w' [] a c d:=
 ⟨(SN h).1,λb hb=>hB b ((SN h).2 b hb),λq G A=>xx h hB q G A⟩
open Classical in
theorem fP:AW Tryz.prog 120 (XV OQ):=by
 refine oB (ins:=[.slot 0 (.d (.sl (.pair .str ti))),.slot 1 (.d (.sl ti)),.slot 2 (.d (.sl (.sl ti))),.slot 3 (.d Aj)]) (t:=.sl ti) (T:=22) (F:=OQ) λx y hy=>⟨_,rfl,λq w vargs hl hf hgl A hM=>?_⟩
 obtain ⟨T,L,s,m,f,t,fr⟩:=x;obtain ⟨U,Y,Z,v3,rfl⟩:=qD hl;obtain ⟨a0,c0,rfl,O⟩:=G4 A (hf 0 (.ro (.pair .str ti) T) rfl:RV q _ U);obtain ⟨a1,c1,rfl,h1⟩:=G4 A (hf 1 (.ro ti L) rfl:RV q _ Y);obtain ⟨a2,c2,rfl,h2⟩:=G4 A (hf 2 (.ro (.sl ti) s) rfl:RV q _ Z);have h3:RV q (.agg [.int .i64 m,.int .i64 f,.int .i64 t,.bool fr]) v3:=hf 3 _ rfl;obtain ⟨vs,rfl,E⟩:=h3
 match vs,E with
 | [u0,u1,u2,u3],E=>
  obtain ⟨rfl,rfl,rfl,rfl,_⟩:=E;have hy:(if Dc T L s then some (if cd T L s m f t=0 then (mv s m t fr,(0:Int)) else ([],cd T L s m f t)) else none)=some y:=hy;by_cases hv:Dc T L s;rw [M1d hv] at hy;cases hy;refine ⟨(M5t hv (gl0 hgl A) (xJ O) (xJ h1) (xJ h2) m f t fr).mono λe w' ⟨a,c,B,G,H,I,J⟩=>?_,⟨_,Tryz.func120,by kernel_rfl,by kernel_rfl⟩⟩;obtain ⟨r1,r2,r3⟩:=fO J I;exact ⟨_,G,a,c,rfl,r1,r2,H,r3⟩
  rw [M1e hv] at hy;cases hy
open Classical in
theorem M0t:AW Tryz.prog 181 (uc Y6):=by
 refine oC (ins:=[.slot 0 (.d (.sl (.pair .str ti))),.slot 1 (.d (.sl ti)),.slot 2 (.d (.sl (.sl ti))),.slot 3 (.d (.sl Aj))]) (t:=.sl ti) (T:=22) (F:=Y6) λx y hy=>⟨_,rfl,λq w vargs hl hf hgl A hM=>?_⟩
 obtain ⟨T,L,s,m⟩:=x;obtain ⟨O,U,Y,Z,rfl⟩:=qD hl;obtain ⟨a0,c0,rfl,J⟩:=G4 A (hf 0 (.ro (.pair .str ti) T) rfl:RV q _ O);obtain ⟨a1,c1,rfl,h1⟩:=G4 A (hf 1 (.ro ti L) rfl:RV q _ U);obtain ⟨a2,c2,rfl,h2⟩:=G4 A (hf 2 (.ro (.sl ti) s) rfl:RV q _ Y);obtain ⟨a3,c3,rfl,h3⟩:=G4 A (hf 3 (.ro Aj m) rfl:RV q _ Z);have hy:(if Dc T L s∧List.length m≤100000 then some (GW T L m s) else none)=some y:=hy;by_cases hv:Dc T L s∧List.length m≤100000;rw [M1d hv] at hy;cases hy;refine ⟨(M0s hv.1 hv.2 (gl0 hgl A) (xJ J) (xJ h1) (xJ h2) (xJ h3)).mono λe w' ⟨a,c,B,E,G,H,I⟩=>?_,⟨_,Tryz.func181,by kernel_rfl,by kernel_rfl⟩⟩;obtain ⟨r1,r2,r3⟩:=fO I H;exact ⟨_,E,a,c,rfl,r1,r2,G,r3⟩
 rw [M1e hv] at hy;cases hy
theorem M5u:AW Tryz.prog 228 (M06 mN):=by
 refine fB (ins:=[.slot 0 (.d AB),.slot 1 (.d (.sl Ai)),.slot 2 (.d .bool)]) (s:=.sl ti) (F:=mN) λx y hy=>⟨_,rfl,λq w vargs hl hf hgl A hM=>?_⟩
 obtain ⟨⟨its,af,trk⟩,l,b⟩:=x;obtain ⟨v0,v1,v2,rfl⟩:=qC hl;have h0:RV q (.agg [.ro Ai its,.ro ti af,.ro (.sl ti) trk]) v0:=hf 0 _ rfl;obtain ⟨a1,J,rfl,h1⟩:=G4 A (hf 1 (.ro Ai l) rfl:RV q _ v1);have h2:v2=.bool b:=hf 2 (.bool b) rfl;subst h2;obtain ⟨vs,rfl,E⟩:=h0
 match vs,E with
 | [u0,u1,u2],E=>
  obtain ⟨k0,k1,k2,_⟩:=E;obtain ⟨G,O,rfl,j0⟩:=G4 A k0;obtain ⟨H,U,rfl,j1⟩:=G4 A k1;obtain ⟨I,Y,rfl,j2⟩:=G4 A k2;have hy:(if List.length trk≤1000000∧(∀ r∈(trk:List (List Int)),r.length≤1000000)∧List.length l≤1000000 then some (List.map (Kh l b) trk) else none)=some y:=hy;by_cases g:List.length trk≤1000000∧(∀ r∈(trk:List (List Int)),r.length≤1000000)∧List.length l≤1000000;rw [M1d g] at hy;cases hy;exact ⟨(oA w I a1 Y J G H _ _ O U trk l b q.zM j2 h1 g.1 g.2.1 g.2.2).mono λv w' ⟨a,c,B,Z,e2,e3,e4⟩=>⟨_,Z,e2,λM' ae=>⟨a,c,by rw [M2E],OwnR.ro (λ_ _ _ _ _ _ h=>h) e4 λb hb q=>by have:=e3 b hb;have:=ae b q;omega⟩⟩,⟨_,Tryz.func228,by kernel_rfl,by kernel_rfl⟩⟩
  rw [M1e g] at hy;cases hy
theorem xK:AW Tryz.prog 291 (mg Yh):=by
 refine fB (ins:=[.slot 0 (.d Cx)]) (s:=.sl ti) (F:=Yh) λx y hy=>⟨_,rfl,λq w vargs hl hf hgl Z hM=>?_⟩
 obtain ⟨its,m⟩:=x;obtain ⟨v0,rfl⟩:=Wt hl;have U:RV q (.agg [.ro Ai its,.int .i64 m]) v0:=hf 0 _ rfl;obtain ⟨vs,rfl,A⟩:=U
 match vs,A with
 | [u0,u1],A=>
  obtain ⟨k0,rfl,_⟩:=A;obtain ⟨E,G,rfl,j0⟩:=G4 Z k0;have hy:(if List.length its≤1000 then some (Js its) else none)=some y:=hy;by_cases g:List.length its≤1000;rw [M1d g] at hy;cases hy;exact ⟨(M0d w E G its m q.zM j0 g).mono λv w' ⟨a,c,B,H,I,J,O⟩=>⟨_,H,I,λM' Y=>⟨a,c,by simp only [Js,M2E,List.length_range],OwnR.ro (λ_ _ _ _ _ _ h=>h) O λb hb q=>by have:=J b hb;have:=Y b q;omega⟩⟩,⟨_,Tryz.func291,by kernel_rfl,by kernel_rfl⟩⟩
  rw [M1e g] at hy;cases hy
end
end Go.T
