/- Part L of the proof of TopConserved. No condition. -/
import Derived.Deep.Cut
import Derived.Deep.CutRange
import Derived.Deep.DeepCutAuto
import Derived.Deep.RegionHeld
import Derived.Deep.RegionHeldLaw
import Derived.Test.YtmihkgopplkcjaaGreatDoorJ
set_option linter.all false
set_option maxRecDepth 1000000
set_option maxHeartbeats 0
namespace Go.T
open Go Go.E Go.V Go.Proofs Go.Shelf Go.RowKit Go.Lib Go.Sort
section
structure ShG (wr:World) (T:G8) (L:List Int) (s:Bp) (aT aL ao:Option Addr) (cT cL co:Nat) (B:List Nat) (w f t:Int) (p:Int×Int):Prop where
 hv:Dc T L s
 hg:GlP (R0 wr)
 hT:SlR (eT (.pair .str ti)) wr [] aT cT T
 hL:SlR (eT ti) wr [] aL cL L
 hR:Rows wr B ao co s
 hB:∀ b∈B,b<wr.heap.size
 hd:Bd L.length s.length w f t
 hp:Su s w=p
 hf:p.1=f
 ft:¬ (f = -1∧t = -1)
noncomputable def fL (T:G8) (L:List Int) (s:Bp) (w f t:Int) (fr:Bool):Bp:=if cd T L s w f t=0 then mv s w t fr else s
variable {w t:Int}
theorem H6 {X:World}{k:Nat}{f:Int}{fr:Bool}(hb:X.heap[k]? = some (PM w f t fr)):X.cell? ⟨k,0,none⟩=some (.int .i64 w)∧X.cell? ⟨k,1,none⟩=some (.int .i64 f)∧X.cell? ⟨k,2,none⟩=some (.int .i64 t)∧X.cell? ⟨k,3,none⟩=some (.bool fr):=⟨by rw [Af hb];rfl,by rw [Af hb];rfl,by rw [Af hb];rfl,by rw [Af hb];rfl⟩
noncomputable def sqd:Nat→Code→Code
 |0,c=>c
 |n+1,.seq _ b=>sqd n b
 |_,c=>c
section
variable {wr wc:World}{ao:Option Addr}{co n k:Nat}{U:List Nat}{f C:Int}{s1 sm:Bp}{Rw:World→Prop}{u0 u1 u3 u4 u5 u6 u9 u10 u11 u12 u13 u14 u15 u16 u17 u18 u19 u20 u21 u22 u23 u24 u25 u26 u27 u28 u29 u30 u31 u32 u33 u34 u35 u36 u37 u38 u39 u40 u41 u42 u43 u44 u45 u46 u47 u48 u49 u50 u51 u52 u53 u54 u55 u56 u57 u58 u59 u60 u61 u62 u63 u64 u65 u66 u67 u68 u69 u70 u71 u72 u73 u74 u75 u76 u77 u78 u79 u80 u81 u82 u83 u84 u85 u86 u87 u88 u89 u90 u91 u92 u93 u94 u95 u96 u97 u98 u99 u100 u101 u102 u103 u104 u105 u106 u107 u108 u109 u110 u111 u112 u113 u114 u115 u116 u117 u118 u119 u120 u121 u122 u123 u124 u125 u126 u127 u128 u129 u130 u131 u132 u133 u134 u135 u136 u137 u138 u139 u140 u141 u142 u143 u144 u145 u146:Value}
theorem shT {A:Nat}(hC:Hid (C=0))(an:wc.heap[k]? = some (PM w f A true))(aj:Rows wc U ao co s1)(aQ:k∉U)(rl:∀ row∈s1,row.length≤192)(sl:s1.length=n)(Z:A<s1.length)(O:s1.set A (w::s1[A])=sm)(F:∀ (G:World) (B2:List Nat) (sx:Bp),Ev U wc G→(∀ b∈B2,b∈U∨wc.heap.size≤b)→Rows G B2 ao co sx→sx=sm→Rw G):
  Code.wp Tryz.prog (sqd 6 (Tryz.f246.body.getD .skip)) (bodyPost Tryz.prog Tryz.f246 λe w'=>e=.returned (.int .i64 C)∧Rw w') ⟨#[u0,u1,.slice ao n co,u3,u4,u5,u6,.pointer (some ⟨k,0,none⟩),.int .i64 0,u9,u10,u11,u12,u13,u14,u15,u16,u17,u18,u19,u20,u21,u22,u23,u24,u25,u26,u27,u28,u29,u30,u31,u32,u33,u34,u35,u36,u37,u38,u39,u40,u41,u42,u43,u44,u45,u46,u47,u48,u49,u50,u51,u52,u53,u54,u55,u56,u57,u58,u59,u60,u61,u62,u63,u64,u65,u66,u67,u68,u69,u70,u71,u72,u73,u74,u75,u76,u77,u78,u79,u80,u81,u82,u83,u84,u85,u86,u87,u88,u89,u90,u91,u92,u93,u94,u95,u96,u97,u98,u99,u100,u101,u102,u103,u104,u105,u106,u107,u108,u109,u110,u111,u112,u113,u114,u115,u116,u117,u118,u119,u120,u121,u122,u123,u124,u125,u126,u127,u128,u129,u130,u131,u132,u133,u134,u135,u136,u137,u138,u139,u140,u141,u142,u143,u144,u145,u146],[]⟩ wc:=by
 have b0:=Ej;obtain ⟨y0,y1,y2,y3⟩:=H6 an;conv=>arg 2;whnf
 subst sl;have bF:=rl _ (M03 Z);have ar:Ev [] wc wc.drew:=⟨rfl,rfl,rfl,M1g _,λ_ _ _=>rfl⟩
 have a0:∀ Y:World,Y.heap[k]? = some (PM w f A true)→Y.cell? ⟨k,0,none⟩=some (.int .i64 w)∧Y.cell? ⟨k,2,none⟩=some (.int .i64 A):=λY hY=>⟨(H6 hY).1,(H6 hY).2.2.1⟩
 obtain ⟨g0,ai,ci,rfl,ak,bB⟩:=M0p w aj (M00 Z) (by omega);have bC:g0<wc.heap.size:=C1 ak;have bD:k<wc.heap.size:=Am an;have SM:Hid (s1.set A (w::s1[A])=sm):=O;clear O aj rl
 go_wp2_with fail
 go_region_with_o (first | (go_at_call 285;refine bB.mono ?_;rintro e G ⟨a',c',rfl,q1,q2,q3,q4,q5,q6⟩;have z2:=(H6 (q4.box an aQ)).2.2.1))
 all_goals
  obtain ⟨E,q7,q8⟩:=q6;have R:=F _ E _ q5 q7 q8 SM.out;have R:Hid (Rw (G.setCell ⟨g0,A,none⟩ (.slice a' (s1[A].length+1) c'))):=R;clear F q5 q7 q8
  go_wp2
  go_ret
  exact ⟨by rw [hC.out];rfl,R.out⟩
theorem shF {A:Nat}(hC:Hid (C=0))(an:wc.heap[k]? = some (PM w f A false))(aj:Rows wc U ao co s1)(aQ:k∉U)(rl:∀ row∈s1,row.length≤192)(sl:s1.length=n)(Z:A<s1.length)(O:s1.set A (s1[A]++[w])=sm)(F:∀ (G:World) (B2:List Nat) (sx:Bp),Ev U wc G→(∀ b∈B2,b∈U∨wc.heap.size≤b)→Rows G B2 ao co sx→sx=sm→Rw G):
  Code.wp Tryz.prog (sqd 6 (Tryz.f246.body.getD .skip)) (bodyPost Tryz.prog Tryz.f246 λe w'=>e=.returned (.int .i64 C)∧Rw w') ⟨#[u0,u1,.slice ao n co,u3,u4,u5,u6,.pointer (some ⟨k,0,none⟩),.int .i64 0,u9,u10,u11,u12,u13,u14,u15,u16,u17,u18,u19,u20,u21,u22,u23,u24,u25,u26,u27,u28,u29,u30,u31,u32,u33,u34,u35,u36,u37,u38,u39,u40,u41,u42,u43,u44,u45,u46,u47,u48,u49,u50,u51,u52,u53,u54,u55,u56,u57,u58,u59,u60,u61,u62,u63,u64,u65,u66,u67,u68,u69,u70,u71,u72,u73,u74,u75,u76,u77,u78,u79,u80,u81,u82,u83,u84,u85,u86,u87,u88,u89,u90,u91,u92,u93,u94,u95,u96,u97,u98,u99,u100,u101,u102,u103,u104,u105,u106,u107,u108,u109,u110,u111,u112,u113,u114,u115,u116,u117,u118,u119,u120,u121,u122,u123,u124,u125,u126,u127,u128,u129,u130,u131,u132,u133,u134,u135,u136,u137,u138,u139,u140,u141,u142,u143,u144,u145,u146],[]⟩ wc:=by
 have b0:=Ej;obtain ⟨y0,y1,y2,y3⟩:=H6 an;conv=>arg 2;whnf
 subst sl;have bF:=rl _ (M03 Z);have ar:Ev [] wc wc.drew:=⟨rfl,rfl,rfl,M1g _,λ_ _ _=>rfl⟩
 have a0:∀ Y:World,Y.heap[k]? = some (PM w f A false)→Y.cell? ⟨k,0,none⟩=some (.int .i64 w)∧Y.cell? ⟨k,2,none⟩=some (.int .i64 A):=λY hY=>⟨(H6 hY).1,(H6 hY).2.2.1⟩
 obtain ⟨g0,ai,ci,a',c',G,rfl,ak,bf,q1,q2,q3,q4,q5,E,q7,q8⟩:=qE w aj (M00 Z) (by omega);have bC:g0<wc.heap.size:=C1 ak;have bD:k<wc.heap.size:=Am an;have R:=F _ E _ q5 q7 q8 O;have R:Hid (Rw (G.setCell ⟨g0,A,none⟩ (.slice a' (s1[A].length+1) c'))):=R;have H:Hid ((Builtin.append_ #[22,22] 22 #[.slice ai (s1[A]).length ci,.slice (some ⟨wc.heap.size,0,none⟩) 1 1]).run Tryz.prog (wc.alloc (.cells #[.int .i64 w] 3 (0,0))).drew=.ok (.slice a' ((s1[A]).length+1) c') G):=bf;have z2:=(H6 (q4.box an aQ)).2.2.1;clear F O aj rl bf q7 q8
 go_wp2_with fail
 go_region_law_o (refine Gz rfl _ _ 22 rfl rfl rfl H.out ?_)
 all_goals
  go_wp2
  go_ret
  exact ⟨by rw [hC.out];rfl,R.out⟩
theorem shN {fr:Bool}(hC:Hid (C=0))(an:wc.heap[k]? = some (PM w f t fr))(R:Hid (Rw wc))(c4:t<0):
  Code.wp Tryz.prog (sqd 6 (Tryz.f246.body.getD .skip)) (bodyPost Tryz.prog Tryz.f246 λe w'=>e=.returned (.int .i64 C)∧Rw w') ⟨#[u0,u1,.slice ao n co,u3,u4,u5,u6,.pointer (some ⟨k,0,none⟩),.int .i64 0,u9,u10,u11,u12,u13,u14,u15,u16,u17,u18,u19,u20,u21,u22,u23,u24,u25,u26,u27,u28,u29,u30,u31,u32,u33,u34,u35,u36,u37,u38,u39,u40,u41,u42,u43,u44,u45,u46,u47,u48,u49,u50,u51,u52,u53,u54,u55,u56,u57,u58,u59,u60,u61,u62,u63,u64,u65,u66,u67,u68,u69,u70,u71,u72,u73,u74,u75,u76,u77,u78,u79,u80,u81,u82,u83,u84,u85,u86,u87,u88,u89,u90,u91,u92,u93,u94,u95,u96,u97,u98,u99,u100,u101,u102,u103,u104,u105,u106,u107,u108,u109,u110,u111,u112,u113,u114,u115,u116,u117,u118,u119,u120,u121,u122,u123,u124,u125,u126,u127,u128,u129,u130,u131,u132,u133,u134,u135,u136,u137,u138,u139,u140,u141,u142,u143,u144,u145,u146],[]⟩ wc:=by
 have b0:=Ej;obtain ⟨y0,y1,y2,y3⟩:=H6 an;conv=>arg 2;whnf
 go_wp2
 go_ret
 exact ⟨by rw [hC.out];rfl,R.out⟩
end
theorem fM {wr:World}{T:G8}{L:List Int}{s:Bp}{aT aL ao:Option Addr}{cT cL co:Nat}{B:List Nat}{f:Int}{p:Int×Int}(fr:Bool)(h:ShG wr T L s aT aL ao cT cL co B w f t p) :
  Calls Tryz.prog 246 #[.slice aT T.length cT,.slice aL L.length cL,.slice ao s.length co,.agg #[.int .i64 w,.int .i64 f,.int .i64 t,.bool fr]] wr λe w'=>e=.returned (.int .i64 (cd T L s w f t))∧Ev B wr w'∧∃ E,(∀ b∈E,b∈B∨wr.heap.size≤b)∧Rows w' E ao co (fL T L s w f t fr):=by
 have b0:=Ej;obtain ⟨hv,hg,hT,hL,hR,hB,⟨⟨k1,k2⟩,⟨k3,k4⟩,k5,k6⟩,hp,bE,bL⟩:=h;obtain ⟨X,hX⟩:∃ X,X=wr.alloc (PM w f t fr):=⟨_,rfl⟩
 have hE:Ev [] wr X:=by rw [hX];exact (Ev.alloc _ _).nil
 have hb:X.heap[wr.heap.size]? = some (PM w f t fr):=by rw [hX];exact Aq _ _
 have aN:Rows X B ao co s:=OwnR.step (λ_ _ _ _ _ _ h=>h) hR hE λ_ _ h=>(by cases h)
 have aB:=QT oJ (Kn s w (by have:=(Bw hv).1;omega) λl hl=>by have:=(Bw hv).2 l hl;omega) (OC hg hE) (OwnR.ro (λ_ _ _ _ _ _ h=>h) aN λ_ _ h=>(by cases h));rw [hX] at aB;rw [show JW s w=p from hp] at aB;subst bE;have hw:=QG s w;rw [show JW s w=p from hp] at hw
 go_enter Tryz.func246,Tryz.ntmps246
 go_wp2_with fail
 refine aB.mono ?_;rintro e w1 ⟨rfl,av⟩;rw [←hX] at av;have al:=av.box hb (by simp);have y0:w1.cell? ⟨wr.heap.size,0,none⟩=some (.int .i64 w):=by rw [Af al];rfl
 have y1:w1.cell? ⟨wr.heap.size,1,none⟩=some (.int .i64 p.1):=by rw [Af al];rfl
 have y2:w1.cell? ⟨wr.heap.size,2,none⟩=some (.int .i64 t):=by rw [Af al];rfl
 have y3:w1.cell? ⟨wr.heap.size,3,none⟩=some (.bool fr):=by rw [Af al];rfl
 have ah:Ev [] wr w1:=hE.ext av;have bc:Rows w1 B ao co s:=OwnR.step (λ_ _ _ _ _ _ h=>h) aN av λ_ _ h=>(by cases h)
 clear aB aN;have z:p.1≠-1∨(p.1 = -1∧(t == -1)=false):=by
  by_cases e:p.1 = -1;exact .inr ⟨e,by simp;omega⟩;exact .inl e
 go_upto_region 4 with fail
 go_cut [65] (λs65 wc=>s65=.bool false∧wc=w1)
 case first=>
  rcases z with z|⟨z,z2⟩;all_goals
   go_wp2
   go_meet
   case rel=>exact ⟨rfl,rfl⟩
 case rest=>
  obtain ⟨rfl,rfl⟩:=hcut;obtain ⟨q,hq⟩:∃ q:Bool,q=decide (0≤t∧t≠p.1∧(T[t.toNat]?.getD ([],0)).2-sm L (s[t.toNat]?.getD [])<vw L w.toNat):=⟨_,rfl⟩
  go_upto_region 6 with fail
  go_cut [95] (λs95 w2=>s95=.bool q∧Ev [] wc w2)
  case first=>
   by_cases c4:0≤t
   ·by_cases c5:t=p.1
    ·have Q:Hid (q=false):=by rw [hq];exact M1K (by omega)
     clear hq;subst c5
     go_region_o
     all_goals
      go_wp2
      go_meet
      case rel=>exact ⟨by rw [Q.out],rfl,rfl,rfl,M1g _,λ_ _ _=>rfl⟩
    ·have c6:(t==p.1)=false:=by simp [c5]
     have c7:(t != p.1)=true:=by simp [c5]
     obtain ⟨A,rfl⟩:=M1j c4;obtain ⟨J,rfl⟩:=M1j k1;have Z:A<s.length:=by omega
     have aZ:A<T.length:=by have:=hv.1;omega
     have hrow:=AN hv _ (M03 Z);have aO:=QS hv Z aZ;have be:q=decide (T[A].2-sm L s[A]<vw L J):=by
      rw [hq];simp only [M1i,M00 Z,M00 aZ,M1G];rw [M3l];exact ⟨λh=>h.2.2,λh=>⟨by omega,c5,h⟩⟩
     obtain ⟨g0,ai,ci,rfl,ak,bK,ho,_,_,_⟩:=BY bc (M00 Z);obtain ⟨pT,oT,rfl⟩:=Gy hT (by omega);obtain ⟨pL,oL,rfl⟩:=Gy hL (by omega);obtain ⟨_,_,m3,m4⟩:=hT.at_ _ rfl (by omega);obtain ⟨_,_,n3,n4⟩:=hL.at_ _ rfl (by omega);obtain ⟨cs,⟨ca,cb,rfl,aS,aU⟩,m5⟩:=m4 A _ (M00 aZ);have aS:ca=[Vs T[A].1]:=aS;have aU:cb=[.int .i64 T[A].2]:=aU;subst aS;subst aU;have m6:=m5 0 _ rfl;have m7:=m5 1 _ rfl;obtain ⟨cs,aX,n5⟩:=n4 J _ (QE (by omega:J<L.length));have aX:cs=[.int .i64 (vw L J)]:=aX;subst aX;have n6:=n5 0 _ rfl;have a8:(eT (.pair .str ti)).n=2:=rfl;have bu:(eT ti).n=1:=rfl;have m3:pT<wr.heap.size:=m3;have n3:pL<wr.heap.size:=n3;rw [a8,M1M,←ah.cell (a:=⟨pT,_,none⟩) m3 (by simp)] at m6;rw [a8,←M1P,←ah.cell (a:=⟨pT,_,none⟩) m3 (by simp)] at m7;rw [bu,M29,M1M,←ah.cell (a:=⟨pL,_,none⟩) n3 (by simp)] at n6;have bz:=xF (nm:=T[A].1) (Ww hv hrow.1 (by omega) T[A].1 T[A].2 aO.1 aO.2.1) (w:=wc.drew) (OC hg (ah.ext ⟨rfl,rfl,rfl,M1g _,λ_ _ _=>rfl⟩)) (hL.step (Stp.same (ah.ext ⟨rfl,rfl,rfl,M1g _,λ_ _ _=>rfl⟩) λ_ h=>(by cases h))) ((ho.evp (M':=[]) (λ_ _ _ _ _ _ h=>h) (Mo:=[]) (w':=wc.drew) ⟨rfl,rfl,rfl,M1g _,λ_ _ _=>rfl⟩ λ_ _ h=>(by cases h)).ro (λ_ h=>h) λ_ _ h=>(by cases h));have ar:Ev [] wc wc.drew:=⟨rfl,rfl,rfl,M1g _,λ_ _ _=>rfl⟩
     have a0:∀ Y,Ev [] wc Y→Y.cell? ⟨wr.heap.size,0,none⟩=some (.int .i64 J)∧Y.cell? ⟨wr.heap.size,1,none⟩=some (.int .i64 p.1)∧Y.cell? ⟨wr.heap.size,2,none⟩=some (.int .i64 A)∧Y.cell? ⟨pT,oT+A*2,none⟩=some (Vs T[A].1)∧Y.cell? ⟨pT,oT+A*2+1,none⟩=some (.int .i64 T[A].2)∧Y.cell? ⟨g0,A,none⟩=some (.slice ai (s[A]).length ci)∧Y.cell? ⟨pL,oL+J,none⟩=some (.int .i64 (vw L J)):=λY hY=>by
      have k:∀ {a:Addr} {v:Value},wc.cell? a=some v→Y.cell? a=some v:=λ{a v} h=>by rw [hY.cell (C1 h) (by simp)];exact h
      exact ⟨k y0,k y1,k y2,k m6,k m7,k ak,k n6⟩
     have Q:Hid (q=decide (T[A].2-sm L s[A]<vw L J)):=be;clear hq be c5 m4 n4 m5 n5 aO hrow
     go_region_held (λY=>Y.cell? ⟨wr.heap.size,0,none⟩=some (.int .i64 J)∧Y.cell? ⟨wr.heap.size,1,none⟩=some (.int .i64 p.1)∧Y.cell? ⟨wr.heap.size,2,none⟩=some (.int .i64 A)∧Y.cell? ⟨pT,oT+A*2,none⟩=some (Vs T[A].1)∧Y.cell? ⟨pT,oT+A*2+1,none⟩=some (.int .i64 T[A].2)∧Y.cell? ⟨g0,A,none⟩=some (.slice ai (s[A]).length ci)∧Y.cell? ⟨pL,oL+J,none⟩=some (.int .i64 (vw L J)))
      (first|exact a0 _ ar|exact a0 _ (ar.ext ba)) (first | (go_at_call 29;refine bz.mono ?_;rintro e w3 ⟨rfl,ba⟩))
     go_wp2
     go_meet
     case rel=>exact ⟨by rw [Q.out],ar.ext ba⟩
   ·have Q:Hid (q=false):=by rw [hq];exact M1K (by omega)
    have c4:t<0:=by omega
    clear hq
    go_region_o
    all_goals
     go_wp2
     go_meet
     case rel=>exact ⟨by rw [Q.out],rfl,rfl,rfl,M1g _,λ_ _ _=>rfl⟩
  case rest=>
   obtain ⟨rfl,aw⟩:=hcut;have ax:=ah.ext aw;have am:=aw.box al (by simp);obtain ⟨y0,y1,y2,y3⟩:=H6 am;have ay:=OwnR.step (λ_ _ _ _ _ _ h=>h) bc aw λ_ _ h=>(by cases h)
   have I:Hid (cd T L s w p.1 t=if q then 14 else 0):=by
    unfold cd;rw [M1e (by omega),M1e (by rw [show Su s w=p from hp];simp;omega),hq];by_cases e:(0≤t∧t≠p.1∧(T[t.toNat]?.getD ([],0)).2-sm L (s[t.toNat]?.getD [])<vw L w.toNat);rw [M1d e,M1p e];rfl;rw [M1e e,M1K e];rfl
   clear hq;cases q with
   | true=>
    go_wp2
    go_ret
    have I:cd T L s w p.1 t=14:=I.out;exact ⟨by rw [I];rfl,ax.nil,B,λb hb=>.inl hb,by unfold fL;rw [M1e (by rw [I];decide)];exact ay⟩
   | false=>
    have I:Hid (cd T L s w p.1 t=0):=I.out;have bd:=fk hv hw;have K:Hid (∀ j:Nat,(if 0≤p.1 then s.set p.1.toNat ((s[p.1.toNat]?.getD []).take p.2.toNat++(s[p.1.toNat]?.getD []).drop (p.2.toNat+1)) else s)[j]? =(s[j]?).map λrow:List Int=>row.filter (·≠w)):=bd;obtain ⟨s1,aY⟩:∃ s1,s1=if 0≤p.1 then s.set p.1.toNat ((s[p.1.toNat]?.getD []).take p.2.toNat++(s[p.1.toNat]?.getD []).drop (p.2.toNat+1)) else s:=⟨_,rfl⟩
    have K:Hid (∀ j:Nat,s1[j]? =(s[j]?).map λrow:List Int=>row.filter (·≠w)):=by rw [aY];exact K.out
    have S1:Hid (s1=if 0≤p.1 then s.set p.1.toNat ((s[p.1.toNat]?.getD []).take p.2.toNat++(s[p.1.toNat]?.getD []).drop (p.2.toNat+1)) else s):=aY;have aQ:∀ {U:List Nat},(∀ b∈U,b∈B∨wr.heap.size<b)→wr.heap.size∉U:=λh1 h2=>(h1 _ h2).elim (λh=>M3g _ (hB _ h)) (M3g _)
    clear bd aY
    go_upto_if 97 with fail
    go_cut [] (λw4=>Ev B wr w4∧w4.heap[wr.heap.size]? = some (PM w p.1 t fr)∧∃ U,(∀ b∈U,b∈B∨wr.heap.size<b)∧Rows w4 U ao co s1)
    case first=>
     rcases hw with ⟨rfl,hn⟩|⟨u,i,row,rfl,j1,j2,j3⟩
     ·go_wp2
      go_meet
      case rel=>exact ⟨ax.nil,am,B,λb hb=>.inl hb,by rw [S1.out,M1e (by decide)];exact ay⟩
     ·have hi:=(M09.1 j2.1).1;have bF:=(AN hv row (M1k j1)).2.2;obtain ⟨g0,ai,ci,rfl,ak,bA⟩:=M0o ay j1 hi;have bQ:=(M09.1 j1).1;have a9:s1=s.set u (row.take i++row.drop (i+1)):=by rw [S1.out,M1d (by simp)];simp only [M1i,j1,M1G]
      have es:Hid (s1=s.set u (row.take i++row.drop (i+1))):=a9;clear j2 j3 K I a9
      go_wp2_with fail
      refine bA.mono ?_;rintro e w3 ⟨rfl,q1,q2,q3,q4,q5,E,q6,q7⟩;have bN:=Am am
      go_wp2
      go_meet
      case rel=>exact ⟨ax.nil.then q5 λb hb=>.inl hb,q5.box am (aQ λb hb=>.inl hb),E,λb hb=>(q6 b hb).imp id λh=>by omega,by rw [es.out];exact q7⟩
    case rest=>
     rename_i aa;obtain ⟨bb,an,U,au,aj⟩:=hcut;clear ay aw am y0 y1 y2 y3 ax;obtain ⟨y0,y1,y2,y3⟩:=H6 an;have sl:s1.length=s.length:=by rw [S1.out];split <;> simp
     have rl:=SH hv K.out;have O:(if 0≤t then s1.set t.toNat (if fr then w::(s1[t.toNat]?.getD []) else (s1[t.toNat]?.getD [])++[w]) else s1)=mv s w t fr:=fj K.out;have fin:∀ (G:World) (B2:List Nat) (sx:Bp),Ev U wc G→(∀ b∈B2,b∈U∨wc.heap.size≤b)→Rows G B2 ao co sx→sx=mv s w t fr→Ev B wr G∧∃ E,(∀ b∈E,b∈B∨wr.heap.size≤b)∧Rows G E ao co (fL T L s w p.1 t fr):=λG B2 sx f1 f2 f3 f4=>by
      have bO:=bb.size;refine ⟨bb.then f1 λb hb=>(au b hb).imp id M2J,B2,λb hb=>?_,by unfold fL;rw [M1d I.out,←f4];exact f3⟩;rcases f2 b hb with h|h
      exact (au b h).imp id M2J;exact .inr (by omega)
     clear S1 K hw;refine aa _ _ ?_;by_cases c4:0≤t
     ·obtain ⟨A,rfl⟩:=M1j c4;have Z:A<s1.length:=by omega
      rw [M1d c4,M1i,M00 Z,M1G] at O
      cases fr with
      | true=>rw [M1d rfl] at O;exact shT I an aj (aQ au) rl sl Z O fin
      | false=>rw [M1e (by decide)] at O;exact shF I an aj (aQ au) rl sl Z O fin
     ·exact shN I an (fin wc U s1 (Ev.refl _ _) (λb hb=>.inl hb) aj (by rw [M1e c4] at O;exact O)) (by omega)
end
end Go.T
