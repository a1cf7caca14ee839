/- Part K of the proof of TopConserved. No condition. -/
import Derived.Deep.Cut
import Derived.Deep.CutRange
import Derived.Deep.DeepCutAuto
import Derived.Deep.RegionHeld
import Derived.Test.YtmihkgopplkcjaaGreatDoorJ
set_option linter.all false
set_option maxRecDepth 1000000
set_option maxHeartbeats 0
namespace Go.T
open Go Go.E Go.V Go.Proofs Go.Shelf Go.RowKit Go.Lib Go.Sort
section
noncomputable def fK (T:G8) (L:List Int) (s:Bp) (w f t:Int) (fr:Bool):Bp×Int:=if cd T L s w f t=0 then (mv s w t fr,0) else ([],cd T L s w f t)
def iD (wr:World) (T:G8) (L:List Int) (s:Bp) (w f t:Int) (fr:Bool) (e:Ending) (w':World):Prop:=
 ∃ a' c' B,e=.returned (.tuple #[.slice a' (fK T L s w f t fr).1.length c',.int .i64 (fK T L s w f t fr).2])∧Ev [] wr w'∧(∀ b∈B,wr.heap.size≤b)∧Rows w' B a' c' (fK T L s w f t fr).1
variable {w t:Int}
theorem DR {X:World}{k:Nat}{f:Int}{fr:Bool}(hb:X.heap[k]? = some (PM w f t fr)):X.cell? ⟨k,0,none⟩=some (.int .i64 w)∧X.cell? ⟨k,1,none⟩=some (.int .i64 f)∧X.cell? ⟨k,2,none⟩=some (.int .i64 t)∧X.cell? ⟨k,3,none⟩=some (.bool fr):=⟨by rw [Af hb];rfl,by rw [Af hb];rfl,by rw [Af hb];rfl,by rw [Af hb];rfl⟩
theorem M0r {wr:World}{T:G8}{L:List Int}{s:Bp}{aT aL aS:Option Addr}{cT cL cS:Nat}{f:Int}{p:Int×Int}(fr:Bool)(hv:Dc T L s)(hg:GlP (R0 wr))(hT:SlR (eT (.pair .str ti)) wr [] aT cT T)(hL:SlR (eT ti) wr [] aL cL L)(hS:SlR (eT (.sl ti)) wr [] aS cS s)
  (hd:Bd L.length s.length w f t)(hp:Su s w=p)(hf:p.1=f)(b0:¬ (f = -1∧t = -1))
  (bL:∀ X,Ev [] wr X→Calls Tryz.prog 189 #[.slice aT T.length cT,.slice aL L.length cL,.slice aS s.length cS] X λe w'=>e=.returned (.bool true)∧Ev [] X w')
  (hc:∀ X,Ev [] wr X→Calls Tryz.prog 74 #[.slice aS s.length cS,.int .i64 w] X λe w'=>e=.returned (.tuple #[.int .i64 p.1,.int .i64 p.2])∧Ev [] X w') :
  Calls Tryz.prog 120 #[.slice aT T.length cT,.slice aL L.length cL,.slice aS s.length cS,.agg #[.int .i64 w,.int .i64 f,.int .i64 t,.bool fr]] wr (iD wr T L s w f t fr):=by
 have ch:=Ej;obtain ⟨⟨k1,k2⟩,⟨k3,k4⟩,k5,k6⟩:=hd;obtain ⟨X,hX⟩:∃ X,X=wr.alloc (PM w f t fr):=⟨_,rfl⟩
 have hE:Ev [] wr X:=by rw [hX];exact (Ev.alloc _ _).nil
 have hb:X.heap[wr.heap.size]? = some (PM w f t fr):=by rw [hX];exact Aq _ _
 have a7:=bL X hE;rw [hX] at a7;subst hf;have hw:=QG s w;rw [show JW s w=p from hp] at hw;have b5:=Bw hv
 go_enter Tryz.func120,Tryz.ntmps120
 go_wp2_with fail
 refine a7.mono ?_;rintro e w1 ⟨rfl,aK⟩;rw [←hX] at aK;have a6:=aK.box hb (by simp);obtain ⟨y0,y1,y2,y3⟩:=DR a6;have a4:=hE.ext aK;have bk:=hc w1 a4;clear a7
 go_wp2_with fail
 refine bk.mono ?_;rintro e w2 ⟨rfl,ab⟩;have aX:=ab.box a6 (by simp);have bj:=a4.ext ab;clear y0 y1 y2 y3 bk aK a4 ab hb a6 hE;obtain ⟨y0,y1,y2,y3⟩:=DR aX;have z:0≤p.1∨(p.1<0∧0≤t):=by omega
 go_upto_region 6 with fail
 go_cut [71] (λyB wc=>yB=.bool false∧wc=w2)
 case first=>
  rcases z with z|⟨z,z2⟩;all_goals
   go_wp2
   go_meet
   case rel=>exact ⟨by first | rfl | (simp;omega),rfl⟩
 case rest=>
  obtain ⟨rfl,rfl⟩:=hcut;have bm:=xw wc aS cS s [] (hS.step (Stp.same bj λ_ h=>(by cases h))) (by have:=hv.1;have:=hv.2.1;omega) λr hr=>by have:=(AN hv r hr).2.2;omega
  go_wp2_with fail
  refine bm.mono ?_;rintro e w3 ⟨ao,co,B,rfl,a5,hB,hR⟩;have aN:=bj.ext a5;have aE:=a5.box aX (by simp);have b4:=Am aX;have ax:∀ b∈B,wr.heap.size<b:=λb hb=>by have:=(hB b hb).1;omega
  clear bm y0 y1 y2 y3;obtain ⟨y0,y1,y2,y3⟩:=DR aE;obtain ⟨s1,bb⟩:∃ s1,s1=if 0≤p.1 then s.set p.1.toNat ((s[p.1.toNat]?.getD []).take p.2.toNat++(s[p.1.toNat]?.getD []).drop (p.2.toNat+1)) else s:=⟨_,rfl⟩
  have bl:∀ j:Nat,s1[j]? =(s[j]?).map λrow:List Int=>row.filter (·≠w):=by rw [bb];exact fk hv hw
  have K:Hid (∀ j:Nat,s1[j]? =(s[j]?).map λrow:List Int=>row.filter (·≠w)):=bl;have S1:Hid (s1=if 0≤p.1 then s.set p.1.toNat ((s[p.1.toNat]?.getD []).take p.2.toNat++(s[p.1.toNat]?.getD []).drop (p.2.toNat+1)) else s):=bb;have W:Hid (qA s w p):=hw;clear bl bb
  go_upto_if 75 with fail
  go_cut [] (λw4=>Ev [] wr w4∧w4.heap[wr.heap.size]? = some (PM w p.1 t fr)∧∃ Z,(∀ b∈Z,wr.heap.size<b)∧Rows w4 Z ao co s1)
  case first=>
   rcases hw with ⟨rfl,hn⟩|⟨u,i,row,rfl,j1,j2,j3⟩
   ·go_wp2
    go_meet
    case rel=>exact ⟨aN,aE,B,ax,by rw [S1.out,M1e (by decide)];exact hR⟩
   ·have hi:=(M09.1 j2.1).1;have bK:=(AN hv row (M1k j1)).2.2;obtain ⟨g0,r,G,A,w4,rfl,aw,bY,bZ,hA,ah,q1,q2,q3,q4,q5,B',q6,q7⟩:=M0q hR j1 hi;have b6:=(M09.1 j1).1;have bi:s1=s.set u (row.take i++row.drop (i+1)):=by rw [S1.out,M1d (by simp)];simp only [M1i,j1,M1G]
    have av:wr.heap.size∉B:=λh=>M3g _ (ax _ h)
    have R:Hid (Ev [] wr (w4.setCell ⟨g0,u,none⟩ (.slice (some ⟨r,0,none⟩) (i+(row.length-(i+1))) G))∧(w4.setCell ⟨g0,u,none⟩ (.slice (some ⟨r,0,none⟩) (i+(row.length-(i+1))) G)).heap[wr.heap.size]? = some (PM w u t fr)∧∃ Z,(∀ b∈Z,wr.heap.size<b)∧Rows (w4.setCell ⟨g0,u,none⟩ (.slice (some ⟨r,0,none⟩) (i+(row.length-(i+1))) G)) Z (some ⟨g0,0,none⟩) co s1):=
     ⟨aN.then q5 λb hb=>.inr (by have:=ax b hb;omega),q5.box aE av,B',λb hb=>(q6 b hb).elim (ax b) λh=>by have:=aN.size;have:=Am aE;omega,by rw [bi];exact q7⟩
    have H:Hid ((Builtin.append_ #[22,22] 22 #[.slice (some ⟨r,0,none⟩) i G,.slice (some A) (row.length-(i+1)) (G-(i+1))]).run Tryz.prog w3.drew=.ok (.slice (some ⟨r,0,none⟩) (i+(row.length-(i+1))) G) w4):=ah;have b1:i≤G:=by omega
    have b2:i+1≤G:=by omega
    have b3:i+1≤row.length:=by omega
    have b8:0≤(i:Int)+1:=by omega
    have b9:(i:Int)+1≤(row.length:Int):=by omega
    have b7:IntKind.i64.wrap ((i:Int)+1)=((i+1:Nat):Int):=iw1 (by omega);clear j2 j3 K bi q6 q7 ah W S1 hR hB ax
    go_wp2_with fail
    go_region_law_o (refine Gz rfl _ _ 22 rfl rfl rfl H.out ?_)
    all_goals
     go_wp2
     go_meet
     case rel=>exact R.out
  case rest=>
   obtain ⟨aO,ag,Z,af,au⟩:=hcut;clear y0 y1 y2 y3 a5 aN aE aX hB ax hR;obtain ⟨y0,y1,y2,y3⟩:=DR ag;have sl:s1.length=s.length:=by rw [S1.out];split <;> simp
   have rl:=SH hv K.out;have I:(if 0≤t then s1.set t.toNat (if fr then w::(s1[t.toNat]?.getD []) else (s1[t.toNat]?.getD [])++[w]) else s1)=mv s w t fr:=fj K.out;have e1:cd T L s w p.1 t=if 0≤t∧t≠p.1∧(T[t.toNat]?.getD ([],0)).2-sm L (s[t.toNat]?.getD [])<vw L w.toNat then 14 else 0:=by
    unfold cd;rw [M1e (by omega),M1e (by rw [show Su s w=p from hp];simp;omega)]
   have O:(mv s w t fr).length=s.length:=QI _ _ _ _;clear S1 K hw;by_cases c4:0≤t
   ·obtain ⟨E,rfl⟩:=M1j c4;have aY:E<s1.length:=by omega
    have bp:E<s.length:=by omega
    have bc:E<T.length:=by have:=hv.1;omega
    have bK:=rl _ (M03 aY);rw [M1d c4,M1i,M00 aY,M1G] at I;have SQ:=xH hv fr W.out ⟨k1,k2⟩ bp bc;have E1:Hid (cd T L s w p.1 E=if 0≤(E:Int)∧(E:Int)≠p.1∧(T[(E:Int).toNat]?.getD ([],0)).2-sm L (s[(E:Int).toNat]?.getD [])<vw L w.toNat then 14 else 0):=e1;have HM:Hid ((mv s w E fr).length=s.length):=O;clear e1 O
    go_upto_if 98 with fail
    go_cut [] (λJ=>Ev [] wr J∧J.heap[wr.heap.size]? = some (PM w p.1 E fr)∧∃ U,(∀ b∈U,wr.heap.size≤b)∧Rows J U ao co (mv s w E fr))
    case first=>
     have e1:=E1;have O:=HM;clear E1 HM SQ;cases fr with
     | true=>
      have I:s1.set E (w::s1[E])=mv s w E true:=by simpa using I
      obtain ⟨g0,ai,G,a',c',J,rfl,aw,ah,q1,q2,q3,q4,q5,B',q7,q8⟩:=oM w au (M00 aY) (by omega);have bG:g0<wc.heap.size:=C1 aw;have bH:wr.heap.size<wc.heap.size:=Am ag;have av:wr.heap.size∉Z:=λh=>M3g _ (af _ h)
      have z2:=(DR (q4.box ag av)).2.2.1;have R:Hid (Ev [] wr (J.setCell ⟨g0,E,none⟩ (.slice a' (s1[E].length+1) c'))∧(J.setCell ⟨g0,E,none⟩ (.slice a' (s1[E].length+1) c')).heap[wr.heap.size]? = some (PM w p.1 E true)∧∃ U,(∀ b∈U,wr.heap.size≤b)∧Rows (J.setCell ⟨g0,E,none⟩ (.slice a' (s1[E].length+1) c')) U (some ⟨g0,0,none⟩) co (mv s w E true)):=
       ⟨aO.then q5 λb hb=>.inr (M2J (af b hb)),q5.box ag av,B',λb hb=>(q7 b hb).elim (λh=>M2J (af b h)) λh=>by omega,by rw [←I];exact q8⟩
      have H:Hid ((Builtin.append_ #[22,22] 22 #[.slice (some ⟨wc.heap.size,0,none⟩) 1 1,.slice ai (s1[E]).length G]).run Tryz.prog (wc.alloc (.cells #[.int .i64 w] 3 (0,0))).drew=.ok (.slice a' ((s1[E]).length+1) c') J):=ah;clear I au rl ah q7 q8 e1 O
      go_wp2_with fail
      go_region_law_o (refine Gz rfl _ _ 22 rfl rfl rfl H.out ?_)
      all_goals
       go_wp2
       go_meet
       case rel=>exact R.out
     | false=>
      have I:s1.set E (s1[E]++[w])=mv s w E false:=by simpa using I
      obtain ⟨g0,ai,G,a',c',J,rfl,aw,ah,q1,q2,q3,q4,q5,B',q7,q8⟩:=qE w au (M00 aY) (by omega);have bG:g0<wc.heap.size:=C1 aw;have bH:wr.heap.size<wc.heap.size:=Am ag;have av:wr.heap.size∉Z:=λh=>M3g _ (af _ h)
      have z2:=(DR (q4.box ag av)).2.2.1;have R:Hid (Ev [] wr (J.setCell ⟨g0,E,none⟩ (.slice a' (s1[E].length+1) c'))∧(J.setCell ⟨g0,E,none⟩ (.slice a' (s1[E].length+1) c')).heap[wr.heap.size]? = some (PM w p.1 E false)∧∃ U,(∀ b∈U,wr.heap.size≤b)∧Rows (J.setCell ⟨g0,E,none⟩ (.slice a' (s1[E].length+1) c')) U (some ⟨g0,0,none⟩) co (mv s w E false)):=
       ⟨aO.then q5 λb hb=>.inr (M2J (af b hb)),q5.box ag av,B',λb hb=>(q7 b hb).elim (λh=>M2J (af b h)) λh=>by omega,by rw [←I];exact q8⟩
      have H:Hid ((Builtin.append_ #[22,22] 22 #[.slice ai (s1[E]).length G,.slice (some ⟨wc.heap.size,0,none⟩) 1 1]).run Tryz.prog (wc.alloc (.cells #[.int .i64 w] 3 (0,0))).drew=.ok (.slice a' ((s1[E]).length+1) c') J):=ah;clear I au rl ah q7 q8 e1 O
      go_wp2_with fail
      go_region_law_o (refine Gz rfl _ _ 22 rfl rfl rfl H.out ?_)
      all_goals
       go_wp2
       go_meet
       case rel=>exact R.out
    case rest=>
     obtain ⟨aD,bD,U,bB,aQ⟩:=hcut;clear y0 y1 y2 y3 ag aO au af I rl;obtain ⟨y0,y1,y2,y3⟩:=DR bD;obtain ⟨R,bo,bI,bJ,ba⟩:=SQ;obtain ⟨g0,ai,G,rfl,aw,bF,ho,_,_,_⟩:=BY aQ bo;obtain ⟨pT,oT,rfl⟩:=Gy hT (by omega);obtain ⟨_,_,m3,m4⟩:=hT.at_ _ rfl (by omega);obtain ⟨cs,⟨ca,cb,rfl,a8,a9⟩,m5⟩:=m4 E _ (M00 bc);have a8:ca=[Vs T[E].1]:=a8;have a9:cb=[.int .i64 T[E].2]:=a9;subst a8;subst a9;have m7:=m5 1 _ rfl;have bA:(eT (.pair .str ti)).n=2:=rfl;have m3:pT<wr.heap.size:=m3;rw [bA,←M1P,←aD.cell (a:=⟨pT,_,none⟩) m3 (by simp)] at m7;have aa:Ev [] wc wc.drew:=⟨rfl,rfl,rfl,M1g _,λ_ _ _=>rfl⟩
     have bn:=M0m (fF hv bI bJ) (w:=wc.drew) (OC hg (aD.ext aa)) (hL.step (Stp.same (aD.ext aa) λ_ h=>(by cases h))) ((ho.evp (M':=[]) (λ_ _ _ _ _ _ h=>h) (Mo:=[]) (w':=wc.drew) aa λ_ _ h=>(by cases h)).ro (λ_ h=>h) λ_ _ h=>(by cases h));have a0:∀ Y,Ev [] wc Y→Y.cell? ⟨wr.heap.size,2,none⟩=some (.int .i64 E)∧Y.cell? ⟨pT,oT+E*2+1,none⟩=some (.int .i64 T[E].2)∧Y.cell? ⟨g0,E,none⟩=some (.slice ai R.length G):=λY hY=>by
      have k:∀ {a:Addr} {v:Value},wc.cell? a=some v→Y.cell? a=some v:=λ{a v} h=>by rw [hY.cell (C1 h) (by simp)];exact h
      exact ⟨k y2,k m7,k aw⟩
     have ar:cd T L s w p.1 E=if sm L R>T[E].2 then 14 else 0:=by
      rw [E1.out];simp only [M1i,M00 bp,M00 bc,M1G];by_cases q:sm L R>T[E].2;rw [M1d q,M1d ⟨c4,ba.1 q⟩];rw [M1e q,M1e λh=>q (ba.2 h.2)]
     have O:=HM.out;clear m4 m5 E1 HM ba m7 aw bF ho bo;by_cases q:sm L R>T[E].2
     ·rw [M1d q] at ar;have ea:fK T L s w p.1 E fr=([],14):=by unfold fK;rw [M1e (by rw [ar];decide),ar]
      have RR:∀ Y,Ev [] wc Y→Hid (iD wr T L s w p.1 E fr (.returned (.tuple #[.slice none 0 0,.int .i64 14])) Y):=λY hY=>by
       unfold iD Hid;rw [ea];exact ⟨none,0,[],rfl,aD.ext hY,λk hk=>(by cases hk),OwnR.nil _ _ _ _ _⟩
      have q:T[E].2<sm L R:=q;clear ar ea aQ O
      go_wp2_with fail
      go_region_held (λY=>Y.cell? ⟨wr.heap.size,2,none⟩=some (.int .i64 E)∧Y.cell? ⟨pT,oT+E*2+1,none⟩=some (.int .i64 T[E].2)∧Y.cell? ⟨g0,E,none⟩=some (.slice ai R.length G))
       (first|exact a0 _ aa|exact a0 _ (aa.ext ab)) (first | (go_at_call 190;refine bn.mono ?_;rintro e w3 ⟨rfl,ab⟩))
      all_goals
       go_wp2
       go_ret2
       exact (RR _ (aa.ext ab)).out
     ·rw [M1e q] at ar;have ea:fK T L s w p.1 E fr=(mv s w E fr,0):=by unfold fK;rw [M1d ar]
      have RR:∀ Y,Ev [] wc Y→Hid (iD wr T L s w p.1 E fr (.returned (.tuple #[.slice (some ⟨g0,0,none⟩) s.length co,.int .i64 0])) Y):=λY hY=>by
       unfold iD Hid;rw [ea];exact ⟨_,co,U,by rw [O],aD.ext hY,bB,OwnR.step (λ_ _ _ _ _ _ h=>h) aQ hY λ_ _ h=>(by cases h)⟩
      have q:sm L R≤T[E].2:=by omega
      clear ar ea aQ O
      go_wp2_with fail
      go_region_held (λY=>Y.cell? ⟨wr.heap.size,2,none⟩=some (.int .i64 E)∧Y.cell? ⟨pT,oT+E*2+1,none⟩=some (.int .i64 T[E].2)∧Y.cell? ⟨g0,E,none⟩=some (.slice ai R.length G))
       (first|exact a0 _ aa|exact a0 _ (aa.ext ab)) (first | (go_at_call 190;refine bn.mono ?_;rintro e w3 ⟨rfl,ab⟩))
      all_goals
       go_wp2
       go_ret2
       exact (RR _ (aa.ext ab)).out
   ·rw [M1e c4] at I;have c4:t<0:=by omega
    rw [M1e (λh=>by omega)] at e1;have ea:fK T L s w p.1 t fr=(mv s w t fr,0):=by unfold fK;rw [M1d e1]
    have R:Hid (iD wr T L s w p.1 t fr (.returned (.tuple #[.slice ao s.length co,.int .i64 0])) wc):=by
     unfold iD Hid;rw [ea];exact ⟨ao,co,Z,by rw [O],aO,λb hb=>M2J (af b hb),by rw [←I];exact au⟩
    clear I e1 ea au O rl
    go_wp2
    go_ret2
    exact R.out
end
end Go.T
