/- Part F of the proof of TopConserved. No condition. -/
import Derived.Test.YtmihkgopplkcjaaGreatDoorE
set_option linter.all false
set_option maxRecDepth 1000000
set_option maxHeartbeats 0
namespace Go.T
open Go Go.E Go.V Go.Proofs
section
variable {l : List A6} (hl : l.length ≤ 192) (hw : ∀ w ∈ l, FitW w)
include hl
include hw
theorem WU:W (dP l) λ_=>True:=by
 unfold dP uz;refine M4c (gP l λw h=>⟨by have:=(hw w h).1;omega,by have:=(hw w h).2.1;omega⟩) λv _=>M48 (λ_=>W.ret trivial) λ_=>W.st (P:=λ_=>True) ?_ λ_ _=>W.ret trivial
 refine M4e l.length (λs=>s.2.2.2) (λ_ _=>True) (by omega) rfl trivial λt s ht A _=>?_
 obtain ⟨a,b,d,i⟩:=s;simp only at A ⊢;subst A;refine M49 (λq=>?_) (λq=>M4a trivial);have B:t<l.length:=by unfold ln at q;omega
 exact M4b B (W.nx ⟨B,rfl,trivial⟩)
theorem WV:W (dR (l,[])) λ_=>True:=by
 unfold dR uM;simp only;refine M4c (WU hl hw) λv _=>M48 (λ_=>W.ret trivial) λ_=>W.mk (DP _) (by unfold ln;omega) (W.st (P:=λ_=>True) ?_ λ_ _=>W.st (P:=λr=>r.length=l.length) ?_ λr hr=>W.st (P:=λ_=>True) ?_ λ_ _=>?_)
 exact M4h 0 (λ_=>True) (by omega) trivial λt ht _=>M49 (λq=>by simp [ln] at q;omega) (λq=>M4a trivial)
 exact M4e 0 (λs=>s.1) (λ_ s=>s.2.length=l.length) (by omega) rfl (by simp [ln]) λt s ht A E=>M49 (λq=>by rw [A] at q;simp [ln] at q;omega) (λq=>M4a (by exact E))
 refine M4e l.length (λs=>s.1) (λ_ _=>True) (by omega) rfl trivial λt s ht A _=>?_
 obtain ⟨i,a⟩:=s;simp only at A ⊢;subst A;refine M49 (λq=>?_) (λq=>M4a trivial);have B:t<l.length:=by unfold ln at q;omega
 exact M4b B (M4b (by omega) (M48 (λ_=>W.nx ⟨B,rfl,trivial⟩) λ_=>W.nx ⟨B,rfl,trivial⟩));refine M4c (P:=λ_=>True) ?_ λ_ _=>M49 (λh=>M4i (λ_=>W.ret trivial) λe=>by omega) λ_=>W.ret trivial
 unfold uK uJ;exact M48 (λ_=>W.ret trivial) λ_=>M48 (λ_=>W.ret trivial) λ_=>W.ret trivial
theorem pG (b:Dk)(x:Ba)(I:CB x):W (lI ((l,[],b),x)) λ_=>True:=by
 obtain ⟨_,O,U,Y⟩:=I;unfold lI vn;simp only;refine M48 (λ_=>M4c (P:=λ_=>True) ?_ λ_ _=>W.ret trivial) λ_=>M48 (λ_=>M4c (P:=λ_=>True) ?_ λ_ _=>W.ret trivial) λ_=>M48 (λ_=>M4c (P:=λ_=>True) ?_ λ_ _=>W.ret trivial) λ_=>M48 (λ_=>M48 (λ_=>M48 (λ_=>W.ret trivial) λ_=>W.ret trivial) λ_=>W.ret trivial) λ_=>M48 (λ_=>M4c (P:=λ_=>True) ?_ λ_ _=>W.ret trivial) λ_=>M48 (λ_=>M4c (P:=λ_=>True) ?_ λ_ _=>W.ret trivial) λ_=>M48 (λ_=>M4c (P:=λ_=>True) ?_ λ_ _=>M48 (λ_=>W.ret trivial) λ_=>W.ret trivial) λ_=>M48 (λ_=>M4c (P:=λ_=>True) ?_ λ_ _=>W.ret trivial) λ_=>M4c (P:=λ_=>True) ?_ λ_ _=>W.ret trivial
 unfold MN MM;simp only;refine M4e l.length (λs=>s.2) (λ_ _=>True) (by omega) rfl trivial λt s ht B _=>?_
 obtain ⟨a,i⟩:=s;simp only at B ⊢;subst B;refine M49 (λq=>?_) (λq=>M4a trivial);have A:t<l.length:=by unfold ln at q;omega
 exact M4b A (M48 (λ_=>M4a trivial) λ_=>W.nx ⟨A,rfl,trivial⟩);unfold MQ MP;simp only;refine M4e l.length (λs=>s.2) (λ_ _=>True) (by omega) rfl trivial λt s ht B _=>?_
 obtain ⟨a,i⟩:=s;simp only at B ⊢;subst B;refine M49 (λq=>?_) (λq=>M4a trivial);have A:t<l.length:=by unfold ln at q;omega
 exact M4b A (M48 (λ_=>M4a trivial) λ_=>W.nx ⟨A,rfl,trivial⟩);unfold MU MT;simp only;refine M4e l.length (λs=>s.2) (λ_ _=>True) (by omega) rfl trivial λt s ht B _=>?_
 obtain ⟨a,i⟩:=s;simp only at B ⊢;subst B;refine M49 (λq=>?_) (λq=>M4a trivial);have A:t<l.length:=by unfold ln at q;omega
 exact M4b A (M48 (λ_=>M4a trivial) λ_=>W.nx ⟨A,rfl,trivial⟩)
 ·unfold MX MW;simp only;refine M4h l.length (λ_=>True) (by omega) trivial λt ht _=>M49 (λq=>?_) (λq=>M4a trivial)
  have A:t<l.length:=by unfold ln at q;omega
  refine M4b A (M4c (P:=λ_=>True) ?_ λ_ _=>M48 (λ_=>M4a trivial) λ_=>W.nx ⟨A,rfl,trivial⟩);unfold uX uW;simp only;refine M4h t (λ_=>True) (by omega) trivial λu J _=>M49 (λq=>?_) (λq=>M4a trivial)
  have nx:W (some (Al.next (A1 ((u:Int)+1)))) (BX (λE:Int=>u<t∧E=A1 ((u:Int)+1)∧True) λ_:Bool=>True):=W.nx ⟨by omega,rfl,trivial⟩;have dn:W (some (Al.done true)) (BX (λE:Int=>u<t∧E=A1 ((u:Int)+1)∧True) λ_:Bool=>True):=M4a trivial;refine M4b (by omega) (M4b A ?_)
  repeat' first | exact nx | exact dn | refine M48 (λ_=>?_) λ_=>?_
 unfold O0 MZ;simp only;refine M4h l.length (λ_=>True) (by omega) trivial λt ht _=>M49 (λq=>?_) (λq=>M4a trivial)
 have A:t<l.length:=by unfold ln at q;omega
 exact M4b A (M48 (λ_=>M48 (λ_=>M4a trivial) λ_=>W.nx ⟨A,rfl,trivial⟩) λ_=>W.nx ⟨A,rfl,trivial⟩);unfold vj vg;simp only;refine W.st (P:=λ_=>True) ?_ λ_ _=>W.ret trivial
 have G:0≤ln l-min x.2.2.1 (ln l)∧ln l-min x.2.2.1 (ln l)≤(l.length:Int):=by unfold ln;omega
 rw [A8 (by omega) (by omega)];refine W.run (λs=>0≤s.2∧s.2≤(l.length:Int)) (λs=>l.length-s.2.toNat) G (by omega) λs hs=>?_
 obtain ⟨a,i⟩:=s;simp only at hs ⊢;refine M49 (λq=>?_) (λq=>M4a trivial);unfold ln at q;have H:A1 (i+1)=i+1:=A8 (by omega) (by omega);have nx:∀ (b:Int) {Q:Al Int Bool→Prop},W (some (Al.next (b,A1 (i+1)))) (BX (λE:Int×Int=>(0≤E.2∧E.2≤(l.length:Int))∧l.length-E.2.toNat<l.length-i.toNat) Q):=λb {Q}=>W.nx (by simp only;rw [H];omega)
 exact M4f (by omega) (by omega) λ_ _ _=>M48 (λ_=>W.of (CD [] _ (by simp)) (M48 (λ_=>nx _) λ_=>nx _)) λ_=>nx _
 unfold O3 O2;simp only;refine M4h l.length (λ_=>True) (by omega) trivial λt ht _=>M49 (λq=>?_) (λq=>M4a trivial)
 have A:t<l.length:=by unfold ln at q;omega
 exact M4b A (M48 (λ_=>M4a trivial) λ_=>W.nx ⟨A,rfl,trivial⟩);unfold O6 O5;simp only;refine M4h l.length (λ_=>True) (by omega) trivial λt ht _=>M49 (λq=>?_) (λq=>M4a trivial)
 have A:t<l.length:=by unfold ln at q;omega
 refine M4b A (M48 (λ_=>M4c (P:=λ_=>True) ?_ λ_ _=>M48 (λ_=>M4a trivial) λ_=>W.nx ⟨A,rfl,trivial⟩) λ_=>W.nx ⟨A,rfl,trivial⟩);unfold vb uZ;simp only;rw [A8 (by omega) (by omega)];refine W.sub (by omega) (by unfold ln;omega) (by unfold ln;omega) λr _ hr=>?_
 unfold ln at hr;refine M4e r.length (λs=>s.2) (λ_ _=>True) (by omega) rfl trivial λt s ht B _=>?_
 obtain ⟨a,i⟩:=s;simp only at B ⊢;subst B;refine M49 (λq=>?_) (λq=>M4a trivial);have A:t<r.length:=by unfold ln at q;omega
 exact M4b A (W.nx ⟨A,rfl,trivial⟩)
end
theorem pH (v:List Int)(n:Int):W (lN (v,n)) λr=>r.1.length≤1000:=by
 unfold lN vD;simp only;refine M49 (λ_=>W.ret (by simp)) λU=>M49 (λ_=>W.ret (by simp)) λY=>M4c (P:=λr=>r=0→v.length≤96) ?_ λc A=>M4i (λ_=>W.ret (by simp)) λe=>M4c (P:=λr=>r.length≤1000) ?_ λ_ h=>W.ret h
 unfold vu vt;simp only;refine M49 (λ_=>W.ret λe=>by cases e) λG=>?_
 unfold ln at G;refine M4h v.length (λ_=>True) (by omega) trivial λt ht _=>M49 (λq=>?_) (λq=>M4a λ_=>by omega)
 have E:t<v.length:=by unfold ln at q;omega
 exact M4b E (M48 (λ_=>M4a λe=>by cases e) λ_=>M48 (λ_=>M4a λe=>by cases e) λ_=>W.nx ⟨E,rfl,trivial⟩)
 ·have hv:=A e;unfold vB vA;simp only;refine M4e n.toNat (λs=>s.2.2) (λt s=>s.1.length≤t∧s.2.1.length≤96) (by omega) rfl (by exact ⟨M1g 0,hv⟩) λt s ht A H=>?_
  obtain ⟨a,b,i⟩:=s;simp only at A H ⊢;subst A;refine M49 (λq=>?_) (λq=>M4a (by (try simp only);omega));refine W.st (P:=λr=>r.1.length≤96) ?_ λr hr=>M48 (λ_=>M4d (by simp;omega) (W.nx ⟨by omega,rfl,by simp;omega,hr⟩)) λ_=>W.nx ⟨by omega,rfl,by (try simp only);omega,hr⟩
  refine M4e b.length (λs=>s.2.1) (λu s=>s.1.length≤u) (by omega) rfl (by exact M1g 0) λu s O A I=>?_
  obtain ⟨r,i,d,f⟩:=s;simp only at A I ⊢;subst A;refine M49 (λq=>?_) (λq=>M4a (show r.length≤96 by omega));have B:u<b.length:=by unfold ln at q;omega
  refine M4b B (M48 (λ_=>M4d (by simp;omega) (W.nx ⟨B,rfl,by simp;omega⟩)) λ_=>W.beq (λ_=>W.nx ⟨B,rfl,by (try simp only);omega⟩) λJ=>?_);rw [A8 (by omega) (by omega)];exact M4f (by omega) (by omega) λ_ _ _=>M48 (λ_=>W.nx ⟨B,rfl,by (try simp only);omega⟩) λ_=>W.nx ⟨B,rfl,by (try simp only);omega⟩
theorem WW {c:A2}(B:BF c)(o:A0)(ho:OrdE o)(l:List A6)(hl:l.length≤192)(hw:∀ w∈l,FitW w):W (V2 (c,o,l)) λr=>r.2.2.2=0→r.1.2.1.length≤192∧r.1.2.2.2.length≤1000:=by
 obtain ⟨o1,o2,Y⟩:=id ho;have hr:=B.ru.1;have U:=B.t1;have err:∀ (a b d:Int),W (some ((([],[],(0,0,0,0,0,0,0),[]),a,b,d):Gt×Int×Int×Int)) λr=>r.2.2.2=0→r.1.2.1.length≤192∧r.1.2.2.2.length≤1000:=λa b d=>W.ret λ_=>⟨by simp,by simp⟩
 unfold V2 vF;simp only;refine M4c (P:=λ_=>True) ?_ λZ O=>M48 (λ_=>err _ _ _) λJ=>M48 (λ_=>err _ _ _) λ_=>M4c (P:=λr=>r.1.length≤l.length) ?_ λG h1=>M48 (λ_=>err _ _ _) λ_=>M4c (P:=λ_=>True) ?_ λv2 _=>M48 (λ_=>err _ _ _) λ_=>M4c (P:=λ_=>True) ?_ λv3 _=>M48 (λ_=>err _ _ _) λ_=>M48 (λ_=>err _ _ _) λ_=>M48 (λ_=>err _ _ _) λ_=>W.mk (DP _) (by unfold ln;omega) (W.st (P:=λ_=>True) ?_ λv7 _=>M4c (pH _ _) λv8 H=>M48 (λ_=>err _ _ _) λ_=>W.of (Vo (by omega)) (W.ret λ_=>⟨hl,H⟩))
 unfold uB uA;exact W.of (Qz B) (M4g rfl (M4c (WT c o ho) λ_ _=>M48 (λ_=>W.ret trivial) λ_=>M4c (WU hl hw) λ_ _=>W.ret trivial))
 ·unfold uH uG;refine M4c (P:=λr=>r.1.length≤l.length) ?_ λv h=>M48 (λ_=>W.ret (by simp)) λ_=>?_
  ·unfold uE uD;simp only;refine M4e l.length (λs=>s.2) (λt s=>s.1.length=t) (by omega) rfl rfl λt s ht B E=>?_
   obtain ⟨a,i⟩:=s;simp only at B E ⊢;subst B;refine M49 (λq=>?_) (λq=>M4a (by (try simp only);omega));have A:t<l.length:=by unfold ln at q;omega
   exact M4b A (W.of (Km o.2.2 _ (by omega)) (M48 (λ_=>M4a (by simp)) λ_=>M4d (by simp;omega) (W.nx ⟨A,rfl,by simp;omega⟩)))
  refine M4h v.1.length (λ_=>True) (by omega) trivial λt ht _=>M49 (λq=>?_) (λq=>M4a h)
  have A:t<v.1.length:=by unfold ln at q;omega
  refine M49 (λhp=>M4b A ?_) λ_=>W.nx ⟨A,rfl,trivial⟩
  rw [A8 (by omega) (by omega)];exact M4f (by omega) (by omega) λ_ _ _=>M48 (λ_=>M4a (by simp)) λ_=>W.nx ⟨A,rfl,trivial⟩
 ·unfold uU uT;refine M4c (WV hl hw) λ_ _=>M48 (λ_=>W.ret trivial) λ_=>M4c (P:=λ_=>True) ?_ λ_ _=>M48 (λ_=>W.ret trivial) λ_=>W.ret trivial
  unfold uR uQ;refine W.of (f7 B) (M4g rfl (M48 (λ_=>M48 (λ_=>W.ret trivial) λ_=>M48 (λ_=>M48 (λ_=>W.ret trivial) λ_=>M4c (P:=λ_=>True) ?_ λ_ _=>M48 (λ_=>W.ret trivial) λ_=>W.ret trivial) λ_=>W.ret trivial) λ_=>W.ret trivial));unfold uO uN;refine M4e c.2.2.1.length (λs=>s.2.2) (λ_ _=>True) (by omega) rfl trivial λt s ht B _=>?_
  obtain ⟨a,b,i⟩:=s;simp only at B ⊢;subst B;refine M49 (λq=>?_) (λq=>M4a trivial);have A:t<c.2.2.1.length:=by unfold ln at q;omega
  have nx:∀ (a:Int) (b:Bool) {Q:Int×Bool→Prop},W (some (Al.next (a,b,A1 ((t:Int)+1)))) (BX (λI:Int×Bool×Int=>t<c.2.2.1.length∧I.2.2=A1 ((t:Int)+1)∧True) Q):=λa b {Q}=>W.nx ⟨A,rfl,trivial⟩
  refine M4b A ?_
  repeat' first | exact nx _ _ | refine M48 (λ_=>?_) λ_=>?_
 unfold vq vp;simp only;refine W.of (f9 B) (M4g rfl (M4c (WV hl hw) λ_ _=>M48 (λ_=>W.ret trivial) λ_=>?_));refine M4h c.2.1.length (λ_=>True) (by omega) trivial λt ht _=>M49 (λq=>?_) (λq=>M4a trivial)
 have A:t<c.2.1.length:=by unfold ln at q;omega
 exact M4b A (M4c (pG hl hw _ _ (B.ru.2 t _ (M00 A)).1) λ_ _=>M48 (λ_=>M4a trivial) λ_=>W.nx ⟨A,rfl,trivial⟩);refine M4e G.1.length (λs=>s.1) (λt s=>s.2.length=l.length) (by omega) rfl (by simp [ln]) λt s ht B E=>?_
 obtain ⟨i,a⟩:=s;simp only at B E ⊢;subst B;refine M49 (λq=>?_) (λq=>M4a trivial);have A:t<G.1.length:=by unfold ln at q;omega
 exact M4b A (M4b (by omega) (W.nx ⟨A,rfl,by simpa using E⟩))
theorem WX (x:AR)(h:x.2.2.1.2.2.2.2.2.1.length≤5):W (dZ x) λr=>r.2=x∧(r.1=0→(0≤x.2.2.1.2.1∧x.2.2.1.2.1<(x.1.1.length:Int))∧(∀ t∈x.2.2.1.2.2.2.2.2.1,0≤t∧t<(x.1.1.length:Int))∧0≤x.2.2.1.2.2.2.2.1∧x.2.2.1.2.2.2.2.1≤12):=by
 unfold dZ vQ;have E:∀ {P:PUnit→Prop},W (some (Al.done (2,x)):Option (Al PUnit (Int×AR))) (BX P λr=>r.2=x∧(r.1=0→(0≤x.2.2.1.2.1∧x.2.2.1.2.1<(x.1.1.length:Int))∧(∀ t∈x.2.2.1.2.2.2.2.2.1,0≤t∧t<(x.1.1.length:Int))∧0≤x.2.2.1.2.2.2.2.1∧x.2.2.1.2.2.2.2.1≤12)):=λ{P}=>M4a ⟨rfl,λq=>by cases q⟩
 refine W.st (P:=λ_=>∀ t∈[x.2.2.1.2.1]++x.2.2.1.2.2.2.2.2.1,0≤t∧t<(x.1.1.length:Int)) ?_ λ_ hp=>M49 (λ_=>W.ret ⟨rfl,λq=>by cases q⟩) λw0=>M49 (λ_=>W.ret ⟨rfl,λq=>by cases q⟩) λH=>W.ret ⟨rfl,λ_=>⟨hp _ (by simp),λt ht=>hp t (by simp [ht]),by omega,by omega⟩⟩
 refine M4d (by simp;omega) ?_;refine M4h ([x.2.2.1.2.1]++x.2.2.1.2.2.2.2.2.1).length (λt=>∀ i (hi:i<([x.2.2.1.2.1]++x.2.2.1.2.2.2.2.2.1).length),i<t→0≤([x.2.2.1.2.1]++x.2.2.1.2.2.2.2.2.1)[i]∧([x.2.2.1.2.1]++x.2.2.1.2.2.2.2.2.1)[i]<(x.1.1.length:Int)) (by simp;omega) (λi _ h=>by omega) λt ht B=>M49 (λq=>?_) (λq=>M4a λd hd=>?_)
 have A:t<([x.2.2.1.2.1]++x.2.2.1.2.2.2.2.2.1).length:=by unfold ln at q;omega
 refine M4b A ?_;rw [Aw A];refine M49 (λa=>M4I (λ_=>M4a ⟨rfl,λq=>by cases q⟩) λb=>W.nx ⟨A,rfl,λi hi G=>?_⟩) λ_=>M4a ⟨rfl,λq=>by cases q⟩
 by_cases e:i=t;subst e;unfold ln at b;exact ⟨a,b⟩
 exact B i hi (by omega);obtain ⟨i,hi,rfl⟩:=M1o.1 hd;exact B i hi (by unfold ln at q;omega)
theorem WY (x:AR)(h:x.2.2.1.2.2.2.2.2.1.length≤5)(ho:x.2.1.2.2.1.length≤8):W (e9 x) λr=>r.2=x:=by
 unfold e9 vR;refine W.st (P:=λ_=>True) ?_ λ_ _=>W.of (H2 _ _ (by omega)) (M48 (λ_=>W.ret rfl) λ_=>W.ret rfl)
 refine M4h x.2.2.1.2.2.2.2.2.1.length (λt=>True) (by omega) trivial λt ht _=>M49 (λq=>?_) (λq=>M4a trivial)
 have A:t<x.2.2.1.2.2.2.2.2.1.length:=by unfold ln at q;omega
 exact M4b A (M48 (λ_=>M4a rfl) λ_=>W.of (H2 _ _ (by omega)) (M48 (λ_=>M4a rfl) λ_=>W.of (Vd (by omega)) (W.of (CD _ _ (by simp;omega)) (M48 (λ_=>M4a rfl) λ_=>W.nx ⟨A,rfl,trivial⟩))))
def Hr:A6:=([],0,0,0,0,0,false,[])
def Dw (ws:List A6) (os:List A0) (w:Int):Aa:=Bq os ((ws[w.toNat]?).getD Hr)
theorem GD {ws:List A6}{os:List A0}{w:Int}(h:w.toNat<ws.length):Dw ws os w=Bq os ws[w.toNat]:=by
 unfold Dw;rw [M00 h];rfl
section
variable {c : A2} {y : AH} (h : Inv c y)
include h
theorem OG:∀ o∈y.2.2.1,o.2.2.length<4611686018427387904:=λo ho=>by have:=(h.oo o ho).2.1;omega
theorem qJ {w:Int}(hw:0≤w∧w<(y.1.length:Int)):Yc (y,w)=some (Dw y.1 y.2.2.1 w,decide (0≤(Dw y.1 y.2.2.1 w).1)):=by
 have A:=h.ol;have hn:w.toNat<y.1.length:=by omega
 have:=nT y w.toNat hn (by omega) (OG h);rw [M1v hw.1] at this;rw [this,GD hn]
theorem ic {w:Int}(hw:0≤w∧w<(y.1.length:Int)):V3 (y,w)=some ((Dw y.1 y.2.2.1 w).1,(Dw y.1 y.2.2.1 w).2.1):=by
 have A:=h.ol;have hn:w.toNat<y.1.length:=by omega
 have:=Wc y w.toNat hn (by omega) (OG h);rw [M1v hw.1] at this;rw [this,GD hn];rfl
theorem M15 (j:Bb)(p:AC)(e:Ah)(r:Ag)(hj:j.1.length≤96)(hp:p.2.length=j.1.length)(hs:0≤p.1)(H:∀ t∈e.2.2.2.2.2.1,0≤t∧t<(c.1.length:Int))(B:e.2.2.2.2.2.1.length≤5) :
  W (IA (j,p,c,y,e,r)) λo=>o.2=(c,y,e,r)∧(o.1=0→p.1≤(e.2.2.2.2.2.1.length:Int)):=by
 have O:=h.ol;have Y:=h.tl;unfold IA Ol;simp only;refine M49 (λ_=>W.ret ⟨rfl,λq=>by cases q⟩) λG=>?_
 have G:p.1≤(e.2.2.2.2.2.1.length:Int):=by unfold ln at G;omega
 obtain ⟨n,hn⟩:=M1j hs;refine W.st (P:=λ_=>True) ?_ λ_ _=>?_
 refine M4h n (λ_=>True) (by omega) trivial λb hb _=>?_
 rw [hn];refine M49 (λq=>?_) (λq=>M4a trivial);refine W.st (P:=λa=>True) ?_ λv4 _=>?_
 refine M4e j.1.length (λs=>s.2) (λt s=>True) (by omega) rfl trivial λt s ht A _=>?_
 obtain ⟨a,i⟩:=s;simp only at A ⊢;subst A;refine M49 (λq=>?_) (λq=>M4a trivial);have B:t<j.1.length:=by unfold ln at q;omega
 exact M4b B (M4b (by omega) (M4k (by simp) (M48 (λ_=>W.nx ⟨B,rfl,trivial⟩) λ_=>W.nx ⟨B,rfl,trivial⟩)));exact M4b (by omega) (M4f (H _ (M03 _)).1 (H _ (M03 _)).2 λv6 _ _=>M48 (λ_=>M4a ⟨rfl,λq=>by cases q⟩) λ_=>W.nx ⟨by omega,rfl,trivial⟩);refine M4h y.2.2.1.length (λ_=>True) (by omega) trivial λt ht _=>M49 (λq=>?_) (λq=>M4a ⟨rfl,λ_=>G⟩)
 have B:t<y.2.2.1.length:=by unfold ln at q;omega
 have ho:=(h.oo _ (M03 B)).1;refine M4b B (W.st (P:=λa=>True) ?_ λZ _=>?_);refine M4e j.1.length (λs=>s.2) (λt s=>True) (by omega) rfl trivial λu s J A _=>?_
 obtain ⟨a,i⟩:=s;simp only at A ⊢;subst A;refine M49 (λq=>?_) (λq=>M4a trivial);have E:u<j.1.length:=by unfold ln at q;omega
 exact M4b E (M48 (λ_=>W.nx ⟨E,rfl,trivial⟩) λ_=>W.nx ⟨E,rfl,trivial⟩);refine W.st (P:=λa=>True) ?_ λaa _=>M4f ho.1 ho.2 λ_ _ _=>M48 (λ_=>M4a ⟨rfl,λq=>by cases q⟩) λ_=>W.nx ⟨B,rfl,trivial⟩
 refine M4f ho.1 (by omega) λrow _ hrow=>?_
 have U:=h.len row hrow;refine M4e row.length (λs=>s.2) (λt s=>True) (by omega) rfl trivial λu s J A _=>?_
 obtain ⟨a,i⟩:=s;simp only at A ⊢;subst A;refine M49 (λq=>?_) (λq=>M4a trivial);have E:u<row.length:=by unfold ln at q;omega
 have I:=h.wr row hrow _ (M03 E);exact M4b E (M4f I.1 I.2 λ_ _ _=>W.nx ⟨E,rfl,trivial⟩)
theorem M16 (j:Bb)(p:AC)(e:Ah)(r:Ag)(l:List Int)(O:l.length≤1000)(hj:j.1.length≤96)(hp:p.2.length=j.1.length)(hs:0≤p.1)(H:∀ t∈e.2.2.2.2.2.1,0≤t∧t<(c.1.length:Int))(B:e.2.2.2.2.2.1.length≤5) :
  W (IE (j,p,c,y,e,r,l)) λo=>o.2=(c,y,e,r,l)∧(o.1=0→p.1≤(e.2.2.2.2.2.1.length:Int)):=by
 have U:=h.ol;have Z:=h.tl;unfold IE Ot;simp only;refine M49 (λ_=>W.ret ⟨rfl,λq=>by cases q⟩) λG=>?_
 have G:p.1≤(e.2.2.2.2.2.1.length:Int):=by unfold ln at G;omega
 obtain ⟨n,hn⟩:=M1j hs;refine W.st (P:=λ_=>True) ?_ λ_ _=>?_
 refine M4h n (λ_=>True) (by omega) trivial λb hb _=>?_
 rw [hn];refine M49 (λq=>?_) (λq=>M4a trivial);refine W.st (P:=λa=>True) ?_ λv4 _=>?_
 refine M4e j.1.length (λs=>s.2) (λt s=>True) (by omega) rfl trivial λt s ht A _=>?_
 obtain ⟨a,i⟩:=s;simp only at A ⊢;subst A;refine M49 (λq=>?_) (λq=>M4a trivial);have B:t<j.1.length:=by unfold ln at q;omega
 exact M4b B (M4b (by omega) (M4k (by simp) (M48 (λ_=>W.nx ⟨B,rfl,trivial⟩) λ_=>W.nx ⟨B,rfl,trivial⟩)));exact M4b (by omega) (M4f (H _ (M03 _)).1 (H _ (M03 _)).2 λv6 _ _=>M48 (λ_=>M4a ⟨rfl,λq=>by cases q⟩) λ_=>W.nx ⟨by omega,rfl,trivial⟩);refine M4h y.2.2.1.length (λ_=>True) (by omega) trivial λt ht _=>M49 (λq=>?_) (λq=>M4a ⟨rfl,λ_=>G⟩)
 have B:t<y.2.2.1.length:=by unfold ln at q;omega
 have ho:=(h.oo _ (M03 B)).1;refine M4b B (W.st (P:=λa=>True) ?_ λaa _=>?_);refine M4e j.1.length (λs=>s.2) (λt s=>True) (by omega) rfl trivial λu s J A _=>?_
 obtain ⟨a,i⟩:=s;simp only at A ⊢;subst A;refine M49 (λq=>?_) (λq=>M4a trivial);have E:u<j.1.length:=by unfold ln at q;omega
 exact M4b E (M48 (λ_=>W.nx ⟨E,rfl,trivial⟩) λ_=>W.nx ⟨E,rfl,trivial⟩);refine W.st (P:=λa=>True) ?_ λab _=>M4f ho.1 ho.2 λ_ _ _=>M48 (λ_=>M4a ⟨rfl,λq=>by cases q⟩) λ_=>W.nx ⟨B,rfl,trivial⟩
 refine M4f ho.1 (by omega) λrow _ hrow=>?_
 have Y:=h.len row hrow;refine M4e row.length (λs=>s.2) (λt s=>True) (by omega) rfl trivial λu s J A _=>?_
 obtain ⟨a,i⟩:=s;simp only at A ⊢;subst A;refine M49 (λq=>?_) (λq=>M4a trivial);have E:u<row.length:=by unfold ln at q;omega
 have I:=h.wr row hrow _ (M03 E);exact M4b E (W.of (CD _ _ (by omega)) (M48 (λ_=>M4f I.1 I.2 λ_ _ _=>W.nx ⟨E,rfl,trivial⟩) λ_=>W.nx ⟨E,rfl,trivial⟩))
theorem y6 (l:List Int)(j:Bb)(e:Ah)(r:Ag)(hj:j.1.length≤192)(U:∀ t∈e.2.2.2.2.2.1,0≤t∧t<(c.1.length:Int))(O:e.2.2.2.2.2.1.length≤5) :
  W (IC (l,j,c,y,e,r)) λo=>o.1=0→∃ p:BE,JZ j=some (p,0)∧p.1.1≤(e.2.2.2.2.2.1.length:Int)∧o=(0,c,(y.1,y.2.1,y.2.2.1,true,(l,j,p,e.2.1,e.2.2.2.2.2.1.take p.1.1.toNat,0),false),e,r.1,r.2.1,p,r.2.2.2):=by
 unfold IC On;simp only;obtain ⟨a,E,I⟩:=H8 j (by unfold Hq;omega);obtain ⟨p,k⟩:=a;refine W.of E (M4i (λhne=>W.ret λq=>absurd q hne) λA=>?_);simp only at A;subst A;obtain ⟨H,B,Z,p4,p5⟩:=I rfl;simp only at H B Z;refine M4c (M15 h j p.1 e r p4 H B.1 U O) λv1 Y=>M4i (λhne=>W.ret λq=>absurd q hne) λA=>?_
 obtain ⟨k1,x1⟩:=v1;obtain ⟨G,h1⟩:=Y;simp only at G A h1 ⊢;subst G A;have J:=h1 rfl;obtain ⟨n,hn⟩:=M1j B.1;simp only [hn];refine W.of (Vd (by omega)) (W.of (Ei (by simp;omega)) (W.of (Vq (by omega) (by omega)) (W.ret λ_=>⟨p,E,J,?_⟩)));rw [hn];rfl
theorem y7 (l:List Int)(j:Bb)(e:Ah)(r:Ag)(hl:l.length≤1000)(hj:j.1.length≤192)(U:∀ t∈e.2.2.2.2.2.1,0≤t∧t<(c.1.length:Int))(O:e.2.2.2.2.2.1.length≤5) :
  W (IG (l,j,c,y,e,r,l)) λo=>o.1=0→∃ p:BE,JZ j=some (p,0)∧p.1.1≤(e.2.2.2.2.2.1.length:Int)∧o=(0,c,(y.1,y.2.1,y.2.2.1,true,(l,j,p,e.2.1,e.2.2.2.2.2.1.take p.1.1.toNat,0),false),e,(r.1,r.2.1,p,r.2.2.2),l):=by
 unfold IG Ov;simp only;obtain ⟨a,E,I⟩:=H8 j (by unfold Hq;omega);obtain ⟨p,k⟩:=a;refine W.of E (M4i (λhne=>W.ret λq=>absurd q hne) λA=>?_);simp only at A;subst A;obtain ⟨H,B,Z,p4,p5⟩:=I rfl;simp only at H B Z;refine M4c (M16 h j p.1 e r l hl p4 H B.1 U O) λv1 Y=>M4i (λhne=>W.ret λq=>absurd q hne) λA=>?_
 obtain ⟨k1,x1⟩:=v1;obtain ⟨G,h1⟩:=Y;simp only at G A h1 ⊢;subst G A;have J:=h1 rfl;obtain ⟨n,hn⟩:=M1j B.1;simp only [hn];refine W.of (Vd (by omega)) (W.of (Ei (by simp;omega)) (W.of (Vq (by omega) (by omega)) (W.ret λ_=>⟨p,E,J,?_⟩)));rw [hn];rfl
end
abbrev zP:BE:=((0,[]),[])
abbrev zF:Gt:=([],[],(0,0,0,0,0,0,0),[])
abbrev zG:Ab:=([],([],0),((0,[]),[]),0,[],0)
def OV (En:Int) (ts:List Int) (d:Int):Nat→Nat→Int
 | 0,_=>d
 | n+1,b=>bif CF .i64 (DV .i64 En (b:Int)) 1==1 then (ts[b]?).getD d else OV En ts d n (b+1)
def D9 (ws:List A6) (os:List A0) (p:Ab) (w:Int):Int:=
 OV (vw p.2.2.1.1.2 (BI p.1 w).toNat) p.2.2.2.2.1 (((os[(Dw ws os w).1.toNat]?).map λo=>o.2.1).getD 0) (p.2.2.1.1.1.toNat-p.2.2.2.2.2.toNat) p.2.2.2.2.2.toNat
def Bn (p:Ab):Int:=if p.2.2.2.2.2=0 then p.2.2.2.1 else vw p.2.2.2.2.1 (p.2.2.2.2.2-1).toNat
def G5 (ss:List (Int×Int)) (i:Int):Option Int:=C5 (λs=>s.1==i) (λ_ s=>some s.2) none ss 0
def JQ (A:Int) (B:Int→Int) (ss:List (Int×Int)) (i:Nat) (w:Int):Ap:=(w,A,(G5 ss i).getD (B w),false)
def Ec (A:Int→Int) (ss:List (Int×Int)) (i:Nat) (w:Int):Bool:=(G5 ss i).getD (A w)!=A w
def Dd (A:Int) (B:Int→Int) (ss:List (Int×Int)) (row:List Int):List Ap:=row.mapIdx (JQ A B ss)
def EY (A:Int→Int) (ss:List (Int×Int)) (row:List Int):Bool:=(row.mapIdx (Ec A ss)).any id
theorem D0 {α β:Type}(f:Nat→α→β){xs:List α}{t:Nat}(h:t<xs.length):(xs.take (t+1)).mapIdx f=(xs.take t).mapIdx f++[f t xs[t]]:=by
 rw [M08 h,List.mapIdx_append];simp [M2h (M2J h)]
def Hc (n:Nat) (t:Int) (k:Nat):List Ap:=(List.range k).map λi=>(((n+i:Nat):Int),-1,t,false)
def G9 (t:Int) (row:List Int):List Ap:=row.map λw=>(w,t,-1,false)
def AY (trk:Bp) (t:Int) (l:List Int):List Ap:=l.map λw=>(w,(JW trk w).1,t,false)
def D1 (wg:List Int) (ps:List Aa):List Aa:=ps.map λp=>(vw wg p.1.toNat,p.2.1,if 0≤p.2.2.1 then vw wg p.2.2.1.toNat else p.2.2.1,p.2.2.2)
def C3 (os:List A0) (trk:Bp) (pl:List Int):List Int:=(trk.mapIdx λt row=>row.filter λw=>decide ((t:Int)∈os.map λo=>o.2.1)||decide (w∈pl)).flatten
def Cj (ws:List A6) (os:List A0) (trk:Bp) (wg:List Int):Ac:=(wg.map (Dw ws os),os.map λo=>o.2.1,trk.map λrow=>(row.map (BI wg ·)).filter λx=>decide (0≤x))
abbrev Da (os:List A0) (n:List UInt8):Int:=C5 (λo:A0=>o.1==n) (λi _=>(i:Int)) (-1) os 0
inductive Did (c:A2) (y:AH) (e:Ah):AH→Ag→Prop
 | err (k ru pl:Int) (hk:k≠0):Did c y e y (k,[],zP,[],zF,ru,pl)
 | arrive (l:List A6) (s:Bp) (hk:e.1=1) (hd:Sz e.2.2.2.2.2.2.2.2.2=some (l,0)) (hl:y.1.length+l.length≤192) (hf:∀ w∈l,FitW w) (hr:BJ c.1 (Bf (y.1++l)) (Hc y.1.length e.2.1 l.length) 0 y.2.1=.inr s) :
   Did c y e (y.1++l,s,y.2.2) (0,Hc y.1.length e.2.1 l.length,zP,[],zF,0,0)
 | order (hk:e.1=2) (hb:y.2.2.2.1=false):Did c y e (y.1,y.2.1,y.2.2.1++[e.2.2.2.2.2.2.2.1],y.2.2.2) (0,[],zP,[],zF,0,0)
 | plan (row:List Int) (p:BE) (hk:e.1=3) (hb:y.2.2.2.1=false) (ht:0≤e.2.1) (hrow:y.2.1[e.2.1.toNat]? = some row) (hit:∀ w∈row,0≤(Dw y.1 y.2.2.1 w).1) (hp:JZ (row.map (Dw y.1 y.2.2.1),e.2.2.2.2.1)=some (p,0)) (hs:p.1.1≤(e.2.2.2.2.2.1.length:Int)) :
   Did c y e (y.1,y.2.1,y.2.2.1,true,(row,(row.map (Dw y.1 y.2.2.1),e.2.2.2.2.1),p,e.2.1,e.2.2.2.2.2.1.take p.1.1.toNat,0),false) (0,[],p,[],zF,0,0)
 | roll (row:List Int) (s:Bp) (y':AH) (hk:e.1=4) (hb:y.2.2.2.1=true) (hf:y.2.2.2.2.2=false) (hrow:y.2.1[(Bn y.2.2.2.2.1).toNat]? = some row) (YW:0≤Bn y.2.2.2.2.1)
   (hr:BJ c.1 (Bf y.1) (Dd (Bn y.2.2.2.2.1) (D9 y.1 y.2.2.1 y.2.2.2.2.1) e.2.2.2.2.2.2.1 row) 0 y.2.1=.inr s)
   (hy:y'=(y.1,s,y.2.2.1,if EY (D9 y.1 y.2.2.1 y.2.2.2.2.1) e.2.2.2.2.2.2.1 row=true then (true,(y.2.2.2.2.1.1,y.2.2.2.2.1.2.1,y.2.2.2.2.1.2.2.1,y.2.2.2.2.1.2.2.2.1,y.2.2.2.2.1.2.2.2.2.1,y.2.2.2.2.1.2.2.2.2.2+1),true)
    else if y.2.2.2.2.1.2.2.2.2.2+1>y.2.2.2.2.1.2.2.1.1.1 then (false,zG,false) else (true,(y.2.2.2.2.1.1,y.2.2.2.2.1.2.1,y.2.2.2.2.1.2.2.1,y.2.2.2.2.1.2.2.2.1,y.2.2.2.2.1.2.2.2.2.1,y.2.2.2.2.1.2.2.2.2.2+1),false))) :
   Did c y e y' (0,Dd (Bn y.2.2.2.2.1) (D9 y.1 y.2.2.1 y.2.2.2.2.1) e.2.2.2.2.2.2.1 row,zP,[],zF,0,0)
 | fin (wg:List Int) (hk:e.1=5) (hf:y.2.2.2.2.2=true) (hw:std.s1 (C3 y.2.2.1 y.2.1 y.2.2.2.2.1.1)=some wg) (hwt:0≤e.2.2.2.2.1∧e.2.2.2.2.1≤12) (hp:Oq (Cj y.1 y.2.2.1 y.2.1 wg)=some ([],0)) :
   Did c y e (y.1,y.2.1,y.2.2.1,false,zG,false) (0,[],zP,[],zF,0,0)
 | bring (wg:List Int) (ps:List Aa) (j:Bb) (its:List Int) (p:BE) (s:Bp) (hk:e.1=5) (hf:y.2.2.2.2.2=true) (hw:std.s1 (C3 y.2.2.1 y.2.1 y.2.2.2.2.1.1)=some wg)
   (hp:Oq (Cj y.1 y.2.2.1 y.2.1 wg)=some (ps,0))(hne:ps≠[])(hj:OT (Cj y.1 y.2.2.1 y.2.1 wg,ps,e.2.2.2.2.1)=some (j,its,0))(hq:JZ j=some (p,0))(hs:p.1.1≤(e.2.2.2.2.2.1.length:Int))
   (hr:BJ c.1 (Bf y.1) (AY y.2.1 e.2.1 (its.map λi=>vw wg i.toNat)) 0 y.2.1=.inr s) :
   Did c y e (y.1,s,y.2.2.1,true,(its.map λi=>vw wg i.toNat,j,p,e.2.1,e.2.2.2.2.2.1.take p.1.1.toNat,0),false) (0,AY y.2.1 e.2.1 (its.map λi=>vw wg i.toNat),p,D1 wg ps,zF,0,0)
 | move (sh:List Ap) (s:Bp) (hk:e.1=6) (hb:y.2.2.2.1=false) (hs:V6 (y.2.1,e.2.1,e.2.2.1,e.2.2.2.1)=some (sh,0)) (hsl:sh.length≤192) (hr:BJ c.1 (Bf y.1) sh 0 y.2.1=.inr s) :
   Did c y e (y.1,s,y.2.2) (0,sh,zP,[],zF,0,0)
 | depart (k:Nat) (o:A0) (row:List Int) (f:Gt) (ru pl:Int) (s:Bp) (hk:e.1=7) (hb:y.2.2.2.1=false) (hn:Da y.2.2.1 e.2.2.2.2.2.2.2.2.1=(k:Int)) (ho:y.2.2.1[k]? = some o) (hrow:y.2.1[o.2.1.toNat]? = some row)
   (hf:V2 (c,o,row.map λw=>(y.1[w.toNat]?).getD Hr)=some (f,ru,pl,0))(hr:BJ c.1 (Bf y.1) (G9 o.2.1 row) 0 y.2.1=.inr s) :
   Did c y e (y.1,s,y.2.2.1.take k++y.2.2.1.drop (k+1),y.2.2.2) (0,G9 o.2.1 row,zP,[],f,0,0)
def YN (c:A2) (y:AH) (e:Ah) (o:Int×AR):Prop:=o.1=0→o.2.1=c∧o.2.2.2.2.1=0∧Did c y e o.2.2.1 o.2.2.2.2∧Inv c o.2.2.1
def Vr (c:A2) (y:AH) (e:Ah) (o:Int×A2×(List A6)×(List (List Int))×(List A0)×Bool×Ab×Bool×Ah×Ag):Prop:=
 o.1=0→Did c y e (o.2.2.1,o.2.2.2.1,o.2.2.2.2.1,o.2.2.2.2.2.1,o.2.2.2.2.2.2.1,o.2.2.2.2.2.2.2.1) o.2.2.2.2.2.2.2.2.2∧Inv c (o.2.2.1,o.2.2.2.1,o.2.2.2.2.1,o.2.2.2.2.2.1,o.2.2.2.2.2.2.1,o.2.2.2.2.2.2.2.1)
theorem IW {T:G8}{L:List Int}{ld:Int}{ts pl:List Int}:∀ {l:List jm} {i:Nat} {s r:Bp},OnP ld ts pl s→(∀ m∈l,m.1∈pl∨(m.2.2.1≠ld∧m.2.2.1∉ts))→BJ T L l i s=.inr r→OnP ld ts pl r
 | [],_,s,r,h,_,e=>by cases e;exact h
 | m::l,i,s,r,h,k,e=>by
  unfold BJ at e;split at e;exact IW (h.mv (k m M2w)) (λx A=>k x (M1c _ A)) e;cases e
abbrev OH:Ag:=(0,[],((0,[]),[]),[],([],[],(0,0,0,0,0,0,0),[]),0,0)
section
variable {c : A2} {wag : List A6} {trk : Bp} {ord : List A0} {busy : Bool} {prog : Ab} {flt : Bool} {e : Ah} (hc : BF c) (h : Inv c (wag, trk, ord, busy, prog, flt)) (he : EvOK e)
include hc h he
theorem ie (hk:e.1=2):W (F95 (c,wag,trk,ord,busy,prog,flt,e,OH)) (Vr c (wag,trk,ord,busy,prog,flt) e):=by
 have H:=h.ol;have A:=h.tl;obtain ⟨o1,o2,I⟩:=id he.od;simp only at H A;unfold F95 B95;simp only;refine M48 (λ_=>W.ret λq=>by cases q) λhb=>?_
 subst hb;refine M4c (WT c _ he.od) λJ G=>M4q (λ_=>W.ret λq=>by cases q) λE=>?_
 obtain ⟨a1,a2,a3⟩:=G E;refine W.st (P:=λ_=>True) ?_ λ_ _=>M48 (λ_=>W.ret λq=>by cases q) λB=>?_
 ·refine M4h ord.length (λ_=>True) (by omega) trivial λt ht _=>M49 (λq=>?_) (λq=>M4a trivial)
  have A:t<ord.length:=by unfold ln at q;omega
  have ho:=h.oo _ (M03 A);refine M4b A ?_;simp only [Aw A];refine M4c (pE _ _ o2 (by have:=ho.2.1;(try simp only);omega)) λO _=>?_
  exact M48 (λ_=>M4a λq=>by cases q) λ_=>M48 (λ_=>M4a λq=>by cases q) λ_=>M48 (λ_=>M4a λq=>by cases q) λ_=>W.nx ⟨A,rfl,trivial⟩
 have B:ord.length≠8:=λq=>by
  have:(ln ord==8)=true:=by unfold ln;rw [q];rfl
  rw [this] at B;cases B
 refine M4f a1.1 (by omega) λrow _ _=>M48 (λ_=>W.ret λq=>by cases q) λ_=>W.of (i8 (by omega)) (M4d (by simp;omega) (W.ret λ_=>⟨.order hk rfl,?_⟩))
 refine ⟨h.vd,h.ww,by simp;omega,λo ho=>?_,h.fb,h.pb,(λq=>by cases q)⟩;rcases M1b.1 ho with ho|ho
 exact h.oo o ho;rw [M19] at ho;subst ho;exact ⟨a1,by simpa using a2.2,a3,he.od.2.2⟩
theorem YO (hk:e.1=1):W (F94 (c,wag,trk,ord,busy,prog,flt,e,OH)) (Vr c (wag,trk,ord,busy,prog,flt) e):=by
 have af:=h.ol;have B:=h.tl;have ao:=h.wl;have ag:=λhb=>(h.pl hb).tl
 simp only at af B ao ag;unfold F94 B94;simp only;refine M49 (λt0=>M4I (λ_=>W.ret λq=>by cases q) λt1=>M48 (λ_=>W.ret λq=>by cases q) λhf=>?_) λ_=>W.ret λq=>by cases q
 subst hf;have ab:∀ l:List A6,l.length≤96→∀ {f:PUnit→Option _},W (f ()) (Vr c (wag,trk,ord,busy,prog,false) e)→
   W ((std.run (λH:Int=>bif decide (H<ln trk) then (Go.V.idx trk H).bind λv4=>std.run (λv5:Int=>bif decide (v5<ln v4) then (Go.V.idx v4 v5).bind λv6=>(Go.V.idx wag v6).bind λv7=>(Gu (l,(A7 wag v6 v7).1)).bind λv8=>bif v8.1 then some (.done (.done (.done (8,c,wag,trk,ord,busy,prog,false,e,OH)))) else some (.next (A1 (v5+1))) else some (.done (.next (A1 (H+1))))) 0 else some (.done (.next ()))) 0).bind (AF f)) (Vr c (wag,trk,ord,busy,prog,false) e):=λl hl f hf=>by
  refine W.st (P:=λ_=>True) ?_ λ_ _=>hf
  refine M4h trk.length (λ_=>True) (by have:=hc.l1;omega) trivial λt ht _=>M49 (λq=>?_) (λq=>M4a trivial)
  have B:t<trk.length:=by unfold ln at q;omega
  have an:=h.len _ (M03 B)
  (try simp only at an)
  refine M4b B ?_;refine M4h trk[t].length (λ_=>True) (by omega) trivial λu hu _=>M49 (λq=>?_) (λq=>M4a ⟨B,rfl,trivial⟩)
  have Y:u<trk[t].length:=by unfold ln at q;omega
  have hx:=h.wr _ (M03 B) _ (M03 Y);exact M4b Y (M4f hx.1 hx.2 λ_ _ _=>M4c (pF _ _ (by omega)) λ_ _=>M48 (λ_=>M4a λq=>by cases q) λ_=>W.nx ⟨Y,rfl,trivial⟩)
 have fin:∀ l:List A6,l.length≤96→¬ (A1 (ln wag+ln l)>192)→wag.length+l.length≤192:=λl h1 h3=>by
  unfold ln at h3;rw [A8 (by omega) (by omega)] at h3;omega
 have go:∀ l:List A6,(busy=true→e.2.1≠prog.2.2.2.1∧e.2.1∉prog.2.2.2.2.1)→Sz e.2.2.2.2.2.2.2.2.2=some (l,0)→(∀ w∈l,FitW w)→wag.length+l.length≤192→
   W ((std.run (λG:(List Ap)×Int=>bif decide (G.2<ln l) then bif Go.T.room G.1 ([(A1 ((ln wag)+G.2),(-1),e.2.1,false)]) then some (.next (G.1++([(A1 ((ln wag)+G.2),(-1),e.2.1,false)]),A1 (G.2+1))) else none else some (.done (.next G.1))) ([],0)).bind (AF λau:List Ap=>(Qv (au,c,(wag++l,trk,ord,busy,prog,false),e,OH)).bind λA=>some (A.1,A.2.1,A.2.2.1.1,A.2.2.1.2.1,A.2.2.1.2.2.1,A.2.2.1.2.2.2.1,A.2.2.1.2.2.2.2.1,A.2.2.1.2.2.2.2.2,A.2.2.2))) (Vr c (wag,trk,ord,busy,prog,false) e):=λl O hd hl aq=>by
  refine W.st (P:=λv=>v=Hc wag.length e.2.1 l.length) ?_ λv hv=>?_
  refine M4e l.length (λs=>s.2) (λt s=>s.1=Hc wag.length e.2.1 t) (by omega) rfl rfl λt s ht ae hI=>?_
  obtain ⟨a,i⟩:=s;simp only at ae hI ⊢;subst ae hI;refine M49 (λq=>?_) (λq=>M4a ?_)
  have B:t<l.length:=by unfold ln at q;omega
  refine M4d (by unfold Hc;simp;omega) (W.nx ⟨B,rfl,?_⟩);simp only;unfold Hc ln;rw [List.range_succ,M1A,A8 (by omega) (by omega)];rfl;have:t=l.length:=by unfold ln at q;omega
  subst this;rfl;subst hv;have ar:∀ w∈wag++l,FitW w:=λw hw=>(M1b.1 hw).elim (h.ww w) (hl w)
  have ah:Dc c.1 (Bf (wag++l)) trk:=by
   have:=QZ h.vd (Bf l) (R1 hl) (by simp;omega);unfold Bf at this ⊢;rw [M1A];exact this
  refine W.of (OF (y:=(wag++l,trk,ord,busy,prog,false)) ah _ (by unfold Hc;simp;omega)) ?_;simp only;cases U:BJ c.1 (Bf (wag++l)) (Hc wag.length e.2.1 l.length) 0 trk with
  | inl x=>exact W.ret λq=>absurd q (Eb U)
  | inr s=>
   refine W.ret λ_=>⟨.arrive l s hk hd aq hl U,?_⟩
   refine ⟨EB ah U,ar,af,h.oo,h.fb,h.pb,λhb=>?_⟩;refine M4C (h.pl hb) (by simp;omega) λ_=>?_
   refine IW ((h.pl hb).on rfl) (λm hm=>?_) U;unfold Hc at hm;obtain ⟨i,hi,rfl⟩:=M1L.1 hm;exact .inr (O hb)
 refine M48 (λhb=>M48 (λ_=>W.ret λq=>by cases q) λal=>W.of (CD _ _ (by have:=ag hb;omega)) (M48 (λ_=>W.ret λq=>by cases q) λam=>?_)) λhb=>?_
 ·have O:busy=true→e.2.1≠prog.2.2.2.1∧e.2.1∉prog.2.2.2.2.1:=λ_=>⟨by simpa using al,M21 am⟩
  refine W.of (H2 _ _ (by (try simp only);omega)) (M48 (λ_=>W.ret λq=>by cases q) λ_=>?_);obtain ⟨H,I,h3⟩:=WB _ he.by_ (by have:=he.dl;omega);obtain ⟨l,k⟩:=H;refine W.of I (M4i (λhne=>W.ret λq=>absurd q hne) λJ=>?_);simp only at J;subst J;obtain ⟨l1,Z⟩:=h3 rfl;refine ab l l1 (M49 (λ_=>W.ret λq=>by cases q) λE=>?_);have E:=fin l l1 E;exact M4d (by (try simp only);omega) (go l O I Z E)
 ·have O:busy=true→e.2.1≠prog.2.2.2.1∧e.2.1∉prog.2.2.2.2.1:=λq=>by rw [hb] at q;cases q
  refine W.of (H2 _ _ (by (try simp only);omega)) (M48 (λ_=>W.ret λq=>by cases q) λ_=>?_);obtain ⟨H,I,h3⟩:=WB _ he.by_ (by have:=he.dl;omega);obtain ⟨l,k⟩:=H;refine W.of I (M4i (λhne=>W.ret λq=>absurd q hne) λJ=>?_);simp only at J;subst J;obtain ⟨l1,Z⟩:=h3 rfl;refine ab l l1 (M49 (λ_=>W.ret λq=>by cases q) λE=>?_);have E:=fin l l1 E;exact M4d (by (try simp only);omega) (go l O I Z E)
theorem pI (hk:e.1=6):W (F99 (c,(wag,trk,ord,busy,prog,flt),e,OH)) (YN c (wag,trk,ord,busy,prog,flt) e):=by
 have O:=h.ol;have A:=h.tl;have Z:=h.wl;simp only at O A Z;unfold F99 B99;simp only;refine M48 (λ_=>W.ret λq=>by cases q) λhb=>?_
 subst hb;refine M49 (λa0=>M4I (λ_=>W.ret λq=>by cases q) λa1=>M49 (λb0=>M4I (λ_=>W.ret λq=>by cases q) λb1=>M48 (λ_=>W.ret λq=>by cases q) λ_=>?_) λ_=>W.ret λq=>by cases q) λ_=>W.ret λq=>by cases q
 refine W.of (H2 _ _ (by (try simp only);omega)) (M48 (λ_=>W.ret λq=>by cases q) λ_=>W.of (H2 _ _ (by (try simp only);omega)) (M48 (λ_=>W.ret λq=>by cases q) λ_=>M49 (λ_=>W.ret λq=>by cases q) λh3=>?_));have Y:W (V6 (trk,e.2.1,e.2.2.1,e.2.2.2.1)) λv=>v.1.length≤192:=by
  unfold V6 wC;simp only;refine M48 (λ_=>W.ret (by simp)) λ_=>M48 (λ_=>W.ret (by simp)) λ_=>M48 (λ_=>W.ret (by simp)) λ_=>M48 (λ_=>W.ret (by simp)) λ_=>M48 (λ_=>W.ret (by simp)) λ_=>?_
  unfold ln at a1;refine M4f a0 (by omega) λl hl ac=>M48 (λ_=>W.ret (by simp)) λ_=>M49 (λ_=>W.ret (by simp)) λU=>?_
  obtain ⟨l1,l2,l3⟩:=C6 h hl;unfold ln at U;rw [A8 (by unfold ln;omega) (by unfold ln;omega)];refine W.sub (by unfold ln;omega) (by unfold ln;omega) (by unfold ln;omega) λr _ hr=>?_
  unfold ln at hr;refine M4e r.length (λs=>s.2) (λt s=>s.1.length=t) (by omega) rfl rfl λt s ht J I=>?_
  obtain ⟨a,i⟩:=s;simp only at J I ⊢;subst J;refine M49 (λq=>?_) (λq=>M4a (by (try simp only);omega));have A:t<r.length:=by unfold ln at q;omega
  exact M4b A (M4d (by simp;omega) (W.nx ⟨A,rfl,by simp [I]⟩))
 obtain ⟨v,E,H⟩:=Y;obtain ⟨sh,k⟩:=v;refine W.of E (M4i (λhne=>W.ret λq=>absurd q hne) λG=>?_);simp only at G H;subst G;refine W.of (OF h.vd sh (by omega)) ?_;simp only;cases B:BJ c.1 (Bf wag) sh 0 trk with
 | inl x=>exact W.ret λq=>absurd q (Eb B)
 | inr s=>exact W.ret λ_=>⟨rfl,rfl,.move sh s hk rfl E H B,EB h.vd B,h.ww,O,h.oo,h.fb,h.pb,(λq=>by cases q)⟩
theorem Vt (hk:e.1=7):W (lQ (c,wag,trk,ord,busy,prog,flt,e,OH)) (Vr c (wag,trk,ord,busy,prog,flt) e):=by
 have ak:=h.ol;have B:=h.tl;have al:=h.wl;simp only at ak B al;unfold lQ vG;simp only;refine M48 (λ_=>W.ret λq=>by cases q) λhb=>?_
 subst hb;have ai:std.run (λA:Int=>bif decide (A<ln ord) then (Go.V.idx ord A).bind λO=>bif ((A7 ord A O).1)==e.2.2.2.2.2.2.2.2.1 then some (.done (.next A)) else some (.next (A1 (A+1))) else some (.done (.next (-1)))) 0=some ((.next (Da ord e.2.2.2.2.2.2.2.2.1):Al Int (Int×A2×(List A6)×(List (List Int))×(List A0)×Bool×Ab×Bool×Ah×Ag))):=by
  have:=W.fst (xs:=ord) (ρ:=Al Int (Int×A2×(List A6)×(List (List Int))×(List A0)×Bool×Ab×Bool×Ah×Ag)) (λo=>o.1==e.2.2.2.2.2.2.2.2.1) (λi _=>.next (i:Int)) (.next (-1))
   (step:=λA:Int=>bif decide (A<ln ord) then (Go.V.idx ord A).bind λO=>bif ((A7 ord A O).1)==e.2.2.2.2.2.2.2.2.1 then some (.done (.next A)) else some (.next (A1 (A+1))) else some (.done (.next (-1)))) (by omega) (λt ht=>by
    simp only [HL ht,M2B,CC ht,BR,Aw ht]) (by simp only [HN,M2D])
  rw [this];congr 1;have:∀ (l:List A0) k,C5 (λo:A0=>o.1==e.2.2.2.2.2.2.2.2.1) (λi _=>(Al.next (i:Int):Al Int (Int×A2×(List A6)×(List (List Int))×(List A0)×Bool×Ab×Bool×Ah×Ag))) (.next (-1)) l k=.next (C5 (λo:A0=>o.1==e.2.2.2.2.2.2.2.2.1) (λi _=>(i:Int)) (-1) l k):=by
   intro l;induction l with
   | nil=>intro k;rfl
   | cons a l ih=>
    intro k;simp only [C5];cases (a.1==e.2.2.2.2.2.2.2.2.1);exact ih _;rfl
  exact this ord 0
 refine W.of ai ?_;simp only [AF];refine M49 (λ_=>W.ret λq=>by cases q) λhn=>?_
 rcases Bm (λo:A0=>o.1==e.2.2.2.2.2.2.2.2.1) (λi _=>(i:Int)) (-1) ord 0 with ⟨k,E,au,_,H⟩|⟨_,H⟩
 rotate_left
 exact absurd (show Da ord e.2.2.2.2.2.2.2.2.1<0 by rw [show Da ord e.2.2.2.2.2.2.2.2.1 = -1 from H];decide) hn;have ad:Da ord e.2.2.2.2.2.2.2.2.1=(k:Int):=by rw [show Da ord e.2.2.2.2.2.2.2.2.1=_ from H];simp
 rw [ad];refine M4b E ?_;rw [Aw E];obtain ⟨ho,av,aj⟩:=h.oo _ (M03 E);refine W.st (P:=λv=>∃ row,trk[(ord[k]).2.1.toNat]? = some row∧v.1=row.map (λw=>(wag[w.toNat]?).getD Hr)∧v.2=G9 (ord[k]).2.1 row) ?_ λv8 h8=>?_
 refine M4f ho.1 (by omega) λrow hrow _=>?_
 obtain ⟨l1,J,l3⟩:=C6 h hrow;refine M4e row.length (λs=>s.2.2) (λt s=>s.1=(row.take t).map (λw=>(wag[w.toNat]?).getD Hr)∧s.2.1=G9 (ord[k]).2.1 (row.take t)) (by omega) rfl (by exact ⟨rfl,rfl⟩) λt s ht ac hI=>?_
 obtain ⟨a,b,i⟩:=s;simp only at ac hI ⊢;obtain ⟨rfl,rfl⟩:=hI;subst ac;refine M49 (λq=>?_) (λq=>M4a ⟨row,hrow,?_⟩)
 have B:t<row.length:=by unfold ln at q;omega
 have G:=J _ (M03 B);refine M4b B (M4f G.1 G.2 λw hw _=>M4d (by simp;omega) (M4d (by unfold G9;simp;omega) (W.nx ⟨B,rfl,?_,?_⟩)));simp only;rw [M08 B,M1A,M1X,M3H,hw];rfl;simp only;unfold G9;rw [M08 B,M1A];rfl;have:t=row.length:=by unfold ln at q;omega
 subst this;rw [M1m];exact ⟨rfl,rfl⟩;obtain ⟨ws,sh⟩:=v8;obtain ⟨row,hrow,U,Y⟩:=h8;simp only at U Y ⊢;subst U Y;obtain ⟨l1,J,l3⟩:=C6 h hrow;have ah:∀ w∈row.map (λw=>(wag[w.toNat]?).getD Hr),FitW w:=λw hw=>by
  obtain ⟨x,G,rfl⟩:=M1L.1 hw;have:=J x G;have ae:x.toNat<wag.length:=by omega
  rw [M00 ae];exact h.ww _ (M03 ae)
 obtain ⟨v9,Z,h9⟩:=WW hc (ord[k]) ⟨by omega,by omega,aj.2⟩ _ (by simpa using l1) ah;obtain ⟨f,ru,pl,er⟩:=v9;refine W.of Z (M4i (λhne=>W.ret λq=>absurd q hne) λh0=>?_);simp only at h0;subst h0;have ag:UZ (ord,(k:Int),(k:Int)+1)=some (ord.take k++ord.drop (k+1)):=by
  unfold UZ;simp only;rw [M1p (by omega),M1p (by omega),M1p (by unfold ln;omega)];rfl
 rw [A8 (by omega) (by omega)];refine W.of ag ?_;refine W.of (OF (y:=(wag,trk,ord.take k++ord.drop (k+1),false,prog,flt)) h.vd _ (by unfold G9;simp;omega)) ?_;simp only;cases I:BJ c.1 (Bf wag) (G9 (ord[k]).2.1 row) 0 trk with
 | inl x=>exact W.ret λq=>absurd q (Eb I)
 | inr s=>
  refine W.ret λ_=>⟨.depart k (ord[k]) row f ru pl s hk rfl ad (M00 E) hrow Z I,EB h.vd I,h.ww,by simp;omega,λo ho=>?_,h.fb,h.pb,(λq=>by cases q)⟩
  rcases M1b.1 ho with ho|ho;exact h.oo o (M24 ho);exact h.oo o (List.mem_of_mem_drop ho)
end
theorem M4N {α σ:Type}{step:σ→Option (Al σ α)}{s:σ}{Q:α→Prop}(h:W (step s) (BX (λ_=>False) Q)):W (std.run step s) Q:=by
 obtain ⟨r,e,hr⟩:=h;cases r with
 | next t=>exact hr.elim
 | done d=>
  refine ⟨d,?_,hr⟩;show Go.V.loopN step 18446744073709551616 s=some d
  have:∀ n,Go.V.loopN step (n+1) s=some d:=λn=>by simp only [Go.V.loopN,e,M2O]
  exact this 18446744073709551615
section
variable {c : A2} {wag : List A6} {trk : Bp} {ord : List A0} {busy : Bool} {prog : Ab} {flt : Bool} {e : Ah} (hc : BF c) (h : Inv c (wag, trk, ord, busy, prog, flt)) (he : EvOK e)
include hc h he
theorem pJ (hk:e.1=3):W (F96 (c,(wag,trk,ord,busy,prog,flt),e,OH)) (YN c (wag,trk,ord,busy,prog,flt) e):=by
 have ac:=h.ol;have A:=h.tl;have ar:=h.wl;have O:=he.ts;simp only at ac A ar;unfold F96 B96;simp only;refine M48 (λ_=>W.ret λq=>by cases q) λhb=>?_
 subst hb;refine M4c (WX _ O) λv0 B=>?_
 obtain ⟨k0,x0⟩:=v0;obtain ⟨Y,B⟩:=B;simp only at Y B ⊢;subst Y;refine M4i (λhne=>W.ret λq=>absurd q hne) λal=>?_
 obtain ⟨I,J,n3,n4⟩:=B al;refine M4c (WY _ O (by (try simp only);omega)) λv1 h1=>?_
 obtain ⟨k1,x1⟩:=v1;simp only at h1 ⊢;subst h1;refine M4i (λhne=>W.ret λq=>absurd q hne) λ_=>?_
 simp only at I J ⊢;refine W.st (P:=λ_=>∀ t∈e.2.2.2.2.2.1,trk[t.toNat]? = some []) ?_ λ_ aj=>?_
 refine M4h e.2.2.2.2.2.1.length (λt=>∀ i (hi:i<e.2.2.2.2.2.1.length),i<t→trk[(e.2.2.2.2.2.1[i]).toNat]? = some []) (by omega) (λi _ h=>by omega) λt ht E=>M49 (λq=>?_) (λq=>M4a λd hd=>?_)
 have A:t<e.2.2.2.2.2.1.length:=by unfold ln at q;omega
 have H:=J _ (M03 A);refine M4b A (M4f H.1 (by omega) λl hl _=>M49 (λ_=>M4a λq=>by cases q) λB=>W.nx ⟨A,rfl,λi hi h4=>?_⟩);by_cases e2:i=t;subst e2;rw [hl];unfold ln at B;have am:l=[]:=M1F.1 (by omega);rw [am]
 exact E i hi (by omega);obtain ⟨i,hi,rfl⟩:=M1o.1 hd;exact E i hi (by unfold ln at q;omega);refine M4f I.1 (by omega) λl hl aC=>?_
 obtain ⟨l1,l2,l3⟩:=C6 h hl;refine W.of (Ei (by omega)) ?_;refine W.st (P:=λits=>its=l.map (Dw wag ord)∧∀ w∈l,0≤(Dw wag ord w).1) ?_ λits ak=>?_
 refine M4e l.length (λs=>s.1) (λt s=>s.2=(l.take t).map (Dw wag ord)∧∀ w∈l.take t,0≤(Dw wag ord w).1) (by omega) rfl (by simp) λt s ht aa E=>?_
 obtain ⟨i,its⟩:=s;simp only at aa E ⊢;obtain ⟨rfl,U⟩:=E;subst aa;refine M49 (λq=>?_) (λq=>M4a ?_)
 have A:t<l.length:=by unfold ln at q;omega
 have H:=l2 _ (M03 A);refine M4b A ?_;rw [Aw A];refine W.of (qJ h H) (M4q (λ_=>M4a λq=>by cases q) λhn=>M4d (by simp;omega) (W.nx ⟨A,rfl,?_,?_⟩));simp only;rw [M08 A,M1A];rfl;rw [M08 A];intro w hw;rcases M1b.1 hw with hw|hw
 exact U w hw;rw [M19] at hw;subst hw;exact M1s hn
 have:t=l.length:=by unfold ln at q;omega
 subst this;rw [M1m] at U ⊢;exact ⟨rfl,U⟩
 obtain ⟨rfl,hit⟩:=ak;have ab:∀ it∈l.map (Dw wag ord),0≤it.1∧it.1<(ord.length:Int):=λit hm=>by
  obtain ⟨w,hw,rfl⟩:=M1L.1 hm;exact ⟨hit w hw,(H7 (hit w hw)).2⟩
 refine M48 (λ_=>W.ret λq=>by cases q) λ_=>?_
 refine W.st (P:=λ_=>True) ?_ λ_ _=>?_
 ·refine M4h (l.map (Dw wag ord)).length (λ_=>True) (by simp;omega) trivial λt ht _=>M49 (λq=>?_) (λq=>M4a trivial)
  have G:t<(l.map (Dw wag ord)).length:=by unfold ln at q;omega
  have ad:=ab _ (M03 G);refine M4b G ?_;rw [Aw G];refine M4f ad.1 ad.2 λo _ an=>?_
  have ho:=(h.oo o an).1;refine M4f ho.1 (by (try simp only at ho);omega) λrow hrow _=>M48 (λ_=>W.nx ⟨G,rfl,trivial⟩) λhz=>?_
  obtain ⟨r1,r2,r3⟩:=C6 h hrow;have aD:0<row.length:=by
   rcases M30 row.length with q|q;have:(ln row==0)=true:=by unfold ln;rw [q];rfl
   rw [this] at hz;cases hz
   exact q
  rw [A8 (by unfold ln;omega) (by unfold ln;omega)];exact M4f (by unfold ln;omega) (by unfold ln;omega) λx _ H=>W.of (ic h (r2 x H)) (M48 (λ_=>M4a λq=>by cases q) λ_=>W.nx ⟨G,rfl,trivial⟩)
 ·refine M4c (y6 h l (l.map (Dw wag ord),e.2.2.2.2.1) e OH (by simp;omega) J O) λaJ ah=>W.ret λq=>?_
  obtain ⟨p,hp,aq,rfl⟩:=ah q;have ao:=H8 (l.map (Dw wag ord),e.2.2.2.2.1) (by unfold Hq;simp;omega);obtain ⟨a,Z,ha⟩:=ao;rw [hp] at Z;cases Z;obtain ⟨p1,p2,p3,p4,p5⟩:=ha rfl;simp only [M2E] at p1 p2 p3 p4;refine ⟨rfl,rfl,.plan l p hk rfl I.1 hl hit hp aq,h.vd,h.ww,ac,h.oo,(λq=>by cases q),⟨by (try simp only);omega,by simp;omega,by (try simp only);omega,by (try simp only);omega,by simp;omega⟩,λ_=>?_⟩;refine { items:=by simp,codes:=by (try simp only);omega,wl:=l1,wr:=λw hw=>l2 w hw,nd:=l3,ord:=λw hw hm=>?_,tr:=ab,ld:=I,ts:=λt ht=>J t (M24 ht),tl:=by simp;omega,st:=by simp;omega,pu:=by simp;omega,pf:=λ_=>by simp,on:=λ_ t ht row hrow w hw=>?_ }
  simp only at hw hm;have:=hit _ hm;rw [GD (by omega)] at this;exact this
  simp only at ht hrow;rcases ht with ht|ht
  rw [←ht] at hl;rw [show ((t:Int)).toNat=t from rfl,hrow] at hl;cases hl;exact hw
  have:=aj _ (M24 ht);rw [show ((t:Int)).toNat=t from rfl,hrow] at this;cases this;cases hw
theorem pK (hb:busy=true)(hf:flt=false){w:Int}(hw:w∈prog.1):mz ((wag,trk,ord,busy,prog,flt),w)=some (D9 wag ord prog w):=by
 have hp:=h.pl hb;have p1:=hp.items;have p2:=hp.codes;have p3:=hp.wl;have U:=hp.pu;have p5:=hp.tl;have p6:=hp.pf hf;have Y:=hp.st;have B:=hp.wr w hw;have O:w.toNat<wag.length:=by simp only at B;omega
 have H:=hp.ord w.toNat O (by rw [M1v B.1];exact hw);simp only at p1 p2 p3 U p5 p6 Y H B;obtain ⟨m,ak,al,G⟩:=IK hw;obtain ⟨pu,I⟩:=M1j U.1;have hit:0≤(Dw wag ord w).1∧(Dw wag ord w).1<(ord.length:Int):=by
  rw [GD O];exact H7 H
 unfold mz wd;simp only;refine M4o (W.of (Dl _ _ (by omega)) ?_);rw [G];refine M4b (by omega) ?_;have aa:vw prog.2.2.1.1.2 (BI prog.1 w).toNat=prog.2.2.1.1.2[m]'(by omega):=by
  rw [G,show ((m:Int)).toNat=m from rfl,BB (by omega)]
 have ac:W ((V3 ((wag,trk,ord,busy,prog,flt),w)).bind λv5=>(Go.V.idx ord v5.1).bind λv6=>some v6.2.1) λa=>a=((ord[(Dw wag ord w).1.toNat]?).map λo=>o.2.1).getD 0:=by
  refine W.of (ic h B) (M4f hit.1 hit.2 λo ho _=>W.ret ?_);rw [ho];rfl
 refine W.st (P:=λ_=>D9 wag ord prog w=((ord[(Dw wag ord w).1.toNat]?).map λo=>o.2.1).getD 0) ?_ λ_ hd=>W.mono ac λa Z=>by rw [Z,hd]
 rw [I];refine W.run (λs=>∃ t:Nat,s=(t:Int)∧pu≤t∧t≤prog.2.2.2.2.1.length∧D9 wag ord prog w=OV (prog.2.2.1.1.2[m]'(by omega)) prog.2.2.2.2.1 (((ord[(Dw wag ord w).1.toNat]?).map λo=>o.2.1).getD 0) (prog.2.2.2.2.1.length-t) t) (λs=>100-s.toNat) ⟨pu,rfl,by omega,by omega,?_⟩ (by omega) λs hs=>?_
 unfold D9;rw [aa];rw [Y,I,M1i];rfl;obtain ⟨t,rfl,t1,t2,A⟩:=hs;refine M49 (λq=>?_) (λq=>M4a ?_);have J:t<prog.2.2.2.2.1.length:=by unfold ln at q;omega
 have ab:prog.2.2.2.2.1.length-t=(prog.2.2.2.2.1.length-(t+1))+1:=by omega
 rw [ab] at A;unfold OV at A;refine M4k (by simp) (M48 (λE=>M4b J (M4a ?_)) λE=>W.nx ⟨⟨t+1,?_,by omega,by omega,?_⟩,?_⟩)
 show prog.2.2.2.2.1[t]=_
 rw [A,E,M2B,M00 J];rfl;rw [A8 (by omega) (by omega)];rfl;rw [A,E,M2D];rw [A8 (by omega) (by omega)];omega;have:t=prog.2.2.2.2.1.length:=by unfold ln at q;omega
 show D9 wag ord prog w=_
 rw [A,this,M3B];rfl
theorem WZ (hb:busy=true)(hf:flt=false):eC prog=some (Bn prog)∧(0≤Bn prog∧Bn prog<(c.1.length:Int))∧(Bn prog=prog.2.2.2.1∨Bn prog∈prog.2.2.2.2.1):=by
 have hp:=h.pl hb;have A:=hp.pu;have B:=hp.tl;have E:=hp.pf hf;simp only at A B E;unfold Bn
 by_cases q:prog.2.2.2.2.2=0;rw [M1d q];refine ⟨?_,hp.ld,.inl rfl⟩;unfold eC mw;rw [q];rfl;rw [M1e q];have hi:(prog.2.2.2.2.2-1).toNat<prog.2.2.2.2.1.length:=by omega
 have hm:vw prog.2.2.2.2.1 (prog.2.2.2.2.2-1).toNat∈prog.2.2.2.2.1:=Jx hi;refine ⟨?_,hp.ts _ hm,.inr hm⟩;unfold eC mw;refine M4o (M4g (M2Z.2 q) ?_);rw [A8 (by omega) (by omega)];refine W.of (JN (by omega) (by omega)) (W.ret rfl)
end
theorem Vu (xs:List (Int×Int))(s:Int×Int)(i:Int):G5 (xs++[s]) i=(match G5 xs i with | some x=>some x | none=>if s.1=i then some s.2 else none):=by
 unfold G5;have:∀ (l:List (Int×Int)) k k',C5 (λs=>s.1==i) (λ_ s=>some s.2) (none:Option Int) (l++[s]) k=(match C5 (λs=>s.1==i) (λ_ s=>some s.2) (none:Option Int) l k' with | some x=>some x | none=>if s.1=i then some s.2 else none):=by
  intro l;induction l with
  | nil=>
   intro k k';simp only [M2L,C5];by_cases e:s.1=i;rw [M1d e,show (s.1==i)=true from beq_iff_eq.2 e];rfl;rw [M1e e,show (s.1==i)=false from M2Z.2 e];rfl
  | cons a l A=>
   intro k k';simp only [List.cons_append,C5];cases (a.1==i);exact A _ _;rfl
 exact this xs 0 0
section
variable {c : A2} {wag : List A6} {trk : Bp} {ord : List A0} {busy : Bool} {prog : Ab} {flt : Bool} {e : Ah} (hc : BF c) (h : Inv c (wag, trk, ord, busy, prog, flt)) (he : EvOK e)
include hc h he
theorem pM (hk:e.1=4):W (F97 (c,(wag,trk,ord,busy,prog,flt),e,OH)) (YN c (wag,trk,ord,busy,prog,flt) e):=by
 have aa:=h.ol;have A:=h.tl;have am:=h.wl;have aq:=he.ss;simp only at aa A am;unfold F97 B97;simp only;refine M4q (λ_=>W.ret λq=>by cases q) λhb=>M48 (λ_=>W.ret λq=>by cases q) λhf=>?_
 have hp:=h.pl hb;obtain ⟨s1,s2,s3⟩:=WZ hc h he hb hf;refine W.of s1 (M4f s2.1 (by omega) λrow hrow _=>M49 (λ_=>W.of rfl (W.ret λq=>by cases q)) λ_=>?_);obtain ⟨l1,l2,l3⟩:=C6 h hrow;have ae:∀ w∈row,w∈prog.1:=λw hw=>hp.on hf (Bn prog).toNat (by rw [M1v s2.1];exact s3) row hrow w hw
 refine M4h e.2.2.2.2.2.2.1.length (λ_=>True) (by omega) trivial λt ht _=>M49 (λq=>?_) (λ_=>?_)
 have A:t<e.2.2.2.2.2.2.1.length:=by unfold ln at q;omega
 exact M4b A (M48 (λ_=>W.of rfl (M4a λq=>by cases q)) λ_=>M48 (λ_=>W.of rfl (M4a λq=>by cases q)) λ_=>M48 (λ_=>M48 (λ_=>W.of rfl (M4a λq=>by cases q)) λ_=>W.nx ⟨A,rfl,trivial⟩) λ_=>W.of rfl (M4a λq=>by cases q));refine M4e e.2.2.2.2.2.2.1.length (λs=>s.1) (λt s=>∀ i,D5 s.2 i=G5 (e.2.2.2.2.2.2.1.take t) i) (by omega) rfl (λi=>rfl) λO s ar G E=>?_
 obtain ⟨i,m⟩:=s;simp only at G E ⊢;subst G;refine M49 (λq=>?_) (λq=>?_)
 have A:O<e.2.2.2.2.2.2.1.length:=by unfold ln at q;omega
 refine M4b A (M48 (λ_=>W.of rfl (M4a λq=>by cases q)) λhm=>W.nx ⟨A,rfl,λi=>?_⟩);simp only;rw [J3,M08 A,Vu,←E i];have ah:D5 m (e.2.2.2.2.2.2.1[O]).1=none:=by
  unfold cJ at hm;cases q:D5 m (e.2.2.2.2.2.2.1[O]).1 with
  | none=>rfl
  | some v=>rw [q] at hm;cases hm
 by_cases U:i=(e.2.2.2.2.2.2.1[O]).1;subst U;rw [M1d (M3j _),ah];simp;rw [M1e (by simpa using U)];cases D5 m i with
 | none=>simp only;rw [M1e (λq=>U q.symm)]
 | some v=>rfl
 have hm:∀ i,D5 m i=G5 e.2.2.2.2.2.2.1 i:=λi=>by
  rw [E i,List.take_of_length_le (by unfold ln at q;omega)]
 refine M4h e.2.2.2.2.2.2.1.length (λ_=>True) (by omega) trivial λt ht _=>M49 (λq=>?_) (λ_=>?_)
 have A:t<e.2.2.2.2.2.2.1.length:=by unfold ln at q;omega
 exact M4b A (M48 (λ_=>W.of rfl (M4a λq=>by cases q)) λ_=>W.nx ⟨A,rfl,trivial⟩);refine M4c (P:=YN c (wag,trk,ord,busy,prog,flt) e) ?_ λax hv=>M4a hv
 refine W.st (P:=λ(v:Bool×List Ap)=>v.2=Dd (Bn prog) (D9 wag ord prog) e.2.2.2.2.2.2.1 row∧v.1=EY (D9 wag ord prog) e.2.2.2.2.2.2.1 row) ?_ λv hv=>?_
 refine M4e row.length (λs=>s.2.2) (λt (s:Bool×List Ap×Int)=>s.2.1=(row.take t).mapIdx (JQ (Bn prog) (D9 wag ord prog) e.2.2.2.2.2.2.1)∧s.1=((row.take t).mapIdx (Ec (D9 wag ord prog) e.2.2.2.2.2.2.1)).any id) (by omega) rfl (by exact ⟨rfl,rfl⟩) λt s ht G E=>?_
 obtain ⟨f,sh,i⟩:=s;simp only at G E ⊢;obtain ⟨rfl,rfl⟩:=E;subst G;refine M49 (λq=>?_) (λq=>M4a ?_)
 have A:t<row.length:=by unfold ln at q;omega
 refine M4b A (W.of (pK hc h he hb hf (ae _ (M03 A))) ?_);have an:((row.take t).mapIdx (JQ (Bn prog) (D9 wag ord prog) e.2.2.2.2.2.2.1)).length≤192:=by simp;omega
 have fin:∀ (to:Int) (f:Bool),to=(G5 e.2.2.2.2.2.2.1 (t:Int)).getD (D9 wag ord prog row[t])→f=(((row.take t).mapIdx (Ec (D9 wag ord prog) e.2.2.2.2.2.2.1)).any id||Ec (D9 wag ord prog) e.2.2.2.2.2.2.1 t row[t])→
   W (bif Go.T.room ((row.take t).mapIdx (JQ (Bn prog) (D9 wag ord prog) e.2.2.2.2.2.2.1)) ([(row[t],Bn prog,to,false)]) then some (.next (f,(row.take t).mapIdx (JQ (Bn prog) (D9 wag ord prog) e.2.2.2.2.2.2.1)++([(row[t],Bn prog,to,false)]),A1 ((t:Int)+1))) else none)
    (BX (λs'=>t<row.length∧s'.2.2=A1 ((t:Int)+1)∧s'.2.1=(row.take (t+1)).mapIdx (JQ (Bn prog) (D9 wag ord prog) e.2.2.2.2.2.2.1)∧s'.1=((row.take (t+1)).mapIdx (Ec (D9 wag ord prog) e.2.2.2.2.2.2.1)).any id)
     (BX (λ(v:Bool×List Ap)=>v.2=Dd (Bn prog) (D9 wag ord prog) e.2.2.2.2.2.2.1 row∧v.1=EY (D9 wag ord prog) e.2.2.2.2.2.2.1 row) (YN c (wag,trk,ord,busy,prog,flt) e))):=λto f h1 h2=>by
  refine M4d (by simp only [M1N,M2g];omega) (W.nx ⟨A,rfl,?_,?_⟩);simp only;rw [D0 _ A,h1];rfl;simp only;rw [D0 _ A,List.any_append,h2];simp
 have B:=hm (t:Int);cases hs:G5 e.2.2.2.2.2.2.1 (t:Int) with
 | none=>
  rw [hs] at B;refine M4g (by unfold cJ;rw [B];rfl) (fin _ _ (by rw [hs];rfl) ?_);unfold Ec;rw [hs];simp
 | some x=>
  rw [hs] at B;refine M4k (by unfold cJ;rw [B];rfl) ?_;have hg:Ss m (t:Int) 0=x:=by unfold Ss;rw [B];rfl
  rw [hg];refine M4i (λhne=>fin _ _ (by rw [hs];rfl) ?_) λad=>fin _ _ (by rw [hs,ad];rfl) ?_
  unfold Ec;rw [hs];simp only [M1G];rw [M2I.2 hne];simp;unfold Ec;rw [hs];simp only [M1G];rw [show (x != D9 wag ord prog row[t])=false by simpa using ad];simp
 have:t=row.length:=by unfold ln at q;omega
 subst this;rw [M1m];exact ⟨rfl,rfl⟩
 ·obtain ⟨f,sh⟩:=v;simp only at hv ⊢;obtain ⟨rfl,rfl⟩:=hv;have ao:(Dd (Bn prog) (D9 wag ord prog) e.2.2.2.2.2.2.1 row).length≤192:=by unfold Dd;simp;omega
  refine W.of (OF (y:=(wag,trk,ord,busy,prog,flt)) h.vd _ (by omega)) ?_;simp only;cases H:BJ c.1 (Bf wag) (Dd (Bn prog) (D9 wag ord prog) e.2.2.2.2.2.2.1 row) 0 trk with
  | inl x=>exact M4k (M2I.2 (Eb H)) (W.ret λq=>absurd q (Eb H))
  | inr s=>
   have ai:OnP prog.2.2.2.1 prog.2.2.2.2.1 prog.1 s:=by
    refine IW (hp.on hf) (λmm Z=>?_) H;unfold Dd at Z;rw [List.mem_mapIdx] at Z;obtain ⟨i,hi,rfl⟩:=Z;exact .inl (ae _ (M03 hi))
   have af:=EB h.vd H;have ak:=hp.pu;have aj:=hp.pf hf;have B:=hp.st;have A:=hp.tl;have ab:=h.pb;simp only at ab ak aj B A;unfold PBd at ab;have al:A1 (prog.2.2.2.2.2+1)=prog.2.2.2.2.2+1:=A8 (by omega) (by omega);simp only [al];have ext:∀ f:Bool,(f=false→prog.2.2.2.2.2+1≤(prog.2.2.2.2.1.length:Int))→Inv c (wag,s,ord,true,(prog.1,prog.2.1,prog.2.2.1,prog.2.2.2.1,prog.2.2.2.2.1,prog.2.2.2.2.2+1),f):=λf ag=>
    ⟨af,h.ww,aa,h.oo,λ_=>rfl,ab,λ_=>{ items:=hp.items,codes:=hp.codes,wl:=hp.wl,wr:=hp.wr,nd:=hp.nd,ord:=hp.ord,tr:=hp.tr,ld:=hp.ld,ts:=hp.ts,tl:=hp.tl,st:=hp.st,pu:=by (try simp only);omega,pf:=ag,on:=λ_=>ai }⟩
   refine M4g rfl ?_;have I:∀ y',_→Did c (wag,trk,ord,busy,prog,flt) e y' (0,Dd (Bn prog) (D9 wag ord prog) e.2.2.2.2.2.2.1 row,zP,[],zF,0,0):=λy' hy=>Did.roll row s y' hk hb hf hrow s2.1 H hy
   simp only at I;refine M48 (λJ=>W.ret λ_=>⟨rfl,rfl,I _ ?_,?_⟩) λJ=>M49 (λY=>W.ret λ_=>⟨rfl,rfl,I _ ?_,?_⟩) λY=>W.ret λ_=>⟨rfl,rfl,I _ ?_,?_⟩
   rw [M1d J,hb];simp only;rw [hb];exact ext true λq=>by cases q
   rw [M1e (by rw [J];decide),M1d Y];exact ⟨af,h.ww,aa,h.oo,(λq=>by cases q),PBd.zero,(λq=>by cases q)⟩;rw [M1e (by rw [J];decide),M1e Y,hb,hf];simp only;rw [hb,hf];exact ext false λ_=>by omega
end
section
theorem IX:∀ (s:Bp) (f:Nat→List Int→List Int),(∀ t row,(f t row).Sublist row)→((s.mapIdx f).flatten).Sublist s.flatten
 | [],f,_=>by simp
 | a::s,f,h=>by
  rw [List.mapIdx_cons,M2H,M2H];exact (h 0 a).append (IX s (λt=>f (t+1)) λt row=>h (t+1) row)
structure OW (n:Nat) (wg:List Int):Prop where
 rg:Rg n wg
 nd:wg.Nodup
 len:wg.length≤192
variable {T:G8}{L:List Int}{s:Bp}
theorem ig(h:Dc T L s)(os:List A0)(pl:List Int):∃ wg,std.s1 (C3 os s pl)=some wg∧OW L.length wg:=by
 have hs:(C3 os s pl).Sublist s.flatten:=IX s _ λt row=>M2Y
 have B:=hs.nodup h.2.2.2.2.2.1;have E:Rg L.length (C3 os s pl):=λx A=>h.2.2.2.2.1 x (hs.subset A)
 have hl:=Gw E B;have hp:=EJ (C3 os s pl);refine ⟨G1 (C3 os s pl),?_,λx A=>E x (hp.mem_iff.1 A),hp.nodup_iff.2 B,by rw [hp.length_eq];have:=h.2.2.1;omega⟩;show Zs _=_
 unfold Zs;rw [M1d (by have:=h.2.2.1;omega)]
theorem R4(h:Dc T L s){ws:List A6}{os:List A0}(ho:os.length≤8){wg:List Int}(hw:OW L.length wg):CG (Cj ws os s wg):=by
 refine ⟨by simpa [Cj] using hw.len,by simpa [Cj] using ho,by have:=h.1;have:=h.2.1;simp [Cj];omega,λl hl=>?_⟩;obtain ⟨row,hrow,rfl⟩:=M1L.1 hl;refine M1B (M2y _ _) ?_;rw [M2E];exact (AN h row hrow).2.2
theorem PQ (os:List A0)(s:Bp)(pl:List Int){t:Nat}(h:t<s.length):C3 os (s.take (t+1)) pl=C3 os (s.take t) pl++s[t].filter λw=>decide ((t:Int)∈os.map λo=>o.2.1)||decide (w∈pl):=by
 unfold C3;rw [D0 _ h,M2G];simp
variable {ρ:Type}
theorem ii{f:List Int→Option ρ}{Q:ρ→Prop}(os:List A0)(ho:os.length≤8)(k:W (f (os.map λo=>o.2.1)) Q) :
  W ((std.run (λA:AC=>bif decide (A.1<ln os) then (Go.V.idx os A.1).bind λH=>bif Go.T.room A.2 [H.2.1] then some (.next (A1 (A.1+1),A.2++[H.2.1])) else none else some (.done (.next A.2))) (0,[])).bind (AF f)) Q:=by
 refine W.st (P:=λv=>v=os.map λo=>o.2.1) ?_ λv hv=>by subst hv;exact k
 refine M4e os.length (λs=>s.1) (λt s=>s.2=(os.take t).map λo=>o.2.1) (by omega) rfl rfl λt s ht G E=>?_
 obtain ⟨i,a⟩:=s;simp only at G E ⊢;subst G E;refine M49 (λq=>?_) (λq=>M4a ?_)
 have B:t<os.length:=by unfold ln at q;omega
 exact M4b B (M4d (by simp;omega) (W.nx ⟨B,rfl,by simp only;rw [M08 B,M1A];rfl⟩));have:t=os.length:=by unfold ln at q;omega
 subst this;show _=_
 rw [M1m]
theorem X0{Q:ρ→Prop}(h:Dc T L s)(wg:List Int)(hw:wg.length≤192){g:List (List Int)→ρ}(k:Q (g (s.map λrow=>(row.map (BI wg ·)).filter λx=>decide (0≤x)))) :
  W (std.run (λB:Int×List (List Int)=>bif decide (B.1<ln s) then (Go.V.idx s B.1).bind λO=>(std.run (λA:(List Int)×Int=>bif decide (A.2<ln O) then (Go.V.idx O A.2).bind λY=>(ML (wg,Y)).bind λJ=>bif decide (J≥0) then bif Go.T.room A.1 [J] then some (.next (A.1++[J],A1 (A.2+1))) else none else some (.next (A.1,A1 (A.2+1))) else some (.done (.next A.1))) ([],0)).bind (AF λU:List Int=>bif Go.T.room B.2 [U] then some (.next (A1 (B.1+1),B.2++[U])) else none) else some (.done (g B.2))) (0,[])) Q:=by
 have hl:s.length≤24:=by have:=h.1;have:=h.2.1;omega
 refine M4e s.length (λs=>s.1) (λt a=>a.2=(s.take t).map λrow=>(row.map (BI wg ·)).filter λx=>decide (0≤x)) (by omega) rfl rfl λt a ht G E=>?_
 obtain ⟨i,b⟩:=a;simp only at G E ⊢;subst G E;refine M49 (λq=>?_) (λq=>M4a ?_)
 have I:t<s.length:=by unfold ln at q;omega
 have aa:=(AN h _ (M03 I)).2.2;refine M4b I (W.st (P:=λv=>v=(s[t].map (BI wg ·)).filter λx=>decide (0≤x)) ?_ λv hv=>?_);refine M4e s[t].length (λs=>s.2) (λu a=>a.1=((s[t].take u).map (BI wg ·)).filter λx=>decide (0≤x)) (by omega) rfl rfl λu a hu G E=>?_
 obtain ⟨b,i⟩:=a;simp only at G E ⊢;subst G E;refine M49 (λq=>?_) (λq=>M4a ?_)
 have H:u<s[t].length:=by unfold ln at q;omega
 have Z:(((s[t].take u).map (BI wg ·)).filter λx=>decide (0≤x)).length≤192:=M1B (M2y _ _) (by simp;omega);refine M4b H (W.of (Dl _ _ (by omega)) (M49 (λhp=>M4d (by simp only [M1N,M2g];omega) (W.nx ⟨H,rfl,?_⟩)) λhp=>W.nx ⟨H,rfl,?_⟩));simp only;rw [M08 H,M1A,M2n];congr 1;rw [M1X,M2W (p:=λx=>decide (0≤x)) (by exact M1p hp)];rfl;simp only;rw [M08 H,M1A,M2n,M1X,M2A (p:=λx=>decide (0≤x)) (by rw [M1K hp];decide)];simp;have:u=s[t].length:=by unfold ln at q;omega
 subst this;show _=_
 rw [M1m];subst hv;exact M4d (by simp;omega) (W.nx ⟨I,rfl,by simp only;rw [M08 I,M1A];rfl⟩);have:t=s.length:=by unfold ln at q;omega
 subst this;rw [M1m];exact k
section
variable {c : A2} {wag : List A6} {trk : Bp} {ord : List A0} {busy : Bool} {prog : Ab} {flt : Bool} {e : Ah} (hc : BF c) (h : Inv c (wag, trk, ord, busy, prog, flt)) (he : EvOK e)
include hc h
theorem YP:W (mB (wag,trk,ord,busy,prog,flt)) λr=>r.2.2=0→flt=true∧∃ wg,std.s1 (C3 ord trk prog.1)=some wg∧OW wag.length wg∧r=(Cj wag ord trk wg,wg,0):=by
 have O:=h.ol;have E:=h.tl;have aa:=h.wl;have c1:=hc.l1;have ae:prog.1.length≤1000:=h.pb.1;simp only at O E aa;unfold mB wh;simp only;refine M4q (λ_=>W.ret λq=>by cases q) λhf=>ii ord O ?_
 refine W.st (P:=λv=>v=C3 ord trk prog.1) ?_ λv hv=>?_
 refine M4e trk.length (λs=>s.1) (λt s=>s.2=C3 ord (trk.take t) prog.1) (by omega) rfl rfl λt s ht B A=>?_
 obtain ⟨i,a⟩:=s;simp only at B A ⊢;subst B A;refine M49 (λq=>?_) (λq=>M4a ?_)
 have I:t<trk.length:=by unfold ln at q;omega
 have ag:=(AN h.vd _ (M03 I)).2.2;have af:(C3 ord (trk.take t) prog.1).length≤192:=by
  have hs:(C3 ord (trk.take t) prog.1).Sublist (trk.take t).flatten:=IX _ _ λt row=>M2Y
  have Z:((trk.take t).flatten).Sublist trk.flatten:=by
   conv=>rhs;rw [←M2m t trk,M2G]
   exact M3b _ _
  have:=(hs.trans Z).length_le;have h3:=Gw h.vd.2.2.2.2.1 h.vd.2.2.2.2.2.1;have U:=h.vd.2.2.1;simp only at h3 U;omega
 refine M4b I ?_;refine M4e trk[t].length (λs=>s.1) (λu s=>s.2=C3 ord (trk.take t) prog.1++(trk[t].take u).filter λw=>decide ((t:Int)∈ord.map λo=>o.2.1)||decide (w∈prog.1)) (by omega) rfl (by simp) λu s hu B A=>?_
 obtain ⟨i,a⟩:=s;simp only at B A ⊢;subst B A;refine M49 (λq=>?_) (λq=>M4a ⟨I,rfl,?_⟩)
 have G:u<trk[t].length:=by unfold ln at q;omega
 have ad:((trk[t].take u).filter λw=>decide ((t:Int)∈ord.map λo=>o.2.1)||decide (w∈prog.1)).length≤192:=M1B (M2y _ _) (by simp;omega);have yN:(decide ((t:Int)∈ord.map λo=>o.2.1)||decide (trk[t][u]∈prog.1))=true→W (bif Go.T.room (C3 ord (trk.take t) prog.1++(trk[t].take u).filter λw=>decide ((t:Int)∈ord.map λo=>o.2.1)||decide (w∈prog.1)) [trk[t][u]] then some (.next (A1 ((u:Int)+1),(C3 ord (trk.take t) prog.1++(trk[t].take u).filter λw=>decide ((t:Int)∈ord.map λo=>o.2.1)||decide (w∈prog.1))++[trk[t][u]])) else none) (BX (λ(H:Int×List Int)=>u<trk[t].length∧H.1=A1 ((u:Int)+1)∧H.2=C3 ord (trk.take t) prog.1++(trk[t].take (u+1)).filter λw=>decide ((t:Int)∈ord.map λo=>o.2.1)||decide (w∈prog.1)) (BX (λ(H:Int×List Int)=>t<trk.length∧H.1=A1 ((t:Int)+1)∧H.2=C3 ord (trk.take (t+1)) prog.1) (BX (λv=>v=C3 ord trk prog.1) λr:Ac×(List Int)×Int=>r.2.2=0→flt=true∧∃ wg,std.s1 (C3 ord trk prog.1)=some wg∧OW wag.length wg∧r=(Cj wag ord trk wg,wg,0)))):=λhy=>by
  refine M4d (by simp only [M1l,M1N,M2g];omega) (W.nx ⟨G,rfl,?_⟩);simp only;rw [M08 G,M2n,M2W (p:=λw=>decide ((t:Int)∈ord.map λo=>o.2.1)||decide (w∈prog.1)) hy,M3p,M20]
 refine M4b G (W.of (CD _ _ (by simp;omega)) (M48 (λhy=>yN (by rw [hy];rfl)) λhn=>W.of (CD _ _ (by omega)) (M48 (λhy=>yN (by rw [hy];simp)) λY=>W.nx ⟨G,rfl,?_⟩)));simp only;rw [M08 G,M2n,M2A (p:=λw=>decide ((t:Int)∈ord.map λo=>o.2.1)||decide (w∈prog.1)) (by rw [hn,Y];decide),M3p,M1w];have:u=trk[t].length:=by unfold ln at q;omega
 subst this;rw [M1m,PQ _ _ _ I];have:t=trk.length:=by unfold ln at q;omega
 subst this;show _=_
 rw [M1m];subst hv;obtain ⟨wg,J,hw⟩:=ig h.vd ord prog.1;have hw:OW wag.length wg:=by simpa using hw
 have ab:=hw.len;refine W.of J (M49 (λ_=>W.ret λq=>by cases q) λ_=>?_);refine W.st (P:=λv=>v=wg.map (Dw wag ord)) ?_ λv hv=>?_
 refine M4e wg.length (λs=>s.1) (λt s=>s.2=(wg.take t).map (Dw wag ord)) (by omega) rfl rfl λt s ht B A=>?_
 obtain ⟨i,a⟩:=s;simp only at B A ⊢;subst B A;refine M49 (λq=>?_) (λq=>M4a ?_)
 have E:t<wg.length:=by unfold ln at q;omega
 refine M4b E ?_;rw [Aw E];exact W.of (qJ h (hw.rg _ (M03 E))) (M4d (by simp;omega) (W.nx ⟨E,rfl,by simp only;rw [M08 E,M1A];rfl⟩));have:t=wg.length:=by unfold ln at q;omega
 subst this;show _=_
 rw [M1m];subst hv;exact X0 (Q:=λr:Ac×(List Int)×Int=>r.2.2=0→flt=true∧∃ wg,std.s1 (C3 ord trk prog.1)=some wg∧OW wag.length wg∧r=(Cj wag ord trk wg,wg,0)) h.vd wg ab (g:=λx=>((wg.map (Dw wag ord),ord.map λo=>o.2.1,x),wg,0)) λ_=>⟨hf,wg,J,hw,rfl⟩
include he
theorem y8 (r:Ag)(ah:r.1=0)(l:List Int)(j:Bb)(aq:l.length≤192)(af:Rg wag.length l)(hj:j.1.length≤192)(J:0≤e.2.1∧e.2.1<(c.1.length:Int))(Z:∀ t∈e.2.2.2.2.2.1,0≤t∧t<(c.1.length:Int)) :
  W (mR (l,j,c,(wag,trk,ord,busy,prog,flt),e,r)) λo=>o.1=0→∃ (p:BE) (s:Bp),JZ j=some (p,0)∧p.1.1≤(e.2.2.2.2.2.1.length:Int)∧BJ c.1 (Bf wag) (AY trk e.2.1 l) 0 trk=.inr s∧
   (∀ (t:Nat),((t:Int)=e.2.1∨(t:Int)∈e.2.2.2.2.2.1)→∀ row,trk[t]? = some row→∀ w∈row,w∈l)∧o=(0,c,(wag,s,ord,true,(l,j,p,e.2.1,e.2.2.2.2.2.1.take p.1.1.toNat,0),false),e,0,AY trk e.2.1 l,p,r.2.2.2):=by
 have ag:=h.ol;have A:=h.tl;have am:=h.wl;have al:=he.ts;have c1:=hc.l1;simp only at ag A am;unfold mR wA;simp only;have ae:∀ t∈[e.2.1]++e.2.2.2.2.2.1,0≤t∧t<(c.1.length:Int):=λt ht=>by
  rcases M1b.1 ht with ht|ht;rw [M19] at ht;subst ht;exact J
  exact Z t ht
 refine W.st (P:=λ_=>∀ t∈[e.2.1]++e.2.2.2.2.2.1,∀ row,trk[t.toNat]? = some row→∀ w∈row,w∈l) ?_ λ_ ad=>?_
 refine M4d (by simp;omega) ?_;refine M4h ([e.2.1]++e.2.2.2.2.2.1).length (λt=>∀ i (hi:i<([e.2.1]++e.2.2.2.2.2.1).length),i<t→∀ row,trk[(([e.2.1]++e.2.2.2.2.2.1)[i]).toNat]? = some row→∀ w∈row,w∈l) (by simp;omega) (λi _ h=>by omega) λt ht B=>M49 (λq=>?_) (λq=>M4a λd hd=>?_)
 have A:t<([e.2.1]++e.2.2.2.2.2.1).length:=by unfold ln at q;omega
 have G:=ae _ (M03 A);refine M4b A ?_;rw [Aw A];refine M4f G.1 (by omega) λrow hrow ai=>?_
 have ar:=(AN h.vd row ai).2.2;refine M4h row.length (λu=>∀ i (hi:i<row.length),i<u→row[i]∈l) (by omega) (λi _ h=>by omega) λu hu O=>M49 (λq2=>?_) (λq2=>M4a ⟨A,rfl,λi hi h4 an I w hw=>?_⟩)
 have Y:u<row.length:=by unfold ln at q2;omega
 refine M4b Y (W.of (CD _ _ (by omega)) (M4q (λ_=>M4a λq=>by cases q) λhn=>W.nx ⟨Y,rfl,λi hi h4=>?_⟩));by_cases H:i=u;subst H;exact M1s hn;exact O i hi (by omega);by_cases H:i=t;subst H;rw [hrow] at I;cases I;obtain ⟨k,hk,rfl⟩:=M1o.1 hw;exact O k hk (by unfold ln at q2;omega)
 exact B i hi (by omega) an I w hw;obtain ⟨i,hi,rfl⟩:=M1o.1 hd;exact B i hi (by unfold ln at q;omega);refine M4f J.1 J.2 λv7 _ _=>?_
 refine M4e l.length (λs=>s.2) (λt s=>0≤s.1∧s.1≤400*(t:Int)) (by omega) rfl (by simp) λt s ht E B=>?_
 obtain ⟨a,i⟩:=s;simp only at E B ⊢;subst E;refine M49 (λq=>?_) (λq=>?_)
 have A:t<l.length:=by unfold ln at q;omega
 have G:=af _ (M03 A);refine M4b A (M4f G.1 G.2 λw _ hw=>W.nx ⟨A,rfl,?_⟩);have:=h.ww w hw;unfold FitW at this;simp only;rw [A8 (by omega) (by omega)];omega
 ·refine M4c (P:=λo=>o.1=0→∃ (p:BE) (s:Bp),JZ j=some (p,0)∧p.1.1≤(e.2.2.2.2.2.1.length:Int)∧BJ c.1 (Bf wag) (AY trk e.2.1 l) 0 trk=.inr s∧
   (∀ (t:Nat),((t:Int)=e.2.1∨(t:Int)∈e.2.2.2.2.2.1)→∀ row,trk[t]? = some row→∀ w∈row,w∈l)∧o=(0,c,(wag,s,ord,true,(l,j,p,e.2.1,e.2.2.2.2.2.1.take p.1.1.toNat,0),false),e,0,AY trk e.2.1 l,p,r.2.2.2)) ?_ λv hv=>M4a hv
  refine M48 (λ_=>W.ret λq=>by cases q) λ_=>?_
  refine M4c (y7 h l j e r (by omega) hj Z al) λav ab=>M4i (λhne=>W.ret λq=>absurd q hne) λh0=>?_
  obtain ⟨p,hp,ak,rfl⟩:=ab h0;simp only;refine W.st (P:=λv=>v=AY trk e.2.1 l) ?_ λv hv=>?_
  ·refine M4e l.length (λs=>s.2) (λt s=>s.1=AY trk e.2.1 (l.take t)) (by omega) rfl rfl λt s ht E B=>?_
   obtain ⟨a,i⟩:=s;simp only at E B ⊢;subst E B;have U:=Bw h.vd;refine M49 (λq=>?_) (λq=>M4a ?_)
   ·have A:t<l.length:=by unfold ln at q;omega
    refine M4b A (W.of (Kn trk _ (by have:=U.1;(try simp only at this);omega) λrow hr=>by have:=U.2 row hr;omega) (M4d (by unfold AY;simp;omega) (W.nx ⟨A,rfl,?_⟩)));simp only;unfold AY;rw [M08 A,M1A];rfl
   have:t=l.length:=by unfold ln at q;omega
   subst this;show _=_
   rw [M1m]
  subst hv;refine W.of (OF (y:=(wag,trk,ord,true,(l,j,p,e.2.1,e.2.2.2.2.2.1.take p.1.1.toNat,0),false)) h.vd _ (by unfold AY;simp;omega)) ?_;simp only;cases aj:BJ c.1 (Bf wag) (AY trk e.2.1 l) 0 trk with
  | inl x=>exact W.of rfl (W.ret λq=>absurd q (Eb aj))
  | inr s=>
   refine W.of rfl (W.ret λ_=>⟨p,s,hp,ak,rfl,λt ht row hrow w hw=>?_,by rw [ah]⟩);refine ad (t:Int) ?_ row hrow w hw;rcases ht with ht|ht
   rw [ht];simp;simp [ht]
theorem YQ (hk:e.1=5):W (F98 (c,(wag,trk,ord,busy,prog,flt),e,OH)) (YN c (wag,trk,ord,busy,prog,flt) e):=by
 have Z:=h.ol;have A:=h.tl;have aG:=h.wl;have aq:=he.ts;simp only at Z A aG;unfold F98 B98;simp only;refine M4q (λ_=>W.ret λq=>by cases q) λhf=>?_
 refine M4c (WX _ aq) λv0 U=>?_
 obtain ⟨k0,x0⟩:=v0;obtain ⟨e0,U⟩:=U;simp only at e0 U ⊢;subst e0;refine M4i (λhne=>W.ret λq=>absurd q hne) λaz=>?_
 obtain ⟨n1,n2,n3,n4⟩:=U az;refine M4c (WY _ aq (by (try simp only);omega)) λv1 h1=>?_
 obtain ⟨k1,x1⟩:=v1;simp only at h1 ⊢;subst h1;refine M4i (λhne=>W.ret λq=>absurd q hne) λ_=>?_
 simp only at n1 n2 ⊢;refine M4c (YP hc h) λv2 h2=>M4i (λhne=>W.ret λq=>absurd q hne) λhz=>?_
 obtain ⟨_,wg,e1,hw,rfl⟩:=h2 hz;simp only;have am:CG (Cj wag ord trk wg):=R4 h.vd Z (by simpa using hw);obtain ⟨v3,e3,h3⟩:=WS (Cj wag ord trk wg) am;obtain ⟨ps,k3⟩:=v3;refine W.of e3 (M4i (λhne=>W.ret λq=>absurd q hne) λar=>?_);simp only at ar h3;subst ar;have a2:(Cj wag ord trk wg).1.length=wg.length:=by simp [Cj]
 refine M48 (λaa=>W.ret λ_=>?_) λaa=>?_
 have aE:ps=[]:=by
  have:ln ps=0:=by simpa using aa
  unfold ln at this;exact M1F.1 (by omega)
 subst aE;exact ⟨rfl,rfl,.fin wg hk hf e1 ⟨n3,n4⟩ e3,h.vd,h.ww,Z,h.oo,(λq=>by cases q),PBd.zero,(λq=>by cases q)⟩;have aC:ps≠[]:=λq=>by
  rw [q] at aa;cases aa
 obtain ⟨v4,e4,h4⟩:=WR (Cj wag ord trk wg) am ps h3.1 e.2.2.2.2.1;obtain ⟨j,its,k4⟩:=v4;refine W.of e4 (M4i (λhne=>W.ret λq=>absurd q hne) λau=>?_);simp only at au h4;subst au;obtain ⟨j1,j2,j3,E,j5,j6,j7⟩:=h4 rfl;refine W.st (P:=λv=>v=D1 wg ps) ?_ λv hv=>?_
 refine M4e ps.length (λs=>s.1) (λt s=>s.2=D1 wg (ps.take t)) (by omega) rfl rfl λt s ht I G=>?_
 obtain ⟨i,a⟩:=s;simp only at I G ⊢;subst I G;refine M49 (λq=>?_) (λq=>M4a ?_)
 have A:t<ps.length:=by unfold ln at q;omega
 have O:=h3.2 _ (M03 A);have a3:(D1 wg (ps.take t)).length≤192:=by unfold D1;simp;omega
 have ex:D1 wg (ps.take (t+1))=D1 wg (ps.take t)++[(vw wg (ps[t]).1.toNat,(ps[t]).2.1,if 0≤(ps[t]).2.2.1 then vw wg (ps[t]).2.2.1.toNat else (ps[t]).2.2.1,(ps[t]).2.2.2)]:=by
  unfold D1;rw [M08 A,M1A];rfl
 refine M4b A (W.of (JN O.1.1 (by omega)) (M49 (λhb=>W.of (JN hb (by omega)) (M4d (by simp only [M1N,M2g];omega) (W.nx ⟨A,rfl,?_⟩))) λhb=>M4d (by simp only [M1N,M2g];omega) (W.nx ⟨A,rfl,?_⟩)));simp only;rw [ex,M1d hb];simp only;rw [ex,M1e hb];have:t=ps.length:=by unfold ln at q;omega
 subst this;show _=_
 rw [M1m];subst hv;refine W.st (P:=λv=>v=its.map λi=>vw wg i.toNat) ?_ λv hv=>?_
 refine M4e its.length (λs=>s.2) (λt s=>s.1=(its.take t).map λi=>vw wg i.toNat) (by omega) rfl rfl λt s ht I G=>?_
 obtain ⟨a,i⟩:=s;simp only at I G ⊢;subst I G;refine M49 (λq=>?_) (λq=>M4a ?_)
 have A:t<its.length:=by unfold ln at q;omega
 have O:=E _ (M03 A);exact M4b A (W.of (JN O.1 (by omega)) (M4d (by simp;omega) (W.nx ⟨A,rfl,by simp only;rw [M08 A,M1A];rfl⟩)));have:t=its.length:=by unfold ln at q;omega
 subst this;show _=_
 rw [M1m];subst hv;have ax:∀ i∈its,vw wg i.toNat∈wg:=λi hi=>Jx (by have:=E i hi;omega)
 have ao:Rg wag.length (its.map λi=>vw wg i.toNat):=λx O=>by
  obtain ⟨i,hi,rfl⟩:=M1L.1 O;exact hw.rg _ (ax i hi)
 have aB:(its.map λi=>vw wg i.toNat).Nodup:=by
  refine M2d.2 λa b H hb a1 B=>?_
  rw [M2E] at H hb;rw [M3k,M3k] at B;have x1:=E _ (M03 H);have x2:=E _ (M03 hb);rw [BB (by omega),BB (by omega)] at B;have e5:=Ct hw.nd _ _ B;have:=Ct j5 H hb (by omega);omega
 have key:=y8 hc h he (0,[],((0,[]),[]),D1 wg ps,([],[],(0,0,0,0,0,0,0),[]),0,0) rfl (its.map λi=>vw wg i.toNat) j (by simpa using j1) ao (by omega) n1 n2;refine M4c key λbc ac=>W.ret λq=>?_
 obtain ⟨p,s,hp,aF,ad,aw,ac⟩:=ac q;have aD:=H8 j (by unfold Hq;omega);obtain ⟨a,ea,H⟩:=aD;rw [hp] at ea;cases ea;obtain ⟨p1,p2,p3,p4,p5⟩:=H rfl;subst ac;simp only at p1 p2 p3;refine ⟨rfl,rfl,.bring wg ps j its p s hk hf e1 e3 aC e4 hp aF ad,EB h.vd ad,h.ww,Z,h.oo,(λq=>by cases q),⟨by simp;omega,by (try simp only);omega,by (try simp only);omega,by (try simp only);omega,by simp;omega⟩,λ_=>?_⟩;have ay:∀ it∈j.1,0≤it.1∧it.1<(ord.length:Int):=λit hm=>by
  obtain ⟨k,aA,rfl⟩:=M1o.1 hm;have an:k<its.length:=by omega
  have B:=j7 k an;have x1:=E _ (M03 an);have Y:(its[k]).toNat<(Cj wag ord trk wg).1.length:=by omega
  rw [M00 aA,M00 Y] at B;have:=j6 _ (M03 Y);rw [←M1x B] at this
  simpa [Cj] using this
 refine { items:=by simp;omega,codes:=by simp;omega,wl:=by simp;omega,wr:=λw hw=>ao w hw,nd:=aB,ord:=λw J hm=>?_,tr:=ay,ld:=n1,ts:=λt ht=>n2 t (M24 ht),tl:=by simp;omega,st:=by simp;omega,pu:=by simp;omega,pf:=λ_=>by simp,on:=λ_=>?_ };simp only at J hm;obtain ⟨i,hi,B⟩:=M1L.1 hm;have x1:=E i hi;have Y:i.toNat<(Cj wag ord trk wg).1.length:=by omega
 have:=(j6 _ (M03 Y)).1;simp only [Cj,M3k] at this;rw [←BB (by omega),B] at this;rw [GD (by omega)] at this;exact this
 refine IW (s:=trk) (λt ht row hrow w J=>?_) (λm hm=>?_) ad;refine aw t ?_ row hrow w J;rcases ht with ht|ht
 exact .inl ht;exact .inr (M24 ht);unfold AY at hm;obtain ⟨w,J,rfl⟩:=M1L.1 hm;exact .inl J
end
end
section
variable {c : A2} {wag : List A6} {trk : Bp} {ord : List A0} {busy : Bool} {prog : Ab} {flt : Bool} {e : Ah} (hc : BF c) (h : Inv c (wag, trk, ord, busy, prog, flt)) (he : EvOK e)
include hc h he
theorem doY:W (F49 (c,wag,trk,ord,busy,prog,flt,e,OH)) (Vr c (wag,trk,ord,busy,prog,flt) e):=by
 unfold F49 B49;simp only;refine W.beq (λhk=>M4c (YO hc h he hk) λv hv=>W.ret hv) λ_=>?_
 refine W.beq (λhk=>M4c (ie hc h he hk) λv hv=>W.ret hv) λ_=>?_
 refine W.beq (λhk=>M4c (pJ hc h he hk) λv hv=>W.ret λq=>⟨(hv q).2.2.1,(hv q).2.2.2⟩) λ_=>?_
 refine W.beq (λhk=>M4c (pM hc h he hk) λv hv=>W.ret λq=>⟨(hv q).2.2.1,(hv q).2.2.2⟩) λ_=>?_
 refine W.beq (λhk=>M4c (YQ hc h he hk) λv hv=>W.ret λq=>⟨(hv q).2.2.1,(hv q).2.2.2⟩) λ_=>?_
 refine W.beq (λhk=>M4c (pI hc h he hk) λv hv=>W.ret λq=>⟨(hv q).2.2.1,(hv q).2.2.2⟩) λ_=>?_
 refine W.beq (λhk=>M4c (Vt hc h he hk) λv hv=>W.ret hv) λ_=>W.ret λq=>by cases q
theorem M4O {ρ:Type}{Q:ρ→Prop}{K:List A6→(Int×List (List Int))→(Int×List A0)→List Int→List Int→List Aa→BE→Option (Al (Int×List A0) (Al (Int×List (List Int)) ρ))}
  (k:W (K wag ((trk.length:Int),trk) ((ord.length:Int),ord) prog.1 prog.2.2.2.2.1 prog.2.1.1 prog.2.2.1) (BX (λ_=>False) (BX (λ_=>False) Q))) :
  W ((qx wag).bind λv0=>std.run (λB:Int×List (List Int)=>bif decide (B.1<ln trk) then (Go.V.idx trk B.1).bind λv2=>(W5 v2).bind λJ=>bif Go.T.room B.2 [J] then some (.next (A1 (B.1+1),B.2++[J])) else none else std.run (λE:Int×List A0=>bif decide (E.1<ln ord) then (Go.V.idx ord E.1).bind λv5=>(yy v5).bind λO=>bif Go.T.room E.2 ([O]) then some (.next (A1 (E.1+1),E.2++([O]))) else none else (W5 prog.1).bind λv7=>(W5 prog.2.2.2.2.1).bind λv8=>(yA prog.2.1.1).bind λv9=>(wa prog.2.2.1).bind λah=>K v0 B E v7 v8 v9 ah) (0,[])) (0,[])) Q:=by
 have ac:=h.ol;have ae:=h.tl;have af:=h.wl;have c1:=hc.l1;obtain ⟨U,Y,Z,b4,b5⟩:=h.pb;simp only at ac ae af U Y Z b4 b5;refine W.of (Vo (by omega)) ?_;refine M4e trk.length (λs=>s.1) (λt s=>s.2=trk.take t) (by omega) rfl rfl λt s ht H G=>?_
 obtain ⟨i,a⟩:=s;simp only at H G ⊢;subst H G;refine M49 (λq=>?_) (λq=>?_)
 ·have A:t<trk.length:=by unfold ln at q;omega
  have ad:=h.len _ (M03 A)
  (try simp only at ad)
  exact M4b A (W.of (Ei (by omega)) (M4d (by simp;omega) (W.nx ⟨A,rfl,by simp only;rw [M08 A]⟩)))
 ·have I:t=trk.length:=by unfold ln at q;omega
  subst I;rw [M1m];refine M4e ord.length (λs=>s.1) (λt s=>s.2=ord.take t) (by omega) rfl rfl λt s ht H G=>?_
  obtain ⟨i,a⟩:=s;simp only at H G ⊢;subst H G;refine M49 (λq=>?_) (λq=>?_)
  have A:t<ord.length:=by unfold ln at q;omega
  have ho:=(h.oo _ (M03 A)).2.1;exact M4b A (W.of (i8 (by omega)) (M4d (by simp;omega) (W.nx ⟨A,rfl,by simp only;rw [M08 A]⟩)))
  ·have I:t=ord.length:=by unfold ln at q;omega
   subst I;rw [M1m];refine W.of (Ei (by omega)) (W.of (Ei (by omega)) (W.of (y5 (by omega)) (W.of (Vq (by omega) (by omega)) (W.mono k λr hr=>?_))));cases r with
   | next s=>exact hr.elim
   | done d=>
    cases d with
    | next s=>exact hr.elim
    | done d=>exact hr
theorem DE:W (F23 (c,(wag,trk,ord,busy,prog,flt),e)) λo=>Did c (wag,trk,ord,busy,prog,flt) e o.1 o.2∧Inv c o.1:=by
 unfold F23 B23;simp only;refine M4O hc h he ?_;refine M4c (P:=λo=>Did c (wag,trk,ord,busy,prog,flt) e o.1 o.2∧Inv c o.1) ?_ λv hv=>M4a (by exact hv)
 refine M4c (doY hc h he) λv hv=>M4i (λhne=>?_) λA=>W.ret (hv A)
 refine M4O hc h he (M4a ?_);exact ⟨Did.err v.1 _ _ hne,h⟩
end
structure OX (p q:Ab):Prop where
 w:q.1=p.1
 pr:q.2.2.1=p.2.2.1
 ld:q.2.2.2.1=p.2.2.2.1
 pu:q.2.2.2.2.2=p.2.2.2.2.2
 ts:p.2.2.2.2.1=q.2.2.2.2.1.take p.2.2.1.1.1.toNat
 tl:q.2.2.2.2.1.length≤10
theorem IY (l:List Ap)(h:l.length≤100000):SE (l,l)=some true:=by
 unfold SE wK;simp only;refine M4o (M4g (by simp) ?_);refine M4h l.length (λ_=>True) (by omega) trivial λt ht _=>M49 (λq=>?_) (λq=>M4a rfl)
 have A:t<l.length:=by unfold ln at q;omega
 exact M4b A (M4b A (M4g (by simp) (W.nx ⟨A,rfl,trivial⟩)))
theorem pN (l:List A6)(h:l.length≤100000):n9 (l,l)=some true:=by
 unfold n9 wN;simp only;refine M4o (M4g (by simp) ?_);refine M4h l.length (λ_=>True) (by omega) trivial λt ht _=>M49 (λq=>?_) (λq=>M4a rfl)
 have A:t<l.length:=by unfold ln at q;omega
 exact M4b A (M4b A (M4g (by simp) (W.nx ⟨A,rfl,trivial⟩)))
theorem pO (l:List (Int×Int×Int))(h:l.length≤100000):nf (l,l)=some true:=by
 unfold nf wP;simp only;refine M4o (M4g (by simp) ?_);refine M4h l.length (λ_=>True) (by omega) trivial λt ht _=>M49 (λq=>?_) (λq=>M4a rfl)
 have A:t<l.length:=by unfold ln at q;omega
 exact M4b A (M4b A (M4g (by simp) (W.nx ⟨A,rfl,trivial⟩)))
theorem pP (ss:List (Int×Int))(i:Int)(h:ss.length≤1000):∃ k,II (ss,i)=some (k,i)∧((k<0∧G5 ss i=none)∨∃ n:Nat,∃ hn:n<ss.length,k=(n:Int)∧G5 ss i=some (ss[n]).2):=by
 have e:II (ss,i)=some (C5 (λs:Int×Int=>s.1==i) (λn _=>((n:Int),i)) (-1,i) ss 0):=by
  refine W.fst (xs:=ss) _ _ _ (by omega) (λt ht=>?_) ?_;simp only [q,nx,dn,ib,HL ht,M2B,CC ht,BR];simp only [q,nx,dn,ib,HN,M2D]
 rcases Bm (λs:Int×Int=>s.1==i) (λn _=>((n:Int),i)) (-1,i) ss 0 with ⟨n,hn,h1,h2,h3⟩|⟨h1,h2⟩;refine ⟨n,by rw [e,h3];simp,.inr ⟨n,hn,rfl,?_⟩⟩;rcases Bm (λs:Int×Int=>s.1==i) (λ_ s=>some s.2) (none:Option Int) ss 0 with ⟨m,hm,A,B,E⟩|⟨A,B⟩
 have:m=n:=by
  rcases M3a m n with q|q|q;have:=h2 m hm q;rw [this] at A;cases A
  exact q;have:=B n hn q;rw [this] at h1;cases h1
 subst this;exact E;have:=A _ (M03 hn);rw [this] at h1;cases h1
 refine ⟨-1,by rw [e,h2],.inl ⟨by decide,?_⟩⟩;rcases Bm (λs:Int×Int=>s.1==i) (λ_ s=>some s.2) (none:Option Int) ss 0 with ⟨m,hm,A,B,E⟩|⟨A,B⟩
 have:=h1 _ (M03 hm);rw [this] at A;cases A
 exact B
theorem PR (En d:Int)(ts:List Int)(m:Nat):∀ (n b:Nat),b+n≤m→OV En (ts.take m) d n b=OV En ts d n b
 | 0,b,h=>rfl
 | n+1,b,h=>by
  unfold OV;rw [PR En d ts m n (b+1) (by omega),M1r,M1d (by omega)]
section
variable {c : A2} {wag : List A6} {trk : Bp} {ord : List A0} {busy : Bool} {prog q : Ab} {flt : Bool} {e : Ah} (hc : BF c) (h : Inv c (wag, trk, ord, busy, prog, flt)) (hq : busy = true → OX prog q)
include hc h
theorem ij {q:Ab}{w:Int}(hw:0≤w∧w<(wag.length:Int)):Yn (w,(c,wag,trk,ord,busy,q))=some ((Dw wag ord w).1,(Dw wag ord w).2.1,(c,wag,trk,ord,busy,q)):=by
 have A:=h.ol;have hn:w.toNat<wag.length:=by omega
 have:=nU (c,wag,trk,ord,busy,q) w.toNat hn (by (try simp only at A);(try simp only);omega) (OG h);rw [M1v hw.1] at this;rw [this,GD hn];rfl
theorem ik (q:Ab)(l:List Int)(hl:l.length≤192)(hr:Rg wag.length l)(hp:∀ w∈l,0≤(Dw wag ord w).1):eQ (l,(c,wag,trk,ord,busy,q))=some (l.map (Dw wag ord),true,(c,wag,trk,ord,busy,q)):=by
 unfold eQ wS;refine M4o (M4e l.length (λs=>s.2.1) (λt s=>s.1=(l.take t).map (Dw wag ord)∧s.2.2=(q.1,q.2.1.1,q.2.1.2,q.2.2.1.1.1,q.2.2.1.1.2,q.2.2.1.2,q.2.2.2.1,q.2.2.2.2.1,q.2.2.2.2.2,busy,ord,trk,wag,c)) (by omega) rfl (by exact ⟨rfl,rfl⟩) λt s ht G E=>?_);obtain ⟨a,i,s⟩:=s;simp only at G E ⊢;obtain ⟨rfl,rfl⟩:=E;subst G;refine M49 (λq2=>?_) (λq2=>M4a ?_)
 have A:t<l.length:=by unfold ln at q2;omega
 have B:=hr _ (M03 A);have hn:(l[t]).toNat<wag.length:=by omega
 refine M4b A (W.of (ij hc h B) (W.df (by have:=hp _ (M03 A);omega) ?_));refine M4f B.1 B.2 λw hw _=>?_
 rw [AX hw];refine M4d (by simp;omega) (W.nx ⟨A,rfl,?_,rfl⟩);simp only;rw [M08 A,M1A,M1X,M3H];congr 2;rw [GD hn];unfold Bq;rw [M00 hn] at hw;rw [M1x hw]
 have:t=l.length:=by unfold ln at q2;omega
 subst this;rw [M1m]
theorem onB (q:Ab)(t:Int):∃ r,V7 (t,(c,wag,trk,ord,busy,q))=some (r,(c,wag,trk,ord,busy,q))∧(∀ row,0≤t→trk[t.toNat]? = some row→r=row)∧r.length≤192∧Rg wag.length r:=by
 have key:W (V7 (t,(c,wag,trk,ord,busy,q))) λo=>∃ r,o=(r,(c,wag,trk,ord,busy,q))∧(∀ row,0≤t→trk[t.toNat]? = some row→r=row)∧r.length≤192∧Rg wag.length r:=by
  unfold V7 wF;simp only;refine M49 (λa=>W.ret ⟨[],rfl,λrow E _=>by omega,by simp,λx A=>by cases A⟩) λa=>M49 (λb=>W.ret ⟨[],rfl,λrow E hrow=>?_,by simp,λx A=>by cases A⟩) λb=>?_
  unfold ln at b;rw [M1h (by omega)] at hrow;cases hrow
  unfold ln at b;refine M4f (by omega) (by omega) λrow hrow _=>W.ret ⟨row,rfl,λG _ h2=>?_,?_⟩
  rw [hrow] at h2;exact M1x h2
  obtain ⟨r1,r2,r3⟩:=C6 h hrow;exact ⟨r1,r2⟩
 obtain ⟨a,B,r,rfl,h2⟩:=key;exact ⟨r,B,h2⟩
include hq
theorem im (hb:busy=true):q.2.2.1.1.2.length=q.1.length∧q.1.length≤192∧q.2.2.1.1.1=(prog.2.2.2.2.1.length:Int)∧q.2.2.1.1.1≤(q.2.2.2.2.1.length:Int)∧0≤q.2.2.2.2.2∧q.2.2.2.2.1.length≤10:=by
 have hp:=h.pl hb;have r:=hq hb;have B:=hp.codes;have E:=hp.wl;have G:=hp.pu;have A:=hp.st;simp only at B E G A;refine ⟨by rw [r.pr,r.w];exact B,by rw [r.w];exact E,by rw [r.pr];exact A,?_,by rw [r.pu];exact G.1,r.tl⟩;rw [r.pr,A];have:=r.ts;have h3:=M1t List.length this;rw [M1q] at h3;omega
theorem pQ (hb:busy=true)(hs:¬ q.2.2.2.2.2>q.2.2.1.1.1):mU (c,wag,trk,ord,busy,q)=some (Bn prog,(c,wag,trk,ord,busy,q)):=by
 obtain ⟨f1,G,H,I,J,O⟩:=im hc h hq hb;have r:=hq hb;unfold mU wD;simp only;refine M4o (W.beq (λA=>W.ret ?_) λA=>?_);unfold Bn;rw [M1d (by rw [←r.pu];exact A),r.ld];rw [A8 (by omega) (by omega)];refine M4f (by omega) (by omega) λx E _=>W.ret ?_
 unfold Bn;rw [M1e (by rw [←r.pu];exact A)];have B:=(h.pl hb).st;simp only at B;rw [r.ts];unfold vw;rw [M1Q,M1r,M1d (by rw [←r.pu];rw [r.pr] at hs;omega),←r.pu,E];rfl
theorem pR (hb:busy=true){w:Int}(hw:0≤w∧w<(wag.length:Int)):∃ t ok,eK (w,(c,wag,trk,ord,busy,q))=some (t,ok,(c,wag,trk,ord,busy,q))∧(w∈prog.1→ok=true∧t=D9 wag ord prog w):=by
 obtain ⟨f1,f2,Z,f4,f5,f6⟩:=im hc h hq hb;have r:=hq hb;have hp:=h.pl hb;have U:w.toNat<wag.length:=by omega
 have key:W (eK (w,(c,wag,trk,ord,busy,q))) λo=>∃ t ok,o=(t,ok,(c,wag,trk,ord,busy,q))∧(w∈prog.1→ok=true∧t=D9 wag ord prog w):=by
  have ad:w∈prog.1→0≤(Dw wag ord w).1:=λhm=>by
   have:=hp.ord w.toNat U (by rw [M1v hw.1];exact hm);rw [GD U];exact this
  unfold eK wG;simp only;refine W.of (Dl _ _ (by omega)) (W.of (ij hc h hw) (M49 (λhn=>W.ret ⟨_,_,rfl,λhm=>?_⟩) λhn=>M49 (λho=>W.ret ⟨_,_,rfl,λhm=>?_⟩) λho=>?_));rw [←r.w] at hm;have:=Ea.2 hm;omega
  have:=ad hm;omega;have hm:w∈q.1:=Ea.1 (by omega);obtain ⟨m,ak,al,I⟩:=IK hm;have hit:(Dw wag ord w).1<(ord.length:Int):=(H7 (os:=ord) (w:=(wag[w.toNat]?).getD Hr) (by unfold Dw at ho;omega)).2;obtain ⟨pu,G⟩:=M1j f5;obtain ⟨A,H⟩:∃ n:Nat,q.2.2.1.1.1=(n:Int):=⟨_,Z⟩
  rw [I,G,H];have ab:vw prog.2.2.1.1.2 (BI prog.1 w).toNat=q.2.2.1.1.2[m]'(by omega):=by
   rw [←r.w,←r.pr,I,show ((m:Int)).toNat=m from rfl,BB (by omega)]
  have af:D9 wag ord prog w=OV (q.2.2.1.1.2[m]'(by omega)) q.2.2.2.2.1 (((ord[(Dw wag ord w).1.toNat]?).map λo=>o.2.1).getD 0) (A-pu) pu:=by
   unfold D9;rw [ab,←r.pu,←r.pr,G,H,r.ts,←r.pr,H];simp only [M1i];by_cases aj:pu≤A;exact PR _ _ _ _ _ _ (by omega);rw [show A-pu=0 by omega];rfl
  refine W.st (P:=λ_=>D9 wag ord prog w=((ord[(Dw wag ord w).1.toNat]?).map λo=>o.2.1).getD 0) ?_ λ_ hd=>?_
  refine W.run (λs=>∃ t:Nat,s=(t:Int)∧pu≤t∧t≤pu+A+1∧D9 wag ord prog w=OV (q.2.2.1.1.2[m]'(by omega)) q.2.2.2.2.1 (((ord[(Dw wag ord w).1.toNat]?).map λo=>o.2.1).getD 0) (A-t) t) (λs=>1000000-s.toNat) ⟨pu,rfl,by omega,by omega,af⟩ (by omega) λs hs=>?_
  obtain ⟨t,rfl,t1,t2,B⟩:=hs;have O:=hp.pu;have ae:=hp.tl;simp only at O ae;rw [←r.pu,G] at O;refine M49 (λq2=>?_) (λq2=>M4a ?_)
  have am:t<A:=by omega
  have ac:A-t=(A-(t+1))+1:=by omega
  rw [ac] at B;unfold OV at B;refine M4b (by omega) (M4k (by simp) (M48 (λE=>M4b (by omega) (M4a ⟨_,_,rfl,λ_=>⟨rfl,?_⟩⟩)) λE=>W.nx ⟨⟨t+1,?_,by omega,by omega,?_⟩,?_⟩))
  rw [B,E,M2B,M00 (by omega)];rfl;rw [A8 (by omega) (by omega)];rfl;rw [B,E,M2D];rw [A8 (by omega) (by omega)];omega;show _=_
  rw [B,show A-t=0 by omega];rfl;refine M4f (by omega) hit λo J _=>W.ret ⟨_,_,rfl,λ_=>⟨rfl,?_⟩⟩
  rw [AX J,hd,J];rfl
 obtain ⟨a,Y,t,ok,rfl,h2⟩:=key;exact ⟨t,ok,Y,h2⟩
theorem qK (ss:List (Int×Int))(an:ss.length≤1000):∃ l f ok,V8 (ss,(c,wag,trk,ord,busy,q))=some (l,f,ok,(c,wag,trk,ord,busy,q))∧
  (busy=true→flt=false→∀ row,trk[(Bn prog).toNat]? = some row→0≤Bn prog→l=Dd (Bn prog) (D9 wag ord prog) ss row∧f=EY (D9 wag ord prog) ss row∧ok=true):=by
 have key:W (V8 (ss,(c,wag,trk,ord,busy,q))) λo=>∃ l f ok,o=(l,f,ok,(c,wag,trk,ord,busy,q))∧
  (busy=true→flt=false→∀ row,trk[(Bn prog).toNat]? = some row→0≤Bn prog→l=Dd (Bn prog) (D9 wag ord prog) ss row∧f=EY (D9 wag ord prog) ss row∧ok=true):=by
  unfold V8 wI;simp only;refine M4q (λhb=>W.ret ⟨_,_,_,rfl,λG=>by rw [hb] at G;cases G⟩) λhb=>M49 (λal=>W.ret ⟨_,_,_,rfl,λ_ hf=>?_⟩) λhs=>?_
  have r:=hq hb;have:=(h.pl hb).pf hf;have h2:=(h.pl hb).st;simp only at this h2;rw [r.pu,r.pr] at al;omega
  refine W.of (pQ hc h hq hb hs) ?_;obtain ⟨row,e1,h1,h2,h3⟩:=onB hc h q (Bn prog);refine W.of e1 ?_;simp only;have ag:(busy=true→flt=false→∀ E,trk[(Bn prog).toNat]? = some E→0≤Bn prog→row=E∧∀ w∈row,w∈prog.1):=λ_ hf E H I=>by
   have e2:=h1 E I H;subst e2;refine ⟨rfl,λw hw=>?_⟩;obtain ⟨s1,s2,s3⟩:=WZ hc h (e:=(0,0,0,0,0,[],[],([],0,[]),[],[])) ⟨by simp,by simp,OrdE.nil,Bys.nil,by simp⟩ hb hf;exact (h.pl hb).on hf (Bn prog).toNat (by rw [M1v s2.1];exact s3) row H w hw
  refine M4e row.length (λs=>s.2.2.1) (λt (s:(List Ap)×Bool×Int×(List Int)×(List Aa)×Int×Int×(List Int)×(List Int)×Int×(List Int)×Int×Bool×(List A0)×(List (List Int))×(List A6)×A2)=>s.2.2.2=(q.1,q.2.1.1,q.2.1.2,q.2.2.1.1.1,q.2.2.1.1.2,q.2.2.1.2,q.2.2.2.1,q.2.2.2.2.1,q.2.2.2.2.2,busy,ord,trk,wag,c)∧s.1.length=t∧((∀ w∈row,w∈prog.1)→s.1=(row.take t).mapIdx (JQ (Bn prog) (D9 wag ord prog) ss)∧s.2.1=((row.take t).mapIdx (Ec (D9 wag ord prog) ss)).any id)) (by omega) rfl (by exact ⟨rfl,rfl,λ_=>⟨rfl,rfl⟩⟩) λt s ht af hI=>?_
  obtain ⟨sh,f,i,s⟩:=s;simp only at af hI ⊢;obtain ⟨rfl,i2,i3⟩:=hI;subst af;refine M49 (λq2=>?_) (λq2=>M4a ⟨_,_,_,rfl,λG hf E H I=>?_⟩)
  have B:t<row.length:=by unfold ln at q2;omega
  obtain ⟨tt,ok,e2,Y⟩:=pR hc h hq hb (h3 _ (M03 B));refine M4b B (W.of e2 ?_);simp only;refine M4q (λah=>M4a ⟨_,_,_,rfl,λG hf E H I=>?_⟩) λaq=>?_
  obtain ⟨_,A⟩:=ag G hf E H I;rw [(Y (A _ (M03 B))).1] at ah;cases ah
  obtain ⟨k,e3,h5⟩:=pP ss (t:Int) an;refine W.of e3 ?_;simp only;have fin:∀ (to:Int) (f2:Bool),((∀ w∈row,w∈prog.1)→to=(G5 ss (t:Int)).getD (D9 wag ord prog row[t])∧f2=(f||Ec (D9 wag ord prog) ss t row[t]))→
    W (bif Go.T.room sh ([(row[t],Bn prog,to,false)]) then some (.next (sh++([(row[t],Bn prog,to,false)]),f2,A1 ((t:Int)+1),q.1,q.2.1.1,q.2.1.2,q.2.2.1.1.1,q.2.2.1.1.2,q.2.2.1.2,q.2.2.2.1,q.2.2.2.2.1,q.2.2.2.2.2,busy,ord,trk,wag,c)) else none)
     (BX (λ(J:(List Ap)×Bool×Int×(List Int)×(List Aa)×Int×Int×(List Int)×(List Int)×Int×(List Int)×Int×Bool×(List A0)×(List (List Int))×(List A6)×A2)=>t<row.length∧J.2.2.1=A1 ((t:Int)+1)∧J.2.2.2=(q.1,q.2.1.1,q.2.1.2,q.2.2.1.1.1,q.2.2.1.1.2,q.2.2.1.2,q.2.2.2.1,q.2.2.2.2.1,q.2.2.2.2.2,busy,ord,trk,wag,c)∧J.1.length=t+1∧((∀ w∈row,w∈prog.1)→J.1=(row.take (t+1)).mapIdx (JQ (Bn prog) (D9 wag ord prog) ss)∧J.2.1=((row.take (t+1)).mapIdx (Ec (D9 wag ord prog) ss)).any id))
      λo=>∃ l f ok,o=(l,f,ok,(c,wag,trk,ord,busy,q))∧(busy=true→flt=false→∀ row,trk[(Bn prog).toNat]? = some row→0≤Bn prog→l=Dd (Bn prog) (D9 wag ord prog) ss row∧f=EY (D9 wag ord prog) ss row∧ok=true)):=λto f2 hh=>by
   refine M4d (by simp only [M1N,M2g];omega) (W.nx ⟨B,rfl,rfl,by simp [i2],λA=>?_⟩);obtain ⟨a1,a2⟩:=hh A;obtain ⟨O,U⟩:=i3 A;refine ⟨?_,?_⟩;simp only;rw [D0 _ B,a1,O];rfl;simp only;rw [D0 _ B,List.any_append,a2,U];simp
  rcases h5 with ⟨ap,hn⟩|⟨n,hn,rfl,Z⟩;refine W.df (by omega) (fin _ _ λA=>⟨?_,?_⟩);rw [hn,(Y (A _ (M03 B))).2];rfl;unfold Ec;rw [hn];simp;refine M4w (by omega) (M4b hn (M4i (λhne=>M4b hn (fin _ _ λA=>⟨?_,?_⟩)) λad=>fin _ _ λA=>⟨?_,?_⟩));rw [Z];rfl;unfold Ec;rw [Z];simp only [M1G];rw [(Y (A _ (M03 B))).2] at hne;rw [M2I.2 hne];simp
  rw [Z,ad];rfl;unfold Ec;rw [Z];simp only [M1G];rw [(Y (A _ (M03 B))).2] at ad;rw [show ((ss[n]).2 != D9 wag ord prog row[t])=false by simpa using ad];simp
  obtain ⟨rfl,A⟩:=ag G hf E H I;obtain ⟨O,U⟩:=i3 A;have:t=row.length:=by unfold ln at q2;omega
  subst this;rw [M1m] at O U;exact ⟨O,U,rfl⟩
 obtain ⟨a,e1,l,f,ok,rfl,h2⟩:=key;exact ⟨l,f,ok,e1,h2⟩
end
theorem BT {e:Ah}(h:e.1≠1):Oy e=some ([],true):=by
 unfold Oy mY;exact M4o (M4k (M2I.2 h) (W.ret rfl))
theorem io {e:Ah}(h:e.1=1){l:List A6}(hd:Sz e.2.2.2.2.2.2.2.2.2=some (l,0)):Oy e=some (l,true):=by
 unfold Oy mY;exact M4o (M4g (by rw [h];rfl) (W.of hd (W.ret rfl)))
section
variable {c : A2} {wag : List A6} {trk : Bp} {ord : List A0} {busy : Bool} {prog q : Ab} {flt : Bool} {e : Ah} {r : Ag} (hc : BF c) (h : Inv c (wag, trk, ord, busy, prog, flt)) (hq : busy = true → OX prog q)
include hc h
theorem D2 (q:Ab){more:List A6}(hm:Oy e=some (more,true))(hl:wag.length+more.length≤192)(hv:Dc c.1 (Bf (wag++more)) trk){l:List Ap}(af:l.length≤1000){s:Bp}(hr:BJ c.1 (Bf (wag++more)) l 0 trk=.inr s) :
  SD (e,l,(c,wag,trk,ord,busy,q))=some (s,true,(c,wag,trk,ord,busy,q)):=by
 unfold SD wJ;simp only;refine M4o (W.of hm (M4g rfl ?_));simp only;refine M48 (λE=>W.ret ?_) λE=>?_
 have U:l=[]:=by
  have:ln l=0:=by simpa using E
  unfold ln at this;exact M1F.1 (by omega)
 subst U;cases hr;rfl;have w0:A1 (0+ln wag)=(wag.length:Int):=by unfold ln;rw [A8 (by omega) (by omega)];omega
 have w1:A1 ((wag.length:Int)+ln more)=((wag.length+more.length:Nat):Int):=by unfold ln;rw [A8 (by omega) (by omega)];omega
 have w2:A1 (((wag.length+more.length:Nat):Int)-A1 (0-0))=((wag.length+more.length:Nat):Int):=by
  rw [show A1 (0-0)=0 from by decide,A8 (by omega) (by omega)];omega
 simp only [w0,w1,w2];have ac:W ((Y6 (c.1,Bf (wag++more),trk,l)).bind λO=>some (O.1,O.2.2==0,(c,wag,trk,ord,busy,q))) λa=>a=(s,true,(c,wag,trk,ord,busy,q)):=by
  refine W.of (WI hv l (by omega)) (W.ret ?_);rw [hr];rfl
 have I:∀ (ws:List A6) (hw:ws=wag++more),W ((std.run (λA:(List Int)×Int=>bif decide (A.2<ln ws) then (Go.V.idx ws A.2).bind λJ=>bif Go.T.room A.1 ([((A7 ws A.2 J).2).1]) then some (.next (A.1++([((A7 ws A.2 J).2).1]),A1 (A.2+1))) else none else some (.done (.next A.1))) ([],0)).bind λz=>some z) (BX (λv=>v=Bf (wag++more)) λa:(List (List Int))×Bool×AA=>a=(s,true,(c,wag,trk,ord,busy,q))):=λws hw=>by
  subst hw;refine M4c (P:=BX (λv=>v=Bf (wag++more)) λa:(List (List Int))×Bool×AA=>a=(s,true,(c,wag,trk,ord,busy,q))) ?_ λz E=>W.ret E
  have ah:(wag++more).length≤192:=by simp;omega
  refine M4e (wag++more).length (λs=>s.2) (λt s=>s.1=((wag++more).take t).map λw=>w.2.1) (by omega) rfl rfl λt s ht H G=>?_
  obtain ⟨a,i⟩:=s;simp only at H G ⊢;subst H G;refine M49 (λq=>?_) (λq=>M4a ?_)
  have B:t<(wag++more).length:=by unfold ln at q;omega
  refine M4b B ?_;rw [Aw B];refine M4d (by rw [M2E,M1q];simp only [M1N,M2g];omega) (W.nx ⟨B,rfl,by simp only;rw [M08 B,M1A];rfl⟩);have:t=(wag++more).length:=by unfold ln at q;omega
  subst this;show _=_
  rw [M1m]
 refine W.st (P:=λv=>v=Bf (wag++more)) ?_ λv ab=>by subst ab;exact ac
 refine W.df (by omega) (W.df (by omega) (W.df (by omega) (M49 (λY=>M4k ?_ ?_) λY=>M4d (by simp;omega) (M4d (by simp;omega) (I _ (by simp))))));rw [M1p (by omega),M1p (by omega)];rfl;refine W.sub (by omega) (by omega) (by omega) λr ag aa=>?_
 have Z:r=[]:=M1F.1 (by simpa using aa);subst Z;exact M4d (by simp;omega) (M4d (by simp;omega) (I _ (by simp)))
omit hc h in
theorem D3 (b:AA){l:List Ap}(hl:l.length≤1000)(E:r.2.1=l)
  (hk:(e.1=1∧∃ more,Oy e=some (more,true)∧b.2.1.length+more.length≤192∧l=Hc b.2.1.length e.2.1 more.length)∨((e.1=2∨e.1=3)∧l=[])∨(e.1=6∧V6 (b.2.2.1,e.2.1,e.2.2.1,e.2.2.2.1)=some (l,0))∨e.1=4∨e.1=5∨e.1=7) :
  eO (e,r,b)=some (false,b):=by
 have fin:W ((SE (l,r.2.1)).bind λH=>some (!H,b)) λa=>a=(false,b):=by
  rw [E];exact W.of (IY l (by omega)) (W.ret rfl)
 unfold eO wL;simp only;refine M4o (W.st (P:=λv=>v=l) ?_ λv hv=>by subst hv;exact fin);rcases hk with ⟨h1,more,hm,I,rfl⟩|⟨h1,rfl⟩|⟨h1,hs⟩|h1|h1|h1
 refine M4k (by rw [h1];rfl) (W.of hm ?_);refine M4e more.length (λs=>s.2) (λt s=>s.1=Hc b.2.1.length e.2.1 t) (by omega) rfl rfl λt s ht B A=>?_
 obtain ⟨a,i⟩:=s;simp only at B A ⊢;subst B A;refine M49 (λq=>?_) (λq=>M4a ?_)
 have G:t<more.length:=by unfold ln at q;omega
 refine M4d (by unfold Hc;simp;omega) (W.nx ⟨G,rfl,?_⟩);simp only;unfold Hc ln;rw [List.range_succ,M1A,A8 (by omega) (by omega)];rfl;have:t=more.length:=by unfold ln at q;omega
 subst this;rfl;rcases h1 with h1|h1;exact M4g (by rw [h1];rfl) (M4k (by rw [h1];rfl) (W.nx rfl));exact M4g (by rw [h1];rfl) (M4g (by rw [h1];rfl) (M4k (by rw [h1];rfl) (W.nx rfl)));exact M4g (by rw [h1];rfl) (M4g (by rw [h1];rfl) (M4g (by rw [h1];rfl) (M4k (by rw [h1];rfl) (W.of hs (M4g rfl (W.nx rfl))))));exact M4g (by rw [h1];rfl) (M4g (by rw [h1];rfl) (M4g (by rw [h1];rfl) (M4g (by rw [h1];rfl) (M4a rfl))));exact M4g (by rw [h1];rfl) (M4g (by rw [h1];rfl) (M4g (by rw [h1];rfl) (M4g (by rw [h1];rfl) (M4a rfl))));exact M4g (by rw [h1];rfl) (M4g (by rw [h1];rfl) (M4g (by rw [h1];rfl) (M4g (by rw [h1];rfl) (M4a rfl))))
omit hc h in
theorem CQ (b:AA)(hk:e.1≠7):Va (e,r,b)=some (false,b):=by
 unfold Va nh;exact M4o (M4k (M2I.2 hk) (W.ret rfl))
omit hc h in
theorem Dx (b:AA)(hk:e.1≠5):Qx (e,r,b)=some (false,b):=by
 unfold Qx eR;exact M4o (M4k (M2I.2 hk) (W.ret rfl))
omit hc h in
theorem DS (b:AA)(hk:e.1≠3)(B:e.1=5→r.2.2.2.1=[]):Ju (e,r,b)=some ([],false,b):=by
 unfold Ju eU;refine M4o (M4g (M2Z.2 hk) (W.beq (λA=>W.df ?_ (W.ret rfl)) λ_=>W.ret rfl));rw [B A];decide
omit hc h in
theorem Dy (b:AA)(hk:e.1≠3)(A:e.1=5→r.2.2.2.1=[]):Vb (e,r,b)=some (false,b):=by
 unfold Vb nE;exact M4o (W.of (DS b hk A) (M4k rfl (W.ret rfl)))
theorem ip (q:Ab)(hk:e.1=3){row:List Int}(B:0≤e.2.1)(hrow:trk[e.2.1.toNat]? = some row):Ju (e,r,(c,wag,trk,ord,busy,q))=some (row,true,(c,wag,trk,ord,busy,q)):=by
 obtain ⟨l,A,h1,h2,_⟩:=onB hc h q e.2.1;have:=h1 row B hrow;subst this;unfold Ju eU;exact M4o (M4k (by rw [hk];rfl) (W.of A (W.of (Ei (by (try simp only);omega)) (W.ret rfl))))
omit hc h in
theorem iq (b:AA)(hk:e.1=5)(hp:r.2.2.2.1≠[])(hl:r.2.1.length≤1000):Ju (e,r,b)=some (r.2.1.map (·.1),true,b):=by
 unfold Ju eU;refine M4o (M4g (by rw [hk];rfl) (M4k (by rw [hk];rfl) (M4w ?_ ?_)));cases G:r.2.2.2.1 with
 | nil=>exact absurd G hp
 | cons a l=>simp [ln,G]
 refine M4e r.2.1.length (λs=>s.2) (λt s=>s.1=(r.2.1.take t).map (·.1)) (by omega) rfl rfl λt s ht E B=>?_
 obtain ⟨a,i⟩:=s;simp only at E B ⊢;subst E B;refine M49 (λq=>?_) (λq=>M4a ?_)
 have A:t<r.2.1.length:=by unfold ln at q;omega
 exact M4b A (M4d (by simp;omega) (W.nx ⟨A,rfl,by simp only;rw [M08 A,M1A];rfl⟩));have:t=r.2.1.length:=by unfold ln at q;omega
 subst this;rw [M1m]
theorem PS (q:Ab){l:List Int}(B:Ju (e,r,(c,wag,trk,ord,busy,q))=some (l,true,(c,wag,trk,ord,busy,q)))(hl:l.length≤192)(hr:Rg wag.length l)(hp:∀ w∈l,0≤(Dw wag ord w).1)
  (hs:r.2.2.1.1.1≤(e.2.2.2.2.2.1.length:Int))(A:Yq ((l.map (Dw wag ord),e.2.2.2.2.1),r.2.2.1)=some 0):Vb (e,r,(c,wag,trk,ord,busy,q))=some (false,(c,wag,trk,ord,busy,q)):=by
 unfold Vb nE;refine M4o (W.of B (M4g rfl (W.of (ik hc h q l hl hr hp) (M4g rfl (W.df (by (try simp only);unfold ln;omega) (W.of A (W.ret rfl)))))))
theorem YR (q:Ab)(hk:e.1=7){k:Nat}{o:A0}{row:List Int}{f:Gt}{ru pl:Int}(hn:Da ord e.2.2.2.2.2.2.2.2.1=(k:Int))(ho:ord[k]? = some o)(hrow:trk[o.2.1.toNat]? = some row)
  (hf:V2 (c,o,row.map λw=>(wag[w.toNat]?).getD Hr)=some (f,ru,pl,0))(ah:f.2.1.length≤1000)(ai:f.2.2.2.length≤1000)(hr:r=(0,G9 o.2.1 row,zP,[],f,0,0)):Va (e,r,(c,wag,trk,ord,busy,q))=some (false,(c,wag,trk,ord,busy,q)):=by
 subst hr;have ad:=h.ol;simp only at ad;rcases Bm (λo:A0=>o.1==e.2.2.2.2.2.2.2.2.1) (λi _=>(i:Int)) (-1) ord 0 with ⟨k',J,Z,aa,H⟩|⟨_,H⟩
 rotate_left
 rw [show Da ord e.2.2.2.2.2.2.2.2.1 = -1 from H] at hn;omega
 have ab:k'=k:=by
  rw [show Da ord e.2.2.2.2.2.2.2.2.1=_ from H] at hn;simp at hn;omega
 subst ab;have ac:o=ord[k']:=by rw [M00 J] at ho;exact (M1x ho).symm
 subst ac;have ae:=(h.oo _ (M03 J)).1;obtain ⟨l1,l2,l3⟩:=C6 h hrow;unfold Va nh;simp only;refine M4o (M4g (by rw [hk];rfl) ?_);refine M4h ord.length (λt=>t≤k') (by omega) (by omega) λt ht G=>M49 (λq2=>?_) (λq2=>by unfold ln at q2;omega)
 have A:t<ord.length:=by unfold ln at q2;omega
 refine M4b A ?_;simp only [Aw A];refine M48 (λhy=>?_) λO=>W.nx ⟨A,rfl,?_⟩
 rotate_left
 rcases M1V t k' with q3|q3;omega;have:t=k':=by omega
 subst this;rw [Z] at O;cases O
 have af:t=k':=by
  rcases M1V t k' with q3|q3;have:=aa t A q3;rw [this] at hy;cases hy
  omega
 subst af;refine M4c (P:=λa=>a=(false,(c,wag,trk,ord,busy,q))) ?_ λv hv=>M4a hv
 refine W.df (by omega) ?_;obtain ⟨B,Y,h1,h2,h3⟩:=onB hc h q (ord[t]).2.1;have:=h1 row ae.1 hrow;subst this;refine W.st (P:=λv=>v=(G9 (ord[t]).2.1 B,B.map (λw=>(wag[w.toNat]?).getD Hr),q.1,q.2.1.1,q.2.1.2,q.2.2.1.1.1,q.2.2.1.1.2,q.2.2.1.2,q.2.2.2.1,q.2.2.2.2.1,q.2.2.2.2.2,busy,ord,trk,wag,c)) ?_ λv hv=>?_
 refine M4b A (W.of Y ?_);simp only;refine M4e B.length (λs=>s.2.2) (λu s=>s.1=G9 (ord[t]).2.1 (B.take u)∧s.2.1=(B.take u).map (λw=>(wag[w.toNat]?).getD Hr)) (by omega) rfl (by exact ⟨rfl,rfl⟩) λu s hu I G=>?_
 obtain ⟨a,b,i⟩:=s;simp only at I G ⊢;obtain ⟨rfl,rfl⟩:=G;subst I;refine M49 (λq3=>?_) (λq3=>M4a ?_)
 have E:u<B.length:=by unfold ln at q3;omega
 have U:=l2 _ (M03 E);refine M4b E (M4b A (M4d (by unfold G9;simp;omega) (M4f U.1 U.2 λw hw _=>?_)));simp only [Aw A,AX hw];refine M4d (by simp;omega) (W.nx ⟨E,rfl,?_,?_⟩);simp only;unfold G9;rw [M08 E,M1A];rfl;simp only;rw [M08 E,M1A,M1X,M3H,hw];rfl;have:u=B.length:=by unfold ln at q3;omega
 subst this;rw [M1m];rfl;subst hv;refine M4b A ?_;simp only [Aw A];refine W.of hf ?_;simp only;refine M4k (by simp) (W.of (pN _ (by omega)) (M4k rfl (M4k (by simp) (W.of (pO _ (by omega)) (M4g rfl (M4g rfl (W.of (IY _ (by unfold G9;simp;omega)) (W.ret rfl))))))))
end
section
variable {c : A2} {wag : List A6} {trk : Bp} {ord : List A0} {busy : Bool} {prog q : Ab} {flt : Bool} {e : Ah} {r : Ag} (hc : BF c) (h : Inv c (wag, trk, ord, busy, prog, flt)) (hq : busy = true → OX prog q)
include hc h hq
theorem PT (hb:busy=true){wg:List Int}(hw:std.s1 (C3 ord trk prog.1)=some wg)(hg:OW wag.length wg)(hp:∀ w∈wg,0≤(Dw wag ord w).1) :
  nk (c,wag,trk,ord,busy,q)=some (Cj wag ord trk wg,wg,true,(c,wag,trk,ord,busy,q)):=by
 have Y:=h.ol;have E:=h.tl;have ab:=h.wl;have c1:=hc.l1;have ac:=hq hb;have Z:prog.1.length≤1000:=h.pb.1;simp only at Y E ab;rw [←ac.w] at hw Z;unfold nk wT;simp only;refine M4o ?_;refine W.st (P:=λv=>v=ord.map λo=>o.2.1) ?_ λv hv=>?_
 refine M4e ord.length (λs=>s.1) (λt s=>s.2=(ord.take t).map λo=>o.2.1) (by omega) rfl rfl λt s ht B A=>?_
 obtain ⟨i,a⟩:=s;simp only at B A ⊢;subst B A;refine M49 (λq=>?_) (λq=>M4a ?_)
 have E:t<ord.length:=by unfold ln at q;omega
 refine M4b E ?_;rw [Aw E];exact M4d (by simp;omega) (W.nx ⟨E,rfl,by simp only;rw [M08 E,M1A];rfl⟩);have:t=ord.length:=by unfold ln at q;omega
 subst this;show _=_
 rw [M1m];subst hv;refine W.st (P:=λv=>v=C3 ord trk q.1) ?_ λv hv=>?_
 refine M4e trk.length (λs=>s.2) (λt s=>s.1=C3 ord (trk.take t) q.1) (by omega) rfl rfl λt s ht B A=>?_
 obtain ⟨a,i⟩:=s;simp only at B A ⊢;subst B A;refine M49 (λI=>?_) (λI=>M4a ?_)
 have H:t<trk.length:=by unfold ln at I;omega
 have ag:=(AN h.vd _ (M03 H)).2.2;have af:(C3 ord (trk.take t) q.1).length≤192:=by
  have hs:(C3 ord (trk.take t) q.1).Sublist (trk.take t).flatten:=IX _ _ λt row=>M2Y
  have aa:((trk.take t).flatten).Sublist trk.flatten:=by
   conv=>rhs;rw [←M2m t trk,M2G]
   exact M3b _ _
  have:=(hs.trans aa).length_le;have h3:=Gw h.vd.2.2.2.2.1 h.vd.2.2.2.2.2.1;have O:=h.vd.2.2.1;simp only at h3 O;omega
 refine M4b H ?_;refine M4e trk[t].length (λs=>s.2) (λu s=>s.1=C3 ord (trk.take t) q.1++(trk[t].take u).filter λw=>decide ((t:Int)∈ord.map λo=>o.2.1)||decide (w∈q.1)) (by omega) rfl (by simp) λu s hu B A=>?_
 obtain ⟨a,i⟩:=s;simp only at B A ⊢;subst B A;refine M49 (λq2=>?_) (λq2=>M4a ⟨H,rfl,?_⟩)
 have G:u<trk[t].length:=by unfold ln at q2;omega
 have ae:((trk[t].take u).filter λw=>decide ((t:Int)∈ord.map λo=>o.2.1)||decide (w∈q.1)).length≤192:=M1B (M2y _ _) (by simp;omega);have ex:(decide ((t:Int)∈ord.map λo=>o.2.1)||decide (trk[t][u]∈q.1))=true→(C3 ord (trk.take t) q.1++(trk[t].take u).filter λw=>decide ((t:Int)∈ord.map λo=>o.2.1)||decide (w∈q.1))++[trk[t][u]]=C3 ord (trk.take t) q.1++(trk[t].take (u+1)).filter λw=>decide ((t:Int)∈ord.map λo=>o.2.1)||decide (w∈q.1):=λhy=>by
  rw [M08 G,M2n,M2W (p:=λw=>decide ((t:Int)∈ord.map λo=>o.2.1)||decide (w∈q.1)) hy,M3p,M20]
 refine M4b G (W.of (CD _ _ (by simp;omega)) (M48 (λhy=>M4d (by simp only [M1l,M1N,M2g];omega) (W.nx ⟨G,rfl,ex (by rw [hy];rfl)⟩)) λhn=>M4k hb (W.of (CD _ _ (by omega)) (M48 (λhy=>M4d (by simp only [M1l,M1N,M2g];omega) (W.nx ⟨G,rfl,ex (by rw [hy];simp)⟩)) λU=>W.nx ⟨G,rfl,?_⟩))));simp only;rw [M08 G,M2n,M2A (p:=λw=>decide ((t:Int)∈ord.map λo=>o.2.1)||decide (w∈q.1)) (by rw [hn,U];decide),M3p,M1w];have:u=trk[t].length:=by unfold ln at q2;omega
 subst this;rw [M1m,PQ _ _ _ H];have:t=trk.length:=by unfold ln at I;omega
 subst this;show _=_
 rw [M1m];subst hv;have J:=hg.len;refine W.of hw (W.of (ik hc h q wg J hg.rg hp) ?_);exact X0 (Q:=λa:Ac×(List Int)×Bool×AA=>a=(Cj wag ord trk wg,wg,true,(c,wag,trk,ord,busy,q))) h.vd wg J (g:=λx=>((wg.map (Dw wag ord),ord.map λo=>o.2.1,x),wg,true,(c,wag,trk,ord,busy,q))) rfl
theorem YS (hb:busy=true)(hk:e.1=5){wg:List Int}(hw:std.s1 (C3 ord trk prog.1)=some wg)(hwt:0≤e.2.2.2.2.1∧e.2.2.2.2.1≤12)(hp:Oq (Cj wag ord trk wg)=some ([],0))(hr:r=(0,[],zP,[],zF,0,0)) :
  Qx (e,r,(c,wag,trk,ord,busy,q))=some (false,(c,wag,trk,ord,busy,q)):=by
 subst hr;have B:=h.ol;simp only at B;obtain ⟨H,A,hg⟩:=ig h.vd ord prog.1;rw [hw] at A;cases A;obtain ⟨E,G⟩:=i7 (Cj wag ord trk wg) (R4 h.vd B hg) e.2.2.2.2.1 hwt hp;have hg:OW wag.length wg:=by simpa using hg
 have hit:∀ w∈wg,0≤(Dw wag ord w).1:=λw hm=>G _ (M1L.2 ⟨w,hm,rfl⟩)
 unfold Qx eR;simp only;refine M4o (M4g (by rw [hk];rfl) (W.of (PT hc h hq hb hw hg hit) (M4g rfl ?_)));refine W.st (P:=λv=>v=[]) (M4N (W.df (by decide) (M4a rfl))) λv hv=>?_
 subst hv;refine W.of E (M4g rfl ?_);simp only;refine W.st (P:=λv=>v=[]) (M4N (W.df (by decide) (M4a rfl))) λv hv=>?_
 subst hv;exact W.of (IY [] (by simp)) (W.ret rfl)
theorem YT (hb:busy=true)(hk:e.1=5){wg:List Int}{ps:List Aa}{j:Bb}{its:List Int}(hw:std.s1 (C3 ord trk prog.1)=some wg)(hg:OW wag.length wg)(hit:∀ w∈wg,0≤(Dw wag ord w).1)(ai:ps.length≤192)
  (ab:∀ p∈ps,(0≤p.1∧p.1<(wg.length:Int))∧(p.2.2.1 = -1∨(0≤p.2.2.1∧p.2.2.1<(wg.length:Int))))(hj:OT (Cj wag ord trk wg,ps,e.2.2.2.2.1)=some (j,its,0))(ag:its.length≤192)(Y:∀ i∈its,0≤i∧i<(wg.length:Int))
  (ac:r.2.1=AY trk e.2.1 (its.map λi=>vw wg i.toNat))(ad:r.2.2.2.1=D1 wg ps):Qx (e,r,(c,wag,trk,ord,busy,q))=some (false,(c,wag,trk,ord,busy,q)):=by
 have aa:=h.ol;have H:=Bw h.vd;have aj:=hg.len;simp only at aa H;have I:∀ i:Int,0≤i→i<(wg.length:Int)→BI wg (vw wg i.toNat)=i:=λi h0 h1=>by
  rw [BB (by omega),nP hg.nd (by omega)];omega
 unfold Qx eR;simp only;refine M4o (M4g (by rw [hk];rfl) (W.of (PT hc h hq hb hw hg hit) (M4g rfl ?_)));simp only [ac,ad];refine W.st (P:=λv=>v=ps) ?_ λv hv=>?_
 have ah:(D1 wg ps).length=ps.length:=by unfold D1;simp
 refine M4e ps.length (λs=>s.2) (λt s=>s.1=ps.take t) (by omega) rfl rfl λt s ht E B=>?_
 obtain ⟨a,i⟩:=s;simp only at E B ⊢;subst E B;refine M49 (λq2=>?_) (λq2=>M4a ?_)
 have A:t<ps.length:=by unfold ln at q2;omega
 obtain ⟨O,x2⟩:=ab _ (M03 A);refine M4b (by omega) ?_;have U:(D1 wg ps)[t]'(by omega)=(vw wg (ps[t]).1.toNat,(ps[t]).2.1,if 0≤(ps[t]).2.2.1 then vw wg (ps[t]).2.2.1.toNat else (ps[t]).2.2.1,(ps[t]).2.2.2):=by
  unfold D1;rw [M3k]
 rw [U];refine W.of (Dl _ _ (by omega)) ?_;simp only;rw [I _ O.1 O.2];refine W.df (by omega) ?_;have fin:W (bif Go.T.room (ps.take t) ([((ps[t]).1,(ps[t]).2.1,(ps[t]).2.2.1,(ps[t]).2.2.2)]) then some (.next (ps.take t++([((ps[t]).1,(ps[t]).2.1,(ps[t]).2.2.1,(ps[t]).2.2.2)]),A1 ((t:Int)+1))) else none) (BX (λJ=>t<ps.length∧J.2=A1 ((t:Int)+1)∧J.1=ps.take (t+1)) (BX (λv=>v=ps) λa:Bool×AA=>a=(false,(c,wag,trk,ord,busy,q)))):=by
  refine M4d (by simp;omega) (W.nx ⟨A,rfl,?_⟩);simp only;rw [M08 A]
 rcases x2 with x2|x2;rw [M1e (by omega),x2];rw [x2] at fin;refine M4g (by decide) (W.of (Dl _ _ (by omega)) ?_);have Z:(-1:Int)∉wg:=λhm=>by have:=hg.rg _ hm;omega
 rw [fg Z];exact fin;rw [M1d x2.1];have hm:vw wg (ps[t]).2.2.1.toNat∈wg:=Jx (by omega);have af:=hg.rg _ hm;refine M4k (M2I.2 (by omega)) (W.of (CD _ _ (by omega)) (M4g (by rw [M1p hm];rfl) (W.of (Dl _ _ (by omega)) ?_)));rw [I _ x2.1 x2.2];exact fin;have:t=ps.length:=by unfold ln at q2;omega
 subst this;show _=_
 rw [M1m];subst hv;refine W.of hj (M4g rfl ?_);simp only;refine W.st (P:=λv=>v=AY trk e.2.1 (its.map λi=>vw wg i.toNat)) ?_ λv hv=>?_
 refine M4e its.length (λs=>s.2) (λt s=>s.1=AY trk e.2.1 ((its.take t).map λi=>vw wg i.toNat)) (by omega) rfl rfl λt s ht E B=>?_
 obtain ⟨a,i⟩:=s;simp only at E B ⊢;subst E B;refine M49 (λq2=>?_) (λq2=>M4a ?_)
 have A:t<its.length:=by unfold ln at q2;omega
 have G:=Y _ (M03 A);refine M4b A (W.of (JN G.1 G.2) (W.of (Kn trk _ (by have:=H.1;omega) λrow hr=>by have:=H.2 row hr;omega) (W.of (JN G.1 G.2) (M4d (by unfold AY;simp;omega) (W.nx ⟨A,rfl,?_⟩)))));simp only;unfold AY;rw [M08 A,M1A,M1A];rfl;have:t=its.length:=by unfold ln at q2;omega
 subst this;show _=_
 rw [M1m];subst hv;exact W.of (IY _ (by unfold AY;simp;omega)) (W.ret rfl)
end
section
theorem Vv (trk:Bp)(t:Int)(l:List Int):(AY trk t l).map (·.1)=l:=by
 unfold AY;induction l with
 | nil=>rfl
 | cons a l A=>
  simp only [M1X];rw [A]
variable {b:AA}
theorem qL {e:Ah}{r:Ag}{s:Bp}(B:r.1=0)(hk:1≤e.1∧e.1≤7)(a1:SD (e,r.2.1,b)=some (s,true,b))(a2:eO (e,r,b)=some (false,b))(a3:Va (e,r,b)=some (false,b))(a4:Qx (e,r,b)=some (false,b))(a5:Vb (e,r,b)=some (false,b))
  (A:e.1=4→∃ f,V8 (e.2.2.2.2.2.2.1,b)=some (r.2.1,f,true,b))(hl:r.2.1.length≤1000):iA (e,r,b)=some (0,b):=by
 unfold iA B54;simp only;refine M4o (M4g (by rw [B];rfl) (W.df (by omega) (W.df (by omega) (W.of a1 (M4g rfl (W.of a2 (M4g rfl (W.of a3 (M4g rfl (W.of a4 (M4g rfl (W.of a5 (M4g rfl (M4i (λ_=>W.ret rfl) λE=>?_))))))))))))));obtain ⟨f,A⟩:=A E;exact W.of A (M4g rfl (W.of (IY r.2.1 (by omega)) (M4g rfl (W.ret rfl))))
theorem M9k {e:Ah}{k ru pl:Int}(A:k≠0):iA (e,(k,[],zP,[],zF,ru,pl),b)=some (0,b):=by
 unfold iA B54;simp only;exact M4o (M4k (M2I.2 A) (M4g rfl (W.ret rfl)))
section
variable {c : A2} {wag : List A6} {trk : Bp} {ord : List A0} {busy : Bool} {prog q : Ab} {flt : Bool} {e : Ah} (hc : BF c) (h : Inv c (wag, trk, ord, busy, prog, flt)) (he : EvOK e) (hq : busy = true → OX prog q)
include hc h he hq
theorem bk {r:Ag}{s:Bp}{more:List A6}{ws:List Int}{G:Bool}(p1:Ju (e,r,(c,wag,trk,ord,busy,q))=some (ws,G,(c,wag,trk,ord,busy,q)))(p2:SD (e,r.2.1,(c,wag,trk,ord,busy,q))=some (s,true,(c,wag,trk,ord,busy,q)))(p3:Oy e=some (more,true))(hm:more.length≤192)
  (A:List A0)(B:Bool)(pu:Int)
  (hk:(e.1=2∧A=ord++[e.2.2.2.2.2.2.2.1]∧B=busy∧pu=q.2.2.2.2.2)∨
   (e.1=7∧(∃ k:Nat,Da ord e.2.2.2.2.2.2.2.2.1=(k:Int)∧A=ord.take k++ord.drop (k+1))∧B=busy∧pu=q.2.2.2.2.2)∨
   (e.1=5∧A=ord∧B=false∧pu=q.2.2.2.2.2)∨
   (e.1=4∧A=ord∧busy=true∧flt=false∧(∃ row,trk[(Bn prog).toNat]? = some row∧0≤Bn prog∧B=(EY (D9 wag ord prog) e.2.2.2.2.2.2.1 row||decide (q.2.2.2.2.2+1≤q.2.2.1.1.1)))∧pu=q.2.2.2.2.2+1)∨
   ((e.1=1∨e.1=3∨e.1=6)∧A=ord∧B=busy∧pu=q.2.2.2.2.2)) :
  qy (e,r,(c,wag,trk,ord,busy,q))=some (if G=true then (c,wag++more,s,A,true,(ws,([],0),r.2.2.1,e.2.1,e.2.2.2.2.2.1,0)) else (c,wag++more,s,A,B,(q.1,q.2.1,q.2.2.1,q.2.2.2.1,q.2.2.2.2.1,pu))):=by
 have ae:=h.ol;have ai:=h.wl;have aq:=he.ss;simp only at ae ai;obtain ⟨l,f,ok,Y,h1⟩:=qK hc h hq e.2.2.2.2.2.2.1 (by omega);unfold qy B55;simp only;refine M4o (W.of Y ?_);simp only;refine W.of p1 ?_;simp only;refine W.of p2 ?_;simp only;refine W.of p3 ?_;simp only;refine M4d (by omega) ?_;refine W.st (P:=λv=>v=(A,B,pu)) ?_ λv hv=>?_
 ·rcases hk with ⟨k1,rfl,rfl,rfl⟩|⟨k1,⟨k,hn,rfl⟩,rfl,rfl⟩|⟨k1,rfl,rfl,rfl⟩|⟨k1,rfl,hb,hf,⟨row,hrow,Z,rfl⟩,rfl⟩|⟨k1,rfl,rfl,rfl⟩;exact M4k (by rw [k1];rfl) (M4d (by simp;omega) (W.nx rfl))
  ·refine M4g (by rw [k1];rfl) (M4k (by rw [k1];rfl) ?_);rcases Bm (λo:A0=>o.1==e.2.2.2.2.2.2.2.2.1) (λi _=>(i:Int)) (-1) ord 0 with ⟨k',ao,ab,ac,I⟩|⟨_,I⟩
   rotate_left
   rw [show Da ord e.2.2.2.2.2.2.2.2.1 = -1 from I] at hn;omega
   have ad:k'=k:=by
    rw [show Da ord e.2.2.2.2.2.2.2.2.1=_ from I] at hn;simp at hn;omega
   subst ad;refine M4h ord.length (λt=>t≤k') (by omega) (by omega) λt ht hI=>M49 (λq2=>?_) (λq2=>by unfold ln at q2;omega)
   have E:t<ord.length:=by unfold ln at q2;omega
   refine M4b E ?_;rw [Aw E];refine M48 (λhy=>?_) λO=>W.nx ⟨E,rfl,?_⟩
   have ah:t=k':=by
    rcases M1V t k' with q3|q3;have:=ac t E q3;rw [this] at hy;cases hy
    omega
   subst ah;have aa:UZ (ord,(t:Int),(t:Int)+1)=some (ord.take t++ord.drop (t+1)):=by
    unfold UZ;simp only;rw [M1p (by omega),M1p (by omega),M1p (by unfold ln;omega)];rfl
   rw [A8 (by omega) (by omega),aa];exact W.of rfl (M4a rfl);rcases M1V t k' with q3|q3;omega;have:t=k':=by omega
   subst this;rw [ab] at O;cases O
  exact M4g (by rw [k1];rfl) (M4g (by rw [k1];rfl) (M4k (by rw [k1];rfl) (W.nx rfl)));have ag:=(h.pl hb).pu;have af:=(h.pl hb).tl;have am:=hq hb;simp only at ag af;have ap:=am.pu;obtain ⟨_,J,_⟩:=h1 hb hf row hrow Z;have U:A1 (q.2.2.2.2.2+1)=q.2.2.2.2.2+1:=A8 (by omega) (by omega);refine M4g (by rw [k1];rfl) (M4g (by rw [k1];rfl) (M4g (by rw [k1];rfl) (M4k (by rw [k1];rfl) (M48 (λH=>W.nx ?_) λH=>W.nx ?_))))
  rw [U,←J,H];rfl;rw [U,←J,H];rfl;rcases k1 with k1|k1|k1;exact M4g (by rw [k1];rfl) (M4g (by rw [k1];rfl) (M4g (by rw [k1];rfl) (M4g (by rw [k1];rfl) (W.nx rfl))));exact M4g (by rw [k1];rfl) (M4g (by rw [k1];rfl) (M4g (by rw [k1];rfl) (M4g (by rw [k1];rfl) (W.nx rfl))));exact M4g (by rw [k1];rfl) (M4g (by rw [k1];rfl) (M4g (by rw [k1];rfl) (M4g (by rw [k1];rfl) (W.nx rfl))))
 subst hv;cases G with
 | true=>exact M4k rfl (W.ret rfl)
 | false=>exact M4g rfl (W.ret rfl)
theorem U1 {r:Ag}{wg:List Int}{ps:List Aa}{j:Bb}{its l:List Int}{p:BE}{s:Bp}(hk:e.1=5)(hw:std.s1 (C3 ord trk prog.1)=some wg)
  (hp:Oq (Cj wag ord trk wg)=some (ps,0))(hne:ps≠[])(hj:OT (Cj wag ord trk wg,ps,e.2.2.2.2.1)=some (j,its,0))(ap:JZ j=some (p,0))(hs:p.1.1≤(e.2.2.2.2.2.1.length:Int))
  (hr:BJ c.1 (Bf wag) (AY trk e.2.1 l) 0 trk=.inr s)(hb:busy=true)(hl:l=its.map λi=>vw wg i.toNat)(r0:r.1=0)(r1:r.2.1=AY trk e.2.1 l)(A:r.2.2=(p,D1 wg ps,zF,0,0)) :
  iA (e,r,(c,wag,trk,ord,busy,q))=some (0,(c,wag,trk,ord,busy,q))∧∃ q',qy (e,r,(c,wag,trk,ord,busy,q))=some (c,wag,s,ord,true,q')∧OX (l,j,p,e.2.1,e.2.2.2.2.2.1.take p.1.1.toNat,0) q':=by
 have ab:=h.ol;have au:=h.wl;have ac:=h.vd;simp only at ab au ac;have ar:Dc c.1 (Bf (wag++[])) trk:=by rw [M1w];exact ac
 obtain ⟨aG,G,hg⟩:=ig h.vd ord prog.1;rw [hw] at G;cases G;have Y:=R4 (ws:=wag) h.vd ab hg;have hg:OW wag.length wg:=by simpa using hg
 have Z:(Cj wag ord trk wg).1.length=wg.length:=by simp [Cj]
 obtain ⟨v3,H,h3⟩:=WS (Cj wag ord trk wg) Y;rw [hp] at H;cases H;obtain ⟨v4,I,O⟩:=WR (Cj wag ord trk wg) Y ps h3.1 e.2.2.2.2.1;rw [hj] at I;cases I;obtain ⟨j1,j2,j3,E,j5,j6,j7⟩:=O rfl;clear O;simp only [Z] at h3 E;simp only at j1 j2 j3 j5 j7;have hit:∀ w∈wg,0≤(Dw wag ord w).1:=λw hm=>(j6 _ (M1L.2 ⟨w,hm,rfl⟩)).1
 have aC:=hg.len;have U:∀ i∈its,vw wg i.toNat∈wg:=λi hi=>Jx (by have:=E i hi;omega)
 have aB:l.length=its.length:=by rw [hl];simp
 have B:(AY trk e.2.1 l).length≤1000:=by unfold AY;simp;omega
 have aq:BJ c.1 (Bf (wag++[])) (AY trk e.2.1 l) 0 trk=.inr s:=by rw [M1w];exact hr
 have p2:=D2 hc h q (BT (by omega:e.1≠1)) (by simp;omega) ar B aq;have an:r.2.2.2.1≠[]:=by
  rw [A];unfold D1
  simpa using hne
 have am:=Vv trk e.2.1 l;have p1:Ju (e,r,(c,wag,trk,ord,busy,q))=some (l,true,(c,wag,trk,ord,busy,q)):=by
  have:=iq (e:=e) (r:=r) (c,wag,trk,ord,busy,q) hk an (by rw [r1];exact B);rw [r1,am] at this;exact this
 have al:Rg wag.length l:=λx hx=>by
  rw [hl] at hx;obtain ⟨i,hi,rfl⟩:=M1L.1 hx;exact hg.rg _ (U i hi)
 have ak:(l.map (Dw wag ord),e.2.2.2.2.1)=j:=by
  refine Prod.ext (List.ext_getElem (by simp;omega) λk k1 k2=>?_) j3.symm;have aa:k<its.length:=by omega
  have:=j7 k aa;have x1:=E _ (M03 aa);rw [M00 k2,M00 (by rw [Z];omega)] at this;rw [M1x this];simp only [Cj,M3k,hl];rw [BB (by omega)]
 have ao:=H8 j (by unfold Hq;omega);obtain ⟨a,J,ha⟩:=ao;rw [ap] at J;cases J;obtain ⟨_,_,_,_,p5⟩:=ha rfl;have ai:SD (e,r.2.1,(c,wag,trk,ord,busy,q))=some (s,true,(c,wag,trk,ord,busy,q)):=by rw [r1];exact p2
 refine ⟨qL r0 (by omega) ai (D3 _ B r1 (.inr (.inr (.inr (.inr (.inl hk)))))) (CQ _ (by omega)) (YT hc h hq hb hk hw hg hit h3.1 h3.2 hj j1 E (by rw [r1,hl]) (by rw [A])) (PS hc h q p1 (by omega) al (λw hm=>?_) (by rw [A];exact hs) (by rw [ak,A];exact p5)) (λq0=>by omega) (by rw [r1];exact B),?_⟩;rw [hl] at hm;obtain ⟨i,hi,rfl⟩:=M1L.1 hm;exact hit _ (U i hi)
 have:=bk hc h he hq (r:=r) p1 ai (BT (by omega:e.1≠1)) (by simp) ord false _ (.inr (.inr (.inl ⟨hk,rfl,rfl,rfl⟩)));rw [M1w,M1d rfl,A] at this;refine ⟨_,this,⟨rfl,rfl,rfl,rfl,rfl,?_⟩⟩;have:=he.ts;simp only;omega
theorem Vw {y':AH}{r:Ag}(hd:Did c (wag,trk,ord,busy,prog,flt) e y' r):iA (e,r,(c,wag,trk,ord,busy,q))=some (0,(c,wag,trk,ord,busy,q))∧
  (r.1=0→∃ q',qy (e,r,(c,wag,trk,ord,busy,q))=some (c,y'.1,y'.2.1,y'.2.2.1,y'.2.2.2.1,q')∧(y'.2.2.2.1=true→OX y'.2.2.2.2.1 q'))∧(r.1≠0→y'=(wag,trk,ord,busy,prog,flt)):=by
 have al:=h.ol;have aq:=h.wl;have U:=h.vd;simp only at al aq U;have Y:BJ c.1 (Bf (wag++[])) [] 0 trk=.inr trk:=rfl;have E:Dc c.1 (Bf (wag++[])) trk:=by rw [M1w];exact U
 cases hd with
 | err k ru pl hk=>exact ⟨M9k hk,λq0=>absurd q0 hk,λ_=>rfl⟩
 | arrive l s hk ai hl hf hr=>
  simp only at hl hr;have ap:Dc c.1 (Bf (wag++l)) trk:=by
   have:=QZ U (Bf l) (R1 hf) (by simp;omega);unfold Bf at this ⊢;rw [M1A];exact this
  have I:(Hc wag.length e.2.1 l.length).length≤1000:=by unfold Hc;simp;omega
  have hm:=io hk ai;have A:=D2 hc h q hm hl ap I hr;refine ⟨qL rfl (by omega) A (D3 _ I rfl (.inl ⟨hk,l,hm,hl,rfl⟩)) (CQ _ (by omega)) (Dx _ (by omega)) (Dy _ (by omega) λq0=>by omega) (λq0=>by omega) I,λ_=>?_,λq0=>absurd rfl q0⟩;have:=bk hc h he hq (r:=(0,Hc wag.length e.2.1 l.length,zP,[],zF,0,0)) (DS _ (by omega) λq0=>by omega) A hm (by omega) ord busy q.2.2.2.2.2 (.inr (.inr (.inr (.inr ⟨.inl hk,rfl,rfl,rfl⟩))));exact ⟨_,this,hq⟩
 | order hk hb=>
  simp only at hb;have A:=D2 hc h q (BT (by omega:e.1≠1)) (by simp;omega) E (l:=[]) (by simp) Y;refine ⟨qL rfl (by omega) A (D3 _ (by simp) rfl (.inr (.inl ⟨.inl hk,rfl⟩))) (CQ _ (by omega)) (Dx _ (by omega)) (Dy _ (by omega) λq0=>by omega) (λq0=>by omega) (by simp),λ_=>?_,λq0=>absurd rfl q0⟩;have:=bk hc h he hq (r:=(0,[],zP,[],zF,0,0)) (DS _ (by omega) λq0=>by omega) A (BT (by omega:e.1≠1)) (by simp) (ord++[e.2.2.2.2.2.2.2.1]) busy q.2.2.2.2.2 (.inl ⟨hk,rfl,rfl,rfl⟩);rw [M1w] at this;exact ⟨_,this,hq⟩
 | plan row p hk hb ht hrow hit hp hs=>
  simp only at hb ht hrow hit hp;subst hb;obtain ⟨r1,r2,r3⟩:=C6 h hrow;have an:=H8 (row.map (Dw wag ord),e.2.2.2.2.1) (by unfold Hq;simp;omega);obtain ⟨a,ea,ha⟩:=an;rw [hp] at ea;cases ea;obtain ⟨_,_,_,_,p5⟩:=ha rfl;have A:=D2 hc h q (BT (by omega:e.1≠1)) (by simp;omega) E (l:=[]) (by simp) Y;have p1:Ju (e,(0,[],p,[],zF,0,0),(c,wag,trk,ord,false,q))=_:=ip hc h q hk ht hrow;refine ⟨qL rfl (by omega) A (D3 _ (by simp) rfl (.inr (.inl ⟨.inr hk,rfl⟩))) (CQ _ (by omega)) (Dx _ (by omega)) (PS hc h q p1 r1 r2 hit hs p5) (λq0=>by omega) (by simp),λ_=>?_,λq0=>absurd rfl q0⟩;have:=bk hc h he hq (r:=(0,[],p,[],zF,0,0)) p1 A (BT (by omega:e.1≠1)) (by simp) ord false q.2.2.2.2.2 (.inr (.inr (.inr (.inr ⟨.inr (.inl hk),rfl,rfl,rfl⟩))));rw [M1w,M1d rfl] at this;refine ⟨_,this,λ_=>⟨rfl,rfl,rfl,rfl,rfl,?_⟩⟩;have:=he.ts;simp only;omega
 | roll row s y' hk hb hf hrow YW hr hy=>
  simp only at hb hf hrow YW hr hy;subst hb hf;obtain ⟨r1,r2,r3⟩:=C6 h hrow;have O:(Dd (Bn prog) (D9 wag ord prog) e.2.2.2.2.2.2.1 row).length≤1000:=by unfold Dd;simp;omega
  have G:BJ c.1 (Bf (wag++[])) (Dd (Bn prog) (D9 wag ord prog) e.2.2.2.2.2.2.1 row) 0 trk=.inr s:=by rw [M1w];exact hr
  have A:=D2 hc h q (BT (by omega:e.1≠1)) (by simp;omega) E O G;obtain ⟨l,f,ok,e1,h1⟩:=qK hc h hq e.2.2.2.2.2.2.1 (by have:=he.ss;omega);obtain ⟨rfl,rfl,rfl⟩:=h1 rfl rfl row hrow YW;refine ⟨qL rfl (by omega) A (D3 _ O rfl (.inr (.inr (.inr (.inl hk))))) (CQ _ (by omega)) (Dx _ (by omega)) (Dy _ (by omega) λq0=>by omega) (λ_=>⟨_,e1⟩) O,λ_=>?_,λq0=>absurd rfl q0⟩;have:=bk hc h he hq (r:=(0,Dd (Bn prog) (D9 wag ord prog) e.2.2.2.2.2.2.1 row,zP,[],zF,0,0)) (DS _ (by omega) λq0=>by omega) A (BT (by omega:e.1≠1)) (by simp) ord _ _ (.inr (.inr (.inr (.inl ⟨hk,rfl,rfl,rfl,⟨row,hrow,YW,rfl⟩,rfl⟩))));rw [M1w,M1e (by decide)] at this;have B:=hq rfl
  by_cases H:EY (D9 wag ord prog) e.2.2.2.2.2.2.1 row=true;rw [M1d H] at hy;subst hy;rw [H] at this;exact ⟨_,this,λ_=>⟨B.w,B.pr,B.ld,by simp only;rw [B.pu],B.ts,B.tl⟩⟩
  rw [M1e H] at hy;have ak:EY (D9 wag ord prog) e.2.2.2.2.2.2.1 row=false:=by simpa using H
  rw [ak,Bool.false_or] at this;by_cases ab:prog.2.2.2.2.2+1>prog.2.2.1.1.1;rw [M1d ab] at hy;subst hy;rw [M1K (by rw [B.pu,B.pr];omega)] at this;exact ⟨_,this,λq0=>by cases q0⟩
  rw [M1e ab] at hy;subst hy;rw [M1p (by rw [B.pu,B.pr];omega)] at this;exact ⟨_,this,λ_=>⟨B.w,B.pr,B.ld,by simp only;rw [B.pu],B.ts,B.tl⟩⟩
 | fin wg hk hf hw hwt hp=>
  simp only at hf hw hp;have hb:=h.fb hf;simp only at hb;subst hb;have A:=D2 hc h q (BT (by omega:e.1≠1)) (by simp;omega) E (l:=[]) (by simp) Y;refine ⟨qL rfl (by omega) A (D3 _ (by simp) rfl (.inr (.inr (.inr (.inr (.inl hk)))))) (CQ _ (by omega)) (YS hc h hq rfl hk hw hwt hp rfl) (Dy _ (by omega) λ_=>rfl) (λq0=>by omega) (by simp),λ_=>?_,λq0=>absurd rfl q0⟩;have:=bk hc h he hq (r:=(0,[],zP,[],zF,0,0)) (DS _ (by omega) λ_=>rfl) A (BT (by omega:e.1≠1)) (by simp) ord false _ (.inr (.inr (.inl ⟨hk,rfl,rfl,rfl⟩)));rw [M1w,M1e (by decide)] at this;exact ⟨_,this,λq0=>by cases q0⟩
 | bring wg ps j its p s hk hf hw hp hne hj ao hs hr=>
  have hb:=h.fb hf;simp only at hb;subst hb;obtain ⟨a1,q',a2,a3⟩:=U1 hc h he hq hk hw hp hne hj ao hs hr (r:=(0,AY trk e.2.1 (its.map λi=>vw wg i.toNat),p,D1 wg ps,zF,0,0)) rfl rfl rfl rfl rfl;exact ⟨a1,λ_=>⟨q',a2,λ_=>a3⟩,λq0=>absurd rfl q0⟩
 | move sh s hk hb hs hsl hr=>
  simp only at hb hs hr;subst hb;have G:BJ c.1 (Bf (wag++[])) sh 0 trk=.inr s:=by rw [M1w];exact hr
  have A:=D2 hc h q (BT (by omega:e.1≠1)) (by simp;omega) E (by omega) G;refine ⟨qL rfl (by omega) A (D3 (l:=sh) _ (by omega) rfl (.inr (.inr (.inl ⟨hk,hs⟩)))) (CQ _ (by omega)) (Dx _ (by omega)) (Dy _ (by omega) λq0=>by omega) (λq0=>by omega) (by (try simp only);omega),λ_=>?_,λq0=>absurd rfl q0⟩;have:=bk hc h he hq (r:=(0,sh,zP,[],zF,0,0)) (DS _ (by omega) λq0=>by omega) A (BT (by omega:e.1≠1)) (by simp) ord false _ (.inr (.inr (.inr (.inr ⟨.inr (.inr hk),rfl,rfl,rfl⟩))));rw [M1w,M1e (by decide)] at this;exact ⟨_,this,λq0=>by cases q0⟩
 | depart k o row f ru pl s hk hb hn ho hrow hf hr=>
  simp only at hb hn ho hrow hf hr;subst hb;obtain ⟨r1,r2,r3⟩:=C6 h hrow;have am:o∈ord:=M1k ho;obtain ⟨_,o2,o3⟩:=h.oo o am;have aj:∀ w∈row.map (λw=>(wag[w.toNat]?).getD Hr),FitW w:=λw hw=>by
   obtain ⟨x,hx,rfl⟩:=M1L.1 hw;have:=r2 x hx;have ac:x.toNat<wag.length:=by omega
   rw [M00 ac];exact h.ww _ (M03 ac)
  obtain ⟨v9,Z,h9⟩:=WW hc o ⟨by omega,by omega,o3.2⟩ _ (by simpa using r1) aj;rw [hf] at Z;cases Z;obtain ⟨f1,f2⟩:=h9 rfl;have J:(G9 o.2.1 row).length≤1000:=by unfold G9;simp;omega
  have G:BJ c.1 (Bf (wag++[])) (G9 o.2.1 row) 0 trk=.inr s:=by rw [M1w];exact hr
  have A:=D2 hc h q (BT (by omega:e.1≠1)) (by simp;omega) E J G;refine ⟨qL rfl (by omega) A (D3 _ J rfl (.inr (.inr (.inr (.inr (.inr hk)))))) (YR hc h q hk hn ho hrow hf (by (try simp only at f1);omega) (by (try simp only at f2);omega) rfl) (Dx _ (by omega)) (Dy _ (by omega) λq0=>by omega) (λq0=>by omega) J,λ_=>?_,λq0=>absurd rfl q0⟩;have:=bk hc h he hq (r:=(0,G9 o.2.1 row,zP,[],f,0,0)) (DS _ (by omega) λq0=>by omega) A (BT (by omega:e.1≠1)) (by simp) (ord.take k++ord.drop (k+1)) false _ (.inr (.inl ⟨hk,⟨k,hn,rfl⟩,rfl,rfl⟩));rw [M1w,M1e (by decide)] at this;exact ⟨_,this,λq0=>by cases q0⟩
end
end
structure y9 (c:A2) (es:List Ah) (rs:List Ag) (n:Nat) (ys:Nat→AH):Prop where
 z:ys 0=zY c.1.length
 st:∀ i (h1:i<n) (h2:i<es.length) (h3:i<rs.length),Did c (ys i) es[i] (ys (i+1)) rs[i]
 iv:∀ i,i≤n→Inv c (ys i)
section
variable {c : A2} {es : List Ah} (hc : BF c) (hl : es.length ≤ 1000) (he : ∀ e ∈ es, EvOK e)
include hc hl he
theorem ya:W (F7 (c,es)) λr=>r.2.2=0∧r.2.1.length=es.length∧∃ ys,y9 c es r.2.1 es.length ys∧ys es.length=r.1:=by
 unfold F7 B7;refine W.of (xe hc) (M4g rfl ?_);refine M4e es.length (λs=>s.2.1) (λt s=>s.1.length=t∧∃ ys,y9 c es s.1 t ys∧ys t=(s.2.2.1,s.2.2.2.1,s.2.2.2.2.1,s.2.2.2.2.2.1,(s.2.2.2.2.2.2.1,(s.2.2.2.2.2.2.2.1,s.2.2.2.2.2.2.2.2.1),((s.2.2.2.2.2.2.2.2.2.1,s.2.2.2.2.2.2.2.2.2.2.1),s.2.2.2.2.2.2.2.2.2.2.2.1),s.2.2.2.2.2.2.2.2.2.2.2.2.1,s.2.2.2.2.2.2.2.2.2.2.2.2.2.1,s.2.2.2.2.2.2.2.2.2.2.2.2.2.2.1),s.2.2.2.2.2.2.2.2.2.2.2.2.2.2.2)) (by omega) rfl (by
  refine ⟨rfl,λ_=>zY c.1.length,⟨rfl,λi h1=>by omega,λi _=>Inv.zero hc⟩,rfl⟩) λt s ht O J=>?_
 obtain ⟨out,i,s⟩:=s;simp only at O J ⊢;subst O;obtain ⟨G,ys,B,H⟩:=J;refine M49 (λq=>?_) (λq=>M4a ?_)
 have E:t<es.length:=by unfold ln at q;omega
 have hinv:=B.iv t (M1g _);rw [H] at hinv;refine M4b E (M4c (DE hc hinv (he _ (M03 E))) λA h3=>M4d (by simp;omega) (W.nx ⟨E,rfl,by simp [G],λi=>if i≤t then ys i else A.1,⟨?_,λi h1 h2 I=>?_,λi hi=>?_⟩,?_⟩))
 show (if 0≤t then ys 0 else A.1)=_;rw [M1d (by omega)];exact B.z
 simp only at I ⊢;rw [M1d (by omega)]
 by_cases e:i=t;subst e;rw [M1e (by omega)];have hg:(out++[A.2])[i]'(by simp;omega)=A.2:=by
  rw [M33 (by omega)];simp [G]
 rw [hg,H];exact h3.1;rw [M1d (by omega)];have hg:(out++[A.2])[i]'I=out[i]'(by omega):=M3c (by omega);rw [hg];exact B.st i (by omega) h2 (by omega);show Inv c (if i≤t then ys i else A.1)
 by_cases e:i≤t;rw [M1d e];exact B.iv i e;rw [M1e e];exact h3.2;show (if t+1≤t then ys (t+1) else A.1)=_;rw [M1e (by omega)]
 have:t=es.length:=by unfold ln at q;omega
 subst this;exact ⟨rfl,G,ys,B,H⟩
variable {rs : List Ag} (hr : rs.length = es.length) {ys : Nat → AH} (hh : y9 c es rs es.length ys)
include hr hh
theorem ir:min (ln es) (ln rs)=(es.length:Int):=by unfold ln;rw [hr];exact Int.min_self _
theorem iu {t:Nat}(ht:t<es.length){q:Ab}(hq:(ys t).2.2.2.1=true→OX (ys t).2.2.2.2.1 q) :
  iA (es[t],rs[t]'(by omega),(c,(ys t).1,(ys t).2.1,(ys t).2.2.1,(ys t).2.2.2.1,q))=some (0,(c,(ys t).1,(ys t).2.1,(ys t).2.2.1,(ys t).2.2.2.1,q))∧
  ((rs[t]'(by omega)).1=0→∃ q',qy (es[t],rs[t]'(by omega),(c,(ys t).1,(ys t).2.1,(ys t).2.2.1,(ys t).2.2.2.1,q))=some (c,(ys (t+1)).1,(ys (t+1)).2.1,(ys (t+1)).2.2.1,(ys (t+1)).2.2.2.1,q')∧((ys (t+1)).2.2.2.1=true→OX (ys (t+1)).2.2.2.2.1 q'))∧((rs[t]'(by omega)).1≠0→ys (t+1)=ys t):=
 Vw hc (wag:=(ys t).1) (trk:=(ys t).2.1) (ord:=(ys t).2.2.1) (busy:=(ys t).2.2.2.1) (prog:=(ys t).2.2.2.2.1) (flt:=(ys t).2.2.2.2.2) (hh.iv t (by omega)) (he _ (M03 ht)) hq (hh.st t ht ht (by omega))
theorem iw:W (F8 (c,es,rs)) λr=>r.2=false:=by
 have J:=hc.l1;unfold F8 B8;simp only [ir hc hl he hr hh];refine W.of (Qz hc) (M4g rfl (W.mk (by unfold ln;omega) (by unfold ln;omega) ?_));refine M4e es.length (λs=>s.1) (λt s=>∃ q:Ab,s.2=(q.1,q.2.1.1,q.2.1.2,q.2.2.1.1.1,q.2.2.1.1.2,q.2.2.1.2,q.2.2.2.1,q.2.2.2.2.1,q.2.2.2.2.2,(ys t).2.2.2.1,(ys t).2.2.1,(ys t).2.1,(ys t).1,c)∧((ys t).2.2.2.1=true→OX (ys t).2.2.2.2.1 q)) (by omega) rfl (by
  refine ⟨zG,?_,?_⟩;rw [hh.z];unfold ln;rfl;rw [hh.z];exact λq=>by cases q) λt s ht G E=>?_
 obtain ⟨i,s⟩:=s;simp only at G E ⊢;subst G;obtain ⟨q,rfl,hq⟩:=E;refine M49 (λq2=>?_) (λq2=>M4a rfl);have A:t<es.length:=by omega
 obtain ⟨a1,a2,a3⟩:=iu hc hl he hr hh A hq;refine M4b A (M4b (by omega) (W.of a1 (W.df (by simp) (M4b (by omega) (W.beq (λB=>M4b A (M4b (by omega) ?_)) λB=>W.nx ⟨A,rfl,q,?_,?_⟩)))));obtain ⟨q',H,I⟩:=a2 B;exact W.of H (W.nx ⟨A,rfl,q',rfl,I⟩);rw [a3 B];rw [a3 B];exact hq
theorem YU:F9 (c,es,rs)=some ((ys es.length).1,(ys es.length).2.1):=by
 have Y:=hc.l1;unfold F9 B9;simp only [ir hc hl he hr hh];refine M4o ?_;refine W.of (Qz hc) (M4g rfl (W.mk (by unfold ln;omega) (by unfold ln;omega) ?_));refine M4e es.length (λs=>s.1) (λt s=>∃ q:Ab,s.2=(q.1,q.2.1.1,q.2.1.2,q.2.2.1.1.1,q.2.2.1.1.2,q.2.2.1.2,q.2.2.2.1,q.2.2.2.2.1,q.2.2.2.2.2,(ys t).2.2.2.1,(ys t).2.2.1,(ys t).2.1,(ys t).1,c)∧((ys t).2.2.2.1=true→OX (ys t).2.2.2.2.1 q)) (by omega) rfl (by
  refine ⟨zG,?_,?_⟩;rw [hh.z];unfold ln;rfl;rw [hh.z];exact λq=>by cases q) λt s ht E B=>?_
 obtain ⟨i,s⟩:=s;simp only at E B ⊢;subst E;obtain ⟨q,rfl,hq⟩:=B;refine M49 (λq2=>?_) (λq2=>?_)
 have A:t<es.length:=by omega
 obtain ⟨a1,a2,a3⟩:=iu hc hl he hr hh A hq;refine M4b A (M4b (by omega) (W.of a1 (W.df (by simp) (M4b (by omega) (W.beq (λG=>M4b A (M4b (by omega) ?_)) λG=>W.nx ⟨A,rfl,q,?_,?_⟩)))));obtain ⟨q',J,O⟩:=a2 G;exact W.of J (W.nx ⟨A,rfl,q',rfl,O⟩);rw [a3 G];rw [a3 G];exact hq
 ·have U:t=es.length:=by omega
  subst U;have hv:=hh.iv es.length (M1g _);have A:=hv.tl;have aa:=hv.wl;refine M4c (P:=λa=>a=((ys es.length).1,(ys es.length).2.1)) ?_ λv hv=>M4a hv
  refine W.st (P:=λv=>v=(ys es.length).2.1) ?_ λv hv=>by subst hv;exact W.of (Vo (by (try simp only);omega)) (W.ret rfl)
  refine M4e (ys es.length).2.1.length (λs=>s.2) (λt s=>s.1=(ys es.length).2.1.take t) (by omega) rfl rfl λt s ht E B=>?_
  obtain ⟨a,i⟩:=s;simp only at E B ⊢;subst E B;refine M49 (λI=>?_) (λI=>M4a ?_)
  have H:t<(ys es.length).2.1.length:=by unfold ln at I;omega
  have Z:=hv.len _ (M03 H);exact M4b H (W.of (Ei (by omega)) (M4d (by simp;omega) (W.nx ⟨H,rfl,by simp only;rw [M08 H]⟩)));show _=_
  rw [show t=(ys es.length).2.1.length by unfold ln at I;omega,M1m]
end
theorem yb (l:List Int)(h:l.length≤100000):F28 (l,l)=some true:=by
 unfold F28 B28;simp only;refine M4o (M4g (by simp) ?_);refine M4h l.length (λ_=>True) (by omega) trivial λt ht _=>M49 (λq=>?_) (λq=>M4a rfl)
 have A:t<l.length:=by unfold ln at q;omega
 exact M4b A (M4b A (M4g (by simp) (W.nx ⟨A,rfl,trivial⟩)))
theorem yc (l:List (List Int))(h:l.length≤100000)(h2:∀ x∈l,x.length≤100000):F11 (l,l)=some true:=by
 unfold F11 B11;simp only;refine M4o (M4g (by simp) ?_);refine M4h l.length (λ_=>True) (by omega) trivial λt ht _=>M49 (λq=>?_) (λq=>M4a rfl)
 have A:t<l.length:=by unfold ln at q;omega
 exact M4b A (M4b A (W.of (yb _ (h2 _ (M03 A))) (M4g rfl (W.nx ⟨A,rfl,trivial⟩))))
theorem yd (l:List A6)(h:l.length≤100000):F10 (l,l)=some true:=by
 unfold F10 B10;simp only;refine M4o (M4g (by simp) ?_);refine M4h l.length (λ_=>True) (by omega) trivial λt ht _=>M49 (λq=>?_) (λq=>M4a rfl)
 have A:t<l.length:=by unfold ln at q;omega
 exact M4b A (M4b A (M4g (by simp) (W.nx ⟨A,rfl,trivial⟩)))
theorem ye (x:List Int):F3 x=some true:=by
 unfold F3 B3;refine M4o ?_;refine M4c (Yr true (k:=(x,0)) (b:=0) ⟨by simp,by simp⟩ (by omega)) λY H=>?_
 obtain ⟨hc,hk⟩:=H;refine M4c (YL hc hk (by omega)) λI h1=>?_
 obtain ⟨⟨l1,A⟩,_⟩:=h1;refine M4c (ya hc (by omega) A) λZ h2=>?_
 obtain ⟨G,B,ys,hh,E⟩:=h2;refine M4c (iw hc (by omega) A B hh) λv3 h3=>?_
 refine W.of (YU hc (by omega) A B hh) ?_;rw [E];have hv:=hh.iv I.1.length (M1g _);rw [E] at hv;have U:=hv.wl;have O:=hv.tl;have J:=hc.l1;refine M4g (by rw [G];rfl) (M4g h3 (W.of (yd _ (by (try simp only);omega)) (M4g rfl (W.of (yc _ (by (try simp only);omega) λr hr=>by have:=hv.len r hr;omega) (M4g rfl ?_)))));refine qI (τ:=Unit) (by (try simp only);omega) ?_;refine W.of (fG hv.vd) (M4k rfl ?_);unfold F13;exact W.of rfl (W.ret rfl)
end Go.T
