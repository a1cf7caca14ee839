/- Part I of the proof of TopConserved. No condition. -/
import Derived.Test.YtmihkgopplkcjaaGreatDoorProg
import Derived.Shelf.RegionOpenPlain
import Derived.WalkKit
import Derived.Deep.LoopGhost
import Derived.Deep.RegionLaw
import Derived.Lib.Walk
import Derived.Sort.WalkB12
import Derived.Sort.EncStr
import Derived.Lib.SliceRun
import Derived.Lib.SlicesDelete
import Derived.Test.YtmihkgopplkcjaaGreatDoorH
set_option linter.all false
set_option maxRecDepth 1000000
set_option maxHeartbeats 0
namespace Go.T
open Go Go.Proofs Go.Shelf Go.RowKit Go.Lib Go.Sort
theorem xy {P:Program}(w:World)(t e ty:TypeId)(z:Value)(ht:P.underlying t=some (.slice e))(hv:∀ w,(zeroValue e).run P w=.ok z w)(b o n c:Nat)(hn:0<n)(zs:List Value)(E:(Builtin.zeroCells z.cells n).toList=zs)(h1:∀ v∈zs,v.oneCell'=true)
  (B:∀ j,j<zs.length→(w.cell? ⟨b,o+j,none⟩).isSome=true)(hf:∀ j,j<zs.length→w.frozen? ⟨b,o+j,none⟩=false) :
  (Builtin.clear_ #[t] ty #[.slice (some ⟨b,o,none⟩) n c]).run P w=.ok (.tuple #[]) (w.setCells b o zs):=by
 have A:=run_storeCells_cells (P:=P) b o zs 0 w (by simpa using B) (by simpa using hf) h1;simp only [M1M] at A;obtain ⟨m,rfl⟩:∃ m,n=m+1:=⟨n-1,by omega⟩
 simp [Builtin.clear_,run_underlying ht,hv,E,A]
theorem xz (z:Value)(n:Nat)(hs:z.cells.size=3)(h1:∀ v∈z.cells.toList,v.oneCell'=true):(Builtin.zeroCells z.cells n).toList.length=n*3∧∀ v∈(Builtin.zeroCells z.cells n).toList,v.oneCell'=true:=by
 refine ⟨by simp [Builtin.zeroCells,hs],λv hv=>?_⟩;simp only [Builtin.zeroCells,M3s,M1L] at hv;obtain ⟨i,_,rfl⟩:=hv;have hm:i%z.cells.size<z.cells.size:=M47 _ (by omega);rw [M2S z.cells _ hm];exact h1 _ (by simp)
theorem t35:Tryz.prog.underlying 35=some (.slice 80):=by kernel_rfl
theorem i80:(Tryz.prog.info? 80).map (·.size)=some 3:=by kernel_rfl
theorem z80:∃ z:Value,(∀ w,(zeroValue 80).run Tryz.prog w=.ok z w)∧z.cells.size=3∧∀ v∈z.cells.toList,v.oneCell'=true:=⟨.agg #[.string { data:=#[] },.int .i64 0,.slice none 0 0],λw=>by kernel_rfl,by kernel_rfl,λv hv=>by
 have hv:v∈[Value.string { data:=#[] },.int .i64 0,.slice none 0 0]:=hv;simp only [M1y,M2o,M3u] at hv;rcases hv with rfl|rfl|rfl <;> rfl⟩
theorem IT {g:Nat}{T:TypeId}{fz:Nat×Nat}:∀ (vs:List Value) (o:Nat) (w:World) (A:Array Value),w.heap[g]? = some (.cells A T fz)→∃ B,(w.setCells g o vs).heap[g]? = some (.cells B T fz)∧B.size=A.size
 | [],o,w,A,h=>⟨A,h,rfl⟩
 | v::vs,o,w,A,h=>by
  obtain ⟨B,h1,h2⟩:=IT (g:=g) (T:=T) (fz:=fz) vs (o+1) (w.setCell ⟨g,o,none⟩ v) (A.setIfInBounds o v) (by simp [World.setCell,M2l,h]);exact ⟨B,h1,by rw [h2];simp⟩
theorem fD (b n c i:Nat)(w:World)(hi:i≤n)(hn:n≤c)(A:c≤9223372036854775807) :
  Calls Tryz.prog 111 #[.slice (some ⟨b,0,none⟩) n c,.int .i64 i,.int .i64 i] w λe w'=>e=.returned (.slice (some ⟨b,0,none⟩) n c)∧w'=w:=by
 go_enter Tryz.func111,Tryz.ntmps111
 go_wp2
 all_goals (go_ret;exact ⟨rfl,rfl⟩)
theorem oG (w:World):Calls Tryz.prog 111 #[.slice none 0 0,.int .i64 0,.int .i64 0] w λe w'=>e=.returned (.slice none 0 0)∧w'=w:=by
 go_enter Tryz.func111,Tryz.ntmps111
 go_wp2
 all_goals (go_ret;exact ⟨rfl,rfl⟩)
theorem fE (b n c i j:Nat)(w:World)(G:Array Value)(T:TypeId)(hg:w.heap[b]? = some (.cells G T (0,0)))(hs:G.size=c*3)(aq:i<j)(hj:j≤n)(hn:n≤c)(hc:c≤9223372036854775807)
  (B:List Value)(U:B=(G.toList.drop (j*3)).take ((n-j)*3))(h1:∀ u∈B,u.oneCell'=true) :
  ∃ zs:List Value,zs.length=(j-i)*3∧Calls Tryz.prog 111 #[.slice (some ⟨b,0,none⟩) n c,.int .i64 i,.int .i64 j] w λe w'=>e=.returned (.slice (some ⟨b,0,none⟩) (n-(j-i)) c)∧w'=(w.drew.setCells b (i*3) B).setCells b ((i+(n-j))*3) zs:=by
 obtain ⟨i0,ai,ak⟩:=M01.1 i80;have O:B.length=(n-j)*3:=by rw [U];simp;omega
 have aa:∀ t u,B[t]? = some u→G[j*3+t]? = some u:=λt u ht=>by
  have au:=(M09.1 ht).1;rw [U,M1r,M1d (by omega),M1C,M1E] at ht;exact ht
 obtain ⟨A,hA,aj⟩:∃ A:Addr,(if c=j then some (⟨b,0,none⟩:Addr) else some ⟨b,j*3,none⟩)=some A∧Hid (∀ t u,B[t]? = some u→w.drew.cell? (A.add t)=some u):=by
  by_cases h:c=j;refine ⟨⟨b,0,none⟩,by simp [h],λt u J=>?_⟩;have h0:B.length=0:=by rw [O];omega
  rw [M1F.1 h0] at J;simp at J
  refine ⟨⟨b,j*3,none⟩,by simp [h],λt u J=>?_⟩;rw [Addr.add_lit];show w.cell? _=_
  rw [←aa t u J];simp [World.cell?,hg]
 have s1:Hid (B.length=(n-j)*3):=O;have s2:Hid (∀ u∈B,u.oneCell'=true):=h1;have s3:Hid (∀ t,t<B.length→(w.drew.cell? ⟨b,0+i*3+t,none⟩).isSome=true∧w.drew.frozen? ⟨b,0+i*3+t,none⟩=false):=by
  intro t ht;have hb:0+i*3+t<G.size:=by omega
  exact ⟨by show (w.cell? _).isSome=true;rw [World.cell?];simp [hg];omega,by show w.frozen? _=false;simp [World.frozen?,hg]⟩
 obtain ⟨E,I⟩:∃ E,E=w.drew.setCells b (0+i*3) B:=⟨_,rfl⟩
 obtain ⟨af,H,c2⟩:=IT (g:=b) B (0+i*3) w.drew G hg;rw [←I] at H;obtain ⟨z,hz,ac,ad⟩:=z80;obtain ⟨zl,Z⟩:=xz z (n-(i+(n-j))) ac ad;obtain ⟨zs,Y⟩:∃ zs,(Builtin.zeroCells z.cells (n-(i+(n-j)))).toList=zs:=⟨_,rfl⟩
 rw [Y] at zl Z;have ao:∀ ty,(Builtin.clear_ #[35] ty #[.slice (some ⟨b,(i+(n-j))*3,none⟩) (n-(i+(n-j))) (c-(i+(n-j)))]).run Tryz.prog E=.ok (.tuple #[]) (E.setCells b ((i+(n-j))*3) zs):=
  λty=>xy E 35 80 ty z t35 hz b _ _ _ (by omega) zs Y Z (λt ht=>by
   have hb:(i+(n-j))*3+t<af.size:=by omega
   simp [World.cell?,H];omega) λt ht=>by simp [World.frozen?,H]
 refine ⟨zs,by rw [zl];omega,?_⟩;have hW:Hid (E=w.drew.setCells b (0+i*3) B):=I;have ap:i≤c:=by omega
 have ar:j≤c:=by omega
 have X:Aside (E=w.drew.setCells b (0+i*3) B):=I;clear I hg aa U O H c2 hz ac ad zl Z Y;have av:Tryz.prog.follows .mixedOrders=true:=by kernel_rfl
 go_enter Tryz.func111,Tryz.ntmps111
 go_wp2_with fail
 go_region_law_o (refine step_append_room rfl (.tmp 22) (.tmp 25) 35 rfl 80 i0 3 t35 ai ak b 0 i c (by simp [Act.eval,Act.put]) A (n-j) (c-j) B (by simp [Act.eval,Act.put]) s1.out aj.out s2.out (by omega) s3.out ?_;rw [←hW.out])
 go_wp2
 go_ret
 refine ⟨by rw [show n-(j-i)=i+(n-j) by omega];rfl,?_⟩;rw [X.out,M25]
end Go.T
namespace Go.T
open Go Go.E Go.V Go.Proofs
def S02 (o:JC):St:=⟨.lf,2,[],(Go.E.Tr.lf:Go.E.Tr JC).set AD 1 (some o),[]⟩
theorem QR {o:JC}(b:Nat):(S02 o).ow.get b=if b=1 then some o else none:=by
 show ((Go.E.Tr.lf:Go.E.Tr JC).set AD 1 (some o)).get b=_
 rw [Go.E.M4m _ _ _ _ _ (by unfold AD;omega)];rfl
theorem oI {e:Enc A3.den}(G:e.n=3)(hp:∀ (w w':World) cs x,e.R w [] cs x→e.R w' [] cs x){w:World}{a:Option Addr}{c i j:Nat}{xs:List A3.den}(h:OwnS e 80 w [] a c xs)(aA:i≤j)(hj:j≤xs.length) :
  CallVC Tryz.prog 111 [.slice a xs.length c,.int .i64 i,.int .i64 j] w λv w'=>v=.slice a (xs.take i++xs.drop j).length c∧Ev (Av a) w w'∧OwnS e 80 w' [] a c (xs.take i++xs.drop j):=by
 refine ⟨?_,⟨_,Tryz.func111,by kernel_rfl,by kernel_rfl⟩⟩;have ab:(xs.take i++xs.drop j).length=xs.length-(j-i):=by simp;omega
 rw [ab];rcases h with ⟨O,hc,hx⟩|⟨g,A,O,hg,h1,h2,h3,Z⟩
 subst O;subst hc;subst hx;have an:j=0:=by simpa using hj
 subst an;have am:i=0:=by omega
 subst am;exact (oG w).mono λe w' ⟨E,hw⟩=>⟨_,E,rfl,by rw [hw];exact Ev.refl _ _,.inl ⟨rfl,rfl,rfl⟩⟩
 subst O;have aa:c≤9223372036854775807:=by unfold maxLen at h2;omega
 by_cases ap:i<j;rw [G] at h3;have U:∀ (k:Nat) (x:A3.den),xs[k]? = some x→∃ cs,e.R w [] cs x∧cs.length=3∧(∀ v∈cs,v.oneCell'=true)∧∀ (m:Nat) (v:Value),cs[m]? = some v→A[k*3+m]? = some v:=λk x hk=>by
  obtain ⟨cs,B,H⟩:=Z k x hk;exact ⟨cs,B,by rw [←G];exact e.len B,e.one B,by rw [G] at H;exact H⟩
 have ar:∀ u∈(A.toList.drop (j*3)).take ((xs.length-j)*3),u.oneCell'=true:=λu hu=>by
  obtain ⟨t,ht,J⟩:=M3Q hu;have aq:t<(xs.length-j)*3:=by simp at ht;omega
  have Y:((A.toList.drop (j*3)).take ((xs.length-j)*3))[t]? = some u:=by rw [M00 ht,J]
  rw [M1r,M1d aq,M1C,M1E] at Y;have hk:j+t / 3<xs.length:=by omega
  obtain ⟨cs,_,H,k3,I⟩:=U (j+t / 3) _ (M00 hk);have hm:t%3<cs.length:=by omega
  have:=I (t%3) _ (M00 hm);rw [show (j+t / 3)*3+t%3=j*3+t by omega,Y] at this;have:=M1x this;rw [this];exact k3 _ (M03 hm)
 obtain ⟨zs,z1,key⟩:=fE g xs.length c i j w A 80 hg h3 ap hj h1 aa _ rfl ar;refine key.mono λe' w' ⟨E,hw⟩=>⟨_,E,rfl,?_⟩
 have ac:((A.toList.drop (j*3)).take ((xs.length-j)*3)).length=(xs.length-j)*3:=by simp;omega
 obtain ⟨c1,p1,p2,p3,p4,p5⟩:=B0 (g:=g) (T:=80) _ (i*3) w.drew A (by exact hg) (by rw [ac];omega);obtain ⟨c2,q1,q2,q3,q4,q5⟩:=B0 (g:=g) (T:=80) zs ((i+(xs.length-j))*3) _ c1 p1 (by omega);rw [ac] at p3 p4;rw [←hw] at q1 q5;have d0:Ev [g] w w.drew:=⟨rfl,rfl,rfl,M1g _,λ_ _ _=>rfl⟩
 refine ⟨(d0.then p5 λb hb=>.inl hb).then q5 λb hb=>.inl hb,.inr ⟨g,c2,rfl,q1,by rw [ab];omega,h2,by rw [G];omega,λk x hk=>?_⟩⟩;rw [G];by_cases ao:k<i;rw [M1f (by simp;omega),M1r,M1d ao] at hk;obtain ⟨cs,B,H,_,I⟩:=U k x hk;refine ⟨cs,hp _ _ _ _ B,λm v hv=>?_⟩;have hm:=(M09.1 hv).1;rw [q4 _ (.inl (by omega)),p4 _ (.inl (by omega))];exact I m v hv
 have au:(xs.take i).length=i:=by simp;omega
 rw [M1a (by omega),M1C,au] at hk;have aB:=(M09.1 hk).1;obtain ⟨cs,B,H,_,I⟩:=U _ x hk;refine ⟨cs,hp _ _ _ _ B,λm v hv=>?_⟩;have hm:=(M09.1 hv).1;rw [q4 _ (.inl (by omega)),show k*3+m=i*3+((k-i)*3+m) by omega,p3 _ (by omega),M1r,M1d (by omega),M1C,M1E,←I m v hv]
 congr 1;omega;have J:j=i:=by omega
 subst J;rw [M2m,M3B,M3f];refine (fD g xs.length c j w hj h1 aa).mono λe' w' ⟨E,hw⟩=>⟨_,E,rfl,?_,?_⟩
 rw [hw];exact Ev.refl _ _;rw [hw];exact .inr ⟨g,A,rfl,hg,h1,h2,h3,Z⟩
theorem M0i:AW Tryz.prog 111 (ub UZ):=λx y hy=>by
 obtain ⟨xs,i,j⟩:=x;change List A0 at xs y;change Int at i j;refine ⟨_,iB ⟨A3,80,xs,true⟩,rfl,λp w vargs hl _ _ hf A=>?_⟩;obtain ⟨v0,v1,v2,rfl⟩:=qC hl;have I:RV p (.own 0) v0:=hf 0 _ rfl;have h1:v1=.int .i64 i:=hf 1 (.int .i64 i) rfl;have h2:v2=.int .i64 j:=hf 2 (.int .i64 j) rfl;subst h1;subst h2;have g0:(iB ⟨A3,80,xs,true⟩).ow.get 0=some ⟨A3,80,xs,true⟩:=by rw [GA];rfl
 obtain ⟨a,c,rfl,hp,G,ho⟩:=Kj A g0 I rfl;have hy:(bif decide (0≤i)&&(decide (i≤j)&&decide (j≤ln xs)) then some (xs.take i.toNat++xs.drop j.toNat) else none)=some y:=hy;cases hb:decide (0≤i)&&(decide (i≤j)&&decide (j≤ln xs)) with
 | false=>rw [hb] at hy;cases hy
 | true=>
  rw [hb] at hy;cases hy;simp only [M05,M2R] at hb;obtain ⟨B,H,E⟩:=hb;have E:j≤xs.length:=E;obtain ⟨i,rfl⟩:=M1j B;obtain ⟨j,rfl⟩:=M1j (M3I B H);simp only [M1i];refine (oI (e:=eZ p A3) rfl (λ_ _ _ _ h=>h) ho (by omega) (by omega)).mono λv w' ⟨e,J,U⟩=>?_
  subst e;have O:RH p ⟨.lf,2,[],(iB ⟨A3,80,xs,true⟩).ow,[]⟩ w:=⟨A.at_,A.inj,A.lt,λb hb=>A.fr b (Nat.le_of_succ_le hb),⟨A.ro.zev,A.ro.zl,A.ro.mu,A.ro.ro,A.ro.inj,A.ro.sep⟩,A.gl⟩
  obtain ⟨Y,Z⟩:=O.newO (S':=S02 ⟨A3,80,xs.take i++xs.drop j,true⟩) (name:=1) (o:=⟨A3,80,xs.take i++xs.drop j,true⟩) (a':=a) (n':=(xs.take i++xs.drop j).length) (c':=c) (Ao:=Av a) (dr:=(· = 0)) (A.fr 1 (M1g _)) (M3t 1) rfl rfl rfl (λb o' hb=>by
    rw [QR] at hb;split at hb;rename_i e;cases hb;exact .inl ⟨e,rfl⟩;cases hb) (λo' hb=>by rw [QR,M1d rfl] at hb;cases hb;rfl) (λg hg=>⟨0,_,_,rfl,g0,rfl,hp,hg⟩) J (OwnX.y (M4t (by exact U))) (λg hg=>.inl hg)
  refine ⟨_,S02 ⟨A3,80,xs.take i++xs.drop j,true⟩,[_],[some 1],rfl,rfl,Y,⟨.own 1,p.seto 1 (a,(xs.take i++xs.drop j).length,c),[.own 1],rfl,⟨a,_,c,rfl,M4l _ _ _,G⟩,.inr ⟨1,a,_,c,rfl,rfl,M4l _ _ _,by rw [QR];rfl,G⟩,rfl⟩,λb hb=>?_,λi j b hi hj=>?_,λm hm=>absurd hm (M2M m),Z.mono λb e=>⟨M1O e.symm,by rw [e];exact M3t 1⟩⟩;simp only [M19,M1J] at hb;subst hb;exact ⟨_,by rw [QR];rfl,rfl⟩
  have one:∀ (k:Nat) (z:Option Nat),[some 1][k]? = some z→k=0:=λk z hk=>by
   cases k with
   | zero=>rfl
   | succ k=>simp at hk
  rw [one i _ hi,one j _ hj]
noncomputable def Kk (L:Lp) (A:List (Nat×List It)) (l:XQ) (p:Nat×Be):Ay p.2.ins→Option (Ay p.2.outs):=fnY L Tryz.prog (Ie L Tryz.prog [48,39,221,25,164,156,180,231,293] A l 4) A p.2.na p.2.sz p.2.bx p.2.ins p.2.outs p.1
def Ok (p:Nat×Be):Prop:=AW Tryz.prog p.1 p.2
def Oks:XQ→Prop
 | []=>True
 | p::l=>Ok p∧Oks l
theorem Oks.tab:∀ {l:XQ},Oks l→tabOK l
 | [],_=>trivial
 | (_,_)::_,⟨h,k⟩=>⟨h,Oks.tab k⟩
theorem sk {g na:Nat}{sz:List Nat}{bx:List (Nat×Pat)}{i o:List It}{le:Bool}{F B:Ay i→Option (Ay o)}{A:List (Nat×List It)}{l:XQ}(h:Kk std A l (g,⟨na,sz,bx,i,o,le,B⟩)=F)(k:Oks l):Ok (g,⟨na,sz,bx,i,o,le,F⟩):=
 oF BS YW k.tab λx _ e=>(congrFun h x).trans e
section
variable {L : Lp}
theorem c29:Kk L [(58,[zs 7 ti,zs 14 ti])] [] (S29 N)=B29 L:=by kernel_rfl
theorem s29:Ok (S29 z6):=sk c29 ⟨⟩
theorem c12 {a}:Kk L [(7,[]),(58,[zs 31 ti]),(250,[zs 47 ti,.ow 18 .bool]),(16025,[.ow 18 .bool]),(128202,[zs 54 ti,.ow 18 .bool])] [S29 a] (S12 N)=B12 L a:=by kernel_rfl
theorem s12:Ok (S12 F12):=sk c12 ⟨s29,⟨⟩⟩
theorem M5o:Kk L [(58,[zs 5 ti,zs 6 ti])] [] (rW N)=rV L:=by kernel_rfl
theorem M0j:Ok (rW cR):=sk M5o ⟨⟩
theorem M5p {a}:Kk L [(7,[]),(58,[zs 7 ti]),(250,[zs 9 ti,.ow 18 .bool]),(4004,[.ow 18 .bool]),(32034,[zs 10 ti,.ow 18 .bool])] [rW a] (zn N)=rY L a:=by kernel_rfl
theorem M5q:Ok (zn rZ):=sk M5p ⟨M0j,⟨⟩⟩
theorem c74:Kk L [(26,[zs 6 ti]),(1682,[zs 7 ti])] [] (qt N)=B74 L:=by kernel_rfl
theorem xC:Ok (qt cU):=sk c74 ⟨⟩
theorem M5r:Kk L [(26,[zs 8 ti])] [] (OS N)=zW L:=by kernel_rfl
theorem SP:Ok (OS ML):=sk M5r ⟨⟩
theorem M5s {a}:Kk L [(26,[zs 11 ti])] [OS a] (kY N)=zX L a:=by kernel_rfl
theorem oJ:Ok (kY kX):=sk M5s ⟨SP,⟨⟩⟩
end
section
def R0 (w:World):Go.E.Ren:=⟨λ_=>none,λ_=>none,w,[]⟩
variable {w:World}
theorem M0k(hg:GlP (R0 w)):RH (R0 w) OU w:=⟨λ_ _ _ _ _ h=>(by cases h),λ_ _ _ _ h=>(by cases h),λ_ _ h=>(by cases h),λ_ _=>⟨rfl,rfl⟩,⟨Ev.refl _ _,λ_ _ h=>(by cases h),λ_ _ _ _ _ h=>(by cases h),λ_ _ _ _ _ h=>(by cases h),λ_ _ _ _ _ _ h=>(by cases h),λ_ _ _ _ _ h=>(by cases h)⟩,hg⟩
theorem OC {w':World}(hg:GlP (R0 w))(A:Ev [] w w'):GlP (R0 w'):=hg.mono ⟨λ_ _ h=>h,λ_ _ h=>h,Stp.same A λ_ h=>(by cases h)⟩
variable {g:Nat}
theorem Ko {P:Program}{na:Nat}{ins outs:List It}{lend:Bool}{F:Ay ins→Option (Ay outs)}(hs:AW P g ⟨na,[],[],ins,outs,lend,F⟩){x:Ay ins}{y:Ay outs}(G:F x=some y){E:GF}(J:UL [] [] ins x=some (E,OU))(I:CA [] outs=true){vargs:List Value}(hl:vargs.length=na)(hg:GlP (R0 w))(hf:RF' (R0 w) E (BC vargs)) :
  CallVC P g vargs w λv w'=>Ev [] w w'∧∃ q S' B ow,v=Hd B∧B.length=Hn outs∧IOWs q w' (G3 B) S' outs y ow:=by
 obtain ⟨f1,Y,O,H⟩:=hs x y G;obtain ⟨rfl,rfl⟩:=Prod.mk.inj (M1x (O.symm.trans J));refine (H (R0 w) w vargs hl (λm hm=>absurd hm (M2M m)) I hf (M0k hg)).mono λv w' hv=>?_
 obtain ⟨q,S',B,ow,hp,hl,hq,U,_,_,_,A⟩:=hv;refine ⟨⟨A.os,A.tape,A.output,A.size,λk hk _=>A.out k hk λhb=>?_⟩,q,S',B,ow,hp,hl,U⟩;rcases hb with ⟨b,x,e,_⟩|⟨b,y,e,_⟩ <;> cases e
variable {t:Ty}
theorem SU {q:Go.E.Ren}{S:St}{x:t.den}{i:Nat}{fr:Fr}{ow:List (Option Nat)}{v u:Value}(h:IOW q w fr S (.slot i (.d t)) x ow)(A:Zw (.d t)=false)(hf:fr i=v)(B:∀ zw zM vs,(eT t).R zw zM vs x→vs=[u]):v=u:=by
 obtain ⟨g,q0,l,h1,h2,h3,_⟩:=h;rw [hf] at h2 h3;have h3:(eT t).R q.zw q.zM v.cells.toList x:=h3;have:=B _ _ _ h3;rw [Ds h2 (h1.symm.trans A)] at this;exact (List.cons.inj this).1
variable {x:GV}
theorem rf3{A:GF}{a b c:Value}{y z:GV}(hf:A=((Go.E.Tr.lf.set AD 0 (some x)).set AD 1 (some y)).set AD 2 (some z))(B:RV (R0 w) x a)(hb:RV (R0 w) y b)(G:RV (R0 w) z c):RF' (R0 w) A (BC [a,b,c]):=λt g hg=>by
 subst hf;rw [Go.E.M4m _ _ _ _ _ (by unfold AD;omega)] at hg;split at hg;rename_i e;subst e;cases hg;exact G;rw [Go.E.M4m _ _ _ _ _ (by unfold AD;omega)] at hg;split at hg;rename_i e;subst e;cases hg;exact hb;rw [Go.E.M4m _ _ _ _ _ (by unfold AD;omega)] at hg;split at hg;rename_i e;subst e;cases hg;exact B;cases hg
theorem rf2{A:GF}{a b:Value}{y:GV}(hf:A=(Go.E.Tr.lf.set AD 0 (some x)).set AD 1 (some y))(B:RV (R0 w) x a)(hb:RV (R0 w) y b):RF' (R0 w) A (BC [a,b]):=λt g hg=>by
 subst hf;rw [Go.E.M4m _ _ _ _ _ (by unfold AD;omega)] at hg;split at hg;rename_i e;subst e;cases hg;exact hb;rw [Go.E.M4m _ _ _ _ _ (by unfold AD;omega)] at hg;split at hg;rename_i e;subst e;cases hg;exact B;cases hg
theorem JO{xs:List t.den}{a:Option Addr}{c:Nat}(h:SlR (eT t) w [] a c xs):RV (R0 w) (.ro t xs) (.slice a (List.length xs) c):=by
 have:∃ a' c',[Value.slice a (List.length xs) c]=[.slice a' (List.length xs) c']∧SlR (eT t) w [] a' c' xs:=⟨a,c,rfl,h⟩
 exact this
variable {n:Int}
theorem xD{k:IntKind}:RV (R0 w) (.int k n) (.int k n):=rfl
theorem M0l {l:List Value}(h:l.length=2):∃ a b,l=[a,b]:=by
 match l,h with
 | [a,b],_=>exact ⟨a,b,rfl⟩
abbrev xE:Ty:=.sl (.pair .str ti)
variable {A B:Nat}{L:List Int}{s:Bp}
theorem Wy{F:Ay [.slot 0 (.d xE),.slot 1 (.d (.sl ti)),.slot 2 (.d (.sl (.sl ti)))]→Option Bool}(hs:AW Tryz.prog g ⟨3,[],[],[.slot 0 (.d xE),.slot 1 (.d (.sl ti)),.slot 2 (.d (.sl (.sl ti)))],[.slot 1000000 (.d .bool)],true,F⟩){T:G8}{y:Bool}(I:F (T,L,s)=some y)(hg:GlP (R0 w)){a0 a1 a2:Option Addr}{c0:Nat}(G:SlR (eT (.pair .str ti)) w [] a0 c0 T)(h1:SlR (eT ti) w [] a1 A L)(h2:SlR (eT (.sl ti)) w [] a2 B s) :
  Calls Tryz.prog g #[.slice a0 T.length c0,.slice a1 L.length A,.slice a2 s.length B] w λe w'=>e=.returned (.bool y)∧Ev [] w w':=by
 have h3:RF' (R0 w) _ (BC [.slice a0 T.length c0,.slice a1 L.length A,.slice a2 s.length B]):=rf3 (x:=.ro (.pair .str ti) T) (y:=.ro ti L) (z:=.ro (.sl ti) s) rfl (JO G) (JO h1) (JO h2);have U:UL [] [] [.slot 0 (.d xE),.slot 1 (.d (.sl ti)),.slot 2 (.d (.sl (.sl ti)))] (T,L,s)=some (((Go.E.Tr.lf.set AD 0 (some (.ro (.pair .str ti) T))).set AD 1 (some (.ro ti L))).set AD 2 (some (.ro (.sl ti) s)),OU):=rfl;have J:CA [] [.slot 1000000 (.d .bool)]=true:=rfl;refine (Ko hs I U J (vargs:=[.slice a0 T.length c0,.slice a1 L.length A,.slice a2 s.length B]) rfl hg h3).run.mono λe w' h=>?_
 obtain ⟨v,O,H,q,S',Z,ow,hp,hl,Y⟩:=h;refine ⟨?_,H⟩;obtain ⟨u,rfl⟩:=Wt (l:=Z) hl;have hp:v=u:=hp;have:=SU (u:=.bool y) (fr:=G3 [u]) (v:=u) Y rfl rfl λ_ _ _ h=>h
 rw [O,hp,this]
theorem QT{F:Ay [.slot 0 (.d (.sl (.sl ti))),.slot 1 (.d ti)]→Option (Int×Int)}(hs:AW Tryz.prog g ⟨2,[],[],[.slot 0 (.d (.sl (.sl ti))),.slot 1 (.d ti)],[.slot 1000000 (.d ti),.slot 1000001 (.d ti)],true,F⟩){x:Int}{y:Int×Int}(J:F (s,x)=some y)(hg:GlP (R0 w)){a2:Option Addr}(h2:SlR (eT (.sl ti)) w [] a2 A s) :
  Calls Tryz.prog g #[.slice a2 s.length A,.int .i64 x] w λe w'=>e=.returned (.tuple #[.int .i64 y.1,.int .i64 y.2])∧Ev [] w w':=by
 have h3:RF' (R0 w) _ (BC [.slice a2 s.length A,.int .i64 x]):=rf2 (x:=.ro (.sl ti) s) (y:=.int .i64 x) rfl (JO h2) xD;have Y:UL [] [] [.slot 0 (.d (.sl (.sl ti))),.slot 1 (.d ti)] (s,x)=some ((Go.E.Tr.lf.set AD 0 (some (.ro (.sl ti) s))).set AD 1 (some (.int .i64 x)),OU):=rfl;have O:CA [] [.slot 1000000 (.d ti),.slot 1000001 (.d ti)]=true:=rfl;refine (Ko hs J Y O (vargs:=[.slice a2 s.length A,.int .i64 x]) rfl hg h3).run.mono λe w' h=>?_
 obtain ⟨v,U,I,q,S',ac,ow,hp,hl,Z⟩:=h;refine ⟨?_,I⟩;obtain ⟨u,B,rfl⟩:=M0l (l:=ac) hl;have hp:v=.tuple #[u,B]:=hp;obtain ⟨oa,ob,_,i1,i2⟩:=Z;have G:=SU (u:=.int .i64 y.1) (fr:=G3 [u,B]) (v:=u) i1 rfl rfl λ_ _ _ h=>h
 have H:=SU (u:=.int .i64 y.2) (fr:=G3 [u,B]) (v:=B) i2 rfl rfl λ_ _ _ h=>h
 rw [U,hp,G,H]
theorem M0m {r:List Int}{y:Int}(H:cR (L,r)=some y)(hg:GlP (R0 w)){a1 a2:Option Addr}(h1:SlR (eT ti) w [] a1 A L)(h2:SlR (eT ti) w [] a2 B r) :
  Calls Tryz.prog 190 #[.slice a1 L.length A,.slice a2 r.length B] w λe w'=>e=.returned (.int .i64 y)∧Ev [] w w':=by
 have h3:RF' (R0 w) _ (BC [.slice a1 L.length A,.slice a2 r.length B]):=rf2 (x:=.ro ti L) (y:=.ro ti r) rfl (JO h1) (JO h2);have O:UL [] [] [.slot 0 (.d (.sl ti)),.slot 1 (.d (.sl ti))] (L,r)=some ((Go.E.Tr.lf.set AD 0 (some (.ro ti L))).set AD 1 (some (.ro ti r)),OU):=rfl;have I:CA [] [.slot 1000000 (.d ti)]=true:=rfl;refine (Ko M0j H O I (vargs:=[.slice a1 L.length A,.slice a2 r.length B]) rfl hg h3).run.mono λe w' h=>?_
 obtain ⟨v,J,G,q,S',Y,ow,hp,hl,U⟩:=h;refine ⟨?_,G⟩;obtain ⟨u,rfl⟩:=Wt (l:=Y) hl;have hp:v=u:=hp;have:=SU (u:=.int .i64 y) (fr:=G3 [u]) (v:=u) U rfl rfl λ_ _ _ h=>h
 rw [J,hp,this]
theorem xF {nm:List UInt8}{r:List Int}{y:Int}(H:z6 ((nm,n),L,r)=some y)(hg:GlP (R0 w)){a1 a2:Option Addr}(h1:SlR (eT ti) w [] a1 A L)(h2:SlR (eT ti) w [] a2 B r) :
  Calls Tryz.prog 29 #[.agg #[Vs nm,.int .i64 n],.slice a1 L.length A,.slice a2 r.length B] w λe w'=>e=.returned (.int .i64 y)∧Ev [] w w':=by
 have h3:RF' (R0 w) _ (BC [.agg #[Vs nm,.int .i64 n],.slice a1 L.length A,.slice a2 r.length B]):=rf3 (x:=.agg [.str nm,.int .i64 n]) (y:=.ro ti L) (z:=.ro ti r) rfl ⟨[_,_],rfl,rfl,rfl,trivial⟩ (JO h1) (JO h2);have O:UL [] [] [.slot 0 (.d (.pair .str ti)),.slot 1 (.d (.sl ti)),.slot 2 (.d (.sl ti))] ((nm,n),L,r)=some (((Go.E.Tr.lf.set AD 0 (some (.agg [.str nm,.int .i64 n]))).set AD 1 (some (.ro ti L))).set AD 2 (some (.ro ti r)),OU):=rfl;have I:CA [] [.slot 1000000 (.d ti)]=true:=rfl;refine (Ko s29 H O I (vargs:=[.agg #[Vs nm,.int .i64 n],.slice a1 L.length A,.slice a2 r.length B]) rfl hg h3).run.mono λe w' h=>?_
 obtain ⟨v,J,G,q,S',Y,ow,hp,hl,U⟩:=h;refine ⟨?_,G⟩;obtain ⟨u,rfl⟩:=Wt (l:=Y) hl;have hp:v=u:=hp;have:=SU (u:=.int .i64 y) (fr:=G3 [u]) (v:=u) U rfl rfl λ_ _ _ h=>h
 rw [J,hp,this]
end
end Go.T
