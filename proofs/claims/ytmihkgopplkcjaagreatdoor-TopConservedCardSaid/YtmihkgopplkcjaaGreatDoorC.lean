/- Part C of the proof of TopConserved. No condition. -/
import Derived.Test.YtmihkgopplkcjaaGreatDoorProg
import Derived.Shelf.Slices.Delete
import Derived.Shelf.Spec.SlicesInsert
import Derived.Shelf.Spec.SlicesInsertGrow
import Derived.Test.YtmihkgopplkcjaaGreatDoorB
set_option linter.all false
set_option maxRecDepth 1000000
set_option maxHeartbeats 0
namespace Go.E
open Go Go.V
section
variable {p:Ren}{S S':St}{w:World}
theorem RH.sub(h:RH p S w)(h1:S'.h=S.h)(h2:S.nx≤S'.nx)(h3:∀ b o,S'.ow.get b=some o→S.ow.get b=some o):RH p S' w:=
 ⟨λb r base n g a1 a2=>h.at_ b r base n g a1 (by rw [←h1];exact a2),λb b' x x' a1 a2 a3 a4=>h.inj b b' x x' a1 a2 (by rw [←h1];exact a3) (by rw [←h1];exact a4),h.lt,λb hb=>h.fr b (M1B h2 hb),
  ⟨h.ro.zev,λb x a1 a2=>h.ro.zl b x a1 (by rw [←h1];exact a2),λb o a n c a1 a2 a3=>h.ro.mu b o a n c (h3 b o a1) a2 a3,λb o a n c a1 a2 a3=>h.ro.ro b o a n c (h3 b o a1) a2 a3,
   λb b' o o' y y' a1 a2 a3 a4 a5 A=>h.ro.inj b b' o o' y y' (h3 b o a1) (h3 b' o' a2) a3 a4 a5 A,λb o y b' x a1 a2 a3 a4 a5=>h.ro.sep b o y b' x (h3 b o a1) a2 a3 a4 (by rw [←h1];exact a5)⟩,h.gl⟩
variable {S1 S2:St}
theorem M4P {q:Ren}(h:RH q S1 w)(E:Nat→Option (Nat×Nat×Nat))(o2:Nat→Option (Option Addr×Nat×Nat))(ν I:Nat→Nat)
  (hm:∀ b x,E b=some x→∃ y,q (ν b)=some y∧y.1=x.1)
  (J:∀ b r base n g,E b=some (r,base,n)→S2.h.get b=some g→S1.h.get (ν b)≠none∧RB ⟨E,o2,q.zw,q.zM⟩ w r base n g)
  (ah:∀ b b',E b≠none→E b'≠none→S2.h.get b≠none→S2.h.get b'≠none→ν b=ν b'→b=b')
  (ho:∀ b o y,S2.ow.get b=some o→o2 b=some y→(S1.ow.get (I b)=some o∧q.ov (I b)=some y)∨(y=(none,0,0)∧o.xs=[]))
  (ag:∀ b b' y y',S2.ow.get b≠none→S2.ow.get b'≠none→o2 b=some y→o2 b'=some y'→Av y.1≠[]→Av y'.1≠[]→I b=I b'→b=b')
  (hf:∀ b,S2.nx≤b→E b=none∧o2 b=none):RH ⟨E,o2,q.zw,q.zM⟩ S2 w:=by
 have aa:∀ {b o y},S2.ow.get b=some o→o2 b=some y→∀ g∈Av y.1,S1.ow.get (I b)=some o∧q.ov (I b)=some y:=λ{b o y} h1 h2 g hg=>by
  rcases ho b o y h1 h2 with h3|⟨rfl,_⟩;exact h3;cases hg
 refine ⟨λb r base n g h1 h2=>(J b r base n g h1 h2).2,λb b' x x' h1 h2 h3 G he=>?_,λb x h1=>?_,λb hb=>hf b hb,⟨h.ro.zev,λb x h1 h2=>?_,λb o a n c h1 h2 h3=>?_,λb o a n c h1 h2 h3=>?_,λb b' o o' y y' h1 h2 h3 G Y h6 g hg H=>?_,λb o y b' x h1 h2 h3 G Y hg=>?_⟩,h.gl.same rfl rfl⟩;obtain ⟨y,A,B⟩:=hm b x h1;obtain ⟨y',O,U⟩:=hm b' x' h2;cases hg:S2.h.get b with
 | none=>exact absurd hg h3
 | some g=>
  cases H:S2.h.get b' with
  | none=>exact absurd H G
  | some g'=>
   have a1:=(J b x.1 x.2.1 x.2.2 g h1 hg).1;have a2:=(J b' x'.1 x'.2.1 x'.2.2 g' h2 H).1;exact ah b b' (by rw [show E b=some x from h1];simp) (by rw [show E b'=some x' from h2];simp) h3 G (h.inj _ _ y y' A O a1 a2 (by rw [B,U];exact he))
 obtain ⟨y,A,B⟩:=hm b x h1;rw [←B];exact h.lt _ y A;obtain ⟨y,A,B⟩:=hm b x h1;cases hg:S2.h.get b with
 | none=>exact absurd hg h2
 | some g=>
  have a1:=(J b x.1 x.2.1 x.2.2 g h1 hg).1;have:=h.ro.zl _ y A a1;rw [B] at this;exact this
 rcases ho b o _ h1 h3 with ⟨A,B⟩|⟨e,Z⟩;exact h.ro.mu _ o a n c A h2 B;cases e;exact ⟨by rw [Z];exact ⟨λ_=>⟨rfl,.inl ⟨rfl,rfl,rfl⟩,λ_=>.inl ⟨rfl,rfl,rfl⟩⟩,λh=>absurd h (M2M _)⟩,λg hg=>by cases hg⟩;rcases ho b o _ h1 h3 with ⟨A,B⟩|⟨e,Z⟩;exact h.ro.ro _ o a n c A h2 B;cases e;exact ⟨by rw [Z];rfl,by rw [Z];exact M4r _ _ _⟩;obtain ⟨A,B⟩:=aa h1 Y g hg;obtain ⟨O,U⟩:=aa h2 h6 g H;have e:=h.ro.inj _ _ o o' y y' A O h3 G B U g hg H;exact ag b b' y y' (by rw [h1];simp) (by rw [h2];simp) Y h6 (λhb=>by rw [hb] at hg;cases hg) (λhb=>by rw [hb] at H;cases H) e;obtain ⟨A,B⟩:=aa h1 h3 _ hg;obtain ⟨y',O,U⟩:=hm b' x G;cases ac:S2.h.get b' with
 | none=>exact absurd ac Y
 | some gb=>
  have a1:=(J b' x.1 x.2.1 x.2.2 gb G ac).1;have:=h.ro.sep _ o y _ y' A h2 B O a1;rw [U] at this;exact this hg
mutual
theorem RV.low {p q q2:Ren}(hl:Le p q)(hm:∀ b x,p b=some x→q2 b=some x)(ho:∀ b x,p.ov b=some x→q2.ov b=some x)(A:q2.zw=q.zw∧q2.zM=q.zM):∀ (g:GV) (B v:Value),RV p g B→RV q g v→RV q2 g v
 | .bool _,_,_,_,r=>r
 | .int _ _,_,_,_,r=>r
 | .str _,_,_,_,r=>r
 | .nilp,_,_,_,r=>r
 | .ptr b off,_,_,⟨_,_,_,h0,_⟩,⟨r,base,n,h1,h2⟩=>⟨r,base,n,by rw [hm b _ h0,←hl.m b _ h0];exact h1,h2⟩
 | .nils,_,_,_,r=>r
 | .sl b off len c,_,_,⟨_,_,_,_,h0,_⟩,⟨r,base,n,cap,h1,h2⟩=>⟨r,base,n,cap,by rw [hm b _ h0,←hl.m b _ h0];exact h1,h2⟩
 | .sle,_,_,_,r=>r
 | .nilm,_,_,_,r=>r
 | .map b,_,_,⟨_,h0,_⟩,⟨r,h1,h2⟩=>⟨r,by rw [hm b _ h0,←hl.m b _ h0];exact h1,h2⟩
 | .nilf,_,_,_,r=>r
 | .func f a c,_,_,⟨va0,vc0,_,k2,k3⟩,⟨va,vc,h1,h2,h3⟩=>⟨va,vc,h1,RVs.low hl hm ho A a va0 va k2 h2,RVs.low hl hm ho A c vc0 vc k3 h3⟩
 | .agg l,_,_,⟨vs0,_,k2⟩,⟨vs,h1,h2⟩=>⟨vs,h1,RVs.low hl hm ho A l vs0 vs k2 h2⟩
 | .tup l,_,_,⟨vs0,_,k2⟩,⟨vs,h1,h2⟩=>⟨vs,h1,RVs.low hl hm ho A l vs0 vs k2 h2⟩
 | .ro t xs,_,v,_,r=>by
  have r:(eT (.sl t)).R q.zw q.zM [v] xs:=r;show (eT (.sl t)).R q2.zw q2.zM [v] xs
  rw [A.1,A.2];exact r
 | .rop l off,_,_,⟨_,vs0,_,_,k3⟩,⟨ad,vs,h1,h2,h3⟩=>⟨ad,vs,h1,by rw [A.1,A.2];exact h2,RVs.low hl hm ho A l vs0 vs k3 h3⟩
 | .own b,_,_,⟨_,_,_,_,h0,_⟩,⟨a,n,c,h1,h2,h3⟩=>⟨a,n,c,h1,by rw [ho b _ h0,←hl.o b _ h0];exact h2,h3⟩
 | .elp b t i off x,_,_,⟨_,_,_,h0,_⟩,⟨g,n,c,h1,h2⟩=>⟨g,n,c,by rw [ho b _ h0,←hl.o b _ h0];exact h1,h2⟩
 | .mapo b,_,_,⟨_,_,_,h0,_⟩,⟨g,n,c,h1,h2⟩=>⟨g,n,c,by rw [ho b _ h0,←hl.o b _ h0];exact h1,h2⟩
 | .vw b sz lo n cp,_,_,⟨_,_,_,_,h0,_⟩,⟨a,m,c,k,h1,h2⟩=>⟨a,m,c,k,by rw [ho b _ h0,←hl.o b _ h0];exact h1,h2⟩
theorem RVs.low {p q q2:Ren}(hl:Le p q)(hm:∀ b x,p b=some x→q2 b=some x)(ho:∀ b x,p.ov b=some x→q2.ov b=some x)(B:q2.zw=q.zw∧q2.zM=q.zM):∀ (l:List GV) (A vs:List Value),RVs p l A→RVs q l vs→RVs q2 l vs
 | [],[],[],_,_=>trivial
 | g::l,v0::A,v::vs,⟨k1,k2⟩,⟨h1,h2⟩=>⟨RV.low hl hm ho B g v0 v k1 h1,RVs.low hl hm ho B l A vs k2 h2⟩
 | [],_::_,_,h,_=>h.elim
 | [],[],_::_,_,h=>h.elim
 | _::_,[],_,h,_=>h.elim
 | _::_,_::_,[],_,h=>h.elim
end
theorem RM.low {p q q2:Ren}(hl:Le p q)(hm:∀ b x,p b=some x→q2 b=some x)(ho:∀ b x,p.ov b=some x→q2.ov b=some x)(A:q2.zw=q.zw∧q2.zM=q.zM):∀ {l:List (GV×GV)} {B es:List MapEntry},RM p l B→RM q l es→RM q2 l es
 | [],[],[],_,_=>trivial
 | (k,v)::l,e0::B,e::es,⟨⟨a1,a2⟩,a3⟩,⟨⟨b1,b2⟩,b3⟩=>⟨⟨RV.low hl hm ho A k _ _ a1 b1,RV.low hl hm ho A v _ _ a2 b2⟩,RM.low hl hm ho A a3 b3⟩
 | [],_::_,_,h,_=>h.elim
 | [],[],_::_,_,h=>h.elim
 | _::_,[],_,h,_=>h.elim
 | _::_,_::_,[],_,h=>h.elim
theorem M4E {p:Ren}:∀ {l:List GV} {vs:List Value},vs.length=l.length→(∀ (k:Nat) (g:GV) (v:Value),l[k]? = some g→vs[k]? = some v→RV p g v)→RVs p l vs
 | [],[],_,_=>trivial
 | g::l,v::vs,h,hk=>⟨hk 0 g v rfl rfl,M4E (by simpa using h) λk g v h1 h2=>hk (k+1) g v (by simpa using h1) (by simpa using h2)⟩
 | [],_::_,h,_=>by cases h
 | _::_,[],h,_=>by cases h
structure Fz (S S':St):Prop where
 h:S'.h=S.h
 nx:S'.nx=S.nx
 df:S'.df=S.df
 mu:∀ b o,S'.ow.get b=some o→o.mu=true→S.ow.get b=some o
theorem Fz.refl (S:St):Fz S S:=⟨rfl,rfl,rfl,λ_ _ h _=>h⟩
variable {A:St}
theorem Fz.trans(h:Fz S S')(k:Fz S' A):Fz S A:=⟨k.h.trans h.h,k.nx.trans h.nx,k.df.trans h.df,λb o a1 a2=>h.mu b o (k.mu b o a1 a2) a2⟩
theorem Mm:∀ {l B:List GV} {S S':St},IZ S l=some (B,S')→Fz S S'
 | [],B,S,S',h=>by cases h;exact .refl _
 | g::l,B,S,S',h=>by
  unfold IZ at h;split at h;rename_i e;cases e;rename_i b _ e;cases e;split at h;rename_i o ho;split at h;rename_i S1 A;split at h;rename_i hr;cases h;refine Fz.trans ?_ (Mm hr);split at A;obtain ⟨s1,s2,s3,_,s5⟩:=Ak A;refine ⟨s1,s2,s3,λb' o' a1 a2=>?_⟩;rw [s5] at a1;split at a1;cases a1;cases a2;exact a1;cases A;exact .refl _;cases h;cases h;cases h;rename_i b _ _ _ _ _ e;cases e;split at h;rename_i o ho;split at h;rename_i S1 _ A;split at h;rename_i hr;cases h;refine Fz.trans ?_ (Mm hr);split at A;obtain ⟨s1,s2,s3,_,s5⟩:=Ak A;refine ⟨s1,s2,s3,λb' o' a1 a2=>?_⟩;rw [s5] at a1;split at a1;cases a1;cases a2;exact a1;cases A;exact .refl _;cases h;cases h;cases h;rename_i e;cases e;split at h;rename_i hr;cases h;exact Mm hr;cases h
def SOK (q:Ren) (S:St):(s:Sh)→List GV→s.den→List Value→Prop
 | .d t,_,x,vs=>(eT t).R q.zw q.zM vs x
 | .own t T,l,x,vs=>(l=[.nils]∧vs=[.slice none 0 0]∧x=([]:List t.den))∨∃ b a n c,l=[.own b]∧vs=[.slice a n c]∧q.ov b=some (a,n,c)∧S.ow.get b=some ⟨t,T,x,true⟩∧c≤maxLen
variable {s:Sh}{l:List GV}{vs:List Value}
theorem ZZ{x:s.den}{q:Ren}(h:qe S s l=some (x,S'))(hv:RVs q l vs)(A:RH q S w):∃ q',Gh q S w q' S'∧Fz S S'∧SOK q' S s l x vs∧∀ nm,Lg nm S S':=by
 unfold qe at h;split at h;split at h;rename_i c S1 hf;obtain ⟨O,H,r1⟩:=DG hf hv A;split at h;rename_i y hp;cases h;obtain ⟨us,ws,B,E,G⟩:=Dg _ hp r1
 match ws,G with
 | [],_=>
  rw [M1w] at B;subst B;exact ⟨O,H,Mm hf,E,λnm=>D7 hf⟩
 cases h;cases h;cases h;obtain ⟨v,rfl,h1⟩:=RVs.one hv;have h1:v=.slice none 0 0:=h1;subst h1;exact ⟨q,Gh.refl A,.refl _,.inl ⟨rfl,rfl,rfl⟩,λnm=>.refl _ _⟩;split at h;rename_i o ho;split at h;rename_i e hm _;cases h;obtain ⟨v,rfl,a,n,c,rfl,hp,I⟩:=RVs.one hv;obtain ⟨Y,U,Z,J⟩:=o;subst e;simp only [M05] at hm;obtain ⟨hm,hT⟩:=hm;have hT:=M0g hT;have hm:J=true:=hm;subst hm hT;exact ⟨q,Gh.refl A,.refl _,.inr ⟨_,a,n,c,rfl,rfl,hp,ho,I⟩,λnm=>.refl _ _⟩
 cases h;cases h;cases h
variable {q':Ren}
theorem SOK.mono {q:Ren}{x:s.den}(h:SOK q S s l x vs)(hl:Le q q')(E:∀ b o,some b∈Ep s l→S.ow.get b=some o→S'.ow.get b=some o):SOK q' S' s l x vs:=by
 cases s with
 | d t=>exact (eT t).step h hl.z
 | own t T=>
  rcases h with h|⟨b,a,n,c,h1,h2,h3,A,B⟩;exact .inl h;exact .inr ⟨b,a,n,c,h1,h2,hl.o _ _ h3,E b _ (by rw [h1];simp [Ep]) A,B⟩
def IOK (q:Ren) (w:World) (fr:Fr) (f:GF) (S:St):(i:It)→i.den→Prop
 | .slot i s,x=>∃ g,f.get i=some g∧Zw s=Q7 g∧RV q g (fr i)∧SOK q S s g.ats x (fr i).cells.toList
 | .cell b i s,x=>∃ l vs r base n,Bc S b i s.sz=some l∧q b=some (r,base,n)∧CellsAt w [] ⟨r,base+i,none⟩ vs∧vs.length=s.sz∧SOK q S s l x vs
 | .ow b t,x=>∃ T,S.ow.get b=some ⟨t,T,x,true⟩
def IOKs (q:Ren) (w:World) (fr:Fr) (f:GF) (S:St):(l:List It)→Ay l→Prop
 | [],_=>True
 | [i],x=>IOK q w fr f S i x
 | i::j::l,x=>IOK q w fr f S i x.1∧IOKs q w fr f S (j::l) x.2
theorem Mn(h:S'.h=S.h)(b i n:Nat):Bc S' b i n=Bc S b i n:=by unfold Bc;rw [h]
theorem jg {f:GF}(h:S'.h=S.h)(i:It):Er f S' i=Er f S i:=by
 cases i <;> simp only [Er]
 rw [Mn h]
theorem DJ {f:GF}{S S':St}(h:S'.h=S.h):∀ l:List It,AM f S' l=AM f S l
 | []=>rfl
 | i::l=>by unfold AM;rw [jg h,DJ h l]
variable {fr:Fr}{i:It}{x:i.den}
theorem IOK.mono {q:Ren}{f:GF}(h:IOK q w fr f S i x)(hl:Le q q')(G:S'.h=S.h)(B:∀ b o,some b∈Er f S i++U4 [i]→S.ow.get b=some o→S'.ow.get b=some o):IOK q' w fr f S' i x:=by
 cases i with
 | slot i s=>
  obtain ⟨g,h1,h2,h3,A⟩:=h;exact ⟨g,h1,h2,h3.mono hl,A.mono hl λb o e ho=>B b o (by simp only [Er,h1,M1b];exact .inl e) ho⟩
 | cell b i s=>
  obtain ⟨l,vs,r,base,n,h1,h2,h3,A,E⟩:=h;exact ⟨l,vs,r,base,n,by rw [Mn G];exact h1,hl.m _ _ h2,h3,A,E.mono hl λb' o e ho=>B b' o (by simp only [Er,h1,M1b];exact .inl e) ho⟩
 | ow b t=>
  obtain ⟨T,h1⟩:=h;exact ⟨T,B b _ (by simp [U4]) h1⟩
variable {b n:Nat}
theorem UK {q:Ren}(h:RH q S w){i:Nat}(A:Bc S b i n=some l){r base m:Nat}(hp:q b=some (r,base,m)):∃ vs,RVs q l vs∧vs.length=n∧CellsAt w [] ⟨r,base+i,none⟩ vs:=by
 unfold Bc at A;split at A;rename_i l0 hl;exact h.cells hp hl A;cases A
theorem aM {f:GF}{q:Ren}(h:qf f S i=some (x,S'))(hf:RF' q f fr)(B:RH q S w)(hn:∀ b k s,i=.cell b k s→q b≠none) :
  ∃ q',Gh q S w q' S'∧Fz S S'∧IOK q' w fr f S i x∧∀ nm,Lg nm S S':=by
 unfold qf at h;cases i with
 | slot i s=>
  simp only at h;split at h;rename_i g hg;split at h;rename_i I;have hv:=hf i g hg;obtain ⟨q',A,E,G,H⟩:=ZZ h hv.ats B;exact ⟨q',A,E,⟨g,hg,by simpa using I,hv.mono A.le,G⟩,H⟩;cases h;cases h
 | cell b i s=>
  simp only at h;split at h;rename_i l hl;cases hp:q b with
  | none=>exact absurd hp (hn b i s rfl)
  | some y=>
   obtain ⟨r,base,m⟩:=y;obtain ⟨vs,h1,h2,h3⟩:=UK B hl hp;obtain ⟨q',A,E,G,H⟩:=ZZ h h1 B;exact ⟨q',A,E,⟨l,vs,r,base,m,hl,by rw [A.m];exact hp,h3,h2,G⟩,H⟩
  cases h
 | ow b t=>
  simp only at h;split at h;rename_i o ho;split at h;rename_i e hm _;cases h;obtain ⟨U,J,Y,O⟩:=o;subst e;have hm:O=true:=hm;subst hm;exact ⟨q,Gh.refl B,.refl _,⟨J,ho⟩,λnm=>.refl _ _⟩;cases h;cases h
theorem Ia {f:GF}{w:World}{fr:Fr}:∀ {its:List It} {S S':St} {t:Ay its} {q:Ren},Eo f its S=some (t,S')→RF' q f fr→RH q S w→(∀ b k s,.cell b k s∈its→q b≠none)→
  (∀ b,some b∈AM f S its++U4 its→∃ o,S'.ow.get b=some o∧o.mu=true)→∃ q',Gh q S w q' S'∧Fz S S'∧IOKs q' w fr f S' its t∧∀ nm,Lg nm S S'
 | [],S,S',t,q,h,hf,hh,hn,ho=>by
  cases h;exact ⟨q,Gh.refl hh,.refl _,trivial,λ_=>.refl _ _⟩
 | [i],S,S',t,q,h,hf,hh,hn,ho=>by
  obtain ⟨q',B,A,H,I⟩:=aM (i:=i) h hf hh λb k s e=>hn b k s (by rw [e];simp)
  refine ⟨q',B,A,H.mono (Le.refl _) A.h λb o hb h1=>?_,I⟩;obtain ⟨o',E,G⟩:=ho b (by simpa [AM] using hb);rw [A.mu b o' E G] at h1;cases h1;exact E
 | i::j::l,S,S',t,q,h,hf,hh,hn,ho=>by
  unfold Eo at h;split at h
  ·rename_i x S1 h1;split at h
   ·rename_i y S2 h2;cases h;obtain ⟨q1,B,A,H,I⟩:=aM (i:=i) h1 hf hh λb k s e=>hn b k s (by rw [e];simp)
    have O:AM f S1 (j::l)=AM f S (j::l):=DJ A.h _;have sub:∀ b,some b∈AM f S (j::l)++U4 (j::l)→some b∈AM f S (i::j::l)++U4 (i::j::l):=λb hb=>by
     rcases M1b.1 hb with hb|hb;exact M1T _ (by unfold AM;exact M1z _ hb)
     ·refine M1z _ ?_;cases i <;> simp only [U4] <;> first | exact hb | exact M1c _ hb
    obtain ⟨q',E,G,U,Y⟩:=Ia h2 (hf.mono B.le) B.rh (λb k s hm=>by rw [B.m];exact hn b k s (M1c _ hm)) (λb hb=>ho b (sub b (by rw [←O];exact hb)));refine ⟨q',B.trans E,A.trans G,⟨H.mono E.le (A.trans G).h λb o hb h1=>?_,U⟩,λnm=>(I nm).trans (Y nm)⟩;obtain ⟨o',J,Z⟩:=ho b (by
     rcases M1b.1 hb with hb|hb;exact M1T _ (by unfold AM;exact M1T _ hb);refine M1z _ ?_;cases i <;> simp only [U4,M1y,M2o,M3u] at hb ⊢
     exact .inl hb)
    rw [(A.trans G).mu b o' J Z] at h1;cases h1;exact J
   cases h
  cases h
def newO (q:Ren):Option (Option Nat)→Option (Option Addr×Nat×Nat)
 | some (some c)=>q.ov c
 | some none=>some (none,0,0)
 | none=>none
def q2 (p q:Ren) (N:Nat) (own:List (Option Nat)):Ren:=⟨p.m,λb=>if b<N then p.ov b else newO q own[b-N]?,q.zw,q.zM⟩
theorem OP {q:Ren}{N:Nat}{own:List (Option Nat)}(h:b<N):(q2 p q N own).ov b=p.ov b:=M1d h
theorem rj {q:Ren}{N:Nat}{own:List (Option Nat)}(k:Nat):(q2 p q N own).ov (N+k)=newO q own[k]?:=by
 show (if N+k<N then _ else newO q own[N+k-N]?)=_
 rw [M1e (by omega),M2s]
def IOW (q:Ren) (w:World) (fr:Fr) (S:St):(i:It)→i.den→List (Option Nat)→Prop
 | .slot i s,x,ow=>∃ g q0 l,Zw s=Q7 g∧RV q0 g (fr i)∧SOK q S s l x (fr i).cells.toList∧ow=Ep s l
 | .cell b i s,x,ow=>∃ l vs r base n,q b=some (r,base,n)∧CellsAt w [] ⟨r,base+i,none⟩ vs∧vs.length=s.sz∧SOK q S s l x vs∧ow=Ep s l
 | .ow b t,x,ow=>ow=[]∧∃ T,S.ow.get b=some ⟨t,T,x,true⟩
def IOWs (q:Ren) (w:World) (fr:Fr) (S:St):(l:List It)→Ay l→List (Option Nat)→Prop
 | [],_,ow=>ow=[]
 | [i],x,ow=>IOW q w fr S i x ow
 | i::j::l,x,ow=>∃ a b,ow=a++b∧IOW q w fr S i x.1 a∧IOWs q w fr S (j::l) x.2 b
theorem IOK.iow {q:Ren}{f:GF}(h:IOK q w fr f S i x):IOW q w fr S i x (Er f S i):=by
 cases i with
 | slot i s=>
  obtain ⟨g,h1,h2,h3,A⟩:=h;exact ⟨g,q,g.ats,h2,h3,A,by simp only [Er,h1]⟩
 | cell b i s=>
  obtain ⟨l,vs,r,base,n,h1,h2,h3,A,B⟩:=h;exact ⟨l,vs,r,base,n,h2,h3,A,B,by simp only [Er,h1]⟩
 | ow b t=>exact ⟨rfl,h⟩
theorem IOKs.iow {q:Ren}{w:World}{fr:Fr}{f:GF}{S:St}:∀ {l:List It} {x:Ay l},IOKs q w fr f S l x→IOWs q w fr S l x (AM f S l)
 | [],x,h=>rfl
 | [i],x,h=>by
  have h:IOK q w fr f S i x:=h;show IOW q w fr S i x (Er f S i++[])
  rw [M1w];exact h.iow
 | i::j::l,x,h=>⟨_,_,rfl,h.1.iow,IOKs.iow (l:=j::l) h.2⟩
structure Mid (p q:Ren) (S2:St) (ν:Nat→Nat) (w:World) (fr:Fr) (N:Nat) (own:List (Option Nat)) (rem:List It) (pre:List (Option Nat)) (f:GF) (S:St):Prop where
 nx:S.nx=N+pre.length
 sl:∀ i g,f.get i=some g→RV (q2 p q N own) g (fr i)
 hp:∀ b g r base n,b<N→p b=some (r,base,n)→S.h.get b=some g→
  S2.h.get (ν b)≠none∧((∃ es,g=.map es∧RB (q2 p q N own) w r base n g)∨
  ∃ l,g=.cells l∧RB (q2 p q N own) w r base n (.cells [])∧l.length≤n∧∀ (k:Nat) (gk:GV) (v:Value),l[k]? = some gk→Br b k rem=false→w.cell? ⟨r,base+k,none⟩=some v→RV (q2 p q N own) gk v)
 ow:∀ b o,b<N→S.ow.get b=some o→(∃ t,.ow b t∈rem)∨S2.ow.get b=some o
 fr:∀ b,b<N→S.ow.get b≠none→some b∉own
 nw:∀ k o,k<pre.length→S.ow.get (N+k)=some o→(∃ c,own[k]? = some (some c)∧S2.ow.get c=some o)∨(own[k]? = some none∧o.xs=[])
 tT:∀ b t,.ow b t∈rem→∀ o o2,S.ow.get b=some o→S2.ow.get b=some o2→o.T=o2.T
 lo:∀ b t,.ow b t∈rem→b<N
 lc:∀ b k s,.cell b k s∈rem→b<N
theorem VW:∀ (t:Ty) (x:t.den),(unj t x).ats=inj t x
 | .int _,_=>rfl
 | .bool,_=>rfl
 | .str,_=>rfl
 | .sl _,_=>rfl
 | .unit,_=>rfl
 | .pair _ _,_=>rfl
variable {g:GV}
theorem Ds{v:Value}(h:RV p g v)(hg:Q7 g=false):v.cells.toList=[v]:=by
 cases g <;> simp only [RV] at h
 case agg l=>cases hg
 case bool=>subst h;rfl
 case int=>subst h;rfl
 case str=>subst h;rfl
 case nilp=>subst h;rfl
 case ptr=>obtain ⟨r,base,n,h1,rfl⟩:=h;rfl
 case nils=>subst h;rfl
 case sl=>obtain ⟨r,base,n,cap,h1,rfl,h2⟩:=h;rfl
 case sle=>obtain ⟨a,c,rfl⟩:=h;rfl
 case nilm=>subst h;rfl
 case map=>obtain ⟨r,h1,rfl⟩:=h;rfl
 case nilf=>subst h;rfl
 case func=>obtain ⟨G,H,rfl,h1,h2⟩:=h;rfl
 case tup=>obtain ⟨vs,rfl,h⟩:=h;rfl
 case ro t xs=>
  obtain ⟨a,c,e,h⟩:=h;cases e;rfl
 case rop=>obtain ⟨ad,vs,rfl,h⟩:=h;rfl
 case own=>obtain ⟨a,n,c,rfl,h⟩:=h;rfl
 case elp=>obtain ⟨g,n,c,h1,h2,rfl,_⟩:=h;rfl
 case mapo=>obtain ⟨g,n,c,h1,h2,rfl⟩:=h;rfl
 case vw=>obtain ⟨a,m,c,k,h1,h2,h3,A,B,E,rfl⟩:=h;rfl
theorem Jj{v:Value}(h:RV p g v)(hg:Q7 g=true):v=.agg v.cells.toList.toArray:=by
 cases g <;> first | (cases hg;done) | skip
 obtain ⟨vs,rfl,h⟩:=h;simp [Value.cells]
theorem aP{x:s.den}{q:Ren}{N:Nat}{own pre:List (Option Nat)}(hw:qg S s x=some (g,S1))(hs:SOK q S2 s l x vs)(A:S.nx=N+pre.length)(E:∃ suf,own=pre++(Ep s l++suf)) :
  RVs (q2 p q N own) g.ats vs∧Q7 g=Zw s∧S1.h=S.h∧S1.nx=N+(pre++Ep s l).length∧S1.df=S.df∧S1.lg=S.lg∧(∀ b,b<S.nx→S1.ow.get b=S.ow.get b)∧
   ∀ k o,k<(pre++Ep s l).length→S1.ow.get (N+k)=some o→k<pre.length∧S.ow.get (N+k)=some o∨(∃ c,own[k]? = some (some c)∧S2.ow.get c=some o)∨(own[k]? = some none∧o.xs=[]):=by
 obtain ⟨suf,E⟩:=E;unfold qg at hw;cases s with
 | d t=>
  simp only at hw;cases hw;refine ⟨?_,?_,rfl,by rw [A];simp [Ep],rfl,rfl,λ_ _=>rfl,λk o hk ho=>.inl ⟨by simpa [Ep] using hk,ho⟩⟩
  exact (M1t (λz=>RVs (q2 p q N own) z vs) (VW t x)).mpr ((C8 (p:=q2 p q N own) t x vs).2 hs);cases t <;> rfl
 | own t T=>
  simp only at hw;split at hw
  ·rename_i B;cases hw;have B:=M18 B;have H:∀ j,(S.ow.set AD S.nx (some ⟨t,T,x,true⟩)).get j=if j=S.nx then some ⟨t,T,x,true⟩ else S.ow.get j:=λj=>M4m _ _ _ _ _ (by unfold AD;unfold KF at B;omega)
   have hk:own[pre.length]? =(Ep (.own t T) l++suf)[0]?:=by rw [E,M1a (M1g _),M3B]
   have G:(Ep (.own t T) l).length=1:=by unfold Ep;split <;> first|rfl | (rename_i e;cases e)
   refine ⟨?_,rfl,rfl,by show S.nx+1=_;rw [M1l,G,A];omega,rfl,rfl,λb hb=>by show (S.ow.set AD S.nx _).get b=_;rw [H,M1e (by omega)],λk o O ho=>?_⟩;have ho:(q2 p q N own).ov S.nx=newO q (Ep (.own t T) l++suf)[0]?:=by rw [A,rj,hk]
   rcases hs with ⟨rfl,rfl,_⟩|⟨b,a,n,c,rfl,rfl,h3,_,J⟩;exact ⟨⟨none,0,0,rfl,ho,M2j _⟩,trivial⟩;exact ⟨⟨a,n,c,rfl,ho.trans h3,J⟩,trivial⟩;rw [M1l,G] at O;have ho:(S.ow.set AD S.nx (some ⟨t,T,x,true⟩)).get (N+k)=some o:=ho;rw [H] at ho
   by_cases e:k=pre.length;subst e;rw [M1d A.symm] at ho;cases ho;right;rcases hs with ⟨rfl,rfl,U⟩|⟨b,a,n,c,rfl,rfl,_,I,_⟩
   exact .inr ⟨hk,U⟩;exact .inl ⟨b,hk,I⟩;rw [M1e (by omega)] at ho;exact .inl ⟨by omega,ho⟩
  cases hw
theorem E7 {k:Nat}{l:List It}(h:Br b k l=false)(hi:∀ c j s,i=.cell c j s→¬ (b=c∧j≤k∧k<j+s.sz)):Br b k (i::l)=false:=by
 cases i with
 | slot i s=>exact h
 | ow b t=>exact h
 | cell c j s=>
  unfold Br;rw [h,Bool.or_false];have:=hi c j s rfl;cases hb:(Nat.beq b c&&Nat.ble j k&&Nat.blt k (j+s.sz)) with
  | false=>rfl
  | true=>
   simp only [M05] at hb;exact absurd ⟨M0g hb.1.1,M18 hb.1.2,M18 hb.2⟩ this
variable {f1:GF}
theorem Mid.step {q:Ren}(aB:Le p q){ν:Nat→Nat}{N:Nat}{own pre suf ow:List (Option Nat)}{rem:List It}{f:GF}(hw:qh f S i x=some (f1,S1))(hi:IOW q w fr S2 i x ow)
  (ap:own=pre++(ow++suf))(hm:Mid p q S2 ν w fr N own (i::rem) pre f S):Mid p q S2 ν w fr N own rem (pre++ow) f1 S1:=by
 unfold qh at hw;cases i with
 | slot i s=>
  obtain ⟨g,q0,l,h2,h3,h4,rfl⟩:=hi;simp only at hw;split at hw
  ·rename_i gv S3 hs aj;cases hw;have aj:=M18 aj;obtain ⟨U,k2,k3,k4,k5,k6,J,k8⟩:=aP hs h4 hm.nx ⟨suf,ap⟩;refine ⟨k4,λj gj hj=>?_,λb O r base n hb hq hg=>?_,λb o hb ho=>?_,λb hb ho=>?_,λk o hk ho=>?_,λb t I o o2 ho=>?_,λb t h=>hm.lo b t (M1c _ h),λb k s h=>hm.lc b k s (M1c _ h)⟩
   ·rw [M4m _ _ _ _ _ (by unfold AD;unfold KF at aj;omega)] at hj;split at hj
    ·rename_i e;cases hj;subst e;cases ha:Q7 gv with
     | true=>
      have:Q7 g=true:=by rw [←h2,←k2];exact ha
      rw [Jj h3 this];cases gv <;> first | (cases ha;done) | skip
      exact ⟨_,rfl,U⟩
     | false=>
      have:Q7 g=false:=by rw [←h2,←k2];exact ha
      have hc:=Ds h3 this;rw [hc] at U;cases gv <;> first | (cases ha;done) | (exact U.1)
    exact hm.sl j gj hj
   rw [k3] at hg;obtain ⟨hne,h⟩:=hm.hp b O r base n hb hq hg;refine ⟨hne,?_⟩;rcases h with h|⟨l,a1,a2,a3,a4⟩
   exact .inl h;exact .inr ⟨l,a1,a2,a3,λk gk v B H E=>a4 k gk v B (E7 H λc j s e=>by cases e) E⟩;rw [J b (by rw [hm.nx];omega)] at ho;rcases hm.ow b o hb ho with ⟨t,ht⟩|h
   rcases M1y.1 ht with e|ht;cases e;exact .inl ⟨t,ht⟩;exact .inr h;rw [J b (by rw [hm.nx];omega)] at ho;exact hm.fr b hb ho
   rcases k8 k o hk ho with ⟨Y,h6⟩|h;exact hm.nw k o Y h6;exact h;rw [J b (by have:=hm.lo b t (M1c _ I);rw [hm.nx];omega)] at ho;exact hm.tT b t (M1c _ I) o o2 ho
  cases hw
 | cell b i s=>
  obtain ⟨l,vs,r0,ae,n0,h2,h3,h4,Y,rfl⟩:=hi;simp only at hw;split at hw;rename_i gv S3 hs;split at hw;rename_i l0 an;split at hw;rename_i l1 aD;obtain ⟨G,aq,e⟩:=M01.1 hw;cases e;obtain ⟨o1,_,rfl⟩:=Dn aD;obtain ⟨p1,p2,p3⟩:=Ax aq;obtain ⟨U,k2,k3,k4,k5,k6,J,k8⟩:=aP hs Y hm.nx ⟨suf,ap⟩;have hgl:gv.ats.length=s.sz:=by rw [←U.length];exact h4
  have ay:=hm.lc b i s (by simp);have ab:∀ j,G.ow.get j=S3.ow.get j:=λj=>by rw [DB aq]
  refine ⟨by show G.nx=_;rw [p1,k4],λj gj hj=>hm.sl j gj hj,λc O r base n hb hq hg=>?_,λc o hb ho=>?_,λc hb ho=>?_,λk o hk ho=>?_,λc t I o o2 ho=>?_,λb t h=>hm.lo b t (M1c _ h),λb k s h=>hm.lc b k s (M1c _ h)⟩;have hg:G.h.get c=some O:=hg;rw [p3] at hg;by_cases e:c=b;subst e;rw [M1d rfl] at hg;cases hg;have ar:=aB.m _ _ hq;rw [h2] at ar;cases ar;rw [k3] at an;obtain ⟨hne,Z⟩:=hm.hp c _ r0 ae n0 hb hq an;refine ⟨hne,?_⟩;rcases Z with ⟨es,a1,_⟩|⟨la,a1,a2,a3,a4⟩
  cases a1;cases a1;refine .inr ⟨_,rfl,a2,by simp;omega,λk gk v B H E=>?_⟩;by_cases aA:i≤k∧k<i+s.sz;rw [M1a (by simp;omega),M1q,M2h (by omega),M1f (by omega)] at B;obtain ⟨v',c1,c2⟩:=U.get B;have c3:=h3.at_ (k-i) v' c1;simp only at c3;rw [show ae+i+(k-i)=ae+k by omega,E] at c3;cases c3;exact c2
  refine a4 k gk v ?_ (E7 H λc' j' s' e=>by cases e;intro h;exact aA h.2) E;by_cases aC:k<i;rw [M1f (by simp;omega),M1r,M1d aC] at B;exact B
  rw [M1a (by simp;omega),M1q,M2h (by omega),M1a (by omega),M1C] at B;rw [show i+gv.ats.length+(k-i-gv.ats.length)=k by omega] at B;exact B
  rw [M1e e,k3] at hg;obtain ⟨hne,Z⟩:=hm.hp c O r base n hb hq hg;refine ⟨hne,?_⟩;rcases Z with h|⟨la,a1,a2,a3,a4⟩
  exact .inl h;exact .inr ⟨la,a1,a2,a3,λk gk v B H E=>a4 k gk v B (E7 H λc' j' s' e'=>by cases e';intro h;exact e h.1) E⟩;have ho:G.ow.get c=some o:=ho;rw [ab,J c (by rw [hm.nx];omega)] at ho;rcases hm.ow c o hb ho with ⟨t,ht⟩|h
  rcases M1y.1 ht with e|ht;cases e;exact .inl ⟨t,ht⟩;exact .inr h;have ho:G.ow.get c≠none:=ho;rw [ab,J c (by rw [hm.nx];omega)] at ho;exact hm.fr c hb ho
  have ho:G.ow.get (N+k)=some o:=ho;rw [ab] at ho;rcases k8 k o hk ho with ⟨Y,h6⟩|h
  exact hm.nw k o Y h6;exact h;have ho:G.ow.get c=some o:=ho;rw [ab,J c (by have:=hm.lo c t (M1c _ I);rw [hm.nx];omega)] at ho;exact hm.tT c t (M1c _ I) o o2 ho
  cases hw;cases hw;cases hw
 | ow b t=>
  obtain ⟨rfl,T,h1⟩:=hi;simp only at hw;split at hw;rename_i o ho;split at hw;rename_i e aO _;obtain ⟨S3,aE,e2⟩:=M01.1 hw;cases e2;obtain ⟨s1,s2,s3,s4,s5⟩:=Ak aE;have ay:=hm.lo b t (by simp);have hT:=hm.tT b t (by simp) o _ ho h1;have hT:o.T=T:=hT;have key:(⟨o.t,o.T,(e ▸ x:List o.t.den),true⟩:JC)=⟨t,T,x,true⟩:=by
   obtain ⟨ot,oT,aS,aQ⟩:=o;have hT:oT=T:=hT;have e':t=ot:=e;subst e' hT;rfl
  rw [key] at s5;rw [M1w];refine ⟨by rw [s2];exact hm.nx,hm.sl,λc O r base n hb hq hg=>?_,λc o' hb A=>?_,λc hb A=>?_,λk o' hk A=>?_,λc u I o' o2 A=>?_,λb t h=>hm.lo b t (M1c _ h),λb k s h=>hm.lc b k s (M1c _ h)⟩
  rw [s1] at hg;obtain ⟨hne,Z⟩:=hm.hp c O r base n hb hq hg;refine ⟨hne,?_⟩;rcases Z with h|⟨la,a1,a2,a3,a4⟩
  exact .inl h;exact .inr ⟨la,a1,a2,a3,λk gk v B H E=>a4 k gk v B (E7 H λc' j' s' e'=>by cases e') E⟩;rw [s5] at A;split at A;rename_i e';cases A;rw [e'];exact .inr h1;rename_i e';rcases hm.ow c o' hb A with ⟨u,hu⟩|h;rcases M1y.1 hu with e2|hu;cases e2;exact absurd rfl e';exact .inl ⟨u,hu⟩;exact .inr h;refine hm.fr c hb ?_;rw [s5] at A;split at A;rename_i e';rw [e',ho];simp;exact A;rw [s5,M1e (by omega)] at A;exact hm.nw k o' hk A
  rw [s5] at A;split at A;rename_i e';cases A;subst e';intro ao;rw [h1] at ao;cases ao;rfl
  exact hm.tT c u (M1c _ I) o' o2 A;cases hw;cases hw
theorem Mid.all {p q:Ren}(A:Le p q){S2:St}{ν:Nat→Nat}{w:World}{fr:Fr}{N:Nat}{own:List (Option Nat)}:∀ {its:List It} {x:Ay its} {pre suf ow:List (Option Nat)} {f f1:GF} {S S1:St},Es its x f S=some (f1,S1)→IOWs q w fr S2 its x ow→
  own=pre++(ow++suf)→Mid p q S2 ν w fr N own its pre f S→Mid p q S2 ν w fr N own [] (pre++ow) f1 S1
 | [],x,pre,suf,ow,f,f1,S,S1,hw,hi,ho,hm=>by
  cases hw;have hi:ow=[]:=hi;rw [hi,M1w];exact hm
 | [i],x,pre,suf,ow,f,f1,S,S1,hw,hi,ho,hm=>Mid.step A (i:=i) hw hi ho hm
 | i::j::l,x,pre,suf,ow,f,f1,S,S1,hw,hi,ho,hm=>by
  unfold Es at hw;split at hw;rename_i G S3 h1;obtain ⟨a,b,rfl,B,E⟩:=hi;have h3:=Mid.step A h1 B (suf:=b++suf) (by rw [ho,M20]) hm;have:=Mid.all A (suf:=suf) hw E (by rw [ho];simp) h3;rw [←M20];exact this;cases hw
theorem DK:∀ {S:St} {l:List (Option Nat)},Zx S l=true→(∀ b,some b∈l→∃ o,S.ow.get b=some o∧o.mu=true)∧∀ (i j:Nat) (b:Nat),l[i]? = some (some b)→l[j]? = some (some b)→i=j
 | S,[],h=>⟨λb hb=>(by cases hb),λi j b h1=>(by simp at h1)⟩
 | S,none::l,h=>by
  obtain ⟨h1,h2⟩:=DK (S:=S) (l:=l) h;refine ⟨λb hb=>h1 b (by simpa using hb),λi j b hi hj=>?_⟩;cases i with
  | zero=>cases hi
  | succ i=>
   cases j with
   | zero=>cases hj
   | succ j=>rw [h2 i j b (by simpa using hi) (by simpa using hj)]
 | S,some c::l,h=>by
  unfold Zx at h;simp only [M05,M2u] at h;obtain ⟨⟨A,hm⟩,h⟩:=h;obtain ⟨h1,h2⟩:=DK (S:=S) (l:=l) h;have B:some c∉l:=λE=>by
   have:l.any (isN c)=true:=M2P.2 ⟨some c,E,by simp [isN]⟩;rw [this] at A;cases A
  refine ⟨λb hb=>?_,λi j b hi hj=>?_⟩;rcases M1y.1 hb with e|hb;cases e;split at hm;rename_i o ho;exact ⟨o,ho,hm⟩;cases hm;exact h1 b hb;cases i with
  | zero=>
   cases hi;cases j with
   | zero=>rfl
   | succ j=>exact absurd (M1k (by simpa using hj)) B
  | succ i=>
   cases j with
   | zero=>cases hj;exact absurd (M1k (by simpa using hi)) B
   | succ j=>rw [h2 i j b (by simpa using hi) (by simpa using hj)]
theorem Mid.done {q q0:Ren}{ν:Nat→Nat}(af:∀ b x,p b=some x→q0 (ν b)=some x)(ag:∀ b x,p.ov b=some x→q.ov b=some x)(hq:q.ov=q0.ov∧q.zw=q0.zw∧q.zM=q0.zM)(aj:∀ b b',p b≠none→p b'≠none→ν b=ν b'→b=b'){N:Nat}{own:List (Option Nat)}(h:Mid p q S2 ν w fr N own [] own f1 S1)(hh:RH q0 S2 w)(Y:∀ b,N≤b→By p b)
  (ah:∀ (i j:Nat)(b:Nat),own[i]? = some (some b)→own[j]? = some (some b)→i=j):RF' (q2 p q N own) f1 fr∧RH (q2 p q N own) S1 w:=by
 obtain ⟨H,qo,qw,qz⟩:=q;simp only at hq;obtain ⟨rfl,rfl,rfl⟩:=hq;have al:∀ {b x},p b=some x→b<N:=λ{b x} G=>M2F λhn=>by rw [(Y b hn).1] at G;cases G
 have ab:∀ {b:Nat} {y},¬ b<N→(q2 p ⟨H,q0.ov,q0.zw,q0.zM⟩ N own).ov b=some y→b-N<own.length∧N+(b-N)=b∧newO ⟨H,q0.ov,q0.zw,q0.zM⟩ own[b-N]? = some y:=λ{b y} hb hy=>by
  have hy:(if b<N then p.ov b else newO ⟨H,q0.ov,q0.zw,q0.zM⟩ own[b-N]?)=some y:=hy;rw [M1e hb] at hy;refine ⟨M2F λhk=>?_,by omega,hy⟩;rw [M1h hk] at hy;cases hy
 refine ⟨λi g hg=>h.sl i g hg,M4P hh p.m (q2 p ⟨H,q0.ov,q0.zw,q0.zM⟩ N own).ov ν (λb=>if b<N then b else match own[b-N]? with | some (some c)=>c | _=>0) (λb x G=>⟨x,af b x G,rfl⟩) (λb r base n g G hg=>?_) (λb b' a1 a2 _ _ e=>aj b b' a1 a2 e) (λb o y h1 h2=>?_) (λb b' y y' h1 h2 h3 J h5 O e=>?_) (λb hb=>?_)⟩;have hb:=al G;obtain ⟨hne,ai⟩:=h.hp b g r base n hb G hg;refine ⟨hne,?_⟩;rcases ai with ⟨es,rfl,h2⟩ | ⟨l,rfl,⟨cs,ty,fz,I,c2,c3,_⟩,h2,h3⟩
 exact h2;refine ⟨cs,ty,fz,I,c2,c3,(cs.toList.drop base).take l.length,M4E (by simp;omega) λk gk v hk hv=>h3 k gk v hk rfl ?_,List.take_prefix _ _⟩;rw [M1r] at hv;split at hv;rw [M1C] at hv;rw [Af I,←M1E];exact hv
 cases hv;by_cases hb:b<N;left;have h2:(if b<N then p.ov b else newO ⟨H,q0.ov,q0.zw,q0.zM⟩ own[b-N]?)=some y:=h2;rw [M1d hb] at h2;simp only [hb,M2K];rcases h.ow b o hb h1 with ⟨t,ht⟩|h3
 cases ht;exact ⟨h3,ag _ _ h2⟩;obtain ⟨Z,k2,B⟩:=ab hb h2;simp only [hb,M2V];rcases h.nw (b-N) o Z (by rw [k2];exact h1) with ⟨c,a1,a2⟩|⟨a1,a2⟩
 rw [a1] at B ⊢;exact .inl ⟨a2,B⟩
 rw [a1] at B;cases B;exact .inr ⟨rfl,a2⟩
 have key:∀ {b y},S1.ow.get b≠none→(q2 p ⟨H,q0.ov,q0.zw,q0.zM⟩ N own).ov b=some y→Av y.1≠[]→¬ b<N→∃ c,own[b-N]? = some (some c):=λ{b y} a1 a2 a3 hb=>by
  obtain ⟨Z,k2,B⟩:=ab hb a2;cases ho:own[b-N]? with
  | none=>rw [ho] at B;cases B
  | some oc=>
   cases oc with
   | none=>rw [ho] at B;cases B;exact absurd rfl a3
   | some c=>exact ⟨c,rfl⟩
 by_cases hb:b<N;by_cases A:b'<N
 simpa [hb,A] using e
 obtain ⟨c,E⟩:=key h2 J O A;simp only [hb,A,M2K,M2V,E] at e;subst e;exact absurd (M1k E) (h.fr b hb h1)
 obtain ⟨c,E⟩:=key h1 h3 h5 hb;by_cases A:b'<N;simp only [hb,A,M2K,M2V,E] at e;subst e;exact absurd (M1k E) (h.fr _ A h2)
 obtain ⟨c',U⟩:=key h2 J O A;simp only [hb,A,M2V,E,U] at e;subst e;have:=ah _ _ _ E U;omega
 have A:N+own.length≤b:=by rw [←h.nx];exact hb
 refine ⟨(Y b (by omega)).1,?_⟩;show (if b<N then p.ov b else newO ⟨H,q0.ov,q0.zw,q0.zM⟩ own[b-N]?)=none
 rw [M1e (by omega),M1h (by omega)];rfl
def Agr (D:List Nat) (f f':GF):Prop:=∀ i,i∉D→f'.get i=f.get i
theorem Agr.refl (D:List Nat)(f:GF):Agr D f f:=λ_ _=>rfl
variable {f':GF}
theorem Agr.trans {D:List Nat}{f A:GF}(h:Agr D f f')(k:Agr D f' A):Agr D f A:=λi hi=>(k i hi).trans (h i hi)
theorem Agr.sub {D A:List Nat}{f:GF}(h:Agr D f f')(hs:∀ i∈D,i∈A):Agr A f f':=λi hi=>h i λhm=>hi (hs i hm)
structure LgC (S S':St):Prop where
 nx:S.nx≤S'.nx
 lg:∃ l,S'.lg=l++S.lg∧(∀ b,b∉l→b<S.nx→S'.h.get b=S.h.get b∧S'.ow.get b=S.ow.get b)∧∀ b,b<S.nx→Hst l S S' b
theorem LgC.refl (S:St):LgC S S:=⟨M1g _,[],rfl,λ_ _ _=>⟨rfl,rfl⟩,λ_ _=>.inl rfl⟩
theorem LgC.trans {B:St}(h:LgC S S')(k:LgC S' B):LgC S B:=by
 obtain ⟨I,l,h1,h2,h3⟩:=h;obtain ⟨J,m,E,G,H⟩:=k;refine ⟨M1B I J,m++l,by rw [E,h1,M20],λb hb hn=>?_,λb hn=>(h3 b hn).trans (H b (by omega))⟩;have hm:=G b (λA=>hb (M1T _ A)) (by omega);have hl:=h2 b (λA=>hb (M1z _ A)) hn;exact ⟨hm.1.trans hl.1,hm.2.trans hl.2⟩
theorem LgC.of {nm:Nat}(h:Lg nm S S')(h1:S.nx≤nm)(h2:S.nx≤S'.nx):LgC S S':=by
 obtain ⟨l,a1,a2,a3⟩:=h;exact ⟨h2,l,a1,λb hb hn=>a2 b hb (by omega),λb hn=>a3 b (by omega)⟩
theorem Qi:∀ {kill:List Nat} {f:GF} {i:Nat},(∀ k∈kill,k<KF)→(clr kill f).get i=if i∈kill then none else f.get i
 | [],f,i,h=>by simp [clr]
 | k::l,f,i,h=>by
  unfold clr;rw [Qi (λj hj=>h j (M1c _ hj)),M4m _ _ _ _ _ (by have:=h k (by simp);unfold AD;unfold KF at this;omega)];by_cases hi:i∈l;simp [hi];by_cases e:i=k;subst e;simp;simp [hi,e]
variable {its:List It}
theorem DL{f:GF}{kill:List Nat}(h:qj n f S kill its=true):(∀ k∈kill,k<KF)∧(∀ i s,.slot i s∈its→i∈kill)∧(∀ b i s,.cell b i s∈its→b<S.nx∧S.ow.get b=none∧∃ j o,f.get j=some (.ptr b o))∧∀ b t,.ow b t∈its→b<S.nx∧S.h.get b=none:=by
 unfold qj at h;rw [M05] at h;obtain ⟨B,h⟩:=h;have key:=λi hi=>M1R.1 h i hi
 refine ⟨λk hk=>M18 (M1R.1 B k hk),λi s hi=>B4.1 (key _ hi),λb i s hi=>?_,λb t hi=>?_⟩;have:=key _ hi;simp only [M05] at this;refine ⟨M18 this.1,CY this.2.1,?_⟩;have G:∀ m,VO f b m=true→∃ j o,f.get j=some (.ptr b o):=λm=>by
  induction m with
  | zero=>intro h;cases h
  | succ m E=>
   intro h;unfold VO at h;rw [M2t] at h;rcases h with h|h
   split at h;rename_i c o A;rw [M0g h] at A;exact ⟨m,o,A⟩
   cases h;exact E h
 exact G _ this.2.2;have:=key _ hi;simp only [M05] at this;exact ⟨M18 this.1,CY this.2⟩
theorem Gj:∀ {S:St} {l:List (Option Nat)},M0 S l=true→∀ b,some b∈l→S.ow.get b=none
 | S,[],_,b,hb=>by cases hb
 | S,none::l,h,b,hb=>Gj (l:=l) h b (by simpa using hb)
 | S,some c::l,h,b,hb=>by
  unfold M0 at h;rw [M05] at h;rcases M1y.1 hb with e|hb
  cases e;exact CY h.1;exact Gj h.2 b hb
theorem ES:∀ {S0 S:St} {l:List It},RS S0 S l=true→∀ b t,.ow b t∈l→∀ o u,S0.ow.get b=some o→S.ow.get b=some u→o.T=u.T
 | S0,S,[],_,b,t,hb=>by cases hb
 | S0,S,i::l,h,b,t,hb=>by
  intro o u ho A;cases i with
  | slot j s=>exact ES (l:=l) h b t (by simpa using hb) o u ho A
  | cell c j s=>exact ES (l:=l) h b t (by simpa using hb) o u ho A
  | ow c v=>
   unfold RS at h;rw [M05] at h;rcases M1y.1 hb with e|hb
   cases e;have h1:=h.1;rw [ho,A] at h1;exact M0g h1
   exact ES h.2 b t hb o u ho A
theorem Ib:∀ {l:List It} {b:Nat},b∈qi l→(∃ i s,.cell b i s∈l)∨∃ t,.ow b t∈l
 | [],b,h=>by cases h
 | .slot i s::l,b,h=>(Ib (l:=l) h).imp (λ⟨i,s,h⟩=>⟨i,s,M1c _ h⟩) λ⟨t,h⟩=>⟨t,M1c _ h⟩
 | .cell c i s::l,b,h=>by
  unfold qi at h;rcases M1y.1 h with rfl|h
  exact .inl ⟨i,s,by simp⟩;exact (Ib (l:=l) h).imp (λ⟨i,s,h⟩=>⟨i,s,M1c _ h⟩) λ⟨t,h⟩=>⟨t,M1c _ h⟩
 | .ow c t::l,b,h=>by
  unfold qi at h;rcases M1y.1 h with rfl|h
  exact .inr ⟨t,by simp⟩;exact (Ib (l:=l) h).imp (λ⟨i,s,h⟩=>⟨i,s,M1c _ h⟩) λ⟨t,h⟩=>⟨t,M1c _ h⟩
theorem XP(h:r7 S A its S'=true){l:List Nat}(hl:S'.lg=l++S.lg):(∀ b,b∈l→b<A.nx→b∈qi its∨(A.h.get b=none∧A.ow.get b=none))∧∀ b k,En b k∈l→b<A.nx→Br b k its=true∨A.h.get b=none:=by
 unfold r7 at h;rw [VV hl,M05] at h;obtain ⟨E,h⟩:=h;have E:=M18 E;refine ⟨λb hb hn=>?_,λb k hb hn=>?_⟩
 have:=M1R.1 h b hb;have B:Nat.blt b 4194304=true:=M27 (by omega);rw [B] at this;simp only [M2t,M2u] at this;rcases this with (h1|h1) | h1
 have:Nat.blt b A.nx=true:=M27 hn;rw [this] at h1;cases h1
 exact .inl (B4.1 h1);unfold VN at h1;rw [M05] at h1;exact .inr ⟨CY h1.1,CY h1.2⟩
 have:=M1R.1 h _ hb;have B:Nat.blt (En b k) 4194304=false:=by
  cases hq:Nat.blt (En b k) 4194304 with
  | false=>rfl
  | true=>have:=M18 hq;unfold En at this;omega
 have G:En b k%4194304=b:=by unfold En;omega
 have H:En b k / 4194304-1=k:=by unfold En;omega
 rw [B] at this;simp only [G,H,M2t,M2u] at this;rcases this with (h1|h1) | h1
 have:Nat.blt b A.nx=true:=M27 hn;rw [this] at h1;cases h1
 exact .inl h1;unfold VN at h1;rw [M05] at h1;exact .inr (CY h1.1)
theorem aR {S3:St}{x:s.den}(h:qe S3 s l=some (x,A)):Fz S3 A:=by
 unfold qe at h;split at h;split at h;rename_i B;split at h;cases h;exact Mm B;cases h;cases h;cases h;exact .refl _;split at h;split at h;cases h;exact .refl _;cases h;cases h;cases h
theorem aV {f:GF}{S3:St}(h:qf f S3 i=some (x,A)):Fz S3 A:=by
 unfold qf at h;cases i with
 | slot j s=>
  simp only at h;split at h;split at h;exact aR h;cases h;cases h
 | cell b j s=>
  simp only at h;split at h;exact aR h;cases h
 | ow b t=>
  simp only at h;split at h;split at h;cases h;exact .refl _;cases h;cases h
theorem E8 {f:GF}:∀ {l:List It} {S3 A:St} {x:Ay l},Eo f l S3=some (x,A)→Fz S3 A
 | [],S3,A,x,h=>by cases h;exact .refl _
 | [i],S3,A,x,h=>aV (i:=i) h
 | i::j::l,S3,A,x,h=>by
  unfold Eo at h;split at h;rename_i B;split at h;rename_i hy;cases h;exact (aV B).trans (E8 (l:=j::l) hy);cases h;cases h
theorem rk{kill:List Nat}{B:GF}{aH:Fr}{w0:World}(I:RH p A w0)(am:RF' p B aH)(hI:qj n B A kill its=true){f:GF}
  (b1:∀ b o,b<A.nx→A.ow.get b=some o→(∃ t,.ow b t∈its)∨S.ow.get b=some o)
  (b2:∀ b g,b<A.nx→A.h.get b=some g→S.h.get b=some g∨∃ l lS,g=.cells l∧S.h.get b=some (.cells lS)∧lS.length=l.length∧∀ k,Br b k its=false→lS[k]? = l[k]?)
  (b3:A.nx≤S.nx)(b4:∀ i,i∉kill→f.get i=B.get i){q:Ren}{t:Ay its}(hf:RF' q f' fr)(hh:RH q S' w)(ao:Le p q)(aQ:Agr kill f f')(a2:LgC S S')(aq:Eo f' its S'=some (t,S2))(ae:Hm its S A f' S2=true)(hw:Es its t (clr kill B) A=some (f1,S1)) :
  ∃ q',Gh q S' w q' S2∧RF' (q2 p q' A.nx (AM f' S2 its)) f1 fr∧RH (q2 p q' A.nx (AM f' S2 its)) S1 w∧LgC S S2∧S1.nx=A.nx+(AM f' S2 its).length:=by
 obtain ⟨i1,i2,i3,i4⟩:=DL hI;unfold Hm at ae;simp only [M05] at ae;obtain ⟨_,c1,c2,c3,c4⟩:=ae;obtain ⟨o1,o2⟩:=DK c1;have a5:∀ b,b<A.nx→A.ow.get b≠none→some b∉AM f' S2 its:=λb _ hb hm=>hb (Gj c2 b hm)
 have a4:∀ (i j:Nat) (b:Nat),(AM f' S2 its)[i]? = some (some b)→(AM f' S2 its)[j]? = some (some b)→i=j:=λi j b hi hj=>
  o2 i j b (by rw [M1f (M09.1 hi).1];exact hi) (by rw [M1f (M09.1 hj).1];exact hj)
 have bm:∀ {ai:St},Fz S' ai→AM f' ai its=AM f' S' its:=λh=>DJ h.h its
 have a0:∀ b k s,.cell b k s∈its→q b≠none:=λb k s hm=>by
  obtain ⟨_,_,j,o,hj⟩:=i3 b k s hm;obtain ⟨r,base,m,hp,_⟩:=am j _ hj;rw [ao.m b _ hp];simp
 have ak:=E8 aq;obtain ⟨q',G,g2,g3,g4⟩:=Ia aq hf hh a0 (λb hb=>o1 b (by rw [DJ ak.h];exact hb));have aN:LgC S S2:=a2.trans (LgC.of (g4 S'.nx) (M1g _) (M1O ak.nx.symm));have H:=ao.trans G.le;obtain ⟨_,l,l1,l2,l3⟩:=aN;obtain ⟨d1,d2⟩:=XP c4 l1;have aU:∀ i g,(clr kill B).get i=some g→i∉kill∧B.get i=some g:=λi g hg=>by
  rw [Qi i1] at hg;split at hg;cases hg;rename_i h;exact ⟨h,hg⟩
 have low:=@RV.low p q' (q2 p q' A.nx (AM f' S2 its)) H (λ_ _ h=>h) (λb x E=>by
  have:b<A.nx:=M2F λhn=>by rw [(I.fr b hn).2] at E;cases E
  rw [OP this];exact E) ⟨rfl,rfl⟩
 have bf:=@RM.low p q' (q2 p q' A.nx (AM f' S2 its)) H (λ_ _ h=>h) (λb x E=>by
  have:b<A.nx:=M2F λhn=>by rw [(I.fr b hn).2] at E;cases E
  rw [OP this];exact E) ⟨rfl,rfl⟩
 have a3:Mid p q' S2 id w fr A.nx (AM f' S2 its) its [] (clr kill B) A:=by
  refine ⟨rfl,λi g hg=>?_,λb g r base m hb hp hg=>?_,λb o hb ho=>?_,a5,λk o hk=>(by cases hk),λb t U o u ho hu=>ES c3 b t U o u ho hu,λb t U=>(i4 b t U).1,λb k s U=>(i3 b k s U).1⟩;obtain ⟨k1,k2⟩:=aU i g hg;have aX:f'.get i=some g:=by rw [aQ i k1,b4 i k1];exact k2
  exact low g _ _ (am i g k2) ((hf i g aX).mono G.le)
  ·
   have Y:b<S.nx:=by omega
   have hq:q' b=some (r,base,m):=H.m _ _ hp;have aY:A.h.get b≠none:=by rw [hg];simp
   cases g with
   | map es=>
    have J:S.h.get b=some (.map es):=by
     rcases b2 b _ hb hg with h|⟨_,_,e,_⟩;exact h;cases e
    have O:S2.h.get b=some (.map es):=by
     rcases l3 b Y with h|⟨c,_,e,_⟩;rw [h];exact J;rw [J] at e;cases e
    refine ⟨by show S2.h.get b≠none;rw [O];simp,.inl ⟨es,rfl,?_⟩⟩;obtain ⟨bj,_,_,k2⟩:=I.at_ b r base m _ hp hg;obtain ⟨aG,aB,Z,j2⟩:=G.rh.at_ b r base m _ hq O;exact ⟨aG,aB,Z,bf k2 j2⟩
   | cells lc=>
    obtain ⟨lS,J,bn,aO⟩:∃ lS,S.h.get b=some (.cells lS)∧lS.length=lc.length∧∀ k,Br b k its=false→lS[k]? = lc[k]?:=by
     rcases b2 b _ hb hg with h|⟨l',lS,e,h1,h2,h3⟩;exact ⟨lc,h,rfl,λ_ _=>rfl⟩;cases e;exact ⟨lS,h1,h2,h3⟩
    obtain ⟨ab,O,bl,aK⟩:∃ ab,S2.h.get b=some (.cells ab)∧ab.length=lS.length∧∀ k,Br b k its=false→ab[k]? = lS[k]?:=by
     rcases l3 b Y with h|⟨c,c',e1,e2,e3,e4⟩;exact ⟨lS,by rw [h];exact J,rfl,λ_ _=>rfl⟩;rw [J] at e1;cases e1;refine ⟨c',e2,e3,λk hk=>e4 k λhm=>?_⟩;rcases d2 b k hm hb with h|h
     rw [hk] at h;cases h
     exact aY h
    obtain ⟨bi,_,_,_,s0,_,bs,k4,k5⟩:=I.at_ b r base m _ hp hg;obtain ⟨cs,ty,fz,Z,j2,j3,vs,j4,j5⟩:=G.rh.at_ b r base m _ hq O;have a1:lc.length≤m:=by
     have e1:=k4.length;have e2:=k5.length_le;simp at e2;omega
    refine ⟨by show S2.h.get b≠none;rw [O];simp,.inr ⟨lc,rfl,⟨cs,ty,fz,Z,j2,j3,[],trivial,by simp⟩,a1,λk gk v hk an hv=>?_⟩⟩;obtain ⟨v0,_,a7⟩:=k4.get hk;obtain ⟨v',a8,a9⟩:=j4.get ((aK k an).trans ((aO k an).trans hk));have e:=Hu j5 a8;rw [M1C] at e;rw [Af Z,←M1E,e] at hv;cases hv;exact low gk v0 _ a7 a9
  have Y:b<S.nx:=by omega
  rcases b1 b o hb ho with h|h;exact .inl h;by_cases al:b∈l;rcases d1 b al hb with hn|⟨_,hn⟩;rcases Ib hn with ⟨i,s,hc⟩|h';rw [(i3 b i s hc).2.1] at ho;cases ho
  exact .inl h';rw [hn] at ho;cases ho
  exact .inr (by rw [(l2 b al Y).2];exact h)
 have ap:=Mid.all H (suf:=[]) hw g3.iow (by simp) a3;obtain ⟨r1,r2⟩:=Mid.done (ν:=id) H.m H.o ⟨rfl,rfl,rfl⟩ (λ_ _ _ _ e=>e) (by simpa using ap) G.rh (λb hb=>I.fr b hb) a4;exact ⟨q',G,r1,r2,⟨by omega,l,l1,l2,l3⟩,by simpa using ap.nx⟩
end
section
def G6 {R:Type} (K:Kt R):Prop:=∀ {A B:Type} (j:R→A) (h:A→B) (e:GX) (f:GF) (S:St) (r:B),K B (λx=>h (j x)) e f S=some r→∃ x,K A j e f S=some x∧r=h x
def Pn (call:CK):Prop:=∀ {A:Type} {g:FuncId} {args:List GV} {S S':St} {v:GV} {K:GV→St→Option A} {r:A},call (GV×St) g args S (λv S=>some (v,S))=some (v,S')→K v S'=some r→call A g args S K=some r
variable {A:Type}{r:A}
theorem M4x {β:Type}{d:Dec β}{b:β}{K:β→Option A}(h:d.run some=some b)(B:K b=some r):d.run K=some r:=by
 cases d with
 | no=>cases h
 | ret b'=>cases h;exact B
 | chk c b'=>cases c with
  | true=>cases h;exact B
  | false=>cases h
 | two c a b'=>cases c <;> cases h <;> exact B
 | opt o k=>
  unfold Dec.run at h ⊢;cases o with
  | none=>cases h
  | some x=>
   simp only [M2O] at h ⊢;split at h;rename_i y hy;cases h;exact B;cases h
theorem aW{y:Bool}{v:GV}{K:GV→Option A}(h:K v=some r):VK y v K=some r:=by
 unfold VK;split;rename_i b;cases b <;> exact h
 exact h
variable {P:Program}{call:CK}{n base i:Nat}{ops:Array Oper}{o:Oper}{S:St}
theorem HH(U:Cw P call)(O:Pn call){B:Type}{h:A→B}{cs:List Nat}{f:GF}{K:GF→St→Option A}{K':GF→St→Option B}
  (J:∀ f S r,K' f S=some r→∃ x,K f S=some x∧r=h x){r:B}(hr:DE P call n cs ops base i o f S K'=some r):∃ x,DE P call n cs ops base i o f S K=some x∧r=h x:=by
 unfold DE at hr ⊢;split at hr;obtain ⟨v,S1,h1,h2⟩:=Mb U hr;have h1:K8 P call (base+i) o f S (λv S=>some (v,S))=some (v,S1):=h1;obtain ⟨f1,h3,E⟩:=Dr (Mi h2);obtain ⟨x,G,H⟩:=J _ _ _ E;refine ⟨x,?_,H⟩;have I:VK (Up ops cs o.dst) v (λv=>JT n f o.dst v λf=>K f S1)=some x:=by
  have hp:JT n f o.dst v (λf=>K f S1)=some x:=by unfold JT;rw [h3];exact G
  exact aW hp
 unfold K8 at h1 ⊢;split at h1;rename_i Y;exact O h1 I;exact M4x h1 I;obtain ⟨f1,h3,E⟩:=Dr hr;obtain ⟨x,G,H⟩:=J _ _ _ E;exact ⟨x,by unfold JT;simp only [h3];exact G,H⟩;cases hr
theorem Pq {P:Program}{call:CK}(H:Cw P call)(G:Pn call){A B:Type}{h:A→B}{n:Nat}{cs:List Nat}{ops:Array Oper}{base:Nat}{K:GF→St→Option A}{K':GF→St→Option B}
  (E:∀ f S r,K' f S=some r→∃ x,K f S=some x∧r=h x):∀ {l:List Oper}{i:Nat}{f:GF}{S:St}{r:B},JU P call n cs ops base l i f S K'=some r→∃ x,JU P call n cs ops base l i f S K=some x∧r=h x
 | [],i,f,S,r,hr=>E f S r hr
 | o::l,i,f,S,r,hr=>by
  unfold JU at hr ⊢;exact HH H G (λf S r hr=>Pq H G E hr) hr
theorem Jk {P:Program}{call:CK}(G:Cw P call)(E:Pn call){A B:Type}{h:A→B}{n:Nat}{cs:List Nat}{ops:Array Oper}{base:Nat}{K:GF→St→Option A}{K':GF→St→Option B}
  (H:∀ f S r,K' f S=some r→∃ x,K f S=some x∧r=h x):∀ (k:Nat){rem:List (Nat×Oper)}{done:List Nat}{loose:List (Nat×List Nat)}{f:GF}{S:St}{r:B},
   HE P call n cs ops base k rem done loose f S K'=some r→∃ x,HE P call n cs ops base k rem done loose f S K=some x∧r=h x
 | 0,rem,done,loose,f,S,r,hr=>by cases hr
 | k+1,rem,done,loose,f,S,r,hr=>by
  unfold HE at hr ⊢;split at hr;rename_i i o hp;refine HH G E (λf' S' r hr=>?_) hr;split at hr;exact Jk G E H k hr;cases hr;split at hr;split at hr;exact H _ _ _ hr;cases hr;refine HH G E (λf' S' r hr=>?_) hr;simp only at hr ⊢;split at hr;exact Jk G E H k hr;cases hr;cases hr
variable {its:List It}{B S':St}
theorem Co{f:GF}{K:Ay its→Option A}(h:Jf its S B f S' K=some r):∃ t S2,Eo f its S'=some (t,S2)∧Hm its S B f S2=true∧K t=some r:=by
 unfold Jf at h;split at h;rename_i t S2 G;split at h;rename_i E;exact ⟨t,S2,G,E,h⟩;cases h;cases h
variable {t:Ay its}{S2:St}
theorem Ex{f:GF}{K:Ay its→Option A}(h1:Eo f its S'=some (t,S2))(h2:Hm its S B f S2=true)(h3:K t=some r):Jf its S B f S' K=some r:=by
 unfold Jf;rw [h1];simp only [h2];exact h3
variable {E:GF}
theorem CN{kill:List Nat}{K:GF→St→Option A}(h:Hl its E B kill t K=some r):∃ f S,Es its t (clr kill E) B=some (f,S)∧K f S=some r:=by
 unfold Hl at h;split at h;rename_i f S hw;exact ⟨f,S,hw,h⟩;cases h
theorem Gk{kill:List Nat}{K:GF→St→Option A}{f:GF}(h1:Es its t (clr kill E) B=some (f,S))(h2:K f S=some r):Hl its E B kill t K=some r:=by
 unfold Hl;rw [h1];exact h2
theorem Mp {σ A B:Type}{h:A→B}{st:σ→Option (Al σ A)}{E:σ→Option (Al σ B)}(hs:∀ t r,E t=some r→∃ x,st t=some x∧r=OJ h x):∀ (m:Nat) {t:σ} {r:B},loopN E m t=some r→∃ x,loopN st m t=some x∧r=h x
 | 0,t,r,hr=>by cases hr
 | m+1,t,r,hr=>by
  unfold loopN at hr ⊢;obtain ⟨x,h1,h2⟩:=bind_some hr;obtain ⟨y,h3,rfl⟩:=hs t x h1;rw [h3];cases y with
  | next G=>exact Mp hs m h2
  | done y=>cases h2;exact ⟨y,rfl,rfl⟩
theorem Qj {σ ρ:Type}(f:σ→Option (Al σ ρ))(s:σ):std.run f s=loop f s:=rfl
variable {R:Type}{K:Kt R}
theorem Mq{G:St}(E:G6 K):G6 (JV its S G K):=λ{A B} j h e f S' r hr=>by
 cases e with
 | nrm=>
  obtain ⟨t,S2,h1,h2,h3⟩:=Co hr;cases h3;exact ⟨_,Ex h1 h2 rfl,rfl⟩
 | exit id=>exact E (λr=>j (.done r)) h _ f S' r hr
 | ret=>exact E (λr=>j (.done r)) h _ f S' r hr
def rm {R:Type} (body:GF→St→Kt R→(A:Type)→(R→A)→Option A) (m:Nat) (K:Kt R):Kt R:=λA j e f S=>match e with
 | .nrm=>YV body m f S K A j
 | e=>K A j e f S
theorem Qk {R:Type}{body:GF→St→Kt R→(A:Type)→(R→A)→Option A}(hb:∀ {f:GF} {S:St} {K:Kt R},G6 K→∀ {A B:Type} (j:R→A) (h:A→B) (r:B),body f S K B (λx=>h (j x))=some r→∃ x,body f S K A j=some x∧r=h x){K:Kt R}(E:G6 K) :
  ∀ (m:Nat) {f:GF} {S:St} {A B:Type} (j:R→A) (h:A→B) (r:B),YV body m f S K B (λx=>h (j x))=some r→∃ x,YV body m f S K A j=some x∧r=h x
 | 0,f,S,A,B,j,h,r,hr=>by cases hr
 | m+1,f,S,A,B,j,h,r,hr=>hb (K:=rm body m K) (λ{A B} j h e f S r hr=>by
  cases e with
  | nrm=>exact Qk hb E m j h r hr
  | exit id=>exact E j h _ f S r hr
  | ret=>exact E j h _ f S r hr) j h r hr
theorem bM{body:GF→St→Kt R→(A:Type)→(R→A)→Option A}(hb:∀ {f:GF} {S:St} {K:Kt R},G6 K→∀ {A B:Type} (j:R→A) (h:A→B) (r:B),body f S K B (λx=>h (j x))=some r→∃ x,body f S K A j=some x∧r=h x)(E:G6 K)(m:Nat):G6 (rm body m K):=λ{A B} j h e f S r hr=>by
 cases e with
 | nrm=>exact Qk hb E m j h r hr
 | exit id=>exact E j h _ f S r hr
 | ret=>exact E j h _ f S r hr
theorem D8 {P:Program}{call:CK}(H:Cw P call)(G:Pn call){n:Nat}{cs:List Nat}{I:List (Nat×List It)}:∀ (c:Code) {R:Type} {p:Nat} {f:GF} {S:St} {K:Kt R},G6 K→∀ {A B:Type} (j:R→A) (h:A→B) (r:B),
  yC std P call n cs I c p f S K B (λx=>h (j x))=some r→∃ x,yC std P call n cs I c p f S K A j=some x∧r=h x
 | .skip,R,p,f,S,K,E,A,B,j,h,r,hr=>by unfold yC at hr ⊢;exact E j h _ f S r hr
 | .label _,R,p,f,S,K,E,A,B,j,h,r,hr=>by unfold yC at hr ⊢;exact E j h _ f S r hr
 | .ret,R,p,f,S,K,E,A,B,j,h,r,hr=>by unfold yC at hr ⊢;exact E j h _ f S r hr
 | .exit _,R,p,f,S,K,E,A,B,j,h,r,hr=>by unfold yC at hr ⊢;exact E j h _ f S r hr
 | .seq a b,R,p,f,S,K,E,A,B,j,h,r,hr=>by
  unfold yC at hr ⊢;split at hr;refine D8 H G a (K:=λA j e f S=>match e with
   | .nrm=>yC std P call n cs I b (2*p+1) f S K A j
   | e=>K A j e f S) (λ{A B} j h e f S r hr=>?_) j h r hr
  cases e with
  | nrm=>exact D8 H G b E j h r hr
  | exit id=>exact E j h _ f S r hr
  | ret=>exact E j h _ f S r hr
  ·rename_i its ha;split at hr
   ·rename_i J hg;obtain ⟨x,h1,h2⟩:=bind_some hr;have O:(OJ λx=>h (j x):Al (Ay its) R→Al (Ay its) B)=λx=>OJ h (OJ j x):=by
     funext x;cases x <;> rfl
    rw [O] at h1;obtain ⟨y,h3,rfl⟩:=D8 H G a (Mq E) _ (OJ h) x h1;rw [h3];cases y with
    | next t=>
     obtain ⟨f1,S1,U,Y⟩:=CN h2;obtain ⟨z,h6,h7⟩:=D8 H G b E j h r Y;exact ⟨z,Gk U h6,h7⟩
    | done y=>cases h2;exact ⟨y,rfl,rfl⟩
   cases hr
 | .cond c x y,R,p,f,S,K,E,A,B,j,h,r,hr=>by
  unfold yC at hr ⊢;split at hr;rename_i b hc;cases b with
  | true=>exact D8 H G x E j h r hr
  | false=>exact D8 H G y E j h r hr
  cases hr
 | .block id c,R,p,f,S,K,E,A,B,j,h,r,hr=>by
  unfold yC at hr ⊢;refine D8 H G c (K:=λA j e f S=>match e with
   | .exit Z=>match Nat.beq Z id with
    | true=>K A j .nrm f S
    | false=>K A j (.exit Z) f S
   | e=>K A j e f S) (λ{A B} j h e f S r hr=>?_) j h r hr
  cases e with
  | nrm=>exact E j h _ f S r hr
  | ret=>exact E j h _ f S r hr
  | exit Z=>
   simp only at hr ⊢;split at hr;exact E j h _ f S r hr;exact E j h _ f S r hr
 | .loop c,R,p,f,S,K,E,A,B,j,h,r,hr=>by
  unfold yC at hr ⊢;split at hr;exact Qk (body:=λf S K A j=>yC std P call n cs I c (2*p) f S K A j) (λ{_ _ _} E {A B} j h r hr=>D8 H G c E j h r hr) E 9 j h r hr;rename_i its ha;split at hr;rename_i x0 S1 ai;split at hr;rename_i J hg;obtain ⟨t0,S2,h1,h2,h3⟩:=Co hr;have O:(OJ λx=>h (j x):Al (Ay its) R→Al (Ay its) B)=λx=>OJ h (OJ j x):=by
   funext x;cases x <;> rfl
  rw [Qj] at h3;unfold loop at h3;obtain ⟨z,U,Y⟩:=Mp (h:=h) (st:=λt=>Hl its f J (AS c) t λf1 S1=>yC (R:=Al (Ay its) R) std P call n cs I c (2*p) f1 S1 (JV its S1 J K) (Al (Ay its) A) (OJ j)) (λt r hr=>by
   obtain ⟨f1,S1,k1,k2⟩:=CN hr;rw [O] at k2;obtain ⟨y,k3,k4⟩:=D8 H G c (Mq E) _ (OJ h) r k2;exact ⟨y,Gk k1 k3,k4⟩) _ h3
  exact ⟨z,Ex h1 h2 U,Y⟩;cases hr;cases hr
 | .region _ ops false,R,p,f,S,K,E,A,B,j,h,r,hr=>by
  unfold yC at hr ⊢;exact Pq H G (λf S r hr=>E j h _ f S r hr) hr
 | .region _ ops true,R,p,f,S,K,E,A,B,j,h,r,hr=>by
  unfold yC at hr ⊢;split at hr;exact Jk H G (λf S r hr=>E j h _ f S r hr) _ hr;cases hr
 | .rangeFunc ..,R,p,f,S,K,E,A,B,j,h,r,hr=>by unfold yC at hr;cases hr
 | .scope ..,R,p,f,S,K,E,A,B,j,h,r,hr=>by unfold yC at hr;cases hr
 | .goto ..,R,p,f,S,K,E,A,B,j,h,r,hr=>by unfold yC at hr;cases hr
 | .refuse ..,R,p,f,S,K,E,A,B,j,h,r,hr=>by unfold yC at hr;cases hr
theorem Ql:∀ (t:Ty) (x:t.den),(inj t x).length=t.sz
 | .int _,_=>rfl
 | .bool,_=>rfl
 | .str,_=>rfl
 | .sl _,_=>rfl
 | .unit,_=>rfl
 | .pair a b,x=>by
  show (inj a x.1++inj b x.2).length=a.sz+b.sz
  rw [M1l,Ql a,Ql b]
variable {S1:St}{s:Sh}{g:GV}
theorem jh{x:s.den}(h:qg S s x=some (g,S1)):g.ats.length=s.sz:=by
 cases s with
 | d t=>cases h;exact (M1t List.length (VW t x)).trans (Ql t x)
 | own t T=>
  unfold qg at h;simp only at h
  split at h;cases h;rfl;cases h
theorem Sf{x:s.den}(h:qg S s x=some (g,S1)):S1.h=S.h∧S1.df=S.df∧S.nx≤S1.nx∧S1.lg=S.lg∧∀ b,b<S.nx→S1.ow.get b=S.ow.get b:=by
 cases s with
 | d t=>cases h;exact ⟨rfl,rfl,M1g _,rfl,λ_ _=>rfl⟩
 | own t T=>
  unfold qg at h;simp only at h
  split at h;rename_i hl;have hl:=M18 hl;cases h;refine ⟨rfl,rfl,Nat.le_succ _,rfl,λb hb=>?_⟩;show (S.ow.set AD S.nx _).get b=_
  rw [M4m _ _ _ _ _ (by unfold AD;unfold KF at hl;omega),M1e (by omega)];cases h
theorem Bj:∀ {l:List (Option Nat)} {S A:St},CR l S=some A→A.h=S.h∧A.nx=S.nx∧A.df=S.df∧(∀ b o,A.ow.get b=some o→S.ow.get b=some o)∧LgC S A
 | [],S,A,h=>by cases h;exact ⟨rfl,rfl,rfl,λ_ _ h=>h,.refl _⟩
 | none::l,S,A,h=>Bj (l:=l) h
 | some b::l,S,A,h=>by
  unfold CR at h;split at h;rename_i S1 h1;obtain ⟨s1,s2,s3,O,s5⟩:=Ak h1;obtain ⟨E,G,H,I,J⟩:=Bj h;refine ⟨E.trans s1,G.trans s2,H.trans s3,λc o B=>?_,(LgC.of (Lg.seto (name:=S.nx) h1) (M1g _) (M1O s2.symm)).trans J⟩;have:=I c o B;rw [s5] at this;split at this;cases this;exact this;cases h
structure Wr (kill:List Nat) (its:List It) (f:GF) (S:St) (f1:GF) (S1:St):Prop where
 ow:∀ b o,b<S.nx→S.ow.get b=some o→(∃ t,.ow b t∈its)∨S1.ow.get b=some o
 h:∀ b g,b<S.nx→S.h.get b=some g→S1.h.get b=some g∨∃ l lS,g=.cells l∧S1.h.get b=some (.cells lS)∧lS.length=l.length∧∀ k,Br b k its=false→lS[k]? = l[k]?
 sl:Agr kill f f1
 lg:LgC S S1
 df:S1.df=S.df
theorem Wr.refl (kill:List Nat)(its:List It)(f:GF)(S:St):Wr kill its f S f S:=⟨λ_ _ _ h=>.inr h,λ_ _ _ h=>.inl h,.refl _ _,.refl _,rfl⟩
variable {f1:GF}
theorem Wr.trans {kill:List Nat}{f B:GF}(h:Wr kill its f S f1 S1)(k:Wr kill its f1 S1 B S2):Wr kill its f S B S2:=by
 have hn:=h.lg.nx;refine ⟨λb o hb ho=>?_,λb g hb hg=>?_,h.sl.trans k.sl,h.lg.trans k.lg,k.df.trans h.df⟩;rcases h.ow b o hb ho with h1|h1;exact .inl h1;exact k.ow b o (by omega) h1;rcases h.h b g hb hg with h1|⟨l,lS,rfl,h1,h2,h3⟩;exact k.h b g (by omega) h1;rcases k.h b _ (by omega) h1 with A|⟨I,H,e,A,E,G⟩;exact .inr ⟨l,lS,rfl,A,h2,h3⟩;cases e;exact .inr ⟨l,H,rfl,A,E.trans h2,λj hj=>(G j hj).trans (h3 j hj)⟩
theorem Pr:∀ {its:List It} {b i:Nat} {s:Sh} {k:Nat},.cell b i s∈its→i≤k→k<i+s.sz→Br b k its=true
 | [],b,i,s,k,h,_,_=>by cases h
 | j::l,b,i,s,k,h,h1,h2=>by
  rcases M1y.1 h with rfl|h;unfold Br;have a1:Nat.ble i k=true:=M27 h1;have a2:Nat.blt k (i+s.sz)=true:=M27 h2;rw [a1,a2];simp;have A:=Pr h h1 h2;cases j <;> unfold Br
  exact A;rw [A,Bool.or_true];exact A
theorem bP {kill:List Nat}{f:GF}{i:It}{x:i.den}(h:qh f S i x=some (f1,S1))(hi:i∈its)(hk:∀ j s,.slot j s∈its→j∈kill):Wr kill its f S f1 S1:=by
 unfold qh at h;cases i with
 | slot i s=>
  simp only at h;split at h;rename_i g S3 hs H;have H:=M18 H;cases h;obtain ⟨a1,a2,a3,a4,a5⟩:=Sf hs;refine ⟨λb o hb ho=>.inr (by rw [a5 b hb];exact ho),λb g hb hg=>.inl (by rw [a1];exact hg),λj hj=>?_,⟨a3,[],a4,λb _ hb=>⟨by rw [a1],a5 b hb⟩,λb _=>.inl (by rw [a1])⟩,a2⟩;rw [M4m _ _ _ _ _ (by unfold AD;unfold KF at H;omega),M1e];rintro rfl;exact hj (hk _ s hi);cases h
 | cell b i s=>
  simp only at h;split at h;rename_i g S3 hs;obtain ⟨a1,a2,a3,a4,a5⟩:=Sf hs;have ah:=jh hs;split at h;rename_i l0 I;split at h;rename_i l1 ho;obtain ⟨B,hp,e⟩:=M01.1 h;cases e;obtain ⟨p1,p2,p3⟩:=Ax hp;have p4:=DB hp;have p5:=UC hp;obtain ⟨o1,_,rfl⟩:=Dn ho;rw [a1] at I;have J:∀ k,¬ (i≤k∧k<i+s.sz)→(l0.take i++(g.ats++l0.drop (i+g.ats.length)))[k]? = l0[k]?:=λk hk=>by
   by_cases Z:k<i;rw [M1f (by simp;omega),M1r,M1d Z];rw [M1a (by simp;omega),M1q,M2h (by omega),M1a (by omega),M1C];congr 1;omega
  have hl:(l0.take i++(g.ats++l0.drop (i+g.ats.length))).length=l0.length:=by simp;omega
  have E:∀ c,B.h.get c=if c=b then some (.cells (l0.take i++(g.ats++l0.drop (i+g.ats.length)))) else S.h.get c:=λc=>by rw [p3,a1]
  have O:∀ c,c<S.nx→B.ow.get c=S.ow.get c:=λc A=>by rw [p4];exact a5 c A
  refine ⟨λc o A ho=>.inr ((O c A).trans ho),λc gb A hg=>?_,.refl _ _,⟨by show S.nx≤B.nx;rw [p1];exact a3,b::codes b i s.sz,by show b::(codes b i s.sz++B.lg)=_;rw [p5,a4];rfl,λc A hn=>?_,λc hn=>?_⟩,by show B.df=_;rw [p2];exact a2⟩;by_cases e:c=b;subst e;rw [I] at hg;cases hg;refine .inr ⟨l0,_,rfl,(E c).trans (M1d rfl),hl,λk hk=>J k λG=>?_⟩;rw [Pr hi G.1 G.2] at hk;cases hk
  exact .inl (((E c).trans (M1e e)).trans hg);have e:c≠b:=λe=>A (by rw [e];simp)
  exact ⟨(E c).trans (M1e e),O c hn⟩;by_cases e:c=b;subst e;exact .inr ⟨l0,_,I,(E c).trans (M1d rfl),hl,λk hk=>J k λG=>hk (M1c _ (Jg G.1 G.2))⟩;exact .inl ((E c).trans (M1e e));cases h;cases h;cases h
 | ow b t=>
  simp only at h;split at h;rename_i o ho;split at h;obtain ⟨S3,U,Y⟩:=M01.1 h;cases Y;obtain ⟨s1,s2,s3,s4,s5⟩:=Ak U;refine ⟨λc o' A aa=>?_,λc g A hg=>.inl (by rw [s1];exact hg),.refl _ _,LgC.of (Lg.seto (name:=S.nx) U) (M1g _) (M1O s2.symm),s3⟩;by_cases e:c=b;subst e;exact .inl ⟨t,hi⟩;exact .inr (by rw [s5,M1e e];exact aa);cases h;cases h
theorem ET {kill:List Nat}{its:List It}(hk:∀ j s,.slot j s∈its→j∈kill):∀ {l:List It} {x:Ay l} {f f1:GF} {S S1:St},Es l x f S=some (f1,S1)→(∀ i∈l,i∈its)→Wr kill its f S f1 S1
 | [],x,f,f1,S,S1,h,_=>by cases h;exact .refl _ _ _ _
 | [i],x,f,f1,S,S1,h,hl=>bP h (hl i (by simp)) hk
 | i::j::l,x,f,f1,S,S1,h,hl=>by
  unfold Es at h;split at h;rename_i A S2 h1;exact (bP h1 (hl i (by simp)) hk).trans (ET hk (l:=j::l) h λi hi=>hl i (M1c _ hi));cases h
theorem Sg:∀ {l m:List Nat},eqD l m=true→l=m
 | [],[],_=>rfl
 | a::l,b::m,h=>by
  unfold eqD at h;rw [M05] at h;rw [M0g h.1,Sg h.2]
 | [],_::_,h=>by cases h
 | _::_,[],h=>by cases h
variable {p:Ren}{w0 w:World}
theorem ql {N:Nat→Prop}{q q':Ren}{A:Nat}{own:List (Option Nat)}(h:Ch N p w0 q w)(hg:Gh q S w q' S')(hp:∀ b,A≤b→By p b):Ch (λb=>A≤b∧b<A+own.length) p w0 (q2 p q' A own) w:=by
 have B:Ch N p w0 q' w:=h.trans (hg.ch N);have H:∀ {b x},p.ov b=some x→b<A:=λ{b x} E=>M2F λhn=>by rw [(hp b hn).2] at E;cases E
 refine ⟨⟨λ_ _ h=>h,λb x E=>by rw [OP (H E)];exact E,B.le.z⟩,λb hb=>?_,B.os,B.tape,B.output,B.size,B.out,λk hk=>?_,B.lv⟩;by_cases hn:b<A;left;intro hf;exact hb ⟨hf.1,by rw [OP hn];exact hf.2⟩;right;refine ⟨by omega,M2F λhl=>hb ⟨(hp b (by omega)).1,?_⟩⟩;show (if b<A then p.ov b else newO q' own[b-A]?)=none
 rw [M1e hn,M1h (by omega)];rfl;rcases hk with ⟨b,x,h1,h2⟩|⟨b,y,h1,h2⟩;exact .inl (.inl ⟨b,x,h1,h2⟩);by_cases hn:b<A;rw [OP hn] at h1;exact .inl (.inr ⟨b,y,h1,h2⟩)
 have h1:(if b<A then p.ov b else newO q' own[b-A]?)=some y:=h1;rw [M1e hn] at h1;cases ho:own[b-A]? with
 | none=>rw [ho] at h1;cases h1
 | some G=>
  rw [ho] at h1;cases G with
  | none=>cases h1;cases h2
  | some c=>exact B.img k (.inr ⟨c,y,h1,h2⟩)
structure Bs (kill:List Nat) (its:List It) (f:GF) (S:St) (f1:GF) (S1:St):Prop where
 ow:∀ b o,b<S.nx→S.ow.get b=some o→(∃ t,.ow b t∈its)∨S1.ow.get b=some o
 h:∀ b g,b<S.nx→S.h.get b=some g→S1.h.get b=some g∨∃ l lS,g=.cells l∧S1.h.get b=some (.cells lS)∧lS.length=l.length∧∀ k,Br b k its=false→lS[k]? = l[k]?
 sl:Agr kill f f1
 nx:S.nx≤S1.nx
theorem Wr.bs {kill:List Nat}{f:GF}(h:Wr kill its f S f1 S1):Bs kill its f S f1 S1:=⟨h.ow,h.h,h.sl,h.lg.nx⟩
variable {f':GF}
theorem Qm{kill:List Nat}{B:GF}{A:St}{Y:Fr}(I:RH p A w0)(ad:RF' p B Y)(J:qj n B A kill its=true){f:GF}(hb:Bs kill its B A f S){q:Ren}{fr:Fr}{N:Nat→Prop}(hf:RF' q f' fr)(hh:RH q S' w)(O:Ch N p w0 q w)(ac:Agr kill f f')(af:LgC S S')(ag:Eo f' its S'=some (t,S2))(E:Hm its S A f' S2=true)(hw:Es its t (clr kill B) A=some (f1,S1)){a:Act}(hd:DF a.defers S'.df) :
  ∃ G,RF' G f1 fr∧RH G S1 w∧Ch (λb=>A.nx≤b∧b<S1.nx) p w0 G w∧DF a.defers S1.df:=by
 obtain ⟨q',H,Z,g3,_,g5⟩:=rk I ad J hb.ow hb.h hb.nx hb.sl hf hh O.le ac af ag E hw;refine ⟨_,Z,g3,?_,?_⟩;rw [g5];exact ql O H I.fr;have U:=(ET (DL J).2.1 hw λ_ h=>h).df;unfold Hm at E;rw [M05] at E;rw [U,Sg E.1,H.df];exact hd
theorem ji {kill:List Nat}{f:GF}(h:∀ k∈kill,k<KF)(h1:Agr kill (clr kill f) f1):Agr kill f f1:=λi hi=>by rw [h1 i hi,Qi h,M1e hi]
theorem Wr.clr {kill:List Nat}{f:GF}(h:∀ k∈kill,k<KF)(h1:Wr kill its (clr kill f) S f1 S1):Wr kill its f S f1 S1:=⟨h1.ow,h1.h,ji h h1.sl,h1.lg,h1.df⟩
def LgB (N:Nat) (S S':St):Prop:=∃ l,S'.lg=l++S.lg∧(∀ b,b∉l→b<N→S'.h.get b=S.h.get b∧S'.ow.get b=S.ow.get b)∧∀ b,b<N→Hst l S S' b
theorem LgB.refl (N:Nat)(S:St):LgB N S S:=⟨[],rfl,λ_ _ _=>⟨rfl,rfl⟩,λ_ _=>.inl rfl⟩
theorem LgB.trans {N:Nat}(h:LgB N S S')(k:LgB N S' B):LgB N S B:=by
 obtain ⟨l,h1,h2,h3⟩:=h;obtain ⟨m,E,G,H⟩:=k;refine ⟨m++l,by rw [E,h1,M20],λb hb hn=>?_,λb hn=>(h3 b hn).trans (H b hn)⟩;have hm:=G b (λA=>hb (M1T _ A)) hn;have hl:=h2 b (λA=>hb (M1z _ A)) hn;exact ⟨hm.1.trans hl.1,hm.2.trans hl.2⟩
theorem Qn(A:Cw P call){f:GF}(h:stepG (J0 P call) n ops.toList base i o f S=some (f',S'))(hb:base≤S.nx):LgB base S S':=by
 obtain ⟨l,h1,h2,h3⟩:=Sd A h;exact ⟨l,h1,λb hb hn=>h2 b hb (by omega) (by omega),λb hn=>h3 b (by omega) (by omega)⟩
theorem Si{t:Nat}(h:ops[i]? = some o)(hd:o.dst=some t):t∈ops.toList.filterMap (·.dst):=
 M3W.2 ⟨o,M1k (by rw [M1E];exact h),hd⟩
theorem Qo(I:Cw P call)(J:D6 P (J0 P call)){rem:List (Nat×Oper)}{done loose:List Nat}{f:GF}(h:RegD (J0 P call) n ops base f' S' rem done loose f S) :
  (∀ x∈rem,ops[x.1]? = some x.2)→base≤S.nx→Agr (ops.toList.filterMap (·.dst)) f f'∧LgB base S S':=by
 induction h with
 | fin=>exact λ_ _=>⟨.refl _ _,.refl _ _⟩
 | flt hm _ A _ E=>
  intro hr hb;obtain ⟨G,H⟩:=E (λx B=>hr x (M1Z.1 B).1) (M1B hb (CX J A));exact ⟨Agr.trans (λt ht=>GU A t λe=>ht (Si (hr _ hm) e)) G,(Qn I A hb).trans H⟩
 | @mov rem done loose f f1 S S1 i o _ hm A _ E=>
  intro hr hb;obtain ⟨G,H⟩:=E (λx B=>hr x (M1Z.1 B).1) (M1B hb (CX J A));have O:(i,o)∈rem.filter (λp=>BU p.2 done):=by rw [hm];exact M19.2 rfl
  exact ⟨Agr.trans (λt ht=>GU A t λe=>ht (Si (hr _ (M1Z.1 O).1) e)) G,(Qn I A hb).trans H⟩
theorem Mr {P:Program}{call:CK}(B:Cw P call)(E:D6 P (J0 P call)){n base:Nat}{ops:Array Oper}:∀ (l:List Oper) (i:Nat) {f f':GF} {S S':St},OK (J0 P call) n ops.toList base l i f S=some (f',S')→(∀ o∈l,o∈ops.toList)→base≤S.nx→
  Agr (ops.toList.filterMap (·.dst)) f f'∧LgB base S S'
 | [],i,f,f',S,S',hs,_,_=>by cases hs;exact ⟨.refl _ _,.refl _ _⟩
 | o::l,i,f,f',S,S',hs,hl,hb=>by
  unfold OK at hs;split at hs;rename_i f1 S1 A;obtain ⟨G,H⟩:=Mr B E l _ hs (λo ho=>hl o (M1c _ ho)) (M1B hb (CX E A));exact ⟨Agr.trans (λt ht=>GU A t λe=>ht (M3W.2 ⟨o,hl o (by simp),e⟩)) G,(Qn B A hb).trans H⟩;cases hs
structure End (n:Nat) (D:List Nat) (f:GF) (S:St) (p:Ren) (w:World) (f':GF) (S':St) (q:Ren) (a':Act) (fr':Fr) (w':World):Prop where
 ra:RA n a' fr'
 rf:RF' q f' fr'
 rh:RH q S' w'
 ch:Ch (λb=>S.nx≤b∧b<S'.nx) p w q w'
 df:DF a'.defers S'.df
 ag:Agr D f f'
 lg:LgC S S'
theorem End.trans{D A B:List Nat}{f:GF}{q r:Ren}{H I:World}{a1 a2:Act}{J G:Fr}(h:End n A f S p w f1 S1 q a1 J H)(k:End n B f1 S1 q H E S2 r a2 G I)(h1:∀ i∈A,i∈D)(h2:∀ i∈B,i∈D):End n D f S p w E S2 r a2 G I:=by
 have O:=h.lg.nx;have U:=k.lg.nx;exact ⟨k.ra,k.rf,k.rh,(h.ch.mono λb hb=>⟨hb.1,by omega⟩).trans (k.ch.mono λb hb=>⟨by omega,hb.2⟩),k.df,(h.ag.sub h1).trans (k.ag.sub h2),h.lg.trans k.lg⟩
theorem End.sub{D A:List Nat}{f:GF}{q:Ren}{E:World}{a1:Act}{B:Fr}(h:End n D f S p w f1 S1 q a1 B E)(h1:∀ i∈D,i∈A):End n A f S p w f1 S1 q a1 B E:=
 ⟨h.ra,h.rf,h.rh,h.ch,h.df,h.ag.sub h1,h.lg⟩
theorem Ic(E:G6 K){j:R→A}{e:GX}{x:Al (Ay its) A}(h:JV its S B K (Al (Ay its) A) (OJ j) e f' S'=some x) :
  (e=.nrm∧∃ t S2,Eo f' its S'=some (t,S2)∧Hm its S B f' S2=true∧x=.next t)∨(e≠.nrm∧∃ y,K A j e f' S'=some y∧x=.done y):=by
 unfold JV at h;cases e with
 | nrm=>
  obtain ⟨t,S2,h1,h2,h3⟩:=Co h;cases h3;exact .inl ⟨rfl,t,S2,h1,h2,rfl⟩
 | exit id=>
  obtain ⟨y,h1,h2⟩:=E j (Al.done (σ:=Ay its)) _ f' S' x h;exact .inr ⟨by simp,y,h1,h2⟩
 | ret=>
  obtain ⟨y,h1,h2⟩:=E j (Al.done (σ:=Ay its)) _ f' S' x h;exact .inr ⟨by simp,y,h1,h2⟩
theorem EU{kill:List Nat}{f:GF}{A:St}(h:VP n its kill f S=some A):CR (AM f S its) S=some A∧qj n f A kill its=true:=by
 unfold VP at h;split at h;rename_i S1 h1;split at h;rename_i h2;cases h;exact ⟨h1,h2⟩;cases h;cases h
theorem bR(I:Cw P call)(H:Pn call){cs:List Nat}{G:List (Nat×List It)}{b:Code}{p:Nat}(E:G6 K):G6 (λA j e f S=>match e with
    | .nrm=>yC std P call n cs G b p f S K A j
    | e=>K A j e f S):=λ{A B} j h e f S r hr=>by
 cases e with
 | nrm=>exact D8 I H b E j h r hr
 | exit id=>exact E j h _ f S r hr
 | ret=>exact E j h _ f S r hr
theorem Ms{id:Nat}(E:G6 K):G6 (λA j e f S=>match e with
   | .exit G=>match Nat.beq G id with
    | true=>K A j .nrm f S
    | false=>K A j (.exit G) f S
   | e=>K A j e f S):=λ{A B} j h e f S r hr=>by
 cases e with
 | nrm=>exact E j h _ f S r hr
 | ret=>exact E j h _ f S r hr
 | exit G=>
  simp only at hr ⊢;split at hr;exact E j h _ f S r hr;exact E j h _ f S r hr
def YOK (P:Program) (call:CK) (n:Nat) (cs:List Nat) (B:List (Nat×List It)) (c:Code):Prop:=
 ∀ {R:Type} {p:Nat} {f:GF} {S:St} {K:Kt R} {A:Type} {j:R→A} {r:A},G6 K→yC std P call n cs B c p f S K A j=some r→∀ {q:Ren} {a:Act} {fr:Fr} {w:World} {QA:Exit→Act→World→Prop},RA n a fr→RF' q f fr→RH q S w→DF a.defers S.df→
  (∀ e f' S' q' a' fr' w',End n (AS c) f S q w f' S' q' a' fr' w'→K A j e f' S'=some r→QA (Gf e) a' w')→c.wp P QA a w
theorem Sk {P:Program}{call:CK}{n:Nat}{cs:List Nat}{U:List (Nat×List It)}{c:Code}(ih:YOK P call n cs U c){R:Type}{p:Nat}{f:GF}{B:St}{its:List It}{K:Kt R}(I:G6 K){A:Type}{j:R→A}{r:A}
  {q0:Ren}{ah:Fr}{w0:World}(h0:RH q0 B w0)(ae:RF' q0 f ah)(H:qj n f B (AS c) its=true){QA:Exit→Act→World→Prop}
  (hQ:∀ e f' S' q' a' fr' w',End n (AS c) f B q0 w0 f' S' q' a' fr' w'→e≠.nrm→K A j e f' S'=some r→QA (Gf e) a' w') :
  ∀ (m:Nat) {t:Ay its} {a:Act} {fr:Fr} {w:World},RA n a fr→(∀ G Sh,Es its t (clr (AS c) f) B=some (G,Sh)→∃ q,RF' q G fr∧RH q Sh w∧Ch (λb=>B.nx≤b∧b<Sh.nx) q0 w0 q w∧DF a.defers Sh.df)→
   loopN (λt=>Hl its f B (AS c) t λf1 S1=>yC (R:=Al (Ay its) R) std P call n cs U c (2*p) f1 S1 (JV its S1 B K) (Al (Ay its) A) (OJ j)) m t=some r→Code.rounds P c QA m a w
 | 0,t,a,fr,w,_,_,h=>by cases h
 | m+1,t,a,fr,w,hr,hin,h=>by
  obtain ⟨i1,i2,_,_⟩:=DL H;unfold loopN at h;obtain ⟨x,h1,h2⟩:=bind_some h;obtain ⟨G,Sh,h3,h4⟩:=CN h1;obtain ⟨q,Y,Z,g3,g4⟩:=hin G Sh h3;have J:=(ET (its:=its) (kill:=AS c) i2 h3 λ_ h=>h).clr i1;have ak:End n (AS c) f B q0 w0 G Sh q a fr w:=⟨hr,Y,Z,g3,g4,J.sl,J.lg⟩
  rw [rounds_succ];refine ih (Mq I) h4 hr Y Z g4 λe f' S' q' a' fr' w' E hk=>?_
  have ad:=ak.trans E (D:=AS c) (λ_ h=>h) (λ_ h=>h);rcases Ic I hk with ⟨rfl,t',S2,O,k2,rfl⟩|⟨hne,y,O,rfl⟩
  show Code.rounds P c QA m a' w'
  refine Sk ih I h0 ae H hQ m E.ra (λax aw hw=>?_) h2;obtain ⟨q1,j1,j2,j3,j4⟩:=Qm h0 ae H J.bs E.rf E.rh ad.ch E.ag E.lg O k2 hw E.df;exact ⟨q1,j1,j2,j3,j4⟩;cases h2;have:=hQ e f' S' q' a' fr' w' ad hne O;cases e with
  | nrm=>exact absurd rfl hne
  | exit id=>exact this
  | ret=>exact this
theorem bS {P:Program}{call:CK}(Y:Cw P call)(U:Pn call){n:Nat}{cs:List Nat}{E:List (Nat×List It)}{c:Code}(Z:YOK P call n cs E c){R:Type}{p:Nat}{K:Kt R}(G:G6 K){A:Type}{j:R→A}{r:A}
  {O:GF} {J:St} {q0:Ren} {w0:World} {QA:Exit→Act→World→Prop}
  (H:∀ e f' S' q' a' fr' w',End n (AS c) O J q0 w0 f' S' q' a' fr' w'→e≠.nrm→K A j e f' S'=some r→QA (Gf e) a' w') :
  ∀ (m:Nat) {f:GF} {S:St} {q:Ren} {a:Act} {fr:Fr} {w:World},End n (AS c) O J q0 w0 f S q a fr w→
   YV (λf S K A j=>yC std P call n cs E c p f S K A j) m f S K A j=some r→Code.rounds P c QA m a w
 | 0,f,S,q,a,fr,w,_,h=>by cases h
 | m+1,f,S,q,a,fr,w,hpre,h=>by
  rw [rounds_succ];refine Z (K:=rm (λf S K A j=>yC std P call n cs E c p f S K A j) m K) (bM (body:=λf S K A j=>yC std P call n cs E c p f S K A j) (λ{_ _ _} G {A B} j h r hr=>D8 Y U c G j h r hr) G m) h hpre.ra hpre.rf hpre.rh hpre.df λe f' S' q' a' fr' w' he hk=>?_
  have I:=hpre.trans he (D:=AS c) (λ_ h=>h) (λ_ h=>h);cases e with
  | nrm=>exact bS Y U Z G H m I hk
  | exit id=>exact H _ f' S' q' a' fr' w' I (by simp) hk
  | ret=>exact H _ f' S' q' a' fr' w' I (by simp) hk
theorem Gm {P:Program}(O:P.follows .mixedOrders=true){call:CK}(G:Cw P call)(J:Pn call)(E:D6 P (J0 P call)){n:Nat}{cs:List Nat}{an:List (Nat×List It)}:∀ c:Code,YOK P call n cs an c
 | .skip,R,p,f,S,K,A,j,r,hK,h,q,a,fr,w,QA,hr,hf,hh,hd,hQ=>by
  unfold yC at h;exact wp_skip (hQ .nrm f S q a fr w ⟨hr,hf,hh,Ch.refl _ _ _,hd,.refl _ _,.refl _⟩ h)
 | .label _,R,p,f,S,K,A,j,r,hK,h,q,a,fr,w,QA,hr,hf,hh,hd,hQ=>by
  unfold yC at h;exact wp_label (hQ .nrm f S q a fr w ⟨hr,hf,hh,Ch.refl _ _ _,hd,.refl _ _,.refl _⟩ h)
 | .ret,R,p,f,S,K,A,j,r,hK,h,q,a,fr,w,QA,hr,hf,hh,hd,hQ=>by
  unfold yC at h;exact wp_ret (hQ .ret f S q a fr w ⟨hr,hf,hh,Ch.refl _ _ _,hd,.refl _ _,.refl _⟩ h)
 | .exit id,R,p,f,S,K,A,j,r,hK,h,q,a,fr,w,QA,hr,hf,hh,hd,hQ=>by
  unfold yC at h;exact wp_exit (hQ (.exit id) f S q a fr w ⟨hr,hf,hh,Ch.refl _ _ _,hd,.refl _ _,.refl _⟩ h)
 | .seq x y,R,p,f,S,K,A,j,r,hK,h,q,a,fr,w,QA,hr,hf,hh,hd,hQ=>by
  have s1:∀ i∈AS x,i∈AS (.seq x y):=λi hi=>by unfold AS;exact M1T _ hi
  have s2:∀ i∈AS y,i∈AS (.seq x y):=λi hi=>by unfold AS;exact M1z _ hi
  unfold yC at h;split at h;refine wp_seq (Gm O G J E x (bR G J hK) h hr hf hh hd λe f' S' q' a' fr' w' B hk=>?_);cases e with
  | nrm=>exact Gm O G J E y hK hk B.ra B.rf B.rh B.df λH Y S2 q2 a2 Z w2 aa ab=>hQ H Y S2 q2 a2 Z w2 (B.trans aa s1 s2) ab
  | exit id=>exact hQ _ f' S' q' a' fr' w' (B.sub s1) hk
  | ret=>exact hQ _ f' S' q' a' fr' w' (B.sub s1) hk
  rename_i its ha;split at h;rename_i U hg;obtain ⟨g1,g2⟩:=EU hg;obtain ⟨e1,H,e3,e4,e5⟩:=Bj g1;obtain ⟨i1,i2,_,_⟩:=DL g2;have hb:Bs (AS x) its f U f S:=⟨λb o _ ho=>.inr (e4 b o ho),λb g _ hg=>.inl (by rw [←e1];exact hg),.refl _ _,M1O H⟩
  have h0:RH q U w:=hh.sub e1 (M1O H.symm) e4;obtain ⟨v,h1,h2⟩:=bind_some h;refine wp_seq (Gm O G J E x (Mq hK) h1 hr hf hh hd λe f' S' q' a' fr' w' B hk=>?_);rcases Ic hK hk with ⟨rfl,t,S2,I,k2,rfl⟩|⟨hne,y',I,rfl⟩
  obtain ⟨f1,S1,k3,k4⟩:=CN h2;have aH:=(ET (its:=its) (kill:=AS x) i2 k3 λ_ h=>h).clr i1;obtain ⟨q1,j1,j2,j3,j4⟩:=Qm h0 hf g2 hb B.rf B.rh B.ch B.ag B.lg I k2 k3 B.df;have ay:End n (AS x) f S q w f1 S1 q1 a' fr' w':=⟨B.ra,j1,j2,j3.mono λb hb=>⟨by omega,hb.2⟩,j4,aH.sl,e5.trans aH.lg⟩
  exact Gm O G J E y hK k4 B.ra j1 j2 j4 λH Y S2 q2 a2 Z w2 aa ab=>hQ H Y S2 q2 a2 Z w2 (ay.trans aa s1 s2) ab
  cases h2;have:=hQ e f' S' q' a' fr' w' (B.sub s1) I;cases e with
  | nrm=>exact absurd rfl hne
  | exit id=>exact this
  | ret=>exact this
  cases h
 | .cond c x y,R,p,f,S,K,A,j,r,hK,h,q,a,fr,w,QA,hr,hf,hh,hd,hQ=>by
  have s1:∀ i∈AS x,i∈AS (.cond c x y):=λi hi=>by unfold AS;exact M1T _ hi
  have s2:∀ i∈AS y,i∈AS (.cond c x y):=λi hi=>by unfold AS;exact M1z _ hi
  unfold yC at h;split at h;rename_i b hc;have aD:ev fr c=.bool b:=KP hc λt _ g hg=>hf t g hg
  cases b with
  | true=>exact wp_cond_true (by rw [hr.eval];exact aD) (Gm O G J E x hK h hr hf hh hd λH Y S2 q2 a2 Z w2 aa ab=>hQ H Y S2 q2 a2 Z w2 (aa.sub s1) ab)
  | false=>exact wp_cond_false (by rw [hr.eval];exact aD) (Gm O G J E y hK h hr hf hh hd λH Y S2 q2 a2 Z w2 aa ab=>hQ H Y S2 q2 a2 Z w2 (aa.sub s2) ab)
  cases h
 | .block id c,R,p,f,S,K,A,j,r,hK,h,q,a,fr,w,QA,hr,hf,hh,hd,hQ=>by
  unfold yC at h;refine wp_block (Gm O G J E c (Ms hK) h hr hf hh hd λe f' S' q' a' fr' w' B hk=>?_);have B:End n (AS (.block id c)) f S q w f' S' q' a' fr' w':=B;cases e with
  | nrm=>exact hQ _ f' S' q' a' fr' w' B hk
  | ret=>exact hQ _ f' S' q' a' fr' w' B hk
  | exit aY=>
   simp only at hk;show Exit.inBlock id QA (.exit aY) a' w'
   unfold Exit.inBlock;simp only;split at hk;rename_i aw;rw [M1d (M0g aw)];exact hQ _ f' S' q' a' fr' w' B hk;rename_i aw;rw [M1e (λe=>by subst e;simp at aw)];exact hQ _ f' S' q' a' fr' w' B hk
 | .loop c,R,p,f,S,K,A,j,r,hK,h,q,a,fr,w,QA,hr,hf,hh,hd,hQ=>by
  unfold yC at h;split at h;exact wp_loop_rounds 9 (bS G J (Gm O G J E c) hK (λe f' S' q' a' fr' w' B _ hk=>hQ e f' S' q' a' fr' w' B hk) 9 ⟨hr,hf,hh,Ch.refl _ _ _,hd,.refl _ _,.refl _⟩ h);rename_i its ha;split at h;rename_i x0 S1 aF;split at h;rename_i U hg;obtain ⟨g1,g2⟩:=EU hg;obtain ⟨e1,H,e3,e4,e5⟩:=Bj g1;obtain ⟨i1,i2,i3,_⟩:=DL g2;obtain ⟨t0,S2,h1,h2,h3⟩:=Co h;have aC:=E8 h1;have au:=E8 aF;have ho:∀ b,some b∈AM f S its++U4 its→∃ o,S1.ow.get b=some o∧o.mu=true:=λb hb=>by
   have av:=h2;unfold Hm at av;simp only [M05] at av;obtain ⟨o,ho,hm⟩:=(DK av.2.1).1 b (by rw [DJ (au.trans aC).h];exact hb);exact ⟨o,aC.mu b o ho hm,hm⟩
  obtain ⟨q1,I,k2,k3,k4⟩:=Ia aF hf hh (λb k s hm=>by
   obtain ⟨_,_,j,o,hj⟩:=i3 b k s hm;obtain ⟨r,base,m,hp,_⟩:=hf j _ hj;rw [hp];simp) ho
  have h0:RH q1 U w:=I.rh.sub e1 (M1O H.symm) e4;have am:RF' q1 f fr:=hf.mono I.le;have hL:LgC S U:=(LgC.of (k4 S.nx) (M1g _) (M1O au.nx.symm)).trans e5;have hb:Bs (AS c) its f U f S1:=⟨λb o _ ho=>.inr (e4 b o ho),λb g _ hg=>.inl (by rw [←e1];exact hg),.refl _ _,M1O H⟩
  have aE:DF a.defers S1.df:=by rw [au.df];exact hd
  have aU:DF a.defers U.df:=by rw [e3];exact aE
  have ay:End n (AS c) f S q w f U q1 a fr w:=⟨hr,am,h0,(I.ch _),aU,.refl _ _,hL⟩
  rw [Qj] at h3;unfold loop at h3;refine wp_loop_rounds _ (Sk (Gm O G J E c) hK h0 am g2 (λe f' S' q' a' fr' w' B _ hk=>hQ e f' S' q' a' fr' w' (ay.trans B (λ_ h=>h) λ_ h=>h) hk) _ hr (λfh Sh hw=>?_) h3);exact Qm h0 am g2 hb am I.rh (Ch.refl (λ_=>False) _ _) (.refl _ _) (.refl _) h1 h2 hw aE
  cases h;cases h
 | .region _ ops false,R,p,f,S,K,A,j,r,hK,h,q,a,fr,w,QA,hr,hf,hh,hd,hQ=>by
  unfold yC at h;obtain ⟨f1,S1,h1,h2⟩:=Ew G h;obtain ⟨b1,b2⟩:=Mr G E ops.toList 0 h1 (λ_ h=>h) (M1H _ _);have ax:S.nx≤S1.nx:=M1B (M1H _ _) (EI E _ _ h1);refine wp_region_list ?_;have:=K5 E (QA:=QA) ops.toList 0 h1 hr hf (hh.congr (λ_ _=>rfl) (M1H _ _) λ_ _=>rfl) (λj _ _=>hh.fr _ (M1H _ _)) (by simp) hd (λq' a' fr' w' I k2 k3 k4 k5=>hQ .nrm f1 S1 q' a' fr' w' ⟨I,k2,k3,k4,k5,b1,ax,b2⟩ h2)
  rwa [M1U] at this
 | .region _ ops true,R,p,f,S,K,A,j,r,hK,h,q,a,fr,w,QA,hr,hf,hh,hd,hQ=>by
  unfold yC at h;split at h;rename_i hb;simp only [M05] at hb;have aG:∀ x∈B1 ops.toList 0,ops[x.1]? = some x.2:=λx hx=>by simpa using (BH _ _ x hx).2
  obtain ⟨f1,S1,h1,h2⟩:=Ji G E _ h aG (λx hx=>by cases hx);obtain ⟨b1,b2⟩:=Qo G E h1 aG (M1H _ _);have ax:S.nx≤S1.nx:=M1B (M1H _ _) (I4 E h1);exact Jc O E hb.1 hb.2 h1 hr hf hh hd λq' a' fr' w' I k2 k3 k4 k5=>hQ .nrm f1 S1 q' a' fr' w' ⟨I,k2,k3,k4,k5,b1,ax,b2⟩ h2
  cases h
 | .rangeFunc ..,R,p,f,S,K,A,j,r,hK,h,q,a,fr,w,QA,hr,hf,hh,hd,hQ=>by unfold yC at h;cases h
 | .scope ..,R,p,f,S,K,A,j,r,hK,h,q,a,fr,w,QA,hr,hf,hh,hd,hQ=>by unfold yC at h;cases h
 | .goto ..,R,p,f,S,K,A,j,r,hK,h,q,a,fr,w,QA,hr,hf,hh,hd,hQ=>by unfold yC at h;cases h
 | .refuse ..,R,p,f,S,K,A,j,r,hK,h,q,a,fr,w,QA,hr,hf,hh,hd,hQ=>by unfold yC at h;cases h
end
def conds:Code→List Nat
 | .seq a b=>conds a++conds b
 | .cond c a b=>(match c with | .tmp t=>[t] | _=>[])++(conds a++conds b)
 | .block _ c=>conds c
 | .loop c=>conds c
 | _=>[]
inductive Pat where
 | ptr (m:Nat)
 | fn (g:FuncId) (a c:List Pat)
mutual
def Pat.gv:Pat→GV
 | .ptr m=>.ptr m 0
 | .fn g a c=>.func g (gvs a) (gvs c)
def gvs:List Pat→List GV
 | []=>[]
 | p::l=>p.gv::gvs l
end
structure Be where
 na:Nat
 sz:List Nat
 bx:List (Nat×Pat)
 ins:List It
 outs:List It
 lend:Bool
 F:Ay ins→Option (Ay outs)
def BD:Nat:=1000000
def Qp:List Nat→Nat→St→Option St
 | [],_,S=>some S
 | n::l,b,S=>match S.put b (some (.cells (List.replicate n .nilp))) with
  | some S=>Qp l (b+1) S
  | none=>none
def VX:List (Nat×Pat)→GF→Option GF
 | [],f=>some f
 | (i,p)::l,f=>match Nat.blt i KF with
  | true=>VX l (f.set AD i (some p.gv))
  | false=>none
def UL (sz:List Nat) (bx:List (Nat×Pat)) (ins:List It) (x:Ay ins):Option (GF×St):=match VX bx .lf,Qp sz 0 ⟨.lf,sz.length,[],.lf,[]⟩ with
 | some f0,some S0=>match Es ins x f0 S0 with
  | some (f,S)=>some (f,⟨S.h,S.nx,[],S.ow,[]⟩)
  | none=>none
 | _,_=>none
def EV:List GV→Nat→GF→GF
 | [],_,f=>f
 | v::l,i,f=>EV l (i+1) (f.set AD i (some v))
def Hn:List It→Nat
 | []=>0
 | .slot ..::l=>Hn l+1
 | _::l=>Hn l
def Mt (n:Nat) (p:Nat→Bool):Bool:=match n with
 | 0=>true
 | n+1=>p n&&Mt n p
def CA (sz:List Nat) (its:List It):Bool:=Mt sz.length (λm=>Nat.blt 0 (sz.getD m 0)&&Mt (sz.getD m 0) λk=>Br m k its)&&its.all fun
 | .slot _ _=>true
 | .cell b _ _=>Nat.blt b sz.length
 | .ow _ _=>false
def Qq:Option GB→Bool
 | some (.cells _)=>true
 | _=>false
def bT (P:Program) (rs:List ResultVar) (nb:Nat) (outs:List It):Kt (Ay outs):=λA j e f S=>match e,S.df.all (Hf P),J8 P f S rs with
 | .exit _,_,_=>none
 | _,true,some vs=>match Eo (EV vs BD .lf) outs S with
  | some (y,S')=>match Nat.beq vs.length (Hn outs)&&(Nat.ble vs.length 1000&&(Zx S' (AM (EV vs BD .lf) S' outs)&&Mt nb λm=>Qq (S'.h.get m))) with
   | true=>some (j y)
   | false=>none
  | none=>none
 | _,_,_=>none
def fnY (L:Lp) (P:Program) (call:CK) (A:List (Nat×List It)) (na:Nat) (sz:List Nat) (bx:List (Nat×Pat)) (ins outs:List It) (g:FuncId) (x:Ay ins):Option (Ay outs):=match P.funcs[g]? with
 | some fn=>match fn.body,Nat.ble na fn.ntmps,UL sz bx ins x with
  | some c,true,some (f,S)=>yC (R:=Ay outs) L P call fn.ntmps (conds c) A c 1 f S (bT P fn.results.toList sz.length outs) (Ay outs) id
  | _,_,_=>none
 | none=>none
abbrev qm:=List (Nat×Nat)
def DU:qm→Nat→Nat
 | [],_=>0
 | (k,b)::l,i=>match Nat.beq k i with
  | true=>b
  | false=>DU l i
def Ef (ν:Nat→Nat):It→It
 | .slot i s=>.slot i s
 | .cell b i s=>.cell (ν b) i s
 | .ow b t=>.ow b t
def rp (ν:Nat→Nat):(i:It)→i.den→(Ef ν i).den
 | .slot _ _,x=>x
 | .cell _ _ _,x=>x
 | .ow _ _,x=>x
def unI (ν:Nat→Nat):(i:It)→(Ef ν i).den→i.den
 | .slot _ _,x=>x
 | .cell _ _ _,x=>x
 | .ow _ _,x=>x
def Pt (ν:Nat→Nat):(l:List It)→Ay l→Ay (l.map (Ef ν))
 | [],_=>()
 | [i],x=>rp ν i x
 | i::j::l,x=>(rp ν i x.1,Pt ν (j::l) x.2)
def UM (ν:Nat→Nat):(l:List It)→Ay (l.map (Ef ν))→Ay l
 | [],_=>()
 | [i],x=>unI ν i x
 | i::j::l,x=>(unI ν i x.1,UM ν (j::l) x.2)
mutual
def qn:Pat→GV→qm→Option qm
 | .ptr m,.ptr c 0,tr=>some ((m,c)::tr)
 | .fn g a c,.func g' b d,tr=>match Nat.beq g g' with
  | true=>match UN a b tr with
   | some tr=>UN c d tr
   | none=>none
  | false=>none
 | _,_,_=>none
def UN:List Pat→List GV→qm→Option qm
 | [],[],tr=>some tr
 | p::l,g::m,tr=>match qn p g tr with
  | some tr=>UN l m tr
  | none=>none
 | _,_,_=>none
end
def qp (f:GF):List (Nat×Pat)→qm→Option qm
 | [],tr=>some tr
 | (i,p)::l,tr=>match f.get i with
  | some g=>match qn p g tr with
   | some tr=>qp f l tr
   | none=>none
  | none=>none
mutual
def Sl (ν:Nat→Nat) (nb:Nat):Pat→GV→Bool
 | .ptr m,.ptr c 0=>Nat.blt m nb&&Nat.beq (ν m) c
 | .fn g a c,.func g' b d=>Nat.beq g g'&&(Mu ν nb a b&&Mu ν nb c d)
 | _,_=>false
def Mu (ν:Nat→Nat) (nb:Nat):List Pat→List GV→Bool
 | [],[]=>true
 | p::l,g::m=>Sl ν nb p g&&Mu ν nb l m
 | _,_=>false
end
mutual
def UO (m:Nat):Pat→Bool
 | .ptr k=>Nat.beq k m
 | .fn _ a c=>Sm m a||Sm m c
def Sm (m:Nat):List Pat→Bool
 | []=>false
 | p::l=>UO m p||Sm m l
end
def bU (ν:Nat→Nat) (nb:Nat) (f:GF) (bx:List (Nat×Pat)):Bool:=bx.all λx=>match f.get x.1 with
 | some g=>Sl ν nb x.2 g
 | none=>false
def bV (ν:Nat→Nat) (S:St) (sz:List Nat):Bool:=Mt sz.length λm=>(match S.h.get (ν m) with
 | some (.cells l)=>Nat.beq l.length (sz.getD m 0)
 | _=>false)&&(Nat.blt (ν m) S.nx&&Mt m λk=>!(Nat.beq (ν k) (ν m)))
def Jl:Ty→Bool
 | .sl _=>false
 | .pair a b=>Jl a&&Jl b
 | _=>true
def DM:List It→Bool
 | []=>true
 | .slot _ s::l=>(match s with | .d t=>Jl t | _=>false)&&DM l
 | _::_=>false
def VY:List It→Bool
 | []=>true
 | .slot _ (.d _)::l=>VY l
 | _::_=>false
def Pv (f:GF):Nat→Nat→Option (List GV)
 | 0,_=>some []
 | n+1,i=>match f.get i,Pv f n (i+1) with
  | some g,some r=>some (g::r)
  | _,_=>none
def jj (sp:Be) (args:List GV):Option qm:=match Nat.beq args.length sp.na&&Nat.ble sp.na 1000 with
 | true=>qp (BL args 0 .lf) sp.bx []
 | false=>none
def Mv {A:Type} (sp:Be) (args:List GV) (S:St) (K:GV→St→Option A):Option A:=match jj sp args with
 | some tr=>match bU (DU tr) sp.sz.length (BL args 0 .lf) sp.bx&&Mt sp.sz.length (λm=>sp.bx.any λx=>UO m x.2)&&(bV (DU tr) S sp.sz&&(CA sp.sz sp.ins&&CA sp.sz sp.outs)) with
  | true=>match Eo (BL args 0 .lf) (sp.ins.map (Ef (DU tr))) S with
   | some (x,S1)=>match sp.lend with
    | true=>match Nat.beq sp.sz.length 0&&(VY sp.ins&&DM sp.outs) with
     | true=>(sp.F (UM (DU tr) sp.ins x)).bind λy=>match Es sp.outs y .lf S with
      | some (f,S2)=>match Pv f (Hn sp.outs) BD with
       | some vs=>K (EZ vs) S2
       | none=>none
      | none=>none
     | false=>none
    | false=>match Zx S1 (AM (BL args 0 .lf) S1 (sp.ins.map (Ef (DU tr)))) with
     | true=>match CR (AM (BL args 0 .lf) S1 (sp.ins.map (Ef (DU tr)))) S1 with
      | some B=>(sp.F (UM (DU tr) sp.ins x)).bind λy=>match Es (sp.outs.map (Ef (DU tr))) (Pt (DU tr) sp.outs y) .lf B with
       | some (f,S2)=>match Pv f (Hn sp.outs) BD with
        | some vs=>K (EZ vs) S2
        | none=>none
       | none=>none
      | none=>none
     | false=>none
   | none=>none
  | false=>none
 | none=>none
abbrev XQ:=List (FuncId×Be)
def Pw:XQ→FuncId→List GV→Option Be
 | [],_,_=>none
 | (g,s)::l,i,args=>match Nat.beq g i with
  | true=>match jj s args with
   | some _=>some s
   | none=>Pw l i args
  | false=>Pw l i args
def yS {A:Type} (P:Program) (call:CK) (n:Nat) (cs:List Nat):Code→GF→St→(GX→GF→St→Option A)→Option A
 | .skip,f,S,K=>K .nrm f S
 | .label _,f,S,K=>K .nrm f S
 | .ret,f,S,K=>K .ret f S
 | .exit id,f,S,K=>K (.exit id) f S
 | .seq a b,f,S,K=>yS P call n cs a f S λe f S=>match e with
  | .nrm=>yS P call n cs b f S K
  | e=>K e f S
 | .cond c x y,f,S,K=>match Bo f c with
  | some (.bool b)=>bif b then yS P call n cs x f S K else yS P call n cs y f S K
  | _=>none
 | .block id c,f,S,K=>yS P call n cs c f S λe f S=>match e with
  | .exit B=>match Nat.beq B id with
   | true=>K .nrm f S
   | false=>K (.exit B) f S
  | e=>K e f S
 | .region _ ops false,f,S,K=>JU P call n cs ops S.nx ops.toList 0 f ⟨S.h,S.nx+ops.size,S.df,S.ow,S.lg⟩ λf S=>K .nrm f S
 | .region _ ops true,f,S,K=>match KI ops&&OY n ops.toList with
  | true=>HE P call n cs ops S.nx (2*ops.size+2) (B1 ops.toList 0) [] [] f ⟨S.h,S.nx+ops.size,S.df,S.ow,S.lg⟩ λf S=>K .nrm f S
  | false=>none
 | _,_,_,_=>none
def bW {A:Type} (P:Program) (rs:List ResultVar) (df:List FuncId) (K:GV→St→Option A):GX→GF→St→Option A:=λe f S'=>match e,S'.df.all (Hf P),J8 P f S' rs with
 | .exit _,_,_=>none
 | _,true,some vs=>K (EZ vs) ⟨S'.h,S'.nx,df,S'.ow,S'.lg⟩
 | _,_,_=>none
def Ho {R:Type} (K:GX→GF→St→Option R):Kt R:=λB j e f S=>(K e f S).map j
def rq (g:FuncId) (n:Nat):Nat:=(g+1+1000*n)*1152921504606846976
def yI {A:Type} (L:Lp) (P:Program) (call:CK) (B:Bool) (ia:List (Nat×List It)) (p n:Nat) (cs:List Nat) (c:Code) (f:GF) (S:St) (K:GX→GF→St→Option A):Option A:=match B with
 | true=>yC L P call n cs ia c p f S (Ho K) A id
 | false=>yS P call n cs c f S K
def E9 (L:Lp) (P:Program) (il:List FuncId) (ia:List (Nat×List It)) (tab:XQ):Nat→CK
 | 0,A,g,args,S,K=>match Pw tab g args with
  | some sp=>Mv sp args S K
  | none=>none
 | k+1,A,g,args,S,K=>match Pw tab g args with
  | some sp=>Mv sp args S K
  | none=>match P.funcs[g]? with
   | some fn=>match fn.body,Nat.ble args.length fn.ntmps&&Nat.ble args.length 1000 with
    | some c,true=>yI L P (E9 L P il ia tab k) (Bx il g) ia (rq g S.nx) fn.ntmps (conds c) c (BL args 0 .lf) ⟨S.h,S.nx,[],S.ow,S.lg⟩ (bW P fn.results.toList S.df K)
    | _,_=>none
   | none=>none
abbrev i4:Ty:=.pair (.int .i64) (.pair (.int .i64) (.pair (.int .i64) (.int .i64)))
def bX (L:Lp) (g:FuncId) (args:List GV) (S:St):Dec St:=match args with
 | [.own b]=>match Nat.beq g 219,S.ow.get b with
  | true,some ⟨.int .i64,T,xs,true⟩=>match Nat.blt T 1000000 with
   | true=>.opt (L.s1 xs) λys=>S.seto b (some ⟨.int .i64,T,ys,true⟩)
   | false=>.no
  | _,_=>.no
 | [.own b,.func h [] []]=>match Nat.beq g 223&&Nat.beq h 224,S.ow.get b with
  | true,some ⟨.pair (.int .i64) (.pair (.int .i64) (.pair (.int .i64) (.int .i64))),T,xs,true⟩=>match Nat.blt T 1000000 with
   | true=>.opt (L.s2 xs) λys=>S.seto b (some ⟨i4,T,ys,true⟩)
   | false=>.no
  | _,_=>.no
 | [.own b,.func h [] [.ptr m 0]]=>match Nat.beq g 339&&Nat.beq h 340,S.ow.get b,S.h.get m with
  | true,some ⟨.int .i64,T,xs,true⟩,some (.cells l)=>match Nat.blt T 1000000,Em (.pair (.sl i4) (.int .i64)) l with
   | true,some (j,[])=>.opt (L.s3 j xs) λys=>S.seto b (some ⟨.int .i64,T,ys,true⟩)
   | _,_=>.no
  | _,_,_=>.no
 | _=>.no
def Ie (L:Lp) (P:Program) (il:List FuncId) (ia:List (Nat×List It)) (tab:XQ) (k:Nat):CK:=λA g args S K=>match Bx [219,223,339] g with
 | true=>(bX L g args S).run λS=>K (.tup []) S
 | false=>E9 L P il ia tab k A g args S K
section
def G3 (A:List Value):Fr:=λi=>(A[i-BD]?).getD undef
def AW (P:Program) (g:FuncId) (sp:Be):Prop:=∀ x y,sp.F x=some y→∃ E A,UL sp.sz sp.bx sp.ins x=some (E,A)∧∀ (p:Ren) (w:World) (vargs:List Value),vargs.length=sp.na→(∀ m,m<sp.sz.length→p m≠none)→CA sp.sz sp.outs=true→RF' p E (BC vargs)→RH p A w→
 CallVC P g vargs w λv w'=>∃ (q:Ren) (S':St) (B:List Value) (ow:List (Option Nat)),v=Hd B∧B.length=Hn sp.outs∧RH q S' w'∧IOWs q w' (G3 B) S' sp.outs y ow∧
  (∀ b,some b∈ow→∃ o,S'.ow.get b=some o∧o.mu=true)∧(∀ (i j:Nat)(b:Nat),ow[i]? = some (some b)→ow[j]? = some (some b)→i=j)∧(∀ m,m<sp.sz.length→∃ l,S'.h.get m=some (.cells l))∧Ch (λb=>A.nx≤b∧b<S'.nx) p w q w'
theorem CO:∀ {n:Nat} {p:Nat→Bool},Mt n p=true→∀ m,m<n→p m=true
 | 0,p,_,m,h=>by omega
 | n+1,p,h,m,hm=>by
  unfold Mt at h;rw [M05] at h
  by_cases e:m=n;rw [e];exact h.1;exact CO h.2 m (by omega)
theorem Gn {sz:List Nat}{its:List It}(h:CA sz its=true):(∀ m,m<sz.length→0<sz.getD m 0∧∀ k,k<sz.getD m 0→Br m k its=true)∧(∀ b k s,.cell b k s∈its→b<sz.length)∧U4 its=[]:=by
 unfold CA at h;rw [M05] at h;obtain ⟨h1,h2⟩:=h;refine ⟨λm hm=>?_,λb k s hb=>?_,?_⟩
 have:=CO h1 m hm;rw [M05] at this;exact ⟨M18 this.1,CO this.2⟩
 exact M18 (M1R.1 h2 _ hb);clear h1;induction its with
 | nil=>rfl
 | cons i l A=>
  rw [M44,M05] at h2;cases i with
  | slot j s=>exact A h2.2
  | cell b j s=>exact A h2.2
  | ow b t=>cases h2.1
theorem Mw:∀ (l:List GV) (i:Nat) (f:GF) (t:Nat),i+l.length≤2000000→(EV l i f).get t=if i≤t∧t<i+l.length then l[t-i]? else f.get t
 | [],i,f,t,_=>by
  unfold EV;rw [M1e (by simp only [M2g];omega)]
 | v::l,i,f,t,h=>by
  simp only [M1N] at h;unfold EV;rw [Mw l (i+1) _ t (by omega),M4m _ _ _ _ _ (by unfold AD;omega)];simp only [M1N]
  by_cases h1:t=i;subst h1;rw [M1e (by omega),M1d rfl,M1d (by omega)];simp;by_cases h2:i+1≤t∧t<i+1+l.length;rw [M1d h2,M1d (by omega),show t-i=(t-(i+1))+1 by omega,M2r];rw [M1e h2,M1e h1,M1e (by omega)]
variable {p:Ren}
theorem XR{l:List GV}{vs:List Value}(h:RVs p l vs)(hl:l.length≤1000):RF' p (EV l BD .lf) (G3 vs):=λt g hg=>by
 rw [Mw l BD _ t (by unfold BD;omega)] at hg;split at hg;obtain ⟨v,h1,h2⟩:=h.get hg;unfold G3;rw [h1];exact h2;cases hg
variable {P:Program}{nb:Nat}{outs:List It}
theorem cx{rs:List ResultVar}:G6 (bT P rs nb outs):=λ{A B} j h e f S r hr=>by
 unfold bT at hr ⊢;split at hr;cases hr;split at hr;split at hr;cases hr;exact ⟨_,rfl,rfl⟩;cases hr;cases hr;cases hr
variable {S:St}
theorem XS{rs:List ResultVar}{e:GX}{f:GF}{y:Ay outs}(h:bT P rs nb outs (Ay outs) id e f S=some y) :
  (∀ id,e≠.exit id)∧S.df.all (Hf P)=true∧∃ vs S',J8 P f S rs=some vs∧Eo (EV vs BD .lf) outs S=some (y,S')∧vs.length=Hn outs∧vs.length≤1000∧Zx S' (AM (EV vs BD .lf) S' outs)=true∧∀ m,m<nb→Qq (S'.h.get m)=true:=by
 unfold bT at h;split at h;cases h;rename_i hne E H;split at h;rename_i y' S' G;split at h;rename_i A;cases h;simp only [M05] at A;obtain ⟨h1,h2,h3,B⟩:=A;exact ⟨λid e=>hne id e,E,_,S',H,G,M0g h1,M18 h2,h3,CO B⟩
 cases h;cases h;cases h
variable {fr:Fr}{w:World}
theorem Sn{fn:Func}{f:GF}{n:Nat}{a:Act}(hr:RA n a fr)(hf:RF' p f fr)(B:RH p S w){gs:List GV}(h:J8 P f S fn.results.toList=some gs) :
  ∃ vs,(results fn a.tmps).run P w=.ok (Hd vs) w∧RVs p gs vs:=by
 obtain ⟨vs,h1,h2⟩:=K6 hf B h;obtain ⟨v,h3,A⟩:=R8 (P:=P) (fn:=fn) (rs:=fn.results.toList) (by simp) (a:=⟨a.tmps,[]⟩) ⟨rfl,hr.size,hr.at_⟩ (R:=λv _=>v=Hd vs) ⟨vs,h1,rfl⟩;subst A;exact ⟨vs,h3,h2⟩
variable {ins:List It}
theorem cA {sz:List Nat}{bx:List (Nat×Pat)}{x:Ay ins}{B:GF}{A:St}(h:UL sz bx ins x=some (B,A)):A.df=[]∧A.lg=[]:=by
 unfold UL at h;split at h;split at h;cases h;exact ⟨rfl,rfl⟩;cases h;cases h
theorem rt (hmx : P.follows .mixedOrders = true) (BS : ∀ (g : Nat) (fn : Func), P.funcs[g]? = some fn → (fn.name == "runtime.NumGoroutine") = false) {call : CK} (hcall : Cw P call) (hN : Pn call) (hop : D6 P (J0 P call)) {an : List (Nat × List It)} {g : FuncId} {sp : Be}
  (hF:∀ x y,sp.F x=some y→fnY std P call an sp.na sp.sz sp.bx sp.ins sp.outs g x=some y):AW P g sp:=λx y hy=>by
 have h:=hF x y hy;unfold fnY at h;split at h;rename_i fn hfn;split at h;rename_i c f0 S0 hc hna hin;refine ⟨f0,S0,hin,λp w vargs hlen hp hcov hf hh=>?_⟩;have hna:=M18 hna;refine ⟨?_,fn,hfn,BS g fn hfn,by rw [hc];rfl⟩;refine calls_of_wp_defers hfn hc ?_;have hra:=Q3 (n:=fn.ntmps) (vs:=vargs) (by omega);refine Gm hmx hcall hN hop c cx h hra hf hh (by rw [(cA hin).1];trivial) λe f' S' q' a' fr' w' he hk=>?_
 obtain ⟨k1,k2,vs,S2,k3,k4,k5,k6,k7,k8⟩:=XS hk;obtain ⟨vals,u1,u2⟩:=Sn he.ra he.rf he.rh k3;have hFz:=E8 k4;obtain ⟨o1,o2⟩:=DK k7;have hrf:=XR u2 k6;obtain ⟨_,cv1,cv2⟩:=Gn hcov;have known:∀ b k s,.cell b k s∈sp.outs→q' b≠none:=λb k s hb=>by
  cases hpb:p b with
  | none=>exact absurd hpb (hp b (cv1 b k s hb))
  | some x=>rw [he.ch.le.m b x hpb];simp
 obtain ⟨q2,g1,_,g3,_⟩:=Ia k4 hrf he.rh known (λb hb=>by
  rcases M1b.1 hb with hb|hb;rw [←DJ hFz.h] at hb;exact o1 b hb
  rw [cv2] at hb;cases hb)
 have hlv:=GM (fn:=fn) (tmps:=a'.tmps) (R:=λe w'=>∃ v,e=.returned v∧∃ (q:Ren) (S':St) (vals:List Value) (ow:List (Option Nat)),v=Hd vals∧vals.length=Hn sp.outs∧RH q S' w'∧IOWs q w' (G3 vals) S' sp.outs y ow∧
   (∀ b,some b∈ow→∃ o,S'.ow.get b=some o∧o.mu=true)∧(∀ (i j:Nat)(b:Nat),ow[i]? = some (some b)→ow[j]? = some (some b)→i=j)∧(∀ m,m<sp.sz.length→∃ l,S'.h.get m=some (.cells l))∧Ch (λb=>S0.nx≤b∧b<S'.nx) p w q w') BS
  ⟨Hd vals,u1,Hd vals,rfl,q2,S2,vals,_,rfl,u2.length.trans k5,g1.rh,g3.iow,o1,o2,(λm hm=>by
   have:=k8 m hm;unfold Qq at this;split at this;rename_i l hl;exact ⟨l,hl⟩;cases this),(he.ch.trans (g1.ch _)).mono λb hb=>⟨hb.1,by rw [g1.nx];exact hb.2⟩⟩ a'.defers S'.df he.df k2
 cases e with
 | nrm=>exact hlv
 | exit id=>exact (k1 id rfl).elim
 | ret=>exact hlv
 cases h;cases h
theorem Jm {α:Type}(g:Nat→Option α):∀ (n:Nat),∃ T:Tr α,∀ i,T.get i=if i<n then g i else none
 | 0=>⟨.lf,λi=>by rw [M1e (by omega)];cases i <;> rfl⟩
 | n+1=>by
  obtain ⟨T,hT⟩:=Jm g n;refine ⟨Tr.set (n+1) T n (g n),λi=>?_⟩;rw [M4m _ _ _ _ _ Nat.lt_two_pow_self,hT];by_cases e:i=n;subst e;rw [M1d rfl,M1d (by omega)];rw [M1e e];by_cases A:i<n;rw [M1d A,M1d (by omega)];rw [M1e A,M1e (by omega)]
variable {q':Ren}{S':St}
theorem SOK.cg {q:Ren}{s:Sh}{l:List GV}{x:s.den}{vs:List Value}(h:SOK q S s l x vs)(h1:q'.ov=q.ov)(h2:q'.zw=q.zw)(h3:q'.zM=q.zM)(B:∀ b o,some b∈Ep s l→S.ow.get b=some o→S'.ow.get b=some o):SOK q' S' s l x vs:=by
 cases s with
 | d t=>
  have h:(eT t).R q.zw q.zM vs x:=h;show (eT t).R q'.zw q'.zM vs x
  rw [h2,h3];exact h
 | own t T=>
  rcases h with h|⟨b,a,n,c,A,E,G,H,I⟩;exact .inl h;exact .inr ⟨b,a,n,c,A,E,by rw [h1];exact G,B b _ (by rw [A];simp [Ep]) H,I⟩
variable {ν:Nat→Nat}
theorem IOK.un{q:Ren}{f:GF}(h1:q'.ov=q.ov)(h2:q'.zw=q.zw)(h3:q'.zM=q.zM)(hm:∀ m,m<nb→q' m=q (ν m)){i:It}{x:(Ef ν i).den}(h:IOK q w fr f S (Ef ν i) x)(hb:∀ b k s,i=.cell b k s→b<nb)(ho:∀ b t,i≠.ow b t) :
  IOW q' w fr S i (unI ν i x) (Er f S (Ef ν i)):=by
 cases i with
 | slot i s=>
  obtain ⟨g,A,B,E,G⟩:=h;exact ⟨g,q,g.ats,B,E,G.cg h1 h2 h3 λ_ _ _ h=>h,by simp only [Er,Ef,A]⟩
 | cell b i s=>
  obtain ⟨l,vs,r,base,n,A,B,E,G,H⟩:=h;exact ⟨l,vs,r,base,n,by rw [hm b (hb b i s rfl)];exact B,E,G,H.cg h1 h2 h3 λ_ _ _ h=>h,by simp only [Er,Ef,A]⟩
 | ow b t=>exact absurd rfl (ho b t)
theorem IOKs.un {ν:Nat→Nat}{nb:Nat}{q q':Ren}{w:World}{fr:Fr}{f:GF}{S:St}(h1:q'.ov=q.ov)(h2:q'.zw=q.zw)(h3:q'.zM=q.zM)(hm:∀ m,m<nb→q' m=q (ν m)):∀ {l:List It} {x:Ay (l.map (Ef ν))},IOKs q w fr f S (l.map (Ef ν)) x→(∀ b k s,.cell b k s∈l→b<nb)→(∀ b t,.ow b t∉l)→
  IOWs q' w fr S l (UM ν l x) (AM f S (l.map (Ef ν)))
 | [],x,_,_,_=>rfl
 | [i],x,h,hb,ho=>by
  show IOW q' w fr S i (unI ν i x) (Er f S (Ef ν i)++[])
  rw [M1w];have h:IOK q w fr f S (Ef ν i) x:=h;exact h.un h1 h2 h3 hm (λb k s e=>hb b k s (by rw [e];simp)) (λb t e=>ho b t (by rw [e];simp))
 | i::j::l,x,h,hb,ho=>⟨_,_,rfl,IOK.un h1 h2 h3 hm (i:=i) h.1 (λb k s e=>hb b k s (by rw [e];simp)) (λb t e=>ho b t (by rw [e];simp)),IOKs.un h1 h2 h3 hm (l:=j::l) h.2 (λb k s e=>hb b k s (M1c _ e)) (λb t e=>ho b t (M1c _ e))⟩
theorem Kg {l:List It}(h:U4 l=[]):∀ b t,.ow b t∉l:=λb t hm=>by
 induction l with
 | nil=>cases hm
 | cons i l A=>
  cases i with
  | slot j s=>exact A h (by simpa using hm)
  | cell c j s=>exact A h (by simpa using hm)
  | ow c u=>cases h
theorem JL:∀ {sz:List Nat} {b:Nat} {S S':St},Qp sz b S=some S'→S'.nx=S.nx∧S'.ow=S.ow∧(∀ m,m<b→S'.h.get m=S.h.get m)∧∀ m,m<sz.length→S'.h.get (b+m)=some (.cells (List.replicate (sz.getD m 0) .nilp))
 | [],b,S,S',h=>by cases h;exact ⟨rfl,rfl,λ_ _=>rfl,λm hm=>by cases hm⟩
 | n::l,b,S,S',h=>by
  unfold Qp at h;split at h;rename_i S1 h1;obtain ⟨I,_,B⟩:=Ax h1;obtain ⟨E,G,A,H⟩:=JL h;refine ⟨E.trans I,G.trans (DB h1),λm hm=>?_,λm hm=>?_⟩;rw [A m (by omega),B,M1e (by omega)];cases m with
  | zero=>rw [M1M,A b (by omega),B,M1d rfl];rfl
  | succ m=>
   have:=H m (by simpa using hm);rw [show b+(m+1)=b+1+m by omega,this];rfl
  cases h
mutual
theorem Mx {ν:Nat→Nat}{nb:Nat}{q q':Ren}(hm:∀ m,m<nb→q' m=q (ν m)):∀ (p:Pat) (g:GV) (v:Value),Sl ν nb p g=true→RV q g v→RV q' p.gv v∧∀ m,UO m p=true→q (ν m)≠none
 | .ptr m,.ptr c 0,v,h,hv=>by
  simp only [Sl,M05] at h;have h1:=M18 h.1;have h2:=M0g h.2;subst h2;obtain ⟨r,base,n,A,B⟩:=hv;refine ⟨⟨r,base,n,by rw [hm m h1];exact A,B⟩,λm' E=>?_⟩;unfold UO at E;rw [←M0g E,A];simp
 | .fn g a c,.func g' b d,v,h,hv=>by
  simp only [Sl,M05] at h;obtain ⟨h1,h2,h3⟩:=h;have h1:=M0g h1;subst h1;obtain ⟨G,H,A,B,O⟩:=hv;obtain ⟨a1,a2⟩:=Jn hm a b G h2 B;obtain ⟨I,J⟩:=Jn hm c d H h3 O;refine ⟨⟨G,H,A,a1,I⟩,λm hm=>?_⟩;unfold UO at hm;rw [M2t] at hm;exact hm.elim (a2 m) (J m)
theorem Jn {ν:Nat→Nat}{nb:Nat}{q q':Ren}(hm:∀ m,m<nb→q' m=q (ν m)):∀ (l:List Pat) (gs:List GV) (vs:List Value),Mu ν nb l gs=true→RVs q gs vs→RVs q' (gvs l) vs∧∀ m,Sm m l=true→q (ν m)≠none
 | [],[],vs,h,hv=>by
  cases vs with
  | nil=>exact ⟨trivial,λm hm=>by cases hm⟩
  | cons v vs=>exact hv.elim
 | p::l,g::gs,vs,h,hv=>by
  unfold Mu at h;rw [M05] at h;cases vs with
  | nil=>exact hv.elim
  | cons v vs=>
   obtain ⟨a1,a2⟩:=Mx hm p g v h.1 hv.1;obtain ⟨A,B⟩:=Jn hm l gs vs h.2 hv.2;refine ⟨⟨a1,A⟩,λm hm=>?_⟩;unfold Sm at hm;rw [M2t] at hm;exact hm.elim (a2 m) (B m)
 | [],_::_,_,h,_=>by cases h
 | _::_,[],_,h,_=>by cases h
end
theorem Py:∀ {bx:List (Nat×Pat)} {f f':GF},VX bx f=some f'→∀ i g,f'.get i=some g→f.get i=some g∨∃ x∈bx,x.1=i∧g=x.2.gv
 | [],f,f',h,i,g,hg=>by cases h;exact .inl hg
 | (j,p)::l,f,f',h,i,g,hg=>by
  unfold VX at h;split at h;rename_i hl;have hl:=M18 hl;rcases Py h i g hg with h1|⟨x,h1,h2,h3⟩
  rw [M4m _ _ _ _ _ (by unfold AD;unfold KF at hl;omega)] at h1;split at h1;rename_i e;cases h1;exact .inr ⟨(j,p),by simp,e.symm,rfl⟩;exact .inl h1;exact .inr ⟨x,M1c _ h1,h2,h3⟩;cases h
theorem Pz{sz:List Nat}(h:bV ν S sz=true):(∀ m,m<sz.length→ν m<S.nx∧∃ l,S.h.get (ν m)=some (.cells l)∧l.length=sz.getD m 0)∧∀ m k,m<sz.length→k<sz.length→ν m=ν k→m=k:=by
 unfold bV at h;have key:=CO h;refine ⟨λm hm=>?_,λm k hm hk e=>?_⟩
 have:=key m hm;simp only [M05] at this;refine ⟨M18 this.2.1,?_⟩;have h1:=this.1
 split at h1;rename_i l hl;exact ⟨l,hl,M0g h1⟩;cases h1;have A:∀ a b,a<sz.length→b<a→ν b≠ν a:=λa b B hb e=>by
  have:=key a B;simp only [M05] at this;have h2:=CO this.2.2 b hb;rw [e] at h2;simp at h2
 rcases M3a m k with h1|h1|h1;exact absurd e (A k m hk h1);exact h1;exact absurd e.symm (A m k hm h1)
variable {S1:St}
theorem cB{sz:List Nat}{bx:List (Nat×Pat)}{args:List GV}{vargs:List Value}{q:Ren}{x':Ay (ins.map (Ef ν))}(hv:RVs q args vargs)(av:args.length≤1000)(hh:RH q S w)(aa:bU ν sz.length (BL args 0 .lf) bx=true)(aF:Mt sz.length (λm=>bx.any λx=>UO m x.2)=true)
  (aG:bV ν S sz=true)(ax:CA sz ins=true)(ag:Eo (BL args 0 .lf) (ins.map (Ef ν)) S=some (x',S1))(aC:Zx S1 (AM (BL args 0 .lf) S1 (ins.map (Ef ν)))=true){Z:GF}{I:St}(B:UL sz bx ins (UM ν ins x')=some (Z,I)) :
  ∃ A,Gh q S w A S1∧Fz S S1∧RF' (q2 ⟨λm=>if m<sz.length then A (ν m) else none,λ_=>none,A.zw,A.zM⟩ A sz.length (AM (BL args 0 .lf) S1 (ins.map (Ef ν)))) Z (BC vargs)∧
   RH (q2 ⟨λm=>if m<sz.length then A (ν m) else none,λ_=>none,A.zw,A.zM⟩ A sz.length (AM (BL args 0 .lf) S1 (ins.map (Ef ν)))) I w∧(∀ m,m<sz.length→A (ν m)≠none)∧I.nx=sz.length+(AM (BL args 0 .lf) S1 (ins.map (Ef ν))).length:=by
 obtain ⟨ao,J,H⟩:=Gn ax;obtain ⟨t1,t2⟩:=Pz aG;obtain ⟨o1,o2⟩:=DK aC;have hf:=KV hv av;have ac:∀ m,m<sz.length→q (ν m)≠none:=λm hm=>by
  obtain ⟨y,aI,aJ⟩:=M2P.1 (CO aF m hm);have:=M1R.1 aa y aI;split at this;rename_i g hg;exact (Mx (ν:=ν) (nb:=sz.length) (q:=q) (q':=⟨λm=>q (ν m),q.ov,q.zw,q.zM⟩) (λ_ _=>rfl) _ g _ this (hf _ _ hg)).2 m aJ;cases this
 have O:=E8 ag;obtain ⟨A,E,_,g3,_⟩:=Ia ag hf hh (λb k s hm=>by
  obtain ⟨i,hi,e⟩:=M1L.1 hm;cases i with
  | slot j s=>cases e
  | ow c t=>cases e
  | cell c j s'=>
   cases e;exact ac c (J c k s hi)) (λb hb=>by
  have eo:U4 (ins.map (Ef ν))=[]:=by
   have:∀ l:List It,U4 l=[]→U4 (l.map (Ef ν))=[]:=λl=>by
    induction l with
    | nil=>intro _;rfl
    | cons i l ih=>
     intro h;cases i with
     | slot j s=>exact ih h
     | cell c j s=>exact ih h
     | ow c t=>cases h
   exact this _ H
  rw [eo,M1w,←DJ O.h] at hb;exact o1 b hb)
 have aA:∀ m,m<sz.length→A (ν m)≠none:=λm hm=>by rw [E.m];exact ac m hm
 refine ⟨A,E,O,?_⟩;generalize aD:AM (BL args 0 .lf) S1 (ins.map (Ef ν))=own at *;unfold UL at B;split at B;rename_i ar OU aE aw;split at B;rename_i f1 S2 hw;cases B;obtain ⟨b1,Y,_,b4⟩:=JL aw;have az:IOWs ⟨λm=>if m<sz.length then A (ν m) else none,A.ov,A.zw,A.zM⟩ w (BC vargs) S1 ins (UM ν ins x') own:=by
  rw [←aD];exact IOKs.un (nb:=sz.length) (q:=A) (q':=⟨λm=>if m<sz.length then A (ν m) else none,A.ov,A.zw,A.zM⟩) (ν:=ν) rfl rfl rfl (λm hm=>(M1d hm:(if m<sz.length then A (ν m) else none)=A (ν m))) g3 J (Kg H)
 have aB:Mid ⟨λm=>if m<sz.length then A (ν m) else none,λ_=>none,A.zw,A.zM⟩ ⟨λm=>if m<sz.length then A (ν m) else none,A.ov,A.zw,A.zM⟩ S1 ν w (BC vargs) sz.length own ins [] ar OU:=by
  refine ⟨b1,λi g hg=>?_,λb g r base n hb hp hg=>?_,λb o hb ho=>?_,λb hb ho=>?_,λk o hk=>(by cases hk),λb t G=>absurd G (Kg H b t),λb t G=>absurd G (Kg H b t),λb k s G=>J b k s G⟩;rcases Py aE i g hg with h|⟨y,y1,rfl,rfl⟩;cases i <;> cases h
  have:=M1R.1 aa y y1;split at this;rename_i g hg;exact (Mx (λm hm=>(M1d hm:(if m<sz.length then A (ν m) else none)=A (ν m))) _ g _ this ((hf _ _ hg).mono E.le)).1;cases this;have af:(if b<sz.length then A (ν b) else none)=some (r,base,n):=hp;rw [M1d hb] at af;obtain ⟨_,l,l1,l2⟩:=t1 b hb;have ai:S1.h.get (ν b)=some (.cells l):=by rw [O.h];exact l1
  have ab:=b4 b hb;rw [M25,hg] at ab;cases ab;obtain ⟨cs,ty,fz,c1,c2,c3,vs,c4,c5⟩:=E.rh.at_ _ r base n _ af ai;have e1:=c4.length;have e2:=c5.length_le;simp at e2;refine ⟨by rw [ai];simp,.inr ⟨_,rfl,⟨cs,ty,fz,c1,c2,c3,[],trivial,by simp⟩,by simp only [M2T];omega,λk gk v hk B _=>?_⟩⟩;have ad:=(M09.1 hk).1;rw [M2T] at ad;rw [(ao b hb).2 k ad] at B;cases B
  rw [Y] at ho;cases b <;> cases ho
  rw [Y] at ho;cases b <;> exact absurd rfl ho
 have ae:=Mid.all (p:=⟨λm=>if m<sz.length then A (ν m) else none,λ_=>none,A.zw,A.zM⟩) (q:=⟨λm=>if m<sz.length then A (ν m) else none,A.ov,A.zw,A.zM⟩) ⟨λ_ _ h=>h,λ_ _ h=>(by cases h),Stp.sub _ λ_ h=>h⟩ (suf:=[]) hw az (by simp) aB;have U:∀ b x,(if b<sz.length then A (ν b) else none)=some x→b<sz.length∧A (ν b)=some x:=λb x h=>by
  split at h;rename_i hb;exact ⟨hb,h⟩;cases h
 obtain ⟨r1,r2⟩:=Mid.done (p:=⟨λm=>if m<sz.length then A (ν m) else none,λ_=>none,A.zw,A.zM⟩) (q:=⟨λm=>if m<sz.length then A (ν m) else none,A.ov,A.zw,A.zM⟩) (N:=sz.length) (ν:=ν) (q0:=A) (λb x h=>(U b x h).2) (λ_ _ h=>by cases h) ⟨rfl,rfl,rfl⟩ (λb b' h1 h2 e=>by
  obtain ⟨x,hx⟩:=Option.ne_none_iff_exists'.1 h1;obtain ⟨y,hy⟩:=Option.ne_none_iff_exists'.1 h2;exact t2 b b' (U b x hx).1 (U b' y hy).1 e) (by simpa using ae) E.rh (λb hb=>⟨M1e (by omega),rfl⟩) o2
 exact ⟨r1,r2.congr (λ_ _=>rfl) (M1g _) (λ_ _=>rfl),aA,by simpa using ae.nx⟩;cases B;cases B
theorem cC {E:Ren}(h1:RH E S1 w){own:List (Option Nat)}(t1:∀ m,m<nb→∃ l,S1.h.get (ν m)=some (.cells l))(hk:∀ m,m<nb→E (ν m)≠none)
  (o1:∀ b,some b∈own→∃ o,S1.ow.get b=some o∧o.mu=true){Sb:St}(Z:∀ b o,Sb.ow.get b=some o→S1.ow.get b=some o∧some b∉own) {w':World}{N:Nat→Prop}(G:Ch N (q2 ⟨λm=>if m<nb then E (ν m) else none,λ_=>none,E.zw,E.zM⟩ E nb own) w q' w')(h2:RH q' S' w')(aw:∀ m,m<nb→∃ l,S'.h.get m=some (.cells l))
  {ow:List (Option Nat)}(o2:∀ (i j:Nat)(b:Nat),ow[i]? = some (some b)→ow[j]? = some (some b)→i=j) :
  ∃ S2:St,RH (q2 E q' S1.nx ow) S2 w'∧(∀ b,b<S1.nx→S2.h.get b=if (List.range nb).any (λm=>Nat.beq (ν m) b)=true then some (.cells []) else S1.h.get b)∧(∀ b,b<S1.nx→S2.ow.get b=Sb.ow.get b)∧
   (∀ k c,ow[k]? = some (some c)→S2.ow.get (S1.nx+k)=S'.ow.get c)∧Ch (λb=>S1.nx≤b∧b<S1.nx+ow.length) E w (q2 E q' S1.nx ow) w'∧∀ b x,E b=some x→(∀ m,m<nb→ν m≠b)→S1.h.get b≠none→w'.heap[x.1]? = w.heap[x.1]?:=by
 have ap:∀ k,Bk (q2 ⟨λm=>if m<nb then E (ν m) else none,λ_=>none,E.zw,E.zM⟩ E nb own) k→(∃ m x,m<nb∧E (ν m)=some x∧x.1=k)∨∃ b o y,some b∈own∧S1.ow.get b=some o∧o.mu=true∧E.ov b=some y∧k∈Av y.1:=λk ax=>by
  rcases ax with ⟨m,x,A,B⟩|⟨c,y,A,B⟩;have A:(if m<nb then E (ν m) else none)=some x:=A;split at A;rename_i hm;exact .inl ⟨m,x,hm,A,B⟩;cases A;have A:(if c<nb then none else newO E own[c-nb]?)=some y:=A;split at A;cases A;cases ho:own[c-nb]? with
  | none=>rw [ho] at A;cases A
  | some ob=>
   rw [ho] at A;cases ob with
   | none=>cases A;cases B
   | some b=>
    have hb:=M1k ho;obtain ⟨o,o3,o4⟩:=o1 b hb;exact .inr ⟨b,o,y,hb,o3,o4,A,B⟩
 have aq:∀ k,Bk (q2 ⟨λm=>if m<nb then E (ν m) else none,λ_=>none,E.zw,E.zM⟩ E nb own) k→Bk E k:=λk ax=>by
  rcases ap k ax with ⟨m,x,_,A,B⟩|⟨b,o,y,_,_,_,A,B⟩;exact .inl ⟨_,x,A,B⟩;exact .inr ⟨b,y,A,B⟩
 have ao:∀ b x,E b=some x→(∀ m,m<nb→ν m≠b)→S1.h.get b≠none→¬ Bk (q2 ⟨λm=>if m<nb then E (ν m) else none,λ_=>none,E.zw,E.zM⟩ E nb own) x.1:=λb x hb hm hg av=>by
  rcases ap _ av with ⟨m,x',A,B,J⟩|⟨b',o,y,A,B,J,O,k5⟩;obtain ⟨l,hl⟩:=t1 m A;exact hm m A (h1.inj _ _ x' x B hb (by rw [hl];simp) hg J);exact h1.ro.sep b' o y b x B J O hb hg k5
 have aO:∀ b o y,Sb.ow.get b=some o→o.mu=true→E.ov b=some y→∀ g∈Av y.1,¬ Bk (q2 ⟨λm=>if m<nb then E (ν m) else none,λ_=>none,E.zw,E.zM⟩ E nb own) g:=λb o y hb hm hy g hg av=>by
  obtain ⟨am,au⟩:=Z b o hb;rcases ap _ av with ⟨m,x',A,B,rfl⟩|⟨b',o',y',A,B,J,O,k5⟩
  obtain ⟨l,hl⟩:=t1 m A;exact h1.ro.sep b o y (ν m) x' am hm hy B (by rw [hl];simp) hg;have:=h1.ro.inj b b' o o' y y' am B hm J hy O g hg k5;rw [this] at au;exact au A
 have az:Stp E.zM E.zw q'.zM q'.zw:=G.le.z;have a6:∀ {b x},E.ov b=some x→b<S1.nx:=λ{b x} Y=>M2F λhn=>by rw [(h1.fr b hn).2] at Y;cases Y
 have ai:∀ {b x},E b=some x→b<S1.nx:=λ{b x} Y=>M2F λhn=>by rw [(h1.fr b hn).1] at Y;cases Y
 have aE:Le E (q2 E q' S1.nx ow):=⟨λ_ _ h=>h,λb x Y=>by rw [OP (a6 Y)];exact Y,az⟩
 have ay:∀ m x,m<nb→E (ν m)=some x→q' m=some x:=λm x hm Y=>G.le.m m x (by show (if m<nb then E (ν m) else none)=some x;rw [M1d hm];exact Y)
 have ar:∀ b,(List.range nb).any (λm=>Nat.beq (ν m) b)=true↔∃ m,m<nb∧ν m=b:=λb=>by
  rw [M2P];exact ⟨λ⟨m,A,B⟩=>⟨m,M2i.1 A,M0g B⟩,λ⟨m,A,B⟩=>⟨m,M2i.2 A,by rw [B];exact M46 b⟩⟩
 obtain ⟨Th,ag⟩:=Jm (λb=>if (List.range nb).any (λm=>Nat.beq (ν m) b)=true then some (.cells []) else S1.h.get b) S1.nx;obtain ⟨To,aB⟩:=Jm (λb=>if b<S1.nx then Sb.ow.get b else match ow[b-S1.nx]? with | some (some c)=>S'.ow.get c | _=>none) (S1.nx+ow.length);have ag:∀ b,b<S1.nx→Th.get b=if (List.range nb).any (λm=>Nat.beq (ν m) b)=true then some (.cells []) else S1.h.get b:=λb hb=>by rw [ag,M1d hb]
 have aC:∀ b,b<S1.nx→To.get b=Sb.ow.get b:=λb hb=>by rw [aB,M1d (by omega),M1d hb]
 have aD:∀ k,To.get (S1.nx+k)=match ow[k]? with | some (some c)=>S'.ow.get c | _=>none:=λk=>by
  rw [aB];split;rw [M1e (by omega),M2s];rw [M1h (by omega)]
 have known:∀ b,b<S1.nx→Th.get b≠none→S1.h.get b≠none:=λb hb hg=>by
  rw [ag b hb] at hg;split at hg;rename_i U;obtain ⟨m,hm,rfl⟩:=(ar b).1 U;obtain ⟨l,hl⟩:=t1 m hm;rw [hl];simp;exact hg
 have ae:∀ b o y,To.get b=some o→(q2 E q' S1.nx ow).ov b=some y→(b<S1.nx∧Sb.ow.get b=some o∧E.ov b=some y)∨∃ c,ow[b-S1.nx]? = some (some c)∧S1.nx≤b∧S'.ow.get c=some o∧q'.ov c=some y:=λb o y A B=>by
  by_cases hb:b<S1.nx;rw [aC b hb] at A;rw [OP hb] at B;exact .inl ⟨hb,A,B⟩
  obtain ⟨k,rfl⟩:∃ k,b=S1.nx+k:=⟨b-S1.nx,by omega⟩
  rw [aD] at A;rw [rj] at B;rw [M2s];cases ho:ow[k]? with
  | none=>rw [ho] at A;cases A
  | some oc=>
   cases oc with
   | none=>rw [ho] at A;cases A
   | some c=>
    rw [ho] at A B;exact .inr ⟨c,rfl,by omega,A,B⟩
 refine ⟨⟨Th,S1.nx+ow.length,[],To,[]⟩,⟨λb r base n g hb hg=>?_,λb b' x x' A B J O=>?_,λb x A=>?_,λb hb=>?_,⟨h2.ro.zev,λb x A B=>?_,λb o a n c A B J=>?_,λb o a n c A B J=>?_,λb b' o o' y y' A B J O k5 k6 g g1 g2=>?_,λb o y b' x A B J O k5 hm=>?_⟩,h2.gl.same rfl rfl⟩,ag,aC,λk c hk=>by rw [aD,hk],?_,?_⟩;have aa:=ai hb;have ah:Th.get b=some g:=hg;rw [ag b aa] at ah;split at ah;rename_i U;obtain ⟨m,hm,rfl⟩:=(ar b).1 U;cases ah;obtain ⟨l,hl⟩:=aw m hm;obtain ⟨cs,ty,fz,c1,c2,c3,_⟩:=h2.at_ m r base n _ (ay m _ hm hb) hl;exact ⟨cs,ty,fz,c1,c2,c3,[],trivial,by simp⟩;rename_i U;exact (h1.at_ b r base n g hb ah).mono aE (G.out r (h1.lt b _ hb) (ao b _ hb (λm hm e=>U ((ar b).2 ⟨m,hm,e⟩)) (by rw [ah];simp)));exact h1.inj b b' x x' A B (known b (ai A) J) (known b' (ai B) O);exact M1D (h1.lt b x A) G.size;have hb:S1.nx+ow.length≤b:=hb;refine ⟨(h1.fr b (by omega)).1,?_⟩;show (if b<S1.nx then E.ov b else newO q' ow[b-S1.nx]?)=none
 rw [M1e (by omega),M1h (by omega)];rfl;have aa:=ai A;have B:Th.get b≠none:=B;by_cases U:∃ m,m<nb∧ν m=b;obtain ⟨m,hm,rfl⟩:=U;obtain ⟨l,hl⟩:=aw m hm;exact h2.ro.zl m x (ay m x hm A) (by rw [hl];simp);have hg:=known b aa B;exact G.lv x.1 (h1.lt b x A) (h1.ro.zl b x A hg) (ao b x A (λm hm e=>U ⟨m,hm,e⟩) hg);rcases ae b o _ A J with ⟨hb,I,H⟩|⟨c',_,_,I,H⟩;obtain ⟨am,au⟩:=Z b o I;obtain ⟨m2,m3⟩:=h1.ro.mu b o a n c am B H;have aN:=aO b o _ I B H
 classical
 have he:Ev ((List.range w.heap.size).filter λk=>decide (Bk (q2 ⟨λm=>if m<nb then E (ν m) else none,λ_=>none,E.zw,E.zM⟩ E nb own) k)) w w':=⟨G.os,G.tape,G.output,G.size,λk hk hm=>G.out k hk λhb=>hm (M1Z.2 ⟨M2i.2 hk,by simpa using hb⟩)⟩
 have m4:=m2.evp he λg hg hm=>by
  have:=(M1Z.1 hm).2;exact aN g hg (by simpa using this)
 exact ⟨OwnY.conv m4 az,λg hg=>G.lv g (m2.lt g hg) (m3 g hg) (aN g hg)⟩;exact h2.ro.mu c' o a n c I B H;rcases ae b o _ A J with ⟨hb,I,H⟩|⟨c',_,_,I,H⟩;obtain ⟨m1,m2⟩:=h1.ro.ro b o a n c (Z b o I).1 B H;exact ⟨m1,m2.step az⟩;exact h2.ro.ro c' o a n c I B H;have aL:∀ (b:Nat) (o:JC) (y y':Option Addr×Nat×Nat) (c':Nat),Sb.ow.get b=some o→o.mu=true→E.ov b=some y→q'.ov c'=some y'→g∈Av y.1→g∈Av y'.1→False:=λb o y y' c' i1 i2 i3 i4 i5 i6=>by
  have l1:=(h1.ro.mu b o y.1 y.2.1 y.2.2 (Z b o i1).1 i2 i3).1.lt g i5;rcases G.img g (.inr ⟨c',y',i4,i6⟩) with h|h
  exact aO b o y i1 i2 i3 g i5 h;omega
 rcases ae b o _ A k5 with ⟨hb,I,H⟩|⟨c,j0,jn,I,H⟩;rcases ae b' o' _ B k6 with ⟨aa,j3,j4⟩|⟨c',_,_,j3,j4⟩;exact h1.ro.inj b b' o o' y y' (Z b o I).1 (Z b' o' j3).1 J O H j4 g g1 g2;exact (aL b o y y' c' I J H j4 g1 g2).elim;rcases ae b' o' _ B k6 with ⟨aa,j3,j4⟩|⟨c',aZ,a8,j3,j4⟩;exact (aL b' o' y' y c j3 O j4 H g2 g1).elim;have:=h2.ro.inj c c' o o' y y' I j3 J O H j4 g g1 g2;subst this;have:=o2 _ _ _ j0 aZ;omega;have aa:=ai O;have hg:=known b' aa k5;rcases ae b o _ A J with ⟨hb,I,H⟩|⟨c,_,_,I,H⟩
 exact h1.ro.sep b o y b' x (Z b o I).1 B H O hg hm;by_cases U:∃ m,m<nb∧ν m=b';obtain ⟨m,aF,rfl⟩:=U;obtain ⟨l,hl⟩:=aw m aF;exact h2.ro.sep c o y m x I B H (ay m x aF O) (by rw [hl];simp) hm;rcases G.img x.1 (.inr ⟨c,y,H,hm⟩) with h|h;exact ao b' x O (λm hm e=>U ⟨m,hm,e⟩) hg h;have:=h1.lt b' x O;omega;refine ⟨aE,λb hb=>?_,G.os,G.tape,G.output,G.size,λk hk hb=>G.out k hk λh=>hb (aq k h),λk hk=>?_,λk hk hl hb=>G.lv k hk hl λh=>hb (aq k h)⟩;by_cases hn:b<S1.nx;left;intro hf;exact hb ⟨hf.1,by rw [OP hn];exact hf.2⟩;right;refine ⟨by omega,M2F λhl=>hb ⟨(h1.fr b (by omega)).1,?_⟩⟩;show (if b<S1.nx then E.ov b else newO q' ow[b-S1.nx]?)=none
 rw [M1e hn,M1h (by omega)];rfl;rcases hk with ⟨b,x,A,B⟩|⟨b,y,A,B⟩;exact .inl (.inl ⟨b,x,A,B⟩);by_cases hn:b<S1.nx;rw [OP hn] at A;exact .inl (.inr ⟨b,y,A,B⟩)
 have A:(if b<S1.nx then E.ov b else newO q' ow[b-S1.nx]?)=some y:=A;rw [M1e hn] at A;cases ho:ow[b-S1.nx]? with
 | none=>rw [ho] at A;cases A
 | some oc=>
  rw [ho] at A;cases oc with
  | none=>cases A;cases B
  | some c=>exact (G.img k (.inr ⟨c,y,A,B⟩)).imp (aq k) id
 exact λb x hb hm hg=>G.out x.1 (h1.lt b x hb) (ao b x hb hm hg)
end
section
def GW:Nat→List (Option Nat)→List (Option Nat)
 | _,[]=>[]
 | n,none::l=>none::GW (n+1) l
 | n,some _::l=>some n::GW (n+1) l
theorem If:∀ (l:List (Option Nat)) (n i b:Nat),(GW n l)[i]? = some (some b)→b=n+i
 | [],n,i,b,h=>by cases h
 | none::l,n,i,b,h=>by
  unfold GW at h;cases i with
  | zero=>cases h
  | succ i=>
   have:=If l (n+1) i b (by simpa using h);omega
 | some c::l,n,i,b,h=>by
  unfold GW at h;cases i with
  | zero=>cases h;rfl
  | succ i=>
   have:=If l (n+1) i b (by simpa using h);omega
theorem Qr:∀ (a b:List (Option Nat)) (n:Nat),GW n (a++b)=GW n a++GW (n+a.length) b
 | [],b,n=>by simp [GW]
 | none::a,b,n=>by
  show none::GW (n+1) (a++b)=none::(GW (n+1) a++_)
  rw [Qr a b,M1N,show n+1+a.length=n+(a.length+1) by omega]
 | some c::a,b,n=>by
  show some n::GW (n+1) (a++b)=some n::(GW (n+1) a++_)
  rw [Qr a b,M1N,show n+1+a.length=n+(a.length+1) by omega]
theorem EW {ν:Nat→Nat}{m k:Nat}:∀ {l:List It},Br m k l=true→Br (ν m) k (l.map (Ef ν))=true
 | [],h=>by cases h
 | .slot i s::l,h=>EW (l:=l) h
 | .ow b t::l,h=>EW (l:=l) h
 | .cell c i s::l,h=>by
  unfold Br at h;rw [M2t] at h;show (Nat.beq (ν m) (ν c)&&Nat.ble i k&&Nat.blt k (i+s.sz)||Br (ν m) k (l.map (Ef ν)))=true
  rw [M2t];rcases h with h|h
  left;simp only [M05] at h ⊢;rw [M0g h.1.1];exact ⟨⟨M46 _,h.1.2⟩,h.2⟩
  exact .inr (EW h)
variable {q':Ren}{S S':St}{s:Sh}{n:Nat}
theorem SOK.rn {q:Ren}{l:List GV}{x:s.den}{vs:List Value}(h:SOK q S s l x vs)(h2:q'.zw=q.zw)(h3:q'.zM=q.zM)(ho:∀ c,Ep s l=[some c]→q'.ov n=q.ov c∧S'.ow.get n=S.ow.get c):∃ A,SOK q' S' s A x vs∧Ep s A=GW n (Ep s l):=by
 cases s with
 | d t=>
  refine ⟨l,?_,rfl⟩;have h:(eT t).R q.zw q.zM vs x:=h;show (eT t).R q'.zw q'.zM vs x
  rw [h2,h3];exact h
 | own t T=>
  rcases h with ⟨rfl,B,E⟩|⟨b,a,m,c,rfl,G,H,I,J⟩;exact ⟨[.nils],.inl ⟨rfl,B,E⟩,rfl⟩;obtain ⟨o1,o2⟩:=ho b rfl;exact ⟨[.own n],.inr ⟨n,a,m,c,rfl,G,by rw [o1];exact H,by rw [o2];exact I,J⟩,rfl⟩
variable {w:World}{fr:Fr}{i:It}
theorem IOW.rn {ν:Nat→Nat}{nb:Nat}{q:Ren}{x:i.den}{ow:List (Option Nat)}(h:IOW q w fr S i x ow)(h2:q'.zw=q.zw)(h3:q'.zM=q.zM)(hm:∀ m,m<nb→q' (ν m)=q m)(hb:∀ b k s,i=.cell b k s→b<nb)(J:∀ b t,i≠.ow b t)
  (ho:∀ c,ow=[some c]→q'.ov n=q.ov c∧S'.ow.get n=S.ow.get c):IOW q' w fr S' (Ef ν i) (rp ν i x) (GW n ow):=by
 cases i with
 | slot i s=>
  obtain ⟨g,q0,l,A,B,E,rfl⟩:=h;obtain ⟨I,G,H⟩:=E.rn (n:=n) (q':=q') (S':=S') h2 h3 ho;exact ⟨g,q0,I,A,B,G,H.symm⟩
 | cell b i s=>
  obtain ⟨l,vs,r,base,m,A,B,E,G,rfl⟩:=h;obtain ⟨I,H,O⟩:=G.rn (n:=n) (q':=q') (S':=S') h2 h3 ho;exact ⟨I,vs,r,base,m,by rw [hm b (hb b i s rfl)];exact A,B,E,H,O.symm⟩
 | ow b t=>exact absurd rfl (J b t)
theorem IOWs.rn {ν:Nat→Nat}{nb N:Nat}{q q':Ren}{w:World}{fr:Fr}{S S':St}(h2:q'.zw=q.zw)(h3:q'.zM=q.zM)(hm:∀ m,m<nb→q' (ν m)=q m){all:List (Option Nat)}(ho:∀ k c,all[k]? = some (some c)→q'.ov (N+k)=q.ov c∧S'.ow.get (N+k)=S.ow.get c) :
  ∀ {l:List It} {x:Ay l} {pre ow suf:List (Option Nat)},IOWs q w fr S l x ow→all=pre++(ow++suf)→(∀ b k s,.cell b k s∈l→b<nb)→(∀ b t,.ow b t∉l)→IOWs q' w fr S' (l.map (Ef ν)) (Pt ν l x) (GW (N+pre.length) ow)
 | [],x,pre,ow,suf,h,ha,_,_=>by
  have h:ow=[]:=h;subst h;rfl
 | [i],x,pre,ow,suf,h,ha,hb,hno=>by
  have h:IOW q w fr S i x ow:=h;refine h.rn (n:=N+pre.length) h2 h3 hm (λb k s e=>hb b k s (by rw [e];simp)) (λb t e=>hno b t (by rw [e];simp)) λc e=>ho _ c ?_
  rw [ha,e];simp
 | i::j::l,x,pre,ow,suf,h,ha,hb,hno=>by
  obtain ⟨a,b,rfl,A,B⟩:=h;refine ⟨GW (N+pre.length) a,GW (N+(pre++a).length) b,by rw [Qr,M1l,M1P],?_,?_⟩;refine A.rn (n:=N+pre.length) h2 h3 hm (λb k s e=>hb b k s (by rw [e];simp)) (λb t e=>hno b t (by rw [e];simp)) λc e=>ho _ c ?_
  rw [ha,e];simp;exact IOWs.rn h2 h3 hm ho (l:=j::l) (suf:=suf) B (by rw [ha];simp) (λb k s e=>hb b k s (M1c _ e)) (λb t e=>hno b t (M1c _ e))
variable {S1:St}{w':World}
theorem jk {A:Ren}(h1:RH A S1 w){ν:Nat→Nat}{sz:List Nat}{own:List (Option Nat)}(t1:∀ m,m<sz.length→ν m<S1.nx∧∃ l,S1.h.get (ν m)=some (.cells l)∧l.length=sz.getD m 0)(hk:∀ m,m<sz.length→A (ν m)≠none)
  (o1:∀ b,some b∈own→∃ o,S1.ow.get b=some o∧o.mu=true){Sb:St}(aB:Sb.h=S1.h)(aC:Sb.nx=S1.nx)(aA:∀ b o,Sb.ow.get b=some o→S1.ow.get b=some o∧some b∉own){N:Nat→Prop}(hc:Ch N (q2 ⟨λm=>if m<sz.length then A (ν m) else none,λ_=>none,A.zw,A.zM⟩ A sz.length own) w q' w')(h2:RH q' S' w')(aD:∀ m,m<sz.length→∃ l,S'.h.get m=some (.cells l))
  {ow:List (Option Nat)}(o2:∀ (i j:Nat)(b:Nat),ow[i]? = some (some b)→ow[j]? = some (some b)→i=j){outs:List It}{y:Ay outs}(aG:IOWs q' w' fr S' outs y ow)(aE:CA sz outs=true)
  {f2:GF}{S2:St}(hw:Es (outs.map (Ef ν)) (Pt ν outs y) .lf Sb=some (f2,S2)) :
  ∃ p',RF' p' f2 fr∧RH p' S2 w'∧Ch (λb=>S1.nx≤b∧b<S2.nx) A w p' w':=by
 obtain ⟨ar,ag,au⟩:=Gn aE;obtain ⟨H,m1,m2,m3,m4,m5,m6⟩:=cC h1 (ν:=ν) (nb:=sz.length) (λm hm=>by obtain ⟨_,l,hl,_⟩:=t1 m hm;exact ⟨l,hl⟩) hk o1 aA hc h2 aD o2;have al:=Kg au;have am:∀ b t,.ow b t∉outs.map (Ef ν):=λb t hm=>by
  obtain ⟨i,hi,e⟩:=M1L.1 hm;cases i with
  | slot j s=>cases e
  | cell c j s=>cases e
  | ow c u=>exact al c u hi
 have aK:∀ m,m<sz.length→A (ν m)=q' m:=λm hm=>by
  cases B:A (ν m) with
  | none=>exact absurd B (hk m hm)
  | some x=>exact (hc.le.m m x (by show (if m<sz.length then A (ν m) else none)=some x;rw [M1d hm];exact B)).symm
 have aH:IOWs (q2 A q' S1.nx ow) w' fr H (outs.map (Ef ν)) (Pt ν outs y) (GW S1.nx ow):=by
  have:=IOWs.rn (ν:=ν) (nb:=sz.length) (N:=S1.nx) (q:=q') (q':=q2 A q' S1.nx ow) (w:=w') (fr:=fr) (S:=S') (S':=H) rfl rfl aK (all:=ow) (λk c hk=>⟨by rw [rj,hk];rfl,m4 k c hk⟩) (pre:=[]) (suf:=[]) aG (by simp) ag al;exact this
 have J:Le A (q2 A q' S1.nx ow):=m5.le;have aI:Le A (q2 A (q2 A q' S1.nx ow) S1.nx (GW S1.nx ow)):=⟨λ_ _ h=>h,λb x B=>by
  have:b<S1.nx:=M2F λhn=>by rw [(h1.fr b hn).2] at B;cases B
  rw [OP this];exact B,J.z⟩
 have ai:∀ b,(List.range sz.length).any (λm=>Nat.beq (ν m) b)=true↔∃ m,m<sz.length∧ν m=b:=λb=>by
  rw [M2P];exact ⟨λ⟨m,k1,k2⟩=>⟨m,M2i.1 k1,M0g k2⟩,λ⟨m,k1,k2⟩=>⟨m,M2i.2 k1,by rw [k2];exact M46 b⟩⟩
 have aJ:Mid A (q2 A q' S1.nx ow) H id w' fr S1.nx (GW S1.nx ow) (outs.map (Ef ν)) [] .lf Sb:=by
  refine ⟨aC,λi g hg=>(by cases i <;> cases hg),λb g r base n hb hp hg=>?_,λb o hb ho=>.inr (by rw [m3 b hb];exact ho),λb hb _ hm=>?_,λk o hk=>(by cases hk),λb t E=>absurd E (am b t),λb t E=>absurd E (am b t),λb k s E=>?_⟩;have G:S1.h.get b=some g:=by rw [←aB];exact hg
  show H.h.get b≠none∧_
  by_cases Y:∃ m,m<sz.length∧ν m=b;obtain ⟨m,hm,rfl⟩:=Y;obtain ⟨_,l,l1,l2⟩:=t1 m hm;have hs:=m2 (ν m) hb;rw [M1d ((ai _).2 ⟨m,hm,rfl⟩)] at hs;rw [l1] at G;cases G;obtain ⟨cs,ty,fz,O,c2,c3,vs,I,c5⟩:=h1.at_ _ r base n _ hp l1;have e1:=I.length;have U:=c5.length_le;simp at U;obtain ⟨cs',aU,az,d1,d2,d3,_⟩:=m1.at_ _ r base n _ hp hs;refine ⟨by rw [hs];simp,.inr ⟨l,rfl,⟨cs',aU,az,d1,d2,d3,[],trivial,by simp⟩,by omega,λk gk v aa Z _=>?_⟩⟩;have aX:=(M09.1 aa).1;rw [EW ((ar m hm).2 k (by omega))] at Z;cases Z
  have hs:=m2 b hb;rw [M1e (λh=>Y ((ai b).1 h)),G] at hs;have hne:∀ m,m<sz.length→ν m≠b:=λm hm e=>Y ⟨m,hm,e⟩
  have aF:=m6 b _ hp hne (by rw [G];simp);refine ⟨by rw [hs];simp,?_⟩;have ao:=(h1.at_ b r base n g hp G).mono aI aF;cases g with
  | map es=>exact .inl ⟨es,rfl,ao⟩
  | cells l=>
   obtain ⟨cs,ty,fz,O,c2,c3,vs,I,c5⟩:=ao;have e1:=I.length;have U:=c5.length_le;simp at U;refine .inr ⟨l,rfl,⟨cs,ty,fz,O,c2,c3,[],trivial,by simp⟩,by omega,λk gk v aa Z hv=>?_⟩;obtain ⟨v',aL,aN⟩:=I.get aa;have e:=Hu c5 aL;rw [M1C] at e;rw [Af O,←M1E,e] at hv;cases hv;exact aN
  obtain ⟨i,hi⟩:=List.mem_iff_getElem?.1 hm;have:=If _ _ _ _ hi;omega;obtain ⟨i,hi,e⟩:=M1L.1 E;cases i with
  | slot j s=>cases e
  | ow c u=>cases e
  | cell c j s'=>
   cases e;exact (t1 c (ag c k s hi)).1
 have ak:=Mid.all J (suf:=[]) hw aH (by simp) aJ;obtain ⟨r1,r2⟩:=Mid.done (ν:=id) (q0:=q2 A q' S1.nx ow) J.m J.o ⟨rfl,rfl,rfl⟩ (λ_ _ _ _ e=>e) (by simpa using ak) m1 (λb hb=>h1.fr b hb) (λi j b hi hj=>by
  have a1:=If _ _ _ _ hi;have a2:=If _ _ _ _ hj;omega)
 refine ⟨_,r1,r2,?_⟩;have:=ql m5 (Gh.refl m1) (own:=GW S1.nx ow) (λb hb=>h1.fr b hb);have an:=ak.nx;simp only [M2L] at an;rw [an];exact this
def CallD (sp:Be) (args:List GV) (S:St) (v:GV) (S':St):Prop:=
 ∃ tr x S1,jj sp args=some tr∧(bU (DU tr) sp.sz.length (BL args 0 .lf) sp.bx&&Mt sp.sz.length (λm=>sp.bx.any λx=>UO m x.2)&&(bV (DU tr) S sp.sz&&(CA sp.sz sp.ins&&CA sp.sz sp.outs)))=true∧
  Eo (BL args 0 .lf) (sp.ins.map (Ef (DU tr))) S=some (x,S1)∧∃ y f vs,sp.F (UM (DU tr) sp.ins x)=some y∧Pv f (Hn sp.outs) BD=some vs∧v=EZ vs∧
   ((sp.lend=true∧(Nat.beq sp.sz.length 0&&(VY sp.ins&&DM sp.outs))=true∧Es sp.outs y .lf S=some (f,S'))∨
    (sp.lend=false∧Zx S1 (AM (BL args 0 .lf) S1 (sp.ins.map (Ef (DU tr))))=true∧∃ A,CR (AM (BL args 0 .lf) S1 (sp.ins.map (Ef (DU tr)))) S1=some A∧Es (sp.outs.map (Ef (DU tr))) (Pt (DU tr) sp.outs y) .lf A=some (f,S')))
theorem DN {A:Type}{sp:Be}{args:List GV}{K:GV→St→Option A}{r:A}(h:Mv sp args S K=some r):∃ v S',CallD sp args S v S'∧K v S'=some r:=by
 unfold Mv at h;split at h;rename_i tr h1;split at h;rename_i h2;split at h;rename_i x S1 h3;split at h;rename_i hl;split at h;rename_i B;obtain ⟨y,E,h⟩:=bind_some h;split at h;rename_i f S2 G;split at h;rename_i vs H;exact ⟨_,S2,⟨tr,x,S1,h1,h2,h3,y,f,vs,E,H,rfl,.inl ⟨hl,B,G⟩⟩,h⟩;cases h;cases h;cases h;rename_i hl;split at h;rename_i B;split at h;rename_i I J;obtain ⟨y,E,h⟩:=bind_some h;split at h;rename_i f S2 G;split at h;rename_i vs H;exact ⟨_,S2,⟨tr,x,S1,h1,h2,h3,y,f,vs,E,H,rfl,.inr ⟨hl,B,I,J,G⟩⟩,h⟩;cases h;cases h;cases h;cases h;cases h;cases h;cases h
variable {v:GV}
theorem Ig {A:Type}{sp:Be}{args:List GV}{K:GV→St→Option A}{r:A}(h:CallD sp args S v S')(I:K v S'=some r):Mv sp args S K=some r:=by
 obtain ⟨tr,x,S1,h1,h2,h3,y,f,vs,G,H,rfl,h⟩:=h;unfold Mv;rw [h1];simp only;rw [h2];simp only;rw [h3];rcases h with ⟨hl,B,E⟩|⟨hl,B,O,J,E⟩
 simp only [hl,B,G,M2O,E,H];exact I;simp only [hl,B,J,G,M2O,E,H];exact I
variable {nm:Nat}
theorem cD{S3 A:St}{l:List GV}{x:s.den}(h:qe S3 s l=some (x,A)):Lg nm S3 A:=by
 unfold qe at h;split at h;split at h;rename_i B;split at h;cases h;exact D7 B;cases h;cases h;cases h;exact .refl _ _;split at h;split at h;cases h;exact .refl _ _;cases h;cases h;cases h
theorem cE{f:GF}{S3 A:St}{x:i.den}(h:qf f S3 i=some (x,A)):Lg nm S3 A:=by
 unfold qf at h;cases i with
 | slot j s=>
  simp only at h;split at h;split at h;exact cD h;cases h;cases h
 | cell b j s=>
  simp only at h;split at h;exact cD h;cases h
 | ow b t=>
  simp only at h;split at h;split at h;cases h;exact .refl _ _;cases h;cases h
theorem Qs {nm:Nat}{f:GF}:∀ {l:List It} {S3 A:St} {x:Ay l},Eo f l S3=some (x,A)→Lg nm S3 A
 | [],S3,A,x,h=>by cases h;exact .refl _ _
 | [i],S3,A,x,h=>cE (i:=i) h
 | i::j::l,S3,A,x,h=>by
  unfold Eo at h;split at h;rename_i B;split at h;rename_i hy;cases h;exact (cE B).trans (Qs (l:=j::l) hy);cases h;cases h
def PA:List It→List Nat
 | []=>[]
 | .slot i _::l=>i::PA l
 | _::l=>PA l
theorem GY:∀ {l:List It} {i:Nat} {s:Sh},.slot i s∈l→i∈PA l
 | .slot j s'::l,i,s,h=>by
  rcases M1y.1 h with e|h;cases e;simp [PA];unfold PA;exact M1c _ (GY h)
 | .cell ..::l,i,s,h=>GY (l:=l) (by simpa using h)
 | .ow ..::l,i,s,h=>GY (l:=l) (by simpa using h)
theorem So {its:List It}{x:Ay its}{f f1:GF}(h:Es its x f S=some (f1,S1)):LgC S S1∧S1.df=S.df:=
 have:=ET (kill:=PA its) (its:=its) (λj s h=>GY h) h λ_ h=>h
 ⟨this.lg,this.df⟩
theorem CallD.lg {sp:Be}{args:List GV}(h:CallD sp args S v S'):LgC S S'∧S'.df=S.df:=by
 obtain ⟨tr,x,S1,h1,h2,h3,y,f,vs,h5,h7,rfl,h⟩:=h;have B:=E8 h3;rcases h with ⟨hl,H,A⟩|⟨hl,H,U,I,A⟩
 exact So A;obtain ⟨J,O⟩:=So A;obtain ⟨Y,Z,E,e4,G⟩:=Bj I;exact ⟨((LgC.of (Qs (nm:=S.nx) h3) (M1g _) (M1O B.nx.symm)).trans G).trans J,O.trans (E.trans B.df)⟩
theorem Gp:∀ {l:List (Option Nat)} {S A:St},CR l S=some A→∀ b o,A.ow.get b=some o→some b∉l
 | [],S,A,h,b,o,ho=>by simp
 | none::l,S,A,h,b,o,ho=>by
  have:=Gp (l:=l) h b o ho
  simpa using this
 | some c::l,S,A,h,b,o,ho=>by
  unfold CR at h;split at h;rename_i S1 h1;obtain ⟨_,_,_,_,s5⟩:=Ak h1;obtain ⟨_,_,_,B,_⟩:=Bj h;have h2:=Gp h b o ho;have h3:=B b o ho;rw [s5] at h3;split at h3;cases h3;rename_i e;intro hm;rcases M1y.1 hm with e'|hm
  cases e';exact e rfl;exact h2 hm;cases h
theorem My {p:Ren}{f:GF}{fr:Fr}(hf:RF' p f fr):∀ {n i:Nat} {gs:List GV} {vs:List Value},Pv f n i=some gs→vs.length=n→(∀ k v,vs[k]? = some v→fr (i+k)=v)→RVs p gs vs
 | 0,i,gs,vs,h,hl,_=>by
  cases h;cases vs with
  | nil=>trivial
  | cons v vs=>cases hl
 | n+1,i,gs,vs,h,hl,hk=>by
  unfold Pv at h;split at h;rename_i g r hg hr;cases h;cases vs with
  | nil=>cases hl
  | cons v vs=>
   refine ⟨by have:=hf _ _ hg;rw [←hk 0 v rfl];exact this,My hf hr (by simpa using hl) λk v hv=>?_⟩;rw [show i+1+k=i+(k+1) by omega];exact hk (k+1) v (by simpa using hv)
  cases h
variable {p:Ren}
theorem RH.ev0(h:RH p S w)(A:Ev [] w w'):RH p S w':=
 ⟨λb r base n g h1 h2=>(h.at_ b r base n g h1 h2).mono (Le.refl _) (A.block r (h.lt b _ h1) (by simp)),h.inj,λb x h1=>M1D (h.lt b x h1) A.size,h.fr,
  h.ro.next (m':=p.m) (λ_ _=>rfl) A (λ_ h=>by cases h) λb x h1 h2=>.inl ⟨b,x,h1,h2,rfl⟩,h.gl⟩
theorem Jo {ν:Nat→Nat}{f:GF}{S:St}:∀ {l:List It},VY l=true→AM f S (l.map (Ef ν))=[]
 | [],_=>rfl
 | .slot i (.d t)::l,h=>by
  show Er f S (.slot i (.d t))++AM f S (l.map (Ef ν))=[]
  rw [Jo (l:=l) h,M1w];unfold Er;simp only;split <;> rfl
 | .slot i (.own t T)::l,h=>by cases h
 | .cell ..::l,h=>by cases h
 | .ow ..::l,h=>by cases h
theorem Mz {q q':Ren}{z:World}{M:List Nat}:∀ {t:Ty} {x:t.den} {cs:List Value},Jl t=true→(eT t).R z M cs x→RVs q (inj t x) cs
 | .int k,x,cs,h,hr=>by have hr:cs=[.int k x]:=hr;subst hr;exact ⟨rfl,trivial⟩
 | .bool,x,cs,h,hr=>by have hr:cs=[.bool x]:=hr;subst hr;exact ⟨rfl,trivial⟩
 | .str,x,cs,h,hr=>by have hr:cs=[Vs x]:=hr;subst hr;exact ⟨rfl,trivial⟩
 | .sl _,x,cs,h,hr=>by cases h
 | .unit,x,cs,h,hr=>by have hr:cs=[]:=hr;subst hr;exact trivial
 | .pair a b,x,cs,h,hr=>by
  obtain ⟨A,ws,rfl,h1,h2⟩:=hr;unfold Jl at h;rw [M05] at h;exact RVs.append (Mz (q':=q') h.1 h1) (Mz (q':=q') h.2 h2)
theorem jl {q:Ren}:∀ {l:List It} {y:Ay l} {f A:GF} {S2:St} {ow:List (Option Nat)},DM l=true→Es l y f S=some (A,S2)→IOWs q' w' fr S' l y ow→RF' q f fr→RF' q A fr∧S2=S:=by
 have one:∀ {i:Nat} {s:Sh} {x:s.den} {f A:GF} {S2:St} {ow:List (Option Nat)},DM [.slot i s]=true→qh f S (.slot i s) x=some (A,S2)→IOW q' w' fr S' (.slot i s) x ow→RF' q f fr→RF' q A fr∧S2=S:=by
  intro i s x f A S2 ow h hw hi hf;obtain ⟨g,q0,l,G,H,J,rfl⟩:=hi;unfold qh at hw;simp only at hw
  split at hw;rename_i gv S3 hs I;have I:=M18 I;cases hw;cases s with
  | own t T=>simp [DM] at h
  | d t=>
   cases hs;refine ⟨λj U hj=>?_,rfl⟩;rw [M4m _ _ _ _ _ (by unfold AD;unfold KF at I;omega)] at hj;split at hj;rename_i e;cases hj;subst e;have O:Jl t=true:=by simpa [DM] using h
   have J:(eT t).R q'.zw q'.zM (fr j).cells.toList x:=J;have B:=Mz (q:=q) (q':=q') O J;cases t with
   | int k=>
    have E:=Ds H G.symm;rw [E] at B;exact B.1
   | bool=>
    have E:=Ds H G.symm;rw [E] at B;exact B.1
   | str=>
    have E:=Ds H G.symm;rw [E] at B;exact B.1
   | sl u=>cases O
   | unit=>exact ⟨_,Jj H G.symm,B⟩
   | pair a b=>exact ⟨_,Jj H G.symm,B⟩
   exact hf j U hj
  cases hw
 intro l;induction l with
 | nil=>
  intro y f A S2 ow h hw hi hf;cases hw;exact ⟨hf,rfl⟩
 | cons i l ih=>
  intro y f A S2 ow h hw hi hf;cases i with
  | cell b j s=>cases h
  | ow b t=>cases h
  | slot i s=>
   have h1:DM [.slot i s]=true:=by
    simp only [DM,M05,Bool.and_true] at h ⊢;exact h.1
   have h2:DM l=true:=by
    simp only [DM,M05] at h;exact h.2
   cases l with
   | nil=>exact one h1 hw hi hf
   | cons j l=>
    unfold Es at hw;split at hw;rename_i f3 S3 Y;obtain ⟨a,b,rfl,Z,i2⟩:=hi;obtain ⟨r1,rfl⟩:=one h1 Y Z hf;exact ih h2 hw i2 r1;cases hw
theorem cF {P:Program}{g:FuncId}{sp:Be}(hS:AW P g sp){args:List GV}(h:CallD sp args S v S'){vargs:List Value}(hv:RVs p args vargs)(hh:RH p S w) :
  CallVC P g vargs w λu w'=>∃ q,RV q v u∧RH q S' w'∧Ch (λb=>S.nx≤b∧b<S'.nx) p w q w':=by
 obtain ⟨tr,x,S1,h1,h2,h3,y,f,vs,h5,h7,rfl,h⟩:=h;simp only [M05] at h2;obtain ⟨⟨b1,b2⟩,b3,b4,b5⟩:=h2;have az:args.length=sp.na∧args.length≤1000:=by
  unfold jj at h1;split at h1;rename_i Y;rw [M05] at Y;have I:=M0g Y.1;have J:=M18 Y.2;exact ⟨I,by omega⟩
  cases h1
 obtain ⟨f0,S0,ay,av⟩:=hS _ _ h5;have ah:Zx S1 (AM (BL args 0 .lf) S1 (sp.ins.map (Ef (DU tr))))=true:=by
  rcases h with ⟨hl,B,H⟩|⟨hl,B,S0,O,H⟩;simp only [M05] at B;rw [Jo B.2.1];rfl
  exact B
 obtain ⟨q1,g1,U,aw,ax,hk,aH⟩:=cB hv az.2 hh b1 b2 b3 b4 h3 ah ay;obtain ⟨o1,o2⟩:=DK ah;obtain ⟨t1,t2⟩:=Pz b3;have aI:=hv.length;refine (av _ w vargs (by omega) (λm hm=>?_) b5 aw ax).mono λu w' ⟨q',S2,aj,ow,I,J,e3,e4,e5,e6,e7,E⟩=>?_
 show (if m<sp.sz.length then q1 (DU tr m) else none)≠none
 rw [M1d hm];exact hk m hm;subst I;have ai:∀ k v,aj[k]? = some v→G3 aj (BD+k)=v:=λk v hk=>by
  unfold G3;rw [M2s,hk];rfl
 rcases h with ⟨hl,B,H⟩|⟨hl,B,aE,O,H⟩;simp only [M05] at B;obtain ⟨l1,l2,l3⟩:=B;have l1:=M0g l1;obtain ⟨r1,rfl⟩:=jl (q:=p) l3 H e4 (λi g hg=>by cases i <;> cases hg);have G:Ev [] w w':=⟨E.os,E.tape,E.output,E.size,λk hk _=>E.out k hk λhb=>by
  rcases hb with ⟨m,x,A,Z⟩|⟨c,y,A,Z⟩;have A:(if m<sp.sz.length then q1 (DU tr m) else none)=some x:=A;rw [M1e (by omega)] at A;cases A
  have A:(if c<sp.sz.length then none else newO q1 (AM (BL args 0 .lf) S1 (sp.ins.map (Ef (DU tr))))[c-sp.sz.length]?)=some y:=A;rw [Jo l2] at A;split at A;cases A;cases A⟩
 exact ⟨p,KW (My r1 h7 J ai),hh.ev0 G,⟨Le.refl _,λ_ h=>.inl h,G.os,G.tape,G.output,G.size,λk hk _=>G.block k hk (by simp),λ_ h=>.inl h,λ_ _ h _=>h⟩⟩;obtain ⟨A,Z,k3,k4,k5⟩:=Bj O;obtain ⟨p',r1,r2,r3⟩:=jk g1.rh (λm hm=>by
  obtain ⟨a1,l,a2,a3⟩:=t1 m hm;exact ⟨by rw [U.nx];exact a1,l,by rw [U.h];exact a2,a3⟩) hk o1 A Z (λb o ho=>⟨k4 b o ho,Gp O b o ho⟩) E e3 e7 e6 e4 b5 H
 exact ⟨p',KW (My r1 h7 J ai),r2,(g1.ch _).trans (r3.mono λb hb=>⟨by rw [←U.nx];exact hb.1,hb.2⟩)⟩
end
section
variable {P:Program}{call:CK}{A:Type}{n:Nat}{cs:List Nat}{S:St}{r:A}
theorem Jp(O:Cw P call)(J:Pn call){ops:Array Oper}{base i:Nat}{o:Oper}{f:GF}{K:GF→St→Option A}(h:DE P call n cs ops base i o f S K=some r) :
  ∃ f' S',K f' S'=some r∧∀ {B:Type} (K':GF→St→Option B) E,K' f' S'=some E→DE P call n cs ops base i o f S K'=some E:=by
 unfold DE at h;split at h;rename_i hw;obtain ⟨v,S1,h1,h2⟩:=Mb O h;have h1:K8 P call (base+i) o f S (λv S=>some (v,S))=some (v,S1):=h1;obtain ⟨f1,h3,G⟩:=Dr (Mi h2);refine ⟨f1,S1,G,λ{B} K' E H=>?_⟩;have I:VK (Up ops cs o.dst) v (λv=>JT n f o.dst v λf=>K' f S1)=some E:=by
  have hp:JT n f o.dst v (λf=>K' f S1)=some E:=by unfold JT;rw [h3];exact H
  exact aW hp
 unfold DE;rw [hw];simp only;unfold K8 at h1 ⊢;split at h1;exact J h1 I;exact M4x h1 I;rename_i hw;obtain ⟨f1,h3,G⟩:=Dr h;refine ⟨f1,S,G,λ{B} K' E H=>?_⟩;unfold DE;rw [hw];simp only;unfold JT;rw [h3];exact H;cases h
theorem MA {P:Program}{call:CK}(H:Cw P call)(G:Pn call){A:Type}{n:Nat}{cs:List Nat}{ops:Array Oper}{base:Nat}{K:GF→St→Option A}{r:A}:∀ {l:List Oper} {i:Nat} {f:GF} {S:St},JU P call n cs ops base l i f S K=some r→
  ∃ f' S',K f' S'=some r∧∀ {B:Type} (K':GF→St→Option B) E,K' f' S'=some E→JU P call n cs ops base l i f S K'=some E
 | [],i,f,S,h=>⟨f,S,h,λK' E h=>h⟩
 | o::l,i,f,S,h=>by
  unfold JU at h;obtain ⟨f1,S1,h1,h2⟩:=Jp H G h;obtain ⟨I,S2,h3,J⟩:=MA H G h1;exact ⟨I,S2,h3,λK' E O=>by unfold JU;exact h2 _ _ (J _ _ O)⟩
theorem Ih {P:Program}{call:CK}(I:Cw P call)(H:Pn call){A:Type}{n:Nat}{cs:List Nat}{ops:Array Oper}{base:Nat}{K:GF→St→Option A}{r:A}:∀ (k:Nat) {rem:List (Nat×Oper)} {done:List Nat} {loose:List (Nat×List Nat)} {f:GF} {S:St},
   HE P call n cs ops base k rem done loose f S K=some r→∃ f' S',K f' S'=some r∧∀ {B:Type} (K':GF→St→Option B) G,K' f' S'=some G→HE P call n cs ops base k rem done loose f S K'=some G
 | 0,rem,done,loose,f,S,h=>by cases h
 | k+1,rem,done,loose,f,S,h=>by
  unfold HE at h;split at h;rename_i i o hp;obtain ⟨f1,S1,h1,h2⟩:=Jp I H h;split at h1;rename_i Y;obtain ⟨J,S2,h3,O⟩:=Ih I H k h1;refine ⟨J,S2,h3,λ{B} K' G E=>?_⟩;unfold HE;rw [hp];simp only;exact h2 _ _ (by rw [Y];exact O _ _ E);cases h1;rename_i hp;split at h;rename_i U;split at h;refine ⟨f,S,h,λ{B} K' G E=>?_⟩;unfold HE;rw [hp];simp only;rw [U];exact E;cases h;rename_i m o U;obtain ⟨f1,S1,h1,h2⟩:=Jp I H h;simp only at h1;split at h1;rename_i Y;obtain ⟨J,S2,h3,O⟩:=Ih I H k h1;refine ⟨J,S2,h3,λ{B} K' G E=>?_⟩;unfold HE;rw [hp];simp only;rw [U];simp only;exact h2 _ _ (by simp only [Y];exact O _ _ E);cases h1;cases h
theorem Jq {P:Program}{call:CK}(H:Cw P call)(J:Pn call)(I:D6 P (J0 P call)){n:Nat}{cs:List Nat}:∀ (c:Code) {A:Type} {f:GF} {S:St} {K:GX→GF→St→Option A} {r:A},yS P call n cs c f S K=some r→
  ∃ e f' S',K e f' S'=some r∧LgC S S'∧∀ {B:Type} (K':GX→GF→St→Option B) G,K' e f' S'=some G→yS P call n cs c f S K'=some G
 | .skip,A,f,S,K,r,h=>by unfold yS at h;exact ⟨.nrm,f,S,h,.refl _,λK' G h=>by unfold yS;exact h⟩
 | .label _,A,f,S,K,r,h=>by unfold yS at h;exact ⟨.nrm,f,S,h,.refl _,λK' G h=>by unfold yS;exact h⟩
 | .ret,A,f,S,K,r,h=>by unfold yS at h;exact ⟨.ret,f,S,h,.refl _,λK' G h=>by unfold yS;exact h⟩
 | .exit id,A,f,S,K,r,h=>by unfold yS at h;exact ⟨.exit id,f,S,h,.refl _,λK' G h=>by unfold yS;exact h⟩
 | .seq a b,A,f,S,K,r,h=>by
  unfold yS at h;obtain ⟨e,f1,S1,h1,h2,h3⟩:=Jq H J I a h;cases e with
  | nrm=>
   obtain ⟨e2,Y,S2,k1,k2,k3⟩:=Jq H J I b h1;exact ⟨e2,Y,S2,k1,h2.trans k2,λK' G E=>by unfold yS;exact h3 _ _ (k3 _ _ E)⟩
  | exit id=>exact ⟨_,f1,S1,h1,h2,λK' G E=>by unfold yS;exact h3 _ _ E⟩
  | ret=>exact ⟨_,f1,S1,h1,h2,λK' G E=>by unfold yS;exact h3 _ _ E⟩
 | .cond c x y,A,f,S,K,r,h=>by
  unfold yS at h;split at h;rename_i b hc;cases b with
  | true=>
   obtain ⟨e,f1,S1,h1,h2,h3⟩:=Jq H J I x h;exact ⟨e,f1,S1,h1,h2,λK' G E=>by unfold yS;rw [hc];exact h3 _ _ E⟩
  | false=>
   obtain ⟨e,f1,S1,h1,h2,h3⟩:=Jq H J I y h;exact ⟨e,f1,S1,h1,h2,λK' G E=>by unfold yS;rw [hc];exact h3 _ _ E⟩
  cases h
 | .block id c,A,f,S,K,r,h=>by
  unfold yS at h;obtain ⟨e,f1,S1,h1,h2,h3⟩:=Jq H J I c h;cases e with
  | nrm=>exact ⟨_,f1,S1,h1,h2,λK' G E=>by unfold yS;exact h3 _ _ E⟩
  | ret=>exact ⟨_,f1,S1,h1,h2,λK' G E=>by unfold yS;exact h3 _ _ E⟩
  | exit aj=>
   simp only at h1;split at h1;rename_i aa;exact ⟨_,f1,S1,h1,h2,λK' G E=>by unfold yS;exact h3 _ _ (by simp only [aa];exact E)⟩;rename_i aa;exact ⟨_,f1,S1,h1,h2,λK' G E=>by unfold yS;exact h3 _ _ (by simp only [aa];exact E)⟩
 | .region _ ops false,A,f,S,K,r,h=>by
  unfold yS at h;obtain ⟨f1,S1,h1,h2⟩:=MA H J h;have Z:=h2 (λf S=>some (f,S)) _ rfl;obtain ⟨Y,S2,O,j2⟩:=Ew H Z;cases j2;obtain ⟨_,U⟩:=Mr H I ops.toList 0 O (λ_ h=>h) (M1H _ _);exact ⟨_,f1,S1,h1,⟨M1B (M1H _ _) (EI I _ _ O),U⟩,λK' G E=>by unfold yS;exact h2 _ _ E⟩
 | .region _ ops true,A,f,S,K,r,h=>by
  unfold yS at h;split at h;rename_i hb;obtain ⟨f1,S1,h1,h2⟩:=Ih H J _ h;have Z:=h2 (λf S=>some (f,S)) _ rfl;have ae:∀ x∈B1 ops.toList 0,ops[x.1]? = some x.2:=λx hx=>by simpa using (BH _ _ x hx).2
  obtain ⟨Y,S2,O,j2⟩:=Ji H I _ Z ae (λx hx=>by cases hx);cases j2;obtain ⟨_,U⟩:=Qo H I O ae (M1H _ _);exact ⟨_,f1,S1,h1,⟨M1B (M1H _ _) (I4 I O),U⟩,λK' G E=>by unfold yS;rw [hb];exact h2 _ _ E⟩;cases h
 | .loop ..,A,f,S,K,r,h=>by unfold yS at h;cases h
 | .rangeFunc ..,A,f,S,K,r,h=>by unfold yS at h;cases h
 | .scope ..,A,f,S,K,r,h=>by unfold yS at h;cases h
 | .goto ..,A,f,S,K,r,h=>by unfold yS at h;cases h
 | .refuse ..,A,f,S,K,r,h=>by unfold yS at h;cases h
theorem PB {P:Program}(H:P.follows .mixedOrders=true){call:CK}(G:Cw P call)(E:D6 P (J0 P call)){n:Nat}{cs:List Nat}:∀ (c:Code) {A:Type} {f:GF} {S:St} {K:GX→GF→St→Option A} {r:A},yS P call n cs c f S K=some r→
  ∀ {q:Ren} {a:Act} {fr:Fr} {w:World} {QA:Exit→Act→World→Prop},RA n a fr→RF' q f fr→RH q S w→DF a.defers S.df→(∀ e f' S' q' a' fr' w',End n (AS c) f S q w f' S' q' a' fr' w'→K e f' S'=some r→QA (Gf e) a' w')→c.wp P QA a w
 | .skip,A,f,S,K,r,h,q,a,fr,w,QA,hr,hf,hh,hd,hQ=>by
  unfold yS at h;exact wp_skip (hQ .nrm f S q a fr w ⟨hr,hf,hh,Ch.refl _ _ _,hd,.refl _ _,.refl _⟩ h)
 | .label _,A,f,S,K,r,h,q,a,fr,w,QA,hr,hf,hh,hd,hQ=>by
  unfold yS at h;exact wp_label (hQ .nrm f S q a fr w ⟨hr,hf,hh,Ch.refl _ _ _,hd,.refl _ _,.refl _⟩ h)
 | .ret,A,f,S,K,r,h,q,a,fr,w,QA,hr,hf,hh,hd,hQ=>by
  unfold yS at h;exact wp_ret (hQ .ret f S q a fr w ⟨hr,hf,hh,Ch.refl _ _ _,hd,.refl _ _,.refl _⟩ h)
 | .exit id,A,f,S,K,r,h,q,a,fr,w,QA,hr,hf,hh,hd,hQ=>by
  unfold yS at h;exact wp_exit (hQ (.exit id) f S q a fr w ⟨hr,hf,hh,Ch.refl _ _ _,hd,.refl _ _,.refl _⟩ h)
 | .seq x y,A,f,S,K,r,h,q,a,fr,w,QA,hr,hf,hh,hd,hQ=>by
  have s1:∀ i∈AS x,i∈AS (.seq x y):=λi hi=>by unfold AS;exact M1T _ hi
  have s2:∀ i∈AS y,i∈AS (.seq x y):=λi hi=>by unfold AS;exact M1z _ hi
  unfold yS at h;refine wp_seq (PB H G E x h hr hf hh hd λe f' S' q' a' fr' w' B hk=>?_);cases e with
  | nrm=>exact PB H G E y hk B.ra B.rf B.rh B.df λI J S2 q2 a2 O Z U Y=>hQ I J S2 q2 a2 O Z (B.trans U s1 s2) Y
  | exit id=>exact hQ _ f' S' q' a' fr' w' (B.sub s1) hk
  | ret=>exact hQ _ f' S' q' a' fr' w' (B.sub s1) hk
 | .cond c x y,A,f,S,K,r,h,q,a,fr,w,QA,hr,hf,hh,hd,hQ=>by
  have s1:∀ i∈AS x,i∈AS (.cond c x y):=λi hi=>by unfold AS;exact M1T _ hi
  have s2:∀ i∈AS y,i∈AS (.cond c x y):=λi hi=>by unfold AS;exact M1z _ hi
  unfold yS at h;split at h;rename_i b hc;have ak:ev fr c=.bool b:=KP hc λt _ g hg=>hf t g hg
  cases b with
  | true=>exact wp_cond_true (by rw [hr.eval];exact ak) (PB H G E x h hr hf hh hd λI J S2 q2 a2 O Z U Y=>hQ I J S2 q2 a2 O Z (U.sub s1) Y)
  | false=>exact wp_cond_false (by rw [hr.eval];exact ak) (PB H G E y h hr hf hh hd λI J S2 q2 a2 O Z U Y=>hQ I J S2 q2 a2 O Z (U.sub s2) Y)
  cases h
 | .block id c,A,f,S,K,r,h,q,a,fr,w,QA,hr,hf,hh,hd,hQ=>by
  unfold yS at h;refine wp_block (PB H G E c h hr hf hh hd λe f' S' q' a' fr' w' B hk=>?_);have B:End n (AS (.block id c)) f S q w f' S' q' a' fr' w':=B;cases e with
  | nrm=>exact hQ _ f' S' q' a' fr' w' B hk
  | ret=>exact hQ _ f' S' q' a' fr' w' B hk
  | exit an=>
   simp only at hk;show Exit.inBlock id QA (.exit an) a' w'
   unfold Exit.inBlock;simp only;split at hk;rename_i ac;rw [M1d (M0g ac)];exact hQ _ f' S' q' a' fr' w' B hk;rename_i ac;rw [M1e (λe=>by subst e;simp at ac)];exact hQ _ f' S' q' a' fr' w' B hk
 | .region _ ops false,A,f,S,K,r,h,q,a,fr,w,QA,hr,hf,hh,hd,hQ=>by
  unfold yS at h;obtain ⟨f1,S1,h1,h2⟩:=Ew G h;obtain ⟨b1,b2⟩:=Mr G E ops.toList 0 h1 (λ_ h=>h) (M1H _ _);have ad:S.nx≤S1.nx:=M1B (M1H _ _) (EI E _ _ h1);refine wp_region_list ?_;have:=K5 E (QA:=QA) ops.toList 0 h1 hr hf (hh.congr (λ_ _=>rfl) (M1H _ _) λ_ _=>rfl) (λj _ _=>hh.fr _ (M1H _ _)) (by simp) hd (λq' a' fr' w' k1 k2 k3 k4 k5=>hQ .nrm f1 S1 q' a' fr' w' ⟨k1,k2,k3,k4,k5,b1,ad,b2⟩ h2)
  rwa [M1U] at this
 | .region _ ops true,A,f,S,K,r,h,q,a,fr,w,QA,hr,hf,hh,hd,hQ=>by
  unfold yS at h;split at h;rename_i hb;simp only [M05] at hb;have al:∀ x∈B1 ops.toList 0,ops[x.1]? = some x.2:=λx hx=>by simpa using (BH _ _ x hx).2
  obtain ⟨f1,S1,h1,h2⟩:=Ji G E _ h al (λx hx=>by cases hx);obtain ⟨b1,b2⟩:=Qo G E h1 al (M1H _ _);have ad:S.nx≤S1.nx:=M1B (M1H _ _) (I4 E h1);exact Jc H E hb.1 hb.2 h1 hr hf hh hd λq' a' fr' w' k1 k2 k3 k4 k5=>hQ .nrm f1 S1 q' a' fr' w' ⟨k1,k2,k3,k4,k5,b1,ad,b2⟩ h2
  cases h
 | .loop ..,A,f,S,K,r,h,q,a,fr,w,QA,hr,hf,hh,hd,hQ=>by unfold yS at h;cases h
 | .rangeFunc ..,A,f,S,K,r,h,q,a,fr,w,QA,hr,hf,hh,hd,hQ=>by unfold yS at h;cases h
 | .scope ..,A,f,S,K,r,h,q,a,fr,w,QA,hr,hf,hh,hd,hQ=>by unfold yS at h;cases h
 | .goto ..,A,f,S,K,r,h,q,a,fr,w,QA,hr,hf,hh,hd,hQ=>by unfold yS at h;cases h
 | .refuse ..,A,f,S,K,r,h,q,a,fr,w,QA,hr,hf,hh,hd,hQ=>by unfold yS at h;cases h
structure Eg {R:Type} (K:Kt R):Prop where
 s:G6 K
 f:∀ {A B:Type} (j:R→A) (h:A→B) (e:GX) (f:GF) (S:St) (x:A),K A j e f S=some x→K B (λx=>h (j x)) e f S=some (h x)
variable {R:Type}{its:List It}{K:Kt R}
theorem GZ{G:St}(E:Eg K):Eg (JV its S G K):=⟨Mq E.s,λ{A B} j h e f S' x hr=>by
 cases e with
 | nrm=>
  obtain ⟨t,S2,h1,h2,h3⟩:=Co hr;cases h3;exact Ex h1 h2 rfl
 | exit id=>exact E.f (λr=>j (.done r)) h _ f S' x hr
 | ret=>exact E.f (λr=>j (.done r)) h _ f S' x hr⟩
variable {e:GX}{f':GF}{S':St}
theorem PC{E:St}(B:Eg K){j:R→A}(G:e≠.nrm){y:A}(h:K A j e f' S'=some y):JV its S E K (Al (Ay its) A) (OJ j) e f' S'=some (.done y):=by
 cases e with
 | nrm=>exact absurd rfl G
 | exit id=>exact B.f j (Al.done (σ:=Ay its)) _ f' S' y h
 | ret=>exact B.f j (Al.done (σ:=Ay its)) _ f' S' y h
theorem PD{B:St}{j:R→A}{S2:St}{t:Ay its}(h1:Eo f' its S'=some (t,S2))(h2:Hm its S B f' S2=true):JV its S B K (Al (Ay its) A) (OJ j) .nrm f' S'=some (.next t):=Ex h1 h2 rfl
def cG (P:Program) (call:CK) (n:Nat) (cs:List Nat) (G:List (Nat×List It)) (c:Code):Prop:=
 ∀ {R:Type} {p:Nat} {f:GF} {S:St} {K:Kt R} {A:Type} {j:R→A} {r:A},Eg K→yC std P call n cs G c p f S K A j=some r→
  ∃ e f' S',K A j e f' S'=some r∧LgC S S'∧∀ {E:Type} {K':Kt E} {B:Type} (H:E→B) (I:B),Eg K'→K' B H e f' S'=some I→yC std P call n cs G c p f S K' B H=some I
def PE {R:Type} (b:Kt R) (K:Kt R):Kt R:=λA j e f S=>match e with
 | .nrm=>b A j .nrm f S
 | e=>K A j e f S
theorem Cg{b:Kt R}(hb:Eg b)(E:Eg K):Eg (PE b K):=⟨λ{A B} j h e f S r hr=>by
  cases e with
  | nrm=>exact hb.s j h _ f S r hr
  | exit id=>exact E.s j h _ f S r hr
  | ret=>exact E.s j h _ f S r hr,λ{A B} j h e f S r hr=>by
  cases e with
  | nrm=>exact hb.f j h _ f S r hr
  | exit id=>exact E.f j h _ f S r hr
  | ret=>exact E.f j h _ f S r hr⟩
variable {c:Code}{p:Nat}
theorem MB(I:Cw P call)(H:Pn call){G:List (Nat×List It)}(J:cG P call n cs G c)(E:Eg K):Eg (λA j (_:GX) f S=>yC std P call n cs G c p f S K A j):=
 ⟨λ{A B} j h e f S r hr=>D8 I H c E.s j h r hr,λ{A B} j h e f S x hr=>by
  obtain ⟨e,f',S',h1,_,h3⟩:=J E hr;exact h3 _ _ E (E.f j h e f' S' x h1)⟩
def rv {R:Type} (id:Nat) (K:Kt R):Kt R:=λA j e f S=>match e with
 | .exit B=>match Nat.beq B id with
  | true=>K A j .nrm f S
  | false=>K A j (.exit B) f S
 | e=>K A j e f S
theorem JM{id:Nat}(E:Eg K):Eg (λA j e f S=>match e with
   | .exit G=>match Nat.beq G id with
    | true=>K A j .nrm f S
    | false=>K A j (.exit G) f S
   | e=>K A j e f S):=⟨Ms E.s,λ{A B} j h e f S r hr=>by
 cases e with
 | nrm=>exact E.f j h _ f S r hr
 | ret=>exact E.f j h _ f S r hr
 | exit G=>
  simp only at hr ⊢;split at hr;exact E.f j h _ f S r hr;exact E.f j h _ f S r hr⟩
theorem Gq {P:Program}{call:CK}(I:Cw P call)(H:Pn call){n:Nat}{cs:List Nat}{E:List (Nat×List It)}{c:Code}(J:cG P call n cs E c){p:Nat}{R:Type}{K:Kt R}(G:Eg K):∀ m,Eg (λA j (_:GX) f S=>YV (λf S K A j=>yC std P call n cs E c p f S K A j) m f S K A j)
 | 0=>⟨λ{A B} j h e f S r hr=>(by cases hr),λ{A B} j h e f S r hr=>(by cases hr)⟩
 | m+1=>MB I H J (Cg (Gq I H J G m) G)
theorem VZ {P:Program}{call:CK}(Y:Cw P call)(U:Pn call){n:Nat}{cs:List Nat}{I:List (Nat×List It)}{c:Code}(J:cG P call n cs I c){p:Nat}{R:Type}{K:Kt R}(Z:Eg K){A:Type}{j:R→A}{r:A}:∀ (m:Nat) {f:GF} {S:St},
  YV (λf S K A j=>yC std P call n cs I c p f S K A j) m f S K A j=some r→∃ e f' S',K A j e f' S'=some r∧LgC S S'∧∀ {O:Type} {K':Kt O} {B:Type} (G:O→B) (H:B),Eg K'→K' B G e f' S'=some H→YV (λf S K A j=>yC std P call n cs I c p f S K A j) m f S K' B G=some H
 | 0,f,S,h=>by cases h
 | m+1,f,S,h=>by
  obtain ⟨e,f1,S1,h1,h2,h3⟩:=J (Cg (Gq Y U J Z m) Z) h;cases e with
  | nrm=>
   obtain ⟨e2,f2,S2,k1,k2,k3⟩:=VZ Y U J Z m h1;exact ⟨e2,f2,S2,k1,h2.trans k2,λ{O K' B} G H E hr=>h3 (K':=PE (λA j (_:GX) f S=>YV (λf S K A j=>yC std P call n cs I c p f S K A j) m f S K' A j) K') G H (Cg (Gq Y U J E m) E) (k3 G H E hr)⟩
  | exit id=>exact ⟨_,f1,S1,h1,h2,λ{O K' B} G H E hr=>h3 (K':=PE (λA j (_:GX) f S=>YV (λf S K A j=>yC std P call n cs I c p f S K A j) m f S K' A j) K') G H (Cg (Gq Y U J E m) E) hr⟩
  | ret=>exact ⟨_,f1,S1,h1,h2,λ{O K' B} G H E hr=>h3 (K':=PE (λA j (_:GX) f S=>YV (λf S K A j=>yC std P call n cs I c p f S K A j) m f S K' A j) K') G H (Cg (Gq Y U J E m) E) hr⟩
theorem Sp {P:Program}{call:CK}{n:Nat}{cs:List Nat}{O:List (Nat×List It)}{c:Code}(Z:cG P call n cs O c){p:Nat}{R:Type}{K:Kt R}(U:Eg K){its:List It}{f:GF}{G:St}(Y:qj n f G (AS c) its=true){A:Type}{j:R→A}{r:A}:∀ (m:Nat) {t:Ay its},
  loopN (λt=>Hl its f G (AS c) t λf1 S1=>yC (R:=Al (Ay its) R) std P call n cs O c p f1 S1 (JV its S1 G K) (Al (Ay its) A) (OJ j)) m t=some r→
  ∃ e f' S',K A j e f' S'=some r∧LgC G S'∧∀ {H:Type} {K':Kt H} {B:Type} (E:H→B) (J:B),Eg K'→K' B E e f' S'=some J→loopN (λt=>Hl its f G (AS c) t λf1 S1=>yC (R:=Al (Ay its) H) std P call n cs O c p f1 S1 (JV its S1 G K') (Al (Ay its) B) (OJ E)) m t=some J
 | 0,t,h=>by cases h
 | m+1,t,h=>by
  obtain ⟨i1,i2,_,_⟩:=DL Y;unfold loopN at h;obtain ⟨x,h1,h2⟩:=bind_some h;obtain ⟨fh,Sh,h3,h4⟩:=CN h1;have ae:=(ET (its:=its) (kill:=AS c) i2 h3 λ_ h=>h).clr i1;obtain ⟨e,f1,S1,k1,k2,k3⟩:=Z (GZ U) h4;rcases Ic U.s k1 with ⟨rfl,t',S2,l1,l2,rfl⟩|⟨hne,y,l1,rfl⟩
  obtain ⟨e2,f2,S3,m1,m2,m3⟩:=Sp Z U Y m h2;refine ⟨e2,f2,S3,m1,m2,λ{H K' B} E J I hr=>?_⟩;unfold loopN;rw [Gk h3 (k3 (OJ E) _ (GZ I) (PD l1 l2))];exact m3 E J I hr;cases h2;refine ⟨e,f1,S1,l1,ae.lg.trans k2,λ{H K' B} E J I hr=>?_⟩;unfold loopN;rw [Gk h3 (k3 (OJ E) _ (GZ I) (PC I hne hr))];rfl
theorem HI {P:Program}{call:CK}(I:Cw P call)(O:Pn call)(U:D6 P (J0 P call)){n:Nat}{cs:List Nat}{J:List (Nat×List It)}:∀ c:Code,cG P call n cs J c
 | .skip,R,p,f,S,K,A,j,r,hK,h=>by unfold yC at h;exact ⟨.nrm,f,S,h,.refl _,λE G _ h=>by unfold yC;exact h⟩
 | .label _,R,p,f,S,K,A,j,r,hK,h=>by unfold yC at h;exact ⟨.nrm,f,S,h,.refl _,λE G _ h=>by unfold yC;exact h⟩
 | .ret,R,p,f,S,K,A,j,r,hK,h=>by unfold yC at h;exact ⟨.ret,f,S,h,.refl _,λE G _ h=>by unfold yC;exact h⟩
 | .exit id,R,p,f,S,K,A,j,r,hK,h=>by unfold yC at h;exact ⟨.exit id,f,S,h,.refl _,λE G _ h=>by unfold yC;exact h⟩
 | .seq a b,R,p,f,S,K,A,j,r,hK,h=>by
  have az:cG P call n cs J a:=HI I O U a;have ag:cG P call n cs J b:=HI I O U b;unfold yC at h;split at h;rename_i ha;obtain ⟨e,f1,S1,h1,h2,h3⟩:=az (K:=PE (λA j (_:GX) f S=>yC std P call n cs J b (2*p+1) f S K A j) K) (Cg (MB I O ag hK) hK) h;have Z:∀ {Y:Type} {K':Kt Y} {B:Type} (E:Y→B) (G:B),Eg K'→PE (λA j (_:GX) f S=>yC std P call n cs J b (2*p+1) f S K' A j) K' B E e f1 S1=some G→yC std P call n cs J (.seq a b) p f S K' B E=some G:=λ{Y K' B} E G H hr=>by
   unfold yC;rw [ha];exact h3 E G (Cg (MB I O ag H) H) hr
  cases e with
  | nrm=>
   obtain ⟨e2,f2,S2,k1,k2,k3⟩:=ag hK h1;exact ⟨e2,f2,S2,k1,h2.trans k2,λE G H hr=>Z E G H (k3 E G H hr)⟩
  | exit id=>exact ⟨_,f1,S1,h1,h2,λE G H hr=>Z E G H hr⟩
  | ret=>exact ⟨_,f1,S1,h1,h2,λE G H hr=>Z E G H hr⟩
  rename_i its ha;split at h;rename_i S0 hg;obtain ⟨g1,g2⟩:=EU hg;obtain ⟨_,_,_,_,e5⟩:=Bj g1;obtain ⟨i1,i2,_,_⟩:=DL g2;obtain ⟨x,h1,h2⟩:=bind_some h;obtain ⟨e,f1,S1,k1,k2,k3⟩:=az (GZ hK) h1;rcases Ic hK.s k1 with ⟨rfl,t',S2,l1,l2,rfl⟩|⟨hne,y,l1,rfl⟩
  obtain ⟨f3,S3,h4,h5⟩:=CN h2;have aC:=(ET (its:=its) (kill:=AS a) i2 h4 λ_ h=>h).clr i1;obtain ⟨e2,f2,S2,m1,m2,m3⟩:=ag hK h5;refine ⟨e2,f2,S2,m1,(e5.trans aC.lg).trans m2,λ{Y K' B} E G H hr=>?_⟩;unfold yC;rw [ha];simp only;rw [hg];simp only;rw [k3 (OJ E) _ (GZ H) (PD l1 l2)];exact Gk h4 (m3 E G H hr);cases h2;refine ⟨e,f1,S1,l1,k2,λ{Y K' B} E G H hr=>?_⟩;unfold yC;rw [ha];simp only;rw [hg];simp only;rw [k3 (OJ E) _ (GZ H) (PC H hne hr)];rfl;cases h
 | .cond c x y,R,p,f,S,K,A,j,r,hK,h=>by
  unfold yC at h;split at h;rename_i b hc;cases b with
  | true=>
   obtain ⟨e,f1,S1,h1,h2,h3⟩:=(HI I O U x:cG P call n cs J x) hK h;exact ⟨e,f1,S1,h1,h2,λE G H hr=>by unfold yC;rw [hc];exact h3 E G H hr⟩
  | false=>
   obtain ⟨e,f1,S1,h1,h2,h3⟩:=(HI I O U y:cG P call n cs J y) hK h;exact ⟨e,f1,S1,h1,h2,λE G H hr=>by unfold yC;rw [hc];exact h3 E G H hr⟩
  cases h
 | .block id c,R,p,f,S,K,A,j,r,hK,h=>by
  unfold yC at h;obtain ⟨e,f1,S1,h1,h2,h3⟩:=(HI I O U c:cG P call n cs J c) (JM (id:=id) hK) h;have Z:∀ {Y:Type} {K':Kt Y} {B:Type} (E:Y→B) (G:B),Eg K'→rv id K' B E e f1 S1=some G→yC std P call n cs J (.block id c) p f S K' B E=some G:=λ{Y K' B} E G H hr=>by
   unfold yC;exact h3 E G (JM (id:=id) H) hr
  cases e with
  | nrm=>exact ⟨_,f1,S1,h1,h2,λE G H hr=>Z E G H hr⟩
  | ret=>exact ⟨_,f1,S1,h1,h2,λE G H hr=>Z E G H hr⟩
  | exit aK=>
   simp only at h1;split at h1;rename_i ao;exact ⟨_,f1,S1,h1,h2,λE G H hr=>Z E G H (by unfold rv;simp only [ao];exact hr)⟩;rename_i ao;exact ⟨_,f1,S1,h1,h2,λE G H hr=>Z E G H (by unfold rv;simp only [ao];exact hr)⟩
 | .loop c,R,p,f,S,K,A,j,r,hK,h=>by
  have ih:cG P call n cs J c:=HI I O U c;unfold yC at h;split at h;rename_i ha;obtain ⟨e,f1,S1,h1,h2,h3⟩:=VZ I O ih hK 9 h;exact ⟨e,f1,S1,h1,h2,λE G H hr=>by unfold yC;rw [ha];exact h3 E G H hr⟩;rename_i its ha;split at h;rename_i x0 S1 ap;split at h;rename_i S0 hg;obtain ⟨g1,g2⟩:=EU hg;obtain ⟨_,_,_,_,e5⟩:=Bj g1;obtain ⟨t0,S2,h1,h2,h3⟩:=Co h;have aB:=E8 ap;have hL:LgC S S0:=(LgC.of (Qs (nm:=S.nx) ap) (M1g _) (M1O aB.nx.symm)).trans e5;rw [Qj] at h3;unfold loop at h3;obtain ⟨e,f1,S3,k1,k2,k3⟩:=Sp ih hK g2 _ h3;refine ⟨e,f1,S3,k1,hL.trans k2,λ{Y K' B} E G H hr=>?_⟩;unfold yC;rw [ha];simp only;rw [ap];simp only;rw [hg];exact Ex h1 h2 (k3 E G H hr)
  cases h;cases h
 | .region _ ops false,R,p,f,S,K,A,j,r,hK,h=>by
  unfold yC at h;obtain ⟨f1,S1,h1,h2⟩:=MA I O h;have h0:=h2 (λf S=>some (f,S)) _ rfl;obtain ⟨f2,S2,j1,j2⟩:=Ew I h0;cases j2;obtain ⟨_,b2⟩:=Mr I U ops.toList 0 j1 (λ_ h=>h) (M1H _ _);exact ⟨_,f1,S1,h1,⟨M1B (M1H _ _) (EI U _ _ j1),b2⟩,λE G _ hr=>by unfold yC;exact h2 _ _ hr⟩
 | .region _ ops true,R,p,f,S,K,A,j,r,hK,h=>by
  unfold yC at h;split at h;rename_i hb;obtain ⟨f1,S1,h1,h2⟩:=Ih I O _ h;have h0:=h2 (λf S=>some (f,S)) _ rfl;have ax:∀ x∈B1 ops.toList 0,ops[x.1]? = some x.2:=λx hx=>by simpa using (BH _ _ x hx).2
  obtain ⟨f2,S2,j1,j2⟩:=Ji I U _ h0 ax (λx hx=>by cases hx);cases j2;obtain ⟨_,b2⟩:=Qo I U j1 ax (M1H _ _);exact ⟨_,f1,S1,h1,⟨M1B (M1H _ _) (I4 U j1),b2⟩,λE G _ hr=>by unfold yC;rw [hb];exact h2 _ _ hr⟩;cases h
 | .rangeFunc ..,R,p,f,S,K,A,j,r,hK,h=>by unfold yC at h;cases h
 | .scope ..,R,p,f,S,K,A,j,r,hK,h=>by unfold yC at h;cases h
 | .goto ..,R,p,f,S,K,A,j,r,hK,h=>by unfold yC at h;cases h
 | .refuse ..,R,p,f,S,K,A,j,r,hK,h=>by unfold yC at h;cases h
theorem Jr(K:GX→GF→St→Option R):Eg (Ho K):=⟨λ{A B} j h e f S r hr=>by
  unfold Ho at hr ⊢;cases E:K e f S with
  | none=>rw [E] at hr;cases hr
  | some y=>rw [E] at hr;cases hr;exact ⟨_,rfl,rfl⟩,λ{A B} j h e f S x hr=>by
  unfold Ho at hr ⊢;cases E:K e f S with
  | none=>rw [E] at hr;cases hr
  | some y=>rw [E] at hr;cases hr;rfl⟩
theorem Sq{K:GX→GF→St→Option R}{f:GF}{r:R}(h:Ho K R id e f S=some r):K e f S=some r:=by
 unfold Ho at h;cases A:K e f S with
 | none=>rw [A] at h;cases h
 | some y=>rw [A] at h;exact h
theorem cH{K:GX→GF→St→Option R}{f:GF}{r:R}(h:K e f S=some r):Ho K R id e f S=some r:=by
 unfold Ho;rw [h];rfl
theorem Qt(I:Cw P call)(H:Pn call)(J:D6 P (J0 P call)){G:Bool}{ia:List (Nat×List It)}{f:GF}{K:GX→GF→St→Option A}(h:yI std P call G ia p n cs c f S K=some r) :
  ∃ e f' S',K e f' S'=some r∧LgC S S'∧∀ {B:Type} (K':GX→GF→St→Option B) E,K' e f' S'=some E→yI std P call G ia p n cs c f S K'=some E:=by
 cases G with
 | false=>exact Jq I H J c h
 | true=>
  obtain ⟨e,f1,S1,h1,h2,h3⟩:=HI I H J c (Jr K) (show yC std P call n cs ia c p f S (Ho K) A id=some r from h);exact ⟨e,f1,S1,Sq h1,h2,λK' E hr=>h3 id E (Jr K') (cH hr)⟩
theorem yU(H:P.follows .mixedOrders=true)(E:Cw P call)(O:Pn call)(I:D6 P (J0 P call)){J:Bool}{ia:List (Nat×List It)}{f:GF}{K:GX→GF→St→Option A}(h:yI std P call J ia p n cs c f S K=some r)
  {q:Ren}{a:Act}{fr:Fr}{w:World}{QA:Exit→Act→World→Prop}(hr:RA n a fr)(hf:RF' q f fr)(G:RH q S w)(hd:DF a.defers S.df)(B:∀ e f' S' q' a' fr' w',End n (AS c) f S q w f' S' q' a' fr' w'→K e f' S'=some r→QA (Gf e) a' w'):c.wp P QA a w:=by
 cases J with
 | false=>exact PB H E I c h hr hf G hd B
 | true=>exact Gm H E O I c (Jr K).s (show yC std P call n cs ia c p f S (Ho K) A id=some r from h) hr hf G hd λe f' S' q' a' fr' w' U hk=>B e f' S' q' a' fr' w' U (Sq hk)
theorem Dt:∀ {tab:XQ} {g:FuncId} {args:List GV} {sp:Be},Pw tab g args=some sp→(g,sp)∈tab
 | [],g,args,sp,h=>by cases h
 | (g',s)::l,g,args,sp,h=>by
  unfold Pw at h;split at h;rename_i e;split at h;cases h;rw [←M0g e];simp;exact M1c _ (Dt h);exact M1c _ (Dt h)
theorem Ey{rs:List ResultVar}{df:List FuncId}{K:GV→St→Option A}{f:GF}(h:bW P rs df K e f S'=some r) :
  (∀ id,e≠.exit id)∧S'.df.all (Hf P)=true∧∃ vs,J8 P f S' rs=some vs∧K (EZ vs) ⟨S'.h,S'.nx,df,S'.ow,S'.lg⟩=some r:=by
 unfold bW at h;split at h;cases h;rename_i hne B E;exact ⟨λid e=>hne id e,B,_,E,h⟩;cases h
theorem W0{rs:List ResultVar}{df:List FuncId}{K:GV→St→Option A}{f:GF}{vs:List GV}(h1:∀ id,e≠.exit id)(h2:S'.df.all (Hf P)=true)(h3:J8 P f S' rs=some vs)(B:K (EZ vs) ⟨S'.h,S'.nx,df,S'.ow,S'.lg⟩=some r):bW P rs df K e f S'=some r:=by
 unfold bW;rw [h2,h3];cases e with
 | nrm=>exact B
 | exit id=>exact absurd rfl (h1 id)
 | ret=>exact B
theorem Ii{g:FuncId}{sp:Be}(A:AW P g sp){args:List GV}{v:GV}(h:Mv sp args S (λv S=>some (v,S))=some (v,S')):S'.df=S.df∧LgC S S'∧∀ p w vargs,RVs p args vargs→RH p S w→
  CallVC P g vargs w λu w'=>∃ q,RV q v u∧RH q S' w'∧Ch (λb=>S.nx≤b∧b<S'.nx) p w q w':=by
 obtain ⟨G,S1,h1,h2⟩:=DN h;cases h2;obtain ⟨l1,E⟩:=h1.lg;exact ⟨E,l1,λp w vargs hv B=>cF A h1 hv B⟩
theorem Sr {P : Program} (hmx : P.follows .mixedOrders = true) (BS : ∀ (g : Nat) (fn : Func), P.funcs[g]? = some fn → (fn.name == "runtime.NumGoroutine") = false) {il : List FuncId} {ia : List (Nat × List It)} {tab : XQ} (ht : ∀ g sp, (g, sp) ∈ tab → AW P g sp) : ∀ k, Cw P (E9 std P il ia tab k) ∧ Pn (E9 std P il ia tab k)
 | 0=>by
  refine ⟨⟨λ{A g args S K r} h=>?_,λg args S v S' h=>?_,λ{g args S S' v} h=>?_⟩,λ{A g args S S' v K r} h hK=>?_⟩;unfold E9 at h ⊢;split at h;obtain ⟨v,S',h1,h2⟩:=DN h;exact ⟨v,S',Ig h1 rfl,h2⟩;cases h;have h:E9 std P il ia tab 0 (GV×St) g args S (λv S=>some (v,S))=some (v,S'):=h;unfold E9 at h;split at h;rename_i sp hs;obtain ⟨k1,k2,k3⟩:=Ii (ht g sp (Dt hs)) h;exact ⟨k1,k2.nx,k3⟩;cases h;unfold E9 at h;split at h;rename_i sp hs;exact (Ii (ht g sp (Dt hs)) h).2.1.lg;cases h;unfold E9 at h ⊢;split at h;obtain ⟨v1,S1,h1,h2⟩:=DN h;cases h2;exact Ig h1 hK;cases h
 | k+1=>by
  obtain ⟨ih,ihN⟩:=Sr hmx BS ht k;have hop:=ZO ih;refine ⟨⟨λ{A g args S K r} h=>?_,λg args S v S' h=>?_,λ{g args S S' v} h=>?_⟩,λ{A g args S S' v K r} h hK=>?_⟩;unfold E9 at h ⊢;split at h;obtain ⟨v,S',h1,h2⟩:=DN h;exact ⟨v,S',Ig h1 rfl,h2⟩;split at h;split at h;obtain ⟨e,f',S1,h1,h2,h3⟩:=Qt ih ihN hop h;obtain ⟨k1,k2,vs,k3,k4⟩:=Ey h1;exact ⟨EZ vs,_,h3 _ _ (W0 k1 k2 k3 rfl),k4⟩;cases h;cases h;have h:E9 std P il ia tab (k+1) (GV×St) g args S (λv S=>some (v,S))=some (v,S'):=h;unfold E9 at h;split at h;rename_i sp hs;obtain ⟨k1,k2,k3⟩:=Ii (ht g sp (Dt hs)) h;exact ⟨k1,k2.nx,k3⟩;split at h;rename_i fn hfn;split at h;rename_i c hc hle;rw [M05] at hle;have hle1:=M18 hle.1;have hle2:=M18 hle.2;obtain ⟨e0,f0,S0,h1,h2,h3⟩:=Qt ih ihN hop h;obtain ⟨k1,k2,vs,k3,k4⟩:=Ey h1;have hn:=h2.nx;cases k4;refine ⟨rfl,hn,λp w vargs hargs hh=>⟨?_,fn,hfn,BS g fn hfn,by rw [hc];rfl⟩⟩;refine calls_of_wp_defers hfn hc ?_;have hal:=hargs.length;have hra:=Q3 (n:=fn.ntmps) (vs:=vargs) (by omega);refine yU hmx ih ihN hop h hra (KV hargs hle2) (hh.congr (λ_ _=>rfl) (M1g _) λ_ _=>rfl) trivial λe f' S1 q' a' fr' w' he hk=>?_
  obtain ⟨m1,m2,us,m3,m4⟩:=Ey hk;have e1:=M1t Prod.fst (M1x m4);have e2:=M1t Prod.snd (M1x m4);simp only at e1 e2;obtain ⟨u,u1,u2⟩:=KX he.ra he.rf he.rh m3;have hRH:RH q' ⟨S0.h,S0.nx,S.df,S0.ow,S0.lg⟩ w':=by
   rw [←e2];exact he.rh.congr (λ_ _=>rfl) (M1g _) λ_ _=>rfl
  have hCh:Ch (λb=>S.nx≤b∧b<S0.nx) p w q' w':=he.ch.mono λb hb=>⟨hb.1,by
   have e3:=M1t St.nx e2;simp only at e3;omega⟩
  have hlv:=GM (fn:=fn) (tmps:=a'.tmps) (R:=λe w'=>∃ v,e=.returned v∧∃ q,RV q (EZ vs) v∧RH q ⟨S0.h,S0.nx,S.df,S0.ow,S0.lg⟩ w'∧Ch (λb=>S.nx≤b∧b<S0.nx) p w q w') BS ⟨u,u1,u,rfl,q',by rw [←e1];exact u2,hRH,hCh⟩ a'.defers S1.df he.df m2;cases e with
  | nrm=>exact hlv
  | exit id=>exact (m1 id rfl).elim
  | ret=>exact hlv
  cases h;cases h;unfold E9 at h;split at h;rename_i sp hs;exact (Ii (ht g sp (Dt hs)) h).2.1.lg;split at h;split at h;obtain ⟨e0,f0,S0,h1,h2,h3⟩:=Qt ih ihN hop h;obtain ⟨k1,k2,vs,k3,k4⟩:=Ey h1;cases k4;exact h2.lg;cases h;cases h;unfold E9 at h ⊢;split at h;obtain ⟨v1,S1,h1,h2⟩:=DN h;cases h2;exact Ig h1 hK;split at h;split at h;obtain ⟨e0,f0,S0,h1,h2,h3⟩:=Qt ih ihN hop h;obtain ⟨k1,k2,vs,k3,k4⟩:=Ey h1;cases k4;exact h3 _ _ (W0 k1 k2 k3 hK);cases h;cases h
def cI (P:Program):Prop:=∀ g args S S',Bx [219,223,339] g=true→(bX std g args S).run some=some S'→∀ p w vargs,RVs p args vargs→RH p S w→
 CallVC P g vargs w λu w'=>∃ q,RV q (.tup []) u∧RH q S' w'∧Ch (λb=>S.nx≤b∧b<S'.nx) p w q w'
theorem W1 {L:Lp}{g:FuncId}{args:List GV}(h:(bX L g args S).run some=some S'){nm:Nat}:Lg nm S S'∧S'.df=S.df∧S'.nx=S.nx:=by
 have key:∀ {b:Nat} {o:Option JC},S.seto b o=some S'→Lg nm S S'∧S'.df=S.df∧S'.nx=S.nx:=λhs=>by
  obtain ⟨_,A,B,_,_⟩:=Ak hs;exact ⟨.seto hs,B,A⟩
 unfold bX at h;split at h;split at h;split at h;obtain ⟨ys,_,h2⟩:=AI.1 h;exact key h2;exact (A4.1 h).elim;exact (A4.1 h).elim;split at h;split at h;obtain ⟨ys,_,h2⟩:=AI.1 h;exact key h2;exact (A4.1 h).elim;exact (A4.1 h).elim;split at h;split at h;obtain ⟨ys,_,h2⟩:=AI.1 h;exact key h2;exact (A4.1 h).elim;exact (A4.1 h).elim;exact (A4.1 h).elim
theorem MC (hmx : P.follows .mixedOrders = true) (BS : ∀ (g : Nat) (fn : Func), P.funcs[g]? = some fn → (fn.name == "runtime.NumGoroutine") = false) (YW : cI P) {il : List FuncId} {ia : List (Nat × List It)} {tab : XQ} (ht : ∀ g sp, (g, sp) ∈ tab → AW P g sp) (k : Nat) : Cw P (Ie std P il ia tab k) ∧ Pn (Ie std P il ia tab k) := by
 obtain ⟨ih,ihN⟩:=Sr hmx BS (il:=il) (ia:=ia) ht k;refine ⟨⟨λ{A g args S K r} h=>?_,λg args S v S' h=>?_,λ{g args S S' v} h=>?_⟩,λ{A g args S S' v K r} h hK=>?_⟩;unfold Ie at h ⊢;split at h;obtain ⟨S',h1,h2⟩:=M4u h;exact ⟨_,S',M4x h1 rfl,h2⟩;exact ih.1 h;have h:Ie std P il ia tab k (GV×St) g args S (λv S=>some (v,S))=some (v,S'):=h;unfold Ie at h;split at h;rename_i hg;obtain ⟨S1,h1,h2⟩:=M4u h;cases h2;obtain ⟨_,t2,t3⟩:=W1 (nm:=0) h1;exact ⟨t2,M1O t3.symm,λp w vargs hv hh=>YW g args S _ hg h1 p w vargs hv hh⟩;exact ih.2 g args S v S' h;unfold Ie at h;split at h;obtain ⟨S1,h1,h2⟩:=M4u h;cases h2;obtain ⟨l,e1,e2,e3⟩:=(W1 (nm:=S.nx) h1).1;exact ⟨l,e1,λb hb hn=>e2 b hb (by omega),λb hn=>e3 b (by omega)⟩;exact ih.3 h;unfold Ie at h ⊢;split at h;obtain ⟨S1,h1,h2⟩:=M4u h;cases h2;exact M4x h1 hK;exact ihN h hK
end
end Go.E
namespace Go.T
open Go Go.E Go.V Go.Proofs
def ln {α:Type} (xs:List α):Int:=xs.length
def room {α:Type} (xs ys:List α):Bool:=Nat.ble (xs.length+ys.length) 4294967296
def Dh (c:Int):Bool:=decide (0≤c)&&decide (c≤4294967296)
def iV (l:List UInt8):Bool:=Nat.ble l.length 4294967296
def A7 {α:Type} (xs:List α) (i:Int) (x:α):α:=(xs[i.toNat]?).getD x
def CF (k:IntKind) (a b:Int):Int:=k.wrap (BitVec.ofInt k.bits a&&&BitVec.ofInt k.bits b).toNat
def yV (k:IntKind) (a b:Int):Int:=k.wrap (BitVec.ofInt k.bits a ||| BitVec.ofInt k.bits b).toNat
def Gs (k:IntKind) (a b:Int):Int:=k.wrap (a*2 ^ min b.toNat k.bits)
def DV (k:IntKind) (a b:Int):Int:=a.fdiv (2 ^ min b.toNat k.bits)
def Di (b:UInt8):Int:=b.toNat
def Ss {K V:Type} [BEq K] (l:List (K×V)) (k:K) (z:V):V:=(D5 l k).getD z
def cJ {K V:Type} [BEq K] (l:List (K×V)) (k:K):Bool:=(D5 l k).isSome
def AF {σ ρ:Type} (f:σ→Option ρ):Al σ ρ→Option ρ
 | .next t=>f t
 | .done x=>some x
def part {α:Type} (xs:List α) (lo n:Nat):List α:=(xs.drop lo).take n
def CZ (h l:Int):Nat:=h.toNat-l.toNat
def G7 (a:Nat) (i:Int):Nat:=a+i.toNat
def Dj (n:Nat):Int:=n
end Go.T
namespace Go.E
open Go Go.V Go.Proofs
section
variable {p:Ren}{w':World}
theorem RH.advC{S:St}{w:World}(h:RH p S w)(A:Ev [] w w'):∃ q,q.m=p.m∧q.ov=p.ov∧RH q S w'∧q.zw=w'∧(∀ k∈q.zM,k<w.heap.size)∧∀ N,Ch N p w q w':=by
 obtain ⟨q,h1,h2,h3,B,E,G,H⟩:=h.adv A;have bk:∀ k,Bk q k→Bk p k:=λk hk=>by
  rcases hk with ⟨b,x,e,f⟩|⟨b,y,e,f⟩;exact .inl ⟨b,x,by rw [←h1];exact e,f⟩;exact .inr ⟨b,y,by rw [←h2];exact e,f⟩
 refine ⟨q,h1,h2,B,E,λk hk=>((G k).1 hk).1,λN=>⟨h3,λb hb=>.inl λhf=>hb ?_,A.os,A.tape,A.output,A.size,λk hk _=>A.block k hk (by simp),λk hk=>.inl (bk k hk),λk h1 h2 _=>H k h1 h2⟩⟩;exact ⟨by rw [h1];exact hf.1,by rw [h2];exact hf.2⟩
def OU:St:=⟨.lf,0,[],.lf,[]⟩
variable {P:Program}{g na:Nat}{ins:List It}{lend:Bool}
theorem fB{s:Ty}{F:Ay ins→Option (Ay [.slot BD (.d (.sl s))])}
  (h:∀ x y,F x=some y→∃ A,UL [] [] ins x=some (A,OU)∧∀ (q:Ren)(w:World)(vargs:List Value),vargs.length=na→RF' q A (BC vargs)→GlP q→q.zw=w→(∀ k∈q.zM,k<w.heap.size)→
   CallVC P g vargs w λv w'=>Ev [] w w'∧∀ M':List Nat,(∀ b∈M',b<w.heap.size)→(eT (.sl s)).R w' M' [v] (y:List s.den)):AW P g ⟨na,[],[],ins,[.slot BD (.d (.sl s))],lend,F⟩:=λx y hy=>by
 obtain ⟨A,U,I⟩:=h x y hy;refine ⟨A,OU,U,λp w vargs hl _ _ hf O=>?_⟩;obtain ⟨q,q1,q2,B,Y,Z,E⟩:=O.advC (Ev.refl _ w);refine (I q w vargs hl (hf.mono (E λ_=>False).le) B.gl Y Z).mono λv w' hv=>?_
 obtain ⟨J,hr⟩:=hv;obtain ⟨r,r1,r2,r3,G,r5,r6⟩:=B.advC J;have hR:=hr r.zM r5;obtain ⟨a,c,H,hs⟩:=id hR;cases H;refine ⟨r,OU,[_],[],rfl,rfl,r3,⟨.ro s y,r,[],rfl,?_,?_,rfl⟩,λb hb=>by simp at hb,λi j b hi=>by simp at hi,λm hm=>absurd hm (M2M m),(E _).trans (r6 _)⟩;show (eT (.sl s)).R r.zw r.zM [_] y
 rw [G];exact hR;show (eT (.sl s)).R r.zw r.zM [_] y
 rw [G];exact hR
def iB (o:JC):St:=⟨.lf,1,[],(Tr.lf:Tr JC).set AD 0 (some o),[]⟩
theorem GA {o:JC}(b:Nat):(iB o).ow.get b=if b=0 then some o else none:=by
 show ((Tr.lf:Tr JC).set AD 0 (some o)).get b=_
 rw [M4m _ _ _ _ _ (by unfold AD;omega)];rfl
variable {t:Ty}{T:TypeId}
theorem RH.own1{w:World}(h:RH p OU w)(B:Ev [] w w'){xs:List t.den}{a:Option Addr}{c:Nat}(hb:∀ g∈Av a,w.heap.size≤g)(hc:c≤maxLen)
  (hx:∀ q:Ren,q.zw=w'→(∀ k∈q.zM,k<w.heap.size∨k∈Av a)→OwnX (eZ q t) T w' [] a c xs) :
  ∃ r,RH r (iB ⟨t,T,xs,true⟩) w'∧r.ov 0=some (a,xs.length,c)∧r.zw=w'∧Ch (λb=>0≤b∧b<1) p w r w':=by
 obtain ⟨q,q1,q2,q3,q4,q5,J,q7⟩:=h.adv B;have A:∀ b,By p b:=λb=>h.fr b (M2j _)
 let r:Ren:=⟨p.m,λi=>if i=0 then some (a,xs.length,c) else p.ov i,w',q.zM++Av a⟩
 have ab:Stp p.zM p.zw (q.zM++Av a) w':=by
  have z:=q3.z;rw [q5] at z;exact ⟨z.ev,λb aa=>(M1b.1 aa).elim (z.new b) λe=>.inr (M1B h.ro.zev.size (hb b e))⟩
 have H:Le p r:=⟨λ_ _ h=>h,(λb x G=>by rw [(A b).2] at G;cases G),ab⟩
 have U:=hx r rfl λk hk=>(M1b.1 hk).elim (λe=>.inl ((J k).1 e).1) .inr
 have lf:∀ b,(iB ⟨t,T,xs,true⟩).h.get b=none:=λb=>rfl
 have I:r.ov 0=some (a,xs.length,c):=rfl;have only:∀ b o,(iB ⟨t,T,xs,true⟩).ow.get b=some o→b=0∧o=⟨t,T,xs,true⟩:=λb o E=>by
  rw [GA] at E;split at E;cases E;exact ⟨by assumption,rfl⟩;cases E
 refine ⟨r,⟨λb r base n g h1 h2=>(by rw [lf] at h2;cases h2),λb b' x x' h1 h2 h3=>absurd (lf b) h3,λb x h1=>M1D (h.lt b x h1) B.size,λb Y=>?_,?_,h.gl.mono H⟩,I,rfl,H,λb Z=>?_,B.os,B.tape,B.output,B.size,λk hk _=>B.block k hk (by simp),λk hk=>?_,λk hk hl _=>.inl (M1T _ ((J k).2 ⟨hk,hl⟩))⟩;refine ⟨(A b).1,?_⟩;show (if b=0 then _ else p.ov b)=none
 rw [M1e (by have:1≤b:=Y;omega)];exact (A b).2;refine ⟨Ev.refl _ _,λb x h1 h2=>absurd (lf b) h2,λb o a' n c' h1 h2 h3=>?_,λb o a' n c' h1 h2 h3=>?_,λb b' o o' y y' h1 h2 _ _ _ _ _ _ _=>?_,λb o y b' x _ _ _ _ O=>absurd (lf b') O⟩;obtain ⟨rfl,rfl⟩:=only b o h1;rw [I] at h3;cases h3;exact ⟨⟨λ_=>⟨rfl,U⟩,λh=>absurd h (by omega)⟩,λg hg=>.inl (M1z _ hg)⟩
 obtain ⟨_,rfl⟩:=only b o h1;cases h2;rw [(only b o h1).1,(only b' o' h2).1];by_cases e:b=0;exact .inr ⟨M2j _,by omega⟩;refine absurd ⟨(A b).1,?_⟩ Z;show (if b=0 then _ else p.ov b)=none
 rw [M1e e];exact (A b).2;rcases hk with ⟨b,x,e,_⟩|⟨b,y,e,f⟩;have e:p b=some x:=e;rw [(A b).1] at e;cases e
 have e:(if b=0 then some (a,xs.length,c) else p.ov b)=some y:=e;split at e;cases e;exact .inr (hb k f);rw [(A b).2] at e;cases e
theorem xv{F:Ay ins→Option (Ay [.slot BD (.own t T)])}
  (h:∀ x y,F x=some y→∃ A,UL [] [] ins x=some (A,OU)∧∀ (q:Ren)(w:World)(vargs:List Value),vargs.length=na→RF' q A (BC vargs)→q.zw=w→(∀ k∈q.zM,k<w.heap.size)→
   CallVC P g vargs w λv w'=>∃ a c,v=.slice a (List.length (y:List t.den)) c∧c≤maxLen∧(∀ b∈Av a,w.heap.size≤b)∧Ev [] w w'∧∀ q:Ren,q.zw=w'→(∀ k∈q.zM,k<w.heap.size∨k∈Av a)→OwnX (eZ q t) T w' [] a c (y:List t.den)):AW P g ⟨na,[],[],ins,[.slot BD (.own t T)],lend,F⟩:=λx y hy=>by
 obtain ⟨A,J,G⟩:=h x y hy;refine ⟨A,OU,J,λp w vargs hl _ _ hf I=>?_⟩;obtain ⟨q,q1,q2,U,Y,Z,E⟩:=I.advC (Ev.refl _ w);refine (G q w vargs hl (hf.mono (E λ_=>False).le) Y Z).mono λv w' hv=>?_
 obtain ⟨a,c,rfl,B,hb,H,O⟩:=hv;obtain ⟨r,r1,r2,r3,r4⟩:=U.own1 H hb B O;refine ⟨r,iB ⟨t,T,y,true⟩,[_],[some 0],rfl,rfl,r1,⟨.own 0,r,[.own 0],rfl,⟨a,_,c,rfl,r2,B⟩,.inr ⟨0,a,_,c,rfl,rfl,r2,by rw [GA];rfl,B⟩,rfl⟩,λb hb=>?_,λi j b hi hj=>?_,λm hm=>absurd hm (M2M m),(E _).trans r4⟩;simp only [M19,M1J] at hb;subst hb;exact ⟨_,by rw [GA];rfl,rfl⟩
 have one:∀ (k:Nat) (z:Option Nat),[some 0][k]? = some z→k=0:=λk z hk=>by
  cases k with
  | zero=>rfl
  | succ k=>simp at hk
 rw [one i _ hi,one j _ hj]
theorem oB{F:Ay ins→Option (List t.den×Int)}
  (h:∀ x (y:List t.den×Int),F x=some y→∃ A,UL [] [] ins x=some (A,OU)∧∀ (q:Ren)(w:World)(vargs:List Value),vargs.length=na→RF' q A (BC vargs)→GlP q→q.zw=w→(∀ k∈q.zM,k<w.heap.size)→
   CallVC P g vargs w λv w'=>∃ a c,v=.tuple #[.slice a (List.length (y.1:List t.den)) c,.int .i64 y.2]∧c≤maxLen∧(∀ b∈Av a,w.heap.size≤b)∧Ev [] w w'∧∀ q:Ren,q.zw=w'→(∀ k∈q.zM,k<w.heap.size∨k∈Av a)→OwnX (eZ q t) T w' [] a c y.1):AW P g ⟨na,[],[],ins,[.slot BD (.own t T),.slot (BD+1) (.d (.int .i64))],lend,F⟩:=λx y hy=>by
 obtain ⟨A,O,H⟩:=h x y hy;refine ⟨A,OU,O,λp w vargs hl _ _ hf J=>?_⟩;obtain ⟨q,q1,q2,E,Y,Z,G⟩:=J.advC (Ev.refl _ w);refine (H q w vargs hl (hf.mono (G λ_=>False).le) E.gl Y Z).mono λv w' hv=>?_
 obtain ⟨a,c,rfl,B,hb,I,U⟩:=hv;obtain ⟨r,r1,r2,r3,r4⟩:=E.own1 I hb B U;refine ⟨r,iB ⟨t,T,y.1,true⟩,[_,_],[some 0],rfl,rfl,r1,⟨[some 0],[],rfl,⟨.own 0,r,[.own 0],rfl,⟨a,_,c,rfl,r2,B⟩,.inr ⟨0,a,_,c,rfl,rfl,r2,by rw [GA];rfl,B⟩,rfl⟩,⟨.int .i64 y.2,r,[],rfl,rfl,rfl,rfl⟩⟩,λb hb=>?_,λi j b hi hj=>?_,λm hm=>absurd hm (M2M m),(G _).trans r4⟩;simp only [M19,M1J] at hb;subst hb;exact ⟨_,by rw [GA];rfl,rfl⟩
 have one:∀ (k:Nat) (z:Option Nat),[some 0][k]? = some z→k=0:=λk z hk=>by
  cases k with
  | zero=>rfl
  | succ k=>simp at hk
 rw [one i _ hi,one j _ hj]
theorem oC{F:Ay ins→Option (List t.den×Int×Int)}
  (h:∀ x (y:List t.den×Int×Int),F x=some y→∃ A,UL [] [] ins x=some (A,OU)∧∀ (q:Ren)(w:World)(vargs:List Value),vargs.length=na→RF' q A (BC vargs)→GlP q→q.zw=w→(∀ k∈q.zM,k<w.heap.size)→
   CallVC P g vargs w λv w'=>∃ a c,v=.tuple #[.slice a (List.length (y.1:List t.den)) c,.int .i64 y.2.1,.int .i64 y.2.2]∧c≤maxLen∧(∀ b∈Av a,w.heap.size≤b)∧Ev [] w w'∧∀ q:Ren,q.zw=w'→(∀ k∈q.zM,k<w.heap.size∨k∈Av a)→OwnX (eZ q t) T w' [] a c y.1):AW P g ⟨na,[],[],ins,[.slot BD (.own t T),.slot (BD+1) (.d (.int .i64)),.slot (BD+2) (.d (.int .i64))],lend,F⟩:=λx y hy=>by
 obtain ⟨A,O,H⟩:=h x y hy;refine ⟨A,OU,O,λp w vargs hl _ _ hf J=>?_⟩;obtain ⟨q,q1,q2,E,Y,Z,G⟩:=J.advC (Ev.refl _ w);refine (H q w vargs hl (hf.mono (G λ_=>False).le) E.gl Y Z).mono λv w' hv=>?_
 obtain ⟨a,c,rfl,B,hb,I,U⟩:=hv;obtain ⟨r,r1,r2,r3,r4⟩:=E.own1 I hb B U;refine ⟨r,iB ⟨t,T,y.1,true⟩,[_,_,_],[some 0],rfl,rfl,r1,⟨[some 0],[],rfl,⟨.own 0,r,[.own 0],rfl,⟨a,_,c,rfl,r2,B⟩,.inr ⟨0,a,_,c,rfl,rfl,r2,by rw [GA];rfl,B⟩,rfl⟩,⟨[],[],rfl,⟨.int .i64 y.2.1,r,[],rfl,rfl,rfl,rfl⟩,⟨.int .i64 y.2.2,r,[],rfl,rfl,rfl,rfl⟩⟩⟩,λb hb=>?_,λi j b hi hj=>?_,λm hm=>absurd hm (M2M m),(G _).trans r4⟩;simp only [M19,M1J] at hb;subst hb;exact ⟨_,by rw [GA];rfl,rfl⟩
 have one:∀ (k:Nat) (z:Option Nat),[some 0][k]? = some z→k=0:=λk z hk=>by
  cases k with
  | zero=>rfl
  | succ k=>simp at hk
 rw [one i _ hi,one j _ hj]
end
end Go.E
namespace Go.V
open Go Go.Sort Go.Proofs
section
variable {T:TypeId}{w:World}{M:List Nat}{a:Option Addr}{c:Nat}{xs:List Int}
theorem oH(h:OwnS (AZ .i64) T w M a c xs):c≤9223372036854775807:=by
 rcases h with ⟨_,h,_⟩|⟨g,_,h,_,h1,h2,_⟩;omega;unfold maxLen at h2;omega
theorem xA {P : Program} {ρ : Go.Shelf.Ren} (L : Lays2.n23 P ρ) {f : Nat} (hf : ρ.f 23 = f) (hcal : ∃ fn, P.funcs[f]? = some fn ∧ (fn.name == "runtime.NumGoroutine") = false ∧ fn.body.isNone = false)(h:OwnS (AZ .i64) T w M a c xs){i j:Int}(hg:xs≠[]∧0≤i∧i≤j∧j≤xs.length) :
  CallVC P f [.slice a xs.length c,.int .i64 i,.int .i64 j] w λv w'=>v=.slice a (xs.take i.toNat++xs.drop j.toNat).length c∧Ev (Av a) w w'∧∀ M',OwnS (AZ .i64) T w' M' a c (xs.take i.toNat++xs.drop j.toNat):=by
 refine ⟨?_,hcal⟩;subst hf;obtain ⟨hne,h0,hij,hj⟩:=hg;rcases Dp h with hx|⟨g,ha⟩
 exact absurd hx hne;have key:=Any.slices_Delete_int L g 0 c i.toNat j.toNat xs w (P9 h ha) h.le (oH h) (by omega) (by omega);rw [←ha,M1v h0,M1v (by omega:0≤j)] at key;refine key.mono λe w' ⟨he,n,hw⟩=>⟨_,he,?_,?_,λM'=>?_⟩
 congr 1;simp;omega;rw [hw];have:=(GN (n:=n) (os:=#[]) (d:=(xs.take i.toNat++xs.drop j.toNat++List.replicate (j.toNat-i.toNat) 0).toArray) id h ha (by have:=h.le;simp;omega)).1;rw [grow_empty] at this;exact this
 rw [hw];have:=(GN (n:=n) (os:=#[]) (d:=(xs.take i.toNat++xs.drop j.toNat++List.replicate (j.toNat-i.toNat) 0).toArray) id h ha (by have:=h.le;simp;omega)).2 M';rw [grow_empty] at this;have h2:=this.trunc (xs.take i.toNat++xs.drop j.toNat).length;rw [List.map_id,List.take_left] at h2;exact h2
variable {g:Nat}
theorem QQ{o:Nat}{v:Value}{A:Array Value}(h:w.heap[g]? = some (.cells A T (0,0))):(w.setCell ⟨g,o,none⟩ v).heap[g]? = some (.cells (A.setIfInBounds o v) T (0,0))∧Ev [g] w (w.setCell ⟨g,o,none⟩ v):=by
 refine ⟨?_,⟨rfl,rfl,rfl,by simp [World.setCell],λk hk hm=>?_⟩⟩;simp [World.setCell,M2l,h];have:g≠k:=λe=>hm (by simp [e])
 simp [World.setCell,M2l,this]
theorem B0 {g:Nat}{T:TypeId}:∀ (vs:List Value) (o:Nat) (w:World) (A:Array Value),w.heap[g]? = some (.cells A T (0,0))→o+vs.length≤A.size→
  ∃ B,(w.setCells g o vs).heap[g]? = some (.cells B T (0,0))∧B.size=A.size∧(∀ j,j<vs.length→B[o+j]? = vs[j]?)∧(∀ j,(j<o∨o+vs.length≤j)→B[j]? = A[j]?)∧Ev [g] w (w.setCells g o vs)
 | [],o,w,A,h,_=>⟨A,h,rfl,λj hj=>(by cases hj),λ_ _=>rfl,Ev.refl _ _⟩
 | v::vs,o,w,A,h,hl=>by
  obtain ⟨h1,h2⟩:=QQ (o:=o) (v:=v) h;obtain ⟨B,h3,G,H,E,I⟩:=B0 vs (o+1) _ _ h1 (by simp at hl ⊢;omega);refine ⟨B,h3,by rw [G];simp,λj hj=>?_,λj hj=>?_,h2.then I (λb hb=>.inl hb)⟩;cases j with
  | zero=>
   rw [M1M,E o (.inl (by omega)),M3P];simp at hl;simp;omega
  | succ j=>
   have:=H j (by simp at hj;omega);rw [show o+(j+1)=o+1+j by omega,this];simp
  simp at hj;rw [E j (by omega),M2z (by omega)]
theorem H4(h:OwnS (AZ .i64) T w M a c xs)(B:a=some ⟨g,0,none⟩) :
  ∃ A,w.heap[g]? = some (.cells A T (0,0))∧xs.length≤c∧c≤maxLen∧A.size=c∧∀ (i:Nat) (x:Int),xs[i]? = some x→A[i]? = some (.int .i64 x):=by
 rcases h with ⟨h,_,_⟩|⟨U,A,E,hg,h1,h2,h3,G⟩;rw [h] at B;cases B
 rw [B] at E;cases E;refine ⟨A,hg,h1,h2,by rw [h3];exact M29 c,λi x O=>?_⟩;obtain ⟨cs,H,J⟩:=G i x O;have I:cs=[.int .i64 x]:=H;have:=J 0 _ (by rw [I];rfl);have e:(AZ .i64).n=1:=rfl;rw [e,M29,M1M] at this;exact this
theorem IU(M:List Nat){A:Array Value}(h:w.heap[g]? = some (.cells A T (0,0)))(h1:xs.length≤c)(h2:c≤maxLen)(h3:A.size=c)(B:∀ (i:Nat) (x:Int),xs[i]? = some x→A[i]? = some (.int .i64 x)) :
  OwnS (AZ .i64) T w M (some ⟨g,0,none⟩) c xs:=
 .inr ⟨g,A,rfl,h,h1,h2,by rw [h3];exact (M29 c).symm,λi x E=>⟨[.int .i64 x],rfl,λk v hv=>by
  cases k with
  | succ k=>simp at hv
  | zero=>
   simp only [M2a,M1J] at hv;subst hv;have e:(AZ .i64).n=1:=rfl;rw [e,M29,M1M];exact B i x E⟩⟩
theorem SO(o:Obj):Ev M w (w.alloc o):=(Ev.alloc w o).nil
theorem HP(o:Obj):(w.alloc o).heap[w.heap.size]? = some o:=Aq w o
def M5m (T:TypeId) (w:World) (a:Option Addr) (xs:List Int) (x:Int) (v:Value) (w':World):Prop:=
 ∃ a' c',v=.slice a' (x::xs).length c'∧Ev (Av a) w w'∧(∀ b∈Av a',(b∈Av a∨w.heap.size≤b)∧b<w'.heap.size)∧(∀ b∈Av a',b∈Av a∨b=w.heap.size)∧∀ M',OwnS (AZ .i64) T w' M' a' c' (x::xs)
theorem xB {P : Program} {ρ : Go.Shelf.Ren} (L : Lays2.n21 P ρ) {f : Nat} (hf : ρ.f 21 = f) (hcal : ∃ fn, P.funcs[f]? = some fn ∧ (fn.name == "runtime.NumGoroutine") = false ∧ fn.body.isNone = false){T2:TypeId}(hT:ρ.t 3=T){M2:List Nat}{av:Option Addr}{cv:Nat}{x:Int}(h:OwnS (AZ .i64) T w M a c xs)(hv:OwnS (AZ .i64) T2 w M2 av cv [x])(hd:∀ b∈Av av,b∉Av a)(hl:xs.length≤4294967294) :
  CallVC P f [.slice a xs.length c,.int .i64 0,.slice av [x].length cv] w (M5m T w a xs x):=by
 refine ⟨?_,hcal⟩;subst hf;obtain ⟨gv,hav⟩:∃ g,av=some ⟨g,0,none⟩:=by
  rcases Dp hv with e|e;cases e;exact e
 obtain ⟨curv,v1,v2,v3,v4,v5⟩:=H4 hv hav;have hvs:∀ j v,[Value.int .i64 x][j]? = some v→w.cell? ⟨gv,0+j,none⟩=some v:=λj v hj=>by
  cases j with
  | succ j=>simp at hj
  | zero=>
   simp only [M2a,M1J] at hj;subst hj;rw [M25,Af v1];exact v5 0 x rfl
 have h1v:∀ v∈[Value.int .i64 x],v.oneCell'=true:=λv hv=>by simp only [M19] at hv;subst hv;rfl
 have hsize:(Value.int .i64 0).cells.size=1:=rfl;by_cases hx:xs=[]
 ·subst hx;by_cases hc:1≤c
  ·obtain ⟨g,ha⟩:∃ g,a=some ⟨g,0,none⟩:=by
    rcases h with ⟨_,e,_⟩|⟨g,_,e,_⟩;omega;exact ⟨g,e⟩
   obtain ⟨cur,h1,h2,h3,h4,h5⟩:=H4 h ha;have key:=Any2.slices_Insert_int_end_room L g 0 0 c gv 0 1 cv [.int .i64 x] w (by omega) (by omega) (by unfold maxLen at h3;omega) rfl
    (λj hj=>by rw [Af h1,M2b (by omega)];rfl) (λj hj=>by simp [World.frozen?,h1]) hvs h1v
   rw [←ha,←hav] at key;refine key.mono λe w' ⟨he,hw⟩=>⟨_,he,a,c,rfl,?_,?_,λb hb=>.inl hb,λM'=>?_⟩
   all_goals obtain ⟨cur',k1,k2,k3,k4,k5⟩:=B0 (g:=g) [.int .i64 x] (0+0) w cur h1 (by simp;omega)
   all_goals subst hw
   rw [ha];exact k5;intro b hb;exact ⟨.inl hb,by rw [ha] at hb;simp only [Av,M19] at hb;subst hb;exact Am k1⟩;rw [ha];refine IU M' k1 (by simpa using hc) h3 (by omega) λi y hy=>?_
   cases i with
   | succ i=>simp at hy
   | zero=>
    simp only [M2a,M1J] at hy;subst hy;have:=k3 0 (by simp)
    simpa using this
  ·have hc0:c=0:=by omega
   subst hc0;have key:=Any2.slices_Insert_int_end_grow L a 0 0 gv 0 1 cv [] [.int .i64 x] w (by omega) (by omega) (by omega) (by omega) rfl rfl (λ_=>rfl) (λ_ _ j v hj=>by simp at hj) hvs h1v;rw [←hav] at key;generalize hG:grownCap w (0+1) 0 (ρ.t 3)=G at key;have hG1:0+1≤G:=hG ▸ grownCap_ge w (0+1) 0 (ρ.t 3);have hG2:G≤maxLen:=hG ▸ grownCap_le_maxLen w (0+1) 0 (ρ.t 3) (by unfold maxLen;omega);refine key.mono λe w' ⟨he,hw⟩=>⟨_,he,some ⟨w.heap.size,0,none⟩,G,rfl,?_,?_,λb hb=>?_,λM'=>?_⟩
   all_goals subst hw
   exact (Ev.drew w).nil.trans (SO _);intro b hb;simp only [Av,M19] at hb;subst hb;exact ⟨.inr (M1g _),Am (HP (w:=w.drew) _)⟩
   simp only [Av,M19] at hb;exact .inr hb
   have k1:=HP (w:=w.drew) (.cells (([]++[Value.int .i64 x]).toArray++Builtin.zeroCells (Value.int .i64 0).cells (G-(0+1))) (ρ.t 3));rw [hT] at k1 ⊢;refine IU M' k1 (by simpa using hG1) hG2 (by rw [M35,size_zeroCells,hsize];simp;omega) λi y hy=>?_
   cases i with
   | succ i=>simp at hy
   | zero=>
    simp only [M2a,M1J] at hy;subst hy;rw [M3q (by simp)];rfl
 ·obtain ⟨g,ha⟩:∃ g,a=some ⟨g,0,none⟩:=(Dp h).resolve_left hx;obtain ⟨cur,h1,h2,h3,h4,h5⟩:=H4 h ha;have hn:0<xs.length:=M3x.2 hx;have hcs:∀ j v,(xs.map (Value.int .i64))[j]? = some v→w.cell? ⟨g,0+j,none⟩=some v:=λj v hj=>by
   rw [M1n,M01] at hj;obtain ⟨y,hy,rfl⟩:=hj;rw [M25,Af h1];exact h5 j y hy
  have h1c:∀ v∈xs.map (Value.int .i64),v.oneCell'=true:=λv hv=>by
   obtain ⟨y,_,rfl⟩:=M1L.1 hv;rfl
  by_cases hc:xs.length+1≤c
  ·have hne:gv≠g:=λe=>hd gv (by rw [hav];simp [Av]) (by rw [ha,e];simp [Av])
   have key:=Any2.slices_Insert_int_shift L g 0 xs.length c 0 gv 0 1 cv (xs.map (Value.int .i64)) [.int .i64 x] w hn (by omega) hc (by unfold maxLen at h3;omega) hne (by simp) rfl hcs
    (λj hj=>by rw [Af h1,M2b (by omega)];rfl) (λj hj=>by simp [World.frozen?,h1]) hvs h1c h1v T2 T curv.size cur.size (by simp [World.shape?,v1]) (by simp [World.shape?,h1]) (by omega) (by simp [World.frozen?,v1]) (by simp [World.frozen?,v1])
   rw [←ha,←hav] at key;refine key.mono λe w' ⟨he,hw⟩=>⟨_,he,a,c,rfl,?_,?_,λb hb=>.inl hb,λM'=>?_⟩
   all_goals obtain ⟨cur1,k1,k2,k3,k4,k5⟩:=B0 (g:=g) ((xs.map (Value.int .i64)).drop 0) (0+(0+1)) w.drew cur h1 (by simp;omega)
   all_goals obtain ⟨cur2,m1,m2,m3,m4,m5⟩:=B0 (g:=g) [.int .i64 x] (0+0) _ cur1 k1 (by simp;omega)
   all_goals subst hw
   rw [ha];exact ((Ev.drew w).nil.trans k5).trans m5;intro b hb;exact ⟨.inl hb,by rw [ha] at hb;simp only [Av,M19] at hb;subst hb;exact Am m1⟩;rw [ha];refine IU M' m1 (by simpa using hc) h3 (by omega) λi y hy=>?_
   cases i with
   | zero=>
    simp only [M2a,M1J] at hy;subst hy;have:=m3 0 (by simp)
    simpa using this
   | succ i=>
    simp only [M2r] at hy;have hil:=(M09.1 hy).1;rw [m4 (i+1) (by simp)];have:=k3 i (by simpa using hil);rw [show 0+(0+1)+i=i+1 by omega] at this;rw [this];simp [hy]
  ·have key:=Any2.slices_Insert_int_grow L g 0 xs.length c 0 gv 0 1 cv (xs.map (Value.int .i64)) [.int .i64 x] w hn (by omega) h2 (by omega) (by omega) (by simp) rfl hcs hvs h1c h1v;rw [←ha,←hav] at key;generalize hG:grownCap w (xs.length+1) c (ρ.t 3)=G at key;have hG1:xs.length+1≤G:=hG ▸ grownCap_ge w (xs.length+1) c (ρ.t 3);have hG2:G≤maxLen:=hG ▸ grownCap_le_maxLen w (xs.length+1) c (ρ.t 3) (by unfold maxLen;omega);refine key.mono λe w' ⟨he,hw⟩=>⟨_,he,some ⟨w.heap.size,0,none⟩,G,rfl,?_,?_,λb hb=>?_,λM'=>?_⟩
   all_goals obtain ⟨base,hbase⟩:∃ base,base=(((xs.map (Value.int .i64)).take 0).toArray++Builtin.zeroCells (Value.int .i64 0).cells (xs.length+1-0)++Builtin.zeroCells (Value.int .i64 0).cells (G-(xs.length+1))):=⟨_,rfl⟩
   all_goals have hbs:base.size=G:=by rw [hbase,M35,M35,size_zeroCells,size_zeroCells,hsize];simp;omega
   all_goals rw [←hbase] at hw
   all_goals have k0:(w.alloc (.cells base (ρ.t 3))).drew.heap[w.heap.size]? = some (.cells base (ρ.t 3) (0,0)):=HP _
   all_goals obtain ⟨cur1,k1,k2,k3,k4,k5⟩:=B0 (g:=w.heap.size) [.int .i64 x] 0 _ base k0 (by simp;omega)
   all_goals obtain ⟨cur2,m1,m2,m3,m4,m5⟩:=B0 (g:=w.heap.size) ((xs.map (Value.int .i64)).drop 0) (0+1) (((w.alloc (.cells base (ρ.t 3))).drew.setCells w.heap.size 0 [.int .i64 x]).drew) cur1 k1 (by simp;omega)
   all_goals subst hw
   have e1:Ev (Av a) w (w.alloc (.cells base (ρ.t 3))):=SO _;have e2:Ev (Av a) w (w.alloc (.cells base (ρ.t 3))).drew:=e1.trans (Ev.drew _).nil;have e3:=e2.then k5 (λb hb=>.inr (by simp only [M19] at hb;omega));have e4:=e3.trans (Ev.drew _).nil;exact e4.then m5 (λb hb=>.inr (by simp only [M19] at hb;omega));intro b hb;simp only [Av,M19] at hb;subst hb;exact ⟨.inr (M1g _),Am m1⟩
   simp only [Av,M19] at hb;exact .inr hb
   rw [hT] at m1 ⊢;refine IU M' m1 (by simpa using hG1) hG2 (by omega) λi y hy=>?_
   cases i with
   | zero=>
    simp only [M2a,M1J] at hy;subst hy;rw [m4 0 (by omega)];have:=k3 0 (by simp)
    simpa using this
   | succ i=>
    simp only [M2r] at hy;have hil:=(M09.1 hy).1;have:=m3 i (by simpa using hil);rw [show 0+1+i=i+1 by omega] at this;rw [this];simp [hy]
end
end Go.V
