/- Part B of the proof of TopConserved. No condition. -/
import Derived.Shelf.SlSortCmp.NoneTotal
import Derived.Sort.OwnSortedInts
import Derived.Shelf.Slices.Reverse
import Derived.Shelf.Slices.CompactI
import Derived.Shelf.Sort.Plain
import Derived.Lib.AppendStr
import Derived.Lib.AppendZerosOnto
import Derived.Test.YtmihkgopplkcjaaGreatDoorA
set_option linter.all false
set_option maxRecDepth 1000000
set_option maxHeartbeats 0
namespace Go.V
open Go Go.Sort Go.Proofs
section
variable {α:Type}
theorem Hi [Inhabited α] (enc:α→Value)(off:Nat)(d:Array α)(c:Array Value):(putCells enc off d c).size=c.size:=by simp [putCells]
variable {T:TypeId}{w:World}{M:List Nat}{a:Option Addr}{c g:Nat}{xs:List Int}
theorem GN [Inhabited α] (f:α→Int){n:Nat}{os:Array Obj}{d:Array α}
  (h:OwnS (AZ .i64) T w M a c xs)(A:a=some ⟨g,0,none⟩)(hd:d.size≤c) :
  Ev (Av a) w (grow (putRow (λx=>Value.int .i64 (f x)) (Sort.ahead w n) g 0 d) os)∧∀ M',OwnS (AZ .i64) T (grow (putRow (λx=>Value.int .i64 (f x)) (Sort.ahead w n) g 0 d) os) M' a c (d.toList.map f):=by
 rcases h with ⟨h,_,_⟩|⟨O,E,H,hg,h1,h2,h3,U⟩;rw [h] at A;cases A
 rw [A] at H;cases H;subst A;have J:=Am hg;refine ⟨⟨rfl,rfl,rfl,by simp [Sort.ahead],λk hk hm=>?_⟩,λM'=>.inr ⟨g,putCells (λx=>Value.int .i64 (f x)) 0 d E,rfl,?_,?_,h2,?_,λi x B=>⟨[.int .i64 x],rfl,λk v hv=>?_⟩⟩⟩
 rw [heap_grow_old _ _ (by simpa [Sort.ahead] using hk)];have:g≠k:=λe=>hm (by simp [Av,e])
 simp [putRow,mapBlock,Sort.ahead,M2l,this];rw [heap_grow_old _ _ (by simpa [Sort.ahead] using J)];simp [putRow,mapBlock,Sort.ahead,M2l,hg,onCells];simp only [M2E,M1u];exact hd;rw [Hi];exact h3;have G:(AZ .i64).n=1:=rfl;cases k with
 | succ k=>simp at hv
 | zero=>
  simp only [M2a,M1J] at hv;subst hv;rw [G,M29,M1M];have hi:i<d.size:=by
   have:=(M09.1 B).1
   simpa using this
  have I:i<E.size:=by rw [h3,G];omega
  rw [M1n,M1E,M2b hi] at B;simp only [M1W,M1J] at B;subst B;simp only [putCells,Array.getElem?_mapIdx,M2b I,M1W,M2j,M25,hi,M3G,M2K,M3f];rw [M2S d i hi]
theorem Jd(h:OwnS (AZ .i64) T w M a c xs)(A:a=some ⟨g,0,none⟩) :
  ∀ j,j<xs.length→w.cell? ⟨g,0+j,none⟩=some (.int .i64 xs[j]!)∧w.frozen? ⟨g,0+j,none⟩=false:=by
 rcases h with ⟨h,_,_⟩|⟨O,J,B,hg,h1,h2,h3,E⟩;rw [h] at A;cases A
 rw [A] at B;cases B;intro j hj;refine ⟨?_,by simp [World.frozen?,hg]⟩;obtain ⟨cs,G,I⟩:=E j xs[j] (M00 hj);have H:cs=[.int .i64 xs[j]]:=G;have:=I 0 _ (by rw [H];rfl);rw [M25,Af hg,M2S xs j hj]
 simpa [AZ] using this
theorem P9(h:OwnS (AZ .i64) T w M a c xs)(B:a=some ⟨g,0,none⟩):Holds (Value.int .i64) w g 0 xs.toArray:=by
 intro j hj;have A:j<xs.length:=by simpa using hj
 have:=Jd h B j A;refine ⟨?_,this.2⟩;rw [this.1,M2S xs j A,M2S xs.toArray j hj];simp
theorem Dp(h:OwnS (AZ .i64) T w M a c xs):xs=[]∨∃ g,a=some ⟨g,0,none⟩:=by
 rcases h with ⟨_,_,h⟩|⟨g,_,h,_⟩;exact .inl h;exact .inr ⟨g,h⟩
theorem Xj{M':List Nat}(h:OwnS (AZ .i64) T w M a c []):OwnS (AZ .i64) T w M' a c []:=by
 rcases h with h|⟨B,A,E,hg,h1,h2,h3,H⟩;exact .inl h;exact .inr ⟨B,A,E,hg,h1,h2,h3,λi x G=>by cases G⟩
def Um (x:Int):List Int→List Int
 | []=>[x]
 | y::l=>if x≤y then x::y::l else y::Um x l
def G1:List Int→List Int
 | []=>[]
 | x::l=>Um x (G1 l)
theorem Je (x:Int):∀ l,(Um x l).Perm (x::l)
 | []=>M41 _
 | y::l=>by
  unfold Um;split;exact M41 _;exact ((Je x l).cons y).trans (List.Perm.swap x y l)
theorem EJ:∀ l,(G1 l).Perm l
 | []=>M41 _
 | x::l=>(Je x (G1 l)).trans ((EJ l).cons x)
theorem JH (x:Int):∀ l:List Int,l.Pairwise (·≤·)→(Um x l).Pairwise (·≤·)
 | [],_=>by simp [Um]
 | y::l,h=>by
  unfold Um;have A:=M3m.1 h;split;rename_i B;refine M3m.2 ⟨λz hz=>?_,h⟩;rcases M1y.1 hz with rfl|hz
  exact B;exact M3I B (A.1 z hz);rename_i B;refine M3m.2 ⟨λz hz=>?_,JH x l A.2⟩;rcases M1y.1 ((Je x l).mem_iff.1 hz) with rfl|hz
  omega;exact A.1 z hz
theorem I6:∀ l:List Int,(G1 l).Pairwise (·≤·)
 | []=>List.Pairwise.nil
 | x::l=>JH x _ (I6 l)
theorem JI:∀ (l k:List Int),l.Perm k→l.Pairwise (·≤·)→k.Pairwise (·≤·)→l=k
 | [],k,hp,_,_=>(List.nil_perm.1 hp).symm
 | x::l,[],hp,_,_=>absurd hp.symm (by simp)
 | x::l,y::k,hp,h1,h2=>by
  have a1:=M3m.1 h1;have a2:=M3m.1 h2;have A:x=y:=by
   have B:x∈y::k:=hp.mem_iff.1 M2w;have E:y∈x::l:=hp.mem_iff.2 M2w;rcases M1y.1 B with h|h
   exact h;rcases M1y.1 E with h'|h';exact h'.symm;have:=a2.1 x h;have:=a1.1 y h';omega
  subst A;rw [JI l k (List.Perm.cons_inv hp) a1.2 a2.2]
theorem Zq (l:List Int):l.mergeSort (λx y=>decide (x≤y))=G1 l:=by
 refine JI _ _ ((List.mergeSort_perm l _).trans (EJ l).symm) ?_ (I6 l);have:=List.pairwise_mergeSort (le:=λx y:Int=>decide (x≤y)) (λa b c h1 h2=>by simp at *;omega) (λa b=>by simp;omega) l;exact this.imp (λh=>by simpa using h)
theorem iQ {P : Program} {ρ : Go.Shelf.Ren} (L : Lays.n189 P ρ) {f : Nat} (hf : ρ.f 189 = f) (hcal : ∃ fn, P.funcs[f]? = some fn ∧ (fn.name == "runtime.NumGoroutine") = false ∧ fn.body.isNone = false)(h:OwnS (AZ .i64) T w M a c xs)(hl:xs≠[]∧xs.length≤4294967296) :
  CallVC P f [.slice a xs.length c] w λv w'=>v=.tuple #[]∧Ev (Av a) w w'∧(G1 xs).length=xs.length∧∀ M',OwnS (AZ .i64) T w' M' a c (G1 xs):=by
 refine ⟨?_,hcal⟩;subst hf;rcases Dp h with hx|⟨g,ha⟩
 exact absurd hx hl.1;have key:=Any.slices_Sort_int L g 0 c xs w (P9 h ha) (h.lt g (by rw [ha];simp [Av])) (by omega);rw [←ha,Zq] at key;have hlen:(G1 xs).length=xs.length:=(EJ xs).length_eq;refine key.mono λe w' ⟨he,n,os,hw⟩=>⟨_,he,rfl,?_,hlen,λM'=>?_⟩
 rw [hw];exact (GN (n:=n) (os:=os) (d:=(G1 xs).toArray) id h ha (by simp [hlen];exact h.le)).1;rw [hw];have:=(GN (n:=n) (os:=os) (d:=(G1 xs).toArray) id h ha (by simp [hlen];exact h.le)).2 M'
 simpa using this
def yP (cmp:Int→Int→Option Int) (xs:List Int):Bool:=
 decide (xs.length≤4294967296)&&xs.all λx=>decide (¬ (cmp x x).getD 0<0)&&xs.all λy=>(cmp x y).isSome&&xs.all λz=>
  (decide (¬ ((cmp x y).getD 0<0∧(cmp y z).getD 0<0)∨(cmp x z).getD 0<0))&&(decide ((cmp x y).getD 0<0∨(cmp y z).getD 0<0∨¬ (cmp x z).getD 0<0))
def iR (cmp:Int→Int→Option Int) (xs:List Int) (x y:{x // x∈xs}):Int:=(cmp x.1 y.1).getD 0
def Pa (cmp:Int→Int→Option Int) (xs:List Int):Option (List Int):=
 if A:xs=[] then some [] else
  if yP cmp xs=true then
   haveI:Inhabited {x // x∈xs}:=⟨⟨xs.head A,List.head_mem A⟩⟩
   some ((pdq (ltOf (iR cmp xs)) xs.attach.toArray 0 xs.attach.toArray.size (Lib.bitLen xs.attach.toArray.size) true true).toList.map Subtype.val)
  else none
theorem VI {cmp:Int→Int→Option Int}(h:yP cmp xs=true):xs.length≤4294967296∧(∀ x∈xs,∀ y∈xs,∃ r,cmp x y=some r)∧SWO (ltOf (iR cmp xs)):=by
 simp only [yP,M05,M1R,M2R,Option.isSome_iff_exists] at h;obtain ⟨h1,h2⟩:=h;refine ⟨h1,λx E y hy=>((h2 x E).2 y hy).1,⟨λx=>?_,λx y z A B=>?_,λx y z A B=>?_⟩⟩
 exact M1K (h2 x.1 x.2).1;have A:=M1s A;have B:=M1s B;refine M1p ?_;rcases (((h2 x.1 x.2).2 y.1 y.2).2 z.1 z.2).1 with h|h
 exact absurd ⟨A,B⟩ h;exact h;have A:=M21 A;have B:=M21 B;refine M1K ?_;rcases (((h2 x.1 x.2).2 y.1 y.2).2 z.1 z.2).2 with h|h|h
 exact absurd h A;exact absurd h B;exact h
theorem Zr {w':World}{q:Nat}(h:w'=w.drewN q):w'=grow (w.drewN q) #[]:=by rw [h,grow_empty]
theorem iS {P : Program} {ρ : Go.Shelf.Ren} (L : SlLaysF.n6 P ρ) {f:Nat} (hf : ρ.f 6 = f) (hcal : ∃ fn, P.funcs[f]? = some fn ∧ (fn.name == "runtime.NumGoroutine") = false ∧ fn.body.isNone = false)
  (hcg : ∃ fn, P.funcs[g]? = some fn ∧ (fn.name == "runtime.NumGoroutine") = false ∧ fn.body.isNone = false) (cb : List Value) {ys:List Int} (cmp : Int → Int → Option Int)
  (h:OwnS (AZ .i64) T w M a c xs)
  (hcmp:∀ (w':World)(x y r:Int),Ev (Av a) w w'→cmp x y=some r→CallVC P g ([.int .i64 x,.int .i64 y]++cb) w' λv u=>v=.int .i64 r∧∃ q,u=w'.drewN q)
  (hs:Pa cmp xs=some ys) :
  CallVC P f [.slice a xs.length c,.func (.func g) #[] cb.toArray] w λv w'=>v=.tuple #[]∧Ev (Av a) w w'∧ys.length=xs.length∧∀ M',OwnS (AZ .i64) T w' M' a c ys:=by
 refine ⟨?_,hcal⟩;subst hf;unfold Pa at hs;split at hs;rename_i hx;cases hs;subst hx;refine (AnyF.slices_SortFunc_none (P:=P) (ρ:=ρ) { L with } a c (.func (.func g) #[] cb.toArray) w).mono λe w' ⟨he,hw⟩=>⟨_,he,rfl,?_,rfl,?_⟩
 rw [hw];exact Ev.refl _ _;intro M';rw [hw];rcases h with h|⟨g',cur,hg',hg,h1,h2,h3,h4⟩
 exact .inl h;exact .inr ⟨g',cur,hg',hg,h1,h2,h3,λi x hx=>by cases hx⟩;rename_i hx;split at hs;rename_i hok;simp only [M1J] at hs;obtain ⟨hlen,hall,hO⟩:=VI hok
 letI:Inhabited {x // x∈xs}:=⟨⟨xs.head hx,List.head_mem hx⟩⟩
 obtain ⟨g0,ha⟩:∃ g0,a=some ⟨g0,0,none⟩:=by
  rcases h with ⟨_,_,h⟩|⟨g',cur,hg',_⟩;exact absurd h hx;exact ⟨g',hg'⟩
 have hblk:g0<w.heap.size:=by
  have:=h.lt g0 (by rw [ha];simp [Av]);exact this
 have hsz:xs.attach.toArray.size=xs.length:=by simp
 have hle:xs.length≤c:=h.le;have hev:∀ m os (dk:Array {x // x∈xs}),dk.size=xs.attach.toArray.size→Ev (Av a) w (sortWorld (λx:{x // x∈xs}=>Value.int .i64 x.1) w g0 0 m dk os):=λm os dk hdk=>
  (GN Subtype.val h ha (by rw [hdk,hsz];exact hle)).1
 have key:=Any.slices_SortFunc_eq L (λx:{x // x∈xs}=>Value.int .i64 x.1) (λx=>rfl) (iR cmp xs) hO g cb.toArray g0 0 c xs.attach.toArray w
  (λargs w=>by obtain ⟨fn,h1,h2,h3⟩:=hcg;exact Df args w h1 h2 h3)
  (λm os dk hdk x y=>by
   obtain ⟨r,hr⟩:=hall x.1 x.2 y.1 y.2;have hc:=(hcmp _ x.1 y.1 r (hev m os dk hdk) hr).run;have e1:([Value.int .i64 x.1,.int .i64 y.1]++cb).toArray = #[Value.int .i64 x.1,Value.int .i64 y.1]++cb.toArray:=by simp
   rw [e1] at hc;refine hc.mono λe u ⟨v,he,hv,q,hu⟩=>?_
   subst he;subst hv;exact ⟨by simp [iR,hr],q,#[],Zr hu⟩)
  (λj hj=>by
   have:=Jd h ha j (by rw [hsz] at hj;exact hj);refine ⟨?_,this.2⟩;rw [this.1,M2S xs j (by rw [hsz] at hj;exact hj),M2S _ j hj];simp) hblk (by rw [hsz];omega)
 rw [hsz] at key;rw [ha];refine key.mono λe w' ⟨he,n,os,hw⟩=>?_
 have hperm:=pdq_sorts (ltOf (iR cmp xs)) hO xs.attach.toArray 0 xs.length (Lib.bitLen xs.length) true true (M2j _) (by rw [hsz];exact M1g _) (Or.inl rfl);have hps:=hperm.1.1;rw [hsz] at hs hps;have ho:=GN (n:=n) (os:=os) (d:=pdq (ltOf (iR cmp xs)) xs.attach.toArray 0 xs.length (Lib.bitLen xs.length) true true) Subtype.val h ha (by rw [hps];exact hle);refine ⟨_,he,rfl,?_,?_,?_⟩
 rw [hw,←ha];exact ho.1;rw [←hs];simp only [M2E,M1u];exact hps;intro M';rw [hw,←ha,←hs];exact ho.2 M';cases hs
theorem Un {cmp:Int→Int→Option Int}(key:Int→Int)(hl:xs.length≤4294967296)(A:∀ x∈xs,∀ y∈xs,cmp x y=some (key x-key y)) :
  ∃ ys,Pa cmp xs=some ys∧ys.Perm xs∧ys.Pairwise (λa b=>key a≤key b):=by
 by_cases E:xs=[]
 subst E;exact ⟨[],by simp [Pa],M41 _,List.Pairwise.nil⟩
 letI:Inhabited {x // x∈xs}:=⟨⟨xs.head E,List.head_mem E⟩⟩
 have I:yP cmp xs=true:=by
  simp only [yP,M05,M1R,M2R,Option.isSome_iff_exists];refine ⟨hl,λx h1=>⟨by rw [A x h1 x h1];simp,λy h2=>⟨⟨_,A x h1 y h2⟩,λz h3=>?_⟩⟩⟩;rw [A x h1 y h2,A y h2 z h3,A x h1 z h3];simp only [M1G];omega
 obtain ⟨_,ac,U⟩:=VI I;have ad:xs.attach.toArray.size=xs.length:=by simp
 have B:=pdq_sorts (ltOf (iR cmp xs)) U xs.attach.toArray 0 xs.attach.toArray.size (Lib.bitLen xs.attach.toArray.size) true true (M2j _) (M1g _) (Or.inl rfl);refine ⟨_,by unfold Pa;rw [dif_neg E,M1d I],?_,?_⟩;have G:∀ (d:Array {x // x∈xs}) (n:Nat),d.size=n→d.extract 0 n=d:=λd n h=>by subst h;simp
 have J:=G _ _ B.1.1;have O:=G xs.attach.toArray _ rfl;have:=B.1.2.2;rw [J,O] at this;have:=this.map Subtype.val
 simpa using this
 have ab:=B.2;have aa:=B.1.1;generalize pdq (ltOf (iR cmp xs)) xs.attach.toArray 0 xs.attach.toArray.size (Lib.bitLen xs.attach.toArray.size) true true=d at *;rw [List.pairwise_map,M2d];intro i j hi hj Z;have H:j<d.size:=by simpa using hj
 have Y:i<d.size:=by simpa using hi
 have:=ab i j (M2j _) Z (by rw [←aa];exact H);rw [M2S d j H,M2S d i Y] at this;have:=M21 this;simp only [iR] at this;rw [A _ d[j].2 _ d[i].2] at this;simp only [M1G] at this;simp only [Array.getElem_toList];omega
end
def Xo (j:List (Int×Int×Int×Int)×Int) (x y:Int):Option Int:=(idx j.1 x).bind λa=>(idx j.1 y).bind λb=>some (A1 (a.2.1-b.2.1))
def U3 (x y:Int×Int×Int×Int):Int:=Lib.compareInt x.1 y.1
def Zs (xs:List Int):Option (List Int):=if xs.length≤4294967296 then some (G1 xs) else none
def Zt (xs:List (Int×Int×Int×Int)):Option (List (Int×Int×Int×Int)):=if xs.length≤4294967296 then some (pdq (ltOf U3) xs.toArray 0 xs.toArray.size (Lib.bitLen xs.toArray.size) true true).toList else none
def yQ (j:List (Int×Int×Int×Int)×Int) (xs:List Int):Option (List Int):=Pa (Xo j) xs
end Go.V
namespace Go.E
open Go Go.V
def inj:(t:Ty)→t.den→List GV
 | .int k,n=>[.int k n]
 | .bool,b=>[.bool b]
 | .str,s=>[.str s]
 | .sl t,xs=>[.ro t xs]
 | .unit,_=>[]
 | .pair a b,x=>inj a x.1++inj b x.2
def Hy:(t u:Ty)→Option (PLift (t=u))
 | .int k,.int k'=>if h:k=k' then some ⟨by rw [h]⟩ else none
 | .bool,.bool=>some ⟨rfl⟩
 | .str,.str=>some ⟨rfl⟩
 | .sl t,.sl u=>match Hy t u with
  | some ⟨h⟩=>some ⟨by rw [h]⟩
  | none=>none
 | .unit,.unit=>some ⟨rfl⟩
 | .pair a b,.pair c d=>match Hy a c,Hy b d with
  | some ⟨h⟩,some ⟨k⟩=>some ⟨by rw [h,k]⟩
  | _,_=>none
 | _,_=>none
def hdI (k:IntKind):List GV→Option (Int×List GV)
 | .int k' n::l=>if k=k' then some (n,l) else none
 | _=>none
def hdB:List GV→Option (Bool×List GV)
 | .bool b::l=>some (b,l)
 | _=>none
def hdS:List GV→Option (List UInt8×List GV)
 | .str s::l=>some (s,l)
 | _=>none
def hdL (t:Ty):List GV→Option (List t.den×List GV)
 | .ro u xs::l=>match Hy u t with
  | some ⟨h⟩=>some (h ▸ xs,l)
  | none=>none
 | .nils::l=>some ([],l)
 | _=>none
def Em:(t:Ty)→List GV→Option (t.den×List GV)
 | .int k,l=>hdI k l
 | .bool,l=>hdB l
 | .str,l=>hdS l
 | .sl t,l=>hdL t l
 | .unit,l=>some ((),l)
 | .pair a b,l=>match Em a l with
  | some (x,l)=>match Em b l with
   | some (y,l)=>some ((x,y),l)
   | none=>none
  | none=>none
def JJ (t:Ty):Nat→List GV→Option (List t.den)
 | 0,[]=>some []
 | 0,_=>none
 | n+1,l=>match Em t l with
  | some (x,l)=>match JJ t n l with
   | some r=>some (x::r)
   | none=>none
  | none=>none
def yR (r:TypeId→Option Ty):List Field→Option Ty
 | []=>some .unit
 | [f]=>r f.type
 | f::l=>match r f.type,yR r l with
  | some a,some b=>some (.pair a b)
  | _,_=>none
def qd (t:Ty):Nat→Ty
 | 0=>.unit
 | 1=>t
 | n+1=>.pair t (qd t n)
def JR (P:Program):Nat→TypeId→Option Ty
 | 0,_=>none
 | d+1,t=>match P.underlying t with
  | some (.int k)=>some (.int k)
  | some .bool=>some .bool
  | some .string=>some .str
  | some (.slice e)=>(JR P d e).map .sl
  | some (.struct ⟨[f]⟩)=>(JR P d f.type).map λt=>.pair t .unit
  | some (.struct fs)=>yR (JR P d) fs.toList
  | some (.array 1 e)=>(JR P d e).map λt=>.pair t .unit
  | some (.array n e)=>(JR P d e).map λt=>qd t n
  | _=>none
mutual
def Hj:GV→Bool
 | .own _=>false
 | .vw ..=>false
 | .agg l=>Ed l
 | .tup l=>Ed l
 | _=>true
def Ed:List GV→Bool
 | []=>true
 | g::l=>Hj g&&Ed l
end
def unj (t:Ty) (x:t.den):GV:=match t,inj t x with
 | .pair ..,l=>.agg l
 | .unit,l=>.agg l
 | _,[g]=>g
 | _,l=>.agg l
def iT:Ty→Bool
 | .pair ..=>true
 | .unit=>true
 | _=>false
def ofB (s:List UInt8):List Int:=s.map λb=>(b.toNat:Int)
def E5 (xs:List Int):List UInt8:=xs.map λn=>UInt8.ofNat n.toNat
def St.seto (S:St) (b:Nat) (o:Option JC):Option St:=match Nat.blt b KF with
 | true=>some ⟨S.h,S.nx,S.df,S.ow.set AD b o,b::S.lg⟩
 | false=>none
def IZ (S:St):List GV→Option (List GV×St)
 | []=>some ([],S)
 | .own b::l=>match S.ow.get b with
  | some o=>match (match o.mu with | true=>S.seto b (some ⟨o.t,o.T,o.xs,false⟩) | false=>some S) with
   | some S=>match IZ S l with
    | some (r,S)=>some (.ro o.t o.xs::r,S)
    | none=>none
   | none=>none
  | none=>none
 | .vw b sz lo n cp::l=>match S.ow.get b with
  | some o=>match Nat.beq sz o.t.sz,(match o.mu with | true=>S.seto b (some ⟨o.t,o.T,o.xs,false⟩) | false=>some S) with
   | true,some S=>match IZ S l with
    | some (r,S)=>some (.ro o.t ((o.xs.drop lo).take n)::r,S)
    | none=>none
   | _,_=>none
  | none=>none
 | g::l=>match IZ S l with
  | some (r,S)=>some (g::r,S)
  | none=>none
def sub {α:Type} (xs:List α) (l h:Int):Option (List α):=if 0≤l∧l≤h∧h≤xs.length then some ((xs.drop l.toNat).take (h.toNat-l.toNat)) else none
def DT (x:Option GV) (d:Int):Option Int:=match x with
 | none=>some d
 | some (.int .i64 n)=>some n
 | _=>none
def Hz (S:St) (t:Ty):GV→Option (List t.den)
 | .ro u xs=>match Hy u t with
  | some ⟨h⟩=>some (h ▸ xs)
  | none=>none
 | .own b=>match S.ow.get b with
  | some o=>match Hy o.t t with
   | some ⟨h⟩=>some (h ▸ o.xs)
   | none=>none
  | none=>none
 | .vw b sz lo n _=>match S.ow.get b with
  | some o=>match o.mu&&Nat.beq sz o.t.sz,Hy o.t t with
   | true,some ⟨h⟩=>some (((h ▸ o.xs:List t.den).drop lo).take n)
   | _,_=>none
  | none=>none
 | .nils=>some []
 | _=>none
abbrev CK:=(A:Type)→FuncId→List GV→St→(GV→St→Option A)→Option A
def mrg (c:Bool):GV→GV→Option GV
 | .int k a,.int k' b=>if k=k' then some (.int k (bif c then a else b)) else none
 | .bool a,.bool b=>some (.bool (bif c then a else b))
 | .str a,.str b=>some (.str (bif c then a else b))
 | .ro t xs,.ro u ys=>match Hy u t with
  | some ⟨h⟩=>some (.ro t (bif c then xs else h ▸ ys))
  | none=>none
 | _,_=>none
def Zu (P:Program) (rec_:TypeId→GV→GV→Option Bool) (xs ys:List GV):List Field→Option Bool
 | []=>some true
 | [f] => if f.name = "_" then none else match part P f.type xs f.offset, part P f.type ys f.offset with
  | some x,some y=>rec_ f.type x y
  | _,_=>none
 | f :: l => if f.name = "_" then none else match part P f.type xs f.offset, part P f.type ys f.offset with
  | some x,some y=>match rec_ f.type x y,Zu P rec_ xs ys l with
   | some a,some b=>some (a&&b)
   | _,_=>none
  | _,_=>none
def yEq (P:Program):Nat→TypeId→GV→GV→Option Bool
 | 0,_,_,_=>none
 | d+1,t,x,y=>match P.underlying t,x,y with
  | some (.struct fs),.agg xs,.agg ys=>if P.stoodInHeld t=true∨P.eqGuardType P.depth t=true then none else Zu P (yEq P d) xs ys fs.toList
  | _,_,_=>iy P (d+1) t x y
inductive Dec (β:Type) where
 | no
 | ret (b:β)
 | chk (c:Bool) (b:β)
 | two (c:Bool) (a b:β)
 | opt {α:Type} (o:Option α) (k:α→Option β)
def Dec.run {β A:Type} (d:Dec β) (K:β→Option A):Option A:=match d with
 | .no=>none
 | .ret b=>K b
 | .chk c b=>bif c then K b else none
 | .two c a b=>bif c then K a else K b
 | .opt o k=>o.bind λx=>match k x with
  | some b=>K b
  | none=>none
def Dec.of {β:Type}:Option β→Dec β
 | some b=>.ret b
 | none=>.no
def bin (P:Program) (op:BinOp) (t:TypeId) (x y:GV):Dec GV:=match x,y with
 | .int k a,.int k' b=>match op with
  | .quo=>if k=k' then .chk (!(b==0)) (.int k (k.wrap (a.tdiv b))) else .no
  | .rem=>if k=k' then .chk (!(b==0)) (.int k (a.tmod b)) else .no
  | .shl=>.chk (!(decide (b<0))) (.int k (k.wrap (a*2 ^ (min b.toNat k.bits))))
  | .shr=>.chk (!(decide (b<0))) (.int k (a.fdiv (2 ^ (min b.toNat k.bits))))
  | _=>match DY op (.int k a) (.int k' b) with
   | some v=>.of (JD v)
   | none=>.no
 | .str a,.str b=>match op with
  | .add=>.chk (Nat.ble (a.length+b.length) 4294967296) (.str (a++b))
  | _=>.of (KG op a b)
 | .agg xs,.agg ys=>match op,yEq P 20 t (.agg xs) (.agg ys) with
  | .eql,some b=>.ret (.bool b)
  | .neq,some b=>.ret (.bool (!b))
  | _,_=>.no
 | _,_=>.of (HT P op t x y)
def JS (P:Program) (e:TypeId) (u:Ty):Bool:=match BG P e with
 | some z=>Nat.beq z u.sz
 | none=>false
def CI (P:Program) (name:Nat) (t:TypeId) (S:St) (x:GV) (lo hi mx:Option GV):Dec (GV×St):=match P.underlying t,x,mx with
 | some .string,.str s,none=>match DT lo 0,DT hi s.length with
  | some l,some h=>.opt (sub s l h) λr=>some (.str r,S)
  | _,_=>.no
 | some (.slice e),.ro u xs,none=>match JS P e u,DT lo 0,DT hi xs.length with
  | true,some l,some h=>.opt (sub xs l h) λr=>some (.ro u r,S)
  | _,_,_=>.no
 | some (.slice e),.own b,some mx=>match S.ow.get b with
  | some o=>match o.mu&&JS P e o.t,DT lo 0,hi,DT hi 0,DT (some mx) 0 with
   | true,some l,some _,some h,some m=>.chk (decide (0≤l)&&(decide (l≤h)&&(decide (h≤m)&&decide (m≤o.xs.length)))) (.vw b o.t.sz l.toNat (h.toNat-l.toNat) (some (m.toNat-l.toNat)),S)
   | _,_,_,_,_=>.no
  | none=>.no
 | some (.slice e),.own b,none=>match S.ow.get b with
  | some o=>match o.mu,lo with
   | true,some _=>match JS P e o.t,DT lo 0,DT hi o.xs.length with
    | true,some l,some h=>.chk (decide (0≤l)&&(decide (l≤h)&&decide (h≤o.xs.length))) (.vw b o.t.sz l.toNat (h.toNat-l.toNat) none,S)
    | _,_,_=>.no
   | true,none=>match JS P e o.t,DT hi o.xs.length with
    | true,some h=>.opt (sub o.xs 0 h) λr=>match S.seto b none with
     | some S=>(S.seto name (some ⟨o.t,o.T,r,true⟩)).map λS=>(.own name,S)
     | none=>none
    | _,_=>.no
   | _,_=>match IZ S [.own b] with
    | some ([.ro u xs],S)=>match JS P e u,DT lo 0,DT hi xs.length with
     | true,some l,some h=>.opt (sub xs l h) λr=>some (.ro u r,S)
     | _,_,_=>.no
    | _=>.no
  | none=>.no
 | _,_,_=>.of ((ED P t S x lo hi mx).map λv=>(v,S))
def Cf (P:Program) (t:TypeId) (S:St) (x i:GV):Dec GV:=match P.underlying t,x,i with
 | some (.slice e),.ro u xs,.int .i64 n=>match BG P e with
  | some z=>match Nat.beq z u.sz with
   | true=>.opt (idx xs n) λx=>some (.rop (inj u x) 0)
   | false=>.no
  | none=>.no
 | some (.slice e),.own b,.int .i64 n=>match BG P e,S.ow.get b with
  | some z,some o=>match Nat.beq z o.t.sz with
   | true=>.opt (idx o.xs n) λx=>match o.mu with
    | true=>some (.elp b o.t n.toNat 0 x)
    | false=>some (.rop (inj o.t x) 0)
   | false=>.no
  | _,_=>.no
 | some (.slice e),.vw b sz lo n _,.int .i64 i=>match BG P e,S.ow.get b with
  | some z,some o=>match Nat.beq z o.t.sz&&(Nat.beq sz o.t.sz&&o.mu) with
   | true=>.opt (idx ((o.xs.drop lo).take n) i) λx=>some (.elp b o.t (lo+i.toNat) 0 x)
   | false=>.no
  | _,_=>.no
 | some (.array n e),.rop l 0,.int .i64 k=>match JR P 9 e with
  | some u=>match JS P e u&&Nat.blt 1 n,JJ u n l with
   | true,some xs=>.opt (idx xs k) λx=>some (.rop (inj u x) 0)
   | _,_=>.no
  | none=>.no
 | _,_,_=>.of (EE P t x i)
def En (b k:Nat):Nat:=b+(k+1)*4194304
def codes (b off:Nat):Nat→List Nat
 | 0=>[]
 | n+1=>En b off::codes b (off+1) n
def Pb (P:Program) (t:TypeId) (S:St):GV→Option GV
 | .ptr b off=>KE P t S b off
 | .rop l off=>part P t l off
 | .elp b u i off x=>match S.ow.get b with
  | some o=>match Hy o.t u with
   | some ⟨h⟩=>part P t (inj u (((h ▸ o.xs:List u.den)[i]?).getD x)) off
   | none=>none
  | none=>none
 | _=>none
def HA (P:Program) (t:TypeId) (S:St) (a v:GV):Option St:=match BG P t,a with
 | some n,.ptr b off=>match Nat.beq v.ats.length n with
  | true=>(Gb S b off v.ats).map λS=>⟨S.h,S.nx,S.df,S.ow,b::(codes b off n++S.lg)⟩
  | false=>none
 | some n,.elp b u i off x=>match Nat.beq v.ats.length n,IZ S v.ats with
  | true,some (vs,S)=>match S.ow.get b with
   | some o=>match o.mu,Hy o.t u with
    | true,some ⟨h⟩=>match over (inj u (((h ▸ o.xs:List u.den)[i]?).getD x)) off vs with
     | some l=>match Em u l with
      | some (y,[])=>S.seto b (some ⟨u,o.T,(h ▸ o.xs:List u.den).set i y,true⟩)
      | _=>none
     | none=>none
    | _,_=>none
   | none=>none
  | _,_=>none
 | _,_=>none
def Zv (P:Program) (t:TypeId):Option (TypeId×Nat×List GV):=match P.underlying t with
 | some (.slice e)=>match P.info? e with
  | some i=>match i.zero with
   | some z=>match Nat.ble i.bytes 4096&&Nat.beq z.cells.size i.size&&Nat.blt 0 i.size&&Nat.blt e 1000000,He z.cells.toList with
    | true,some l=>some (e,i.size,l)
    | _,_=>none
   | none=>none
  | none=>none
 | _=>none
def VJ (P:Program) (S:St) (e:TypeId):GV→Option JC
 | .nils=>(JR P 9 e).map λu=>⟨u,e,[],true⟩
 | .own b=>S.ow.get b
 | _=>none
def Pc (S:St):GV→Option St
 | .own b=>S.seto b none
 | _=>some S
def EK (P:Program) (name:Nat) (t A:TypeId) (S:St) (s x:GV):Dec (GV×St):=match Zv P t with
 | some (e,es,_)=>match VJ P S e s with
  | some o=>match o.mu&&Nat.beq es o.t.sz&&Nat.beq t A&&Nat.beq e o.T,Hz S o.t x with
   | true,some ys=>match Pc S s with
    | some S=>match S.seto name (some ⟨o.t,e,o.xs++ys,true⟩) with
     | some S=>.chk (Nat.ble (o.xs.length+ys.length) 4294967296) (.own name,S)
     | none=>.no
    | none=>.no
   | _,_=>.no
  | none=>.no
 | none=>.no
def qW (P:Program) (t:TypeId):Option TypeId:=match P.underlying t with
 | some (.slice e)=>match P.info? e with
  | some i=>match Nat.beq i.bytes 1&&Nat.beq i.size 1&&Nat.blt e 1000000,i.zero with
   | true,some (.int .u8 z)=>match decide (z=0) with
    | true=>some e
    | false=>none
   | _,_=>none
  | none=>none
 | _=>none
def EL (P:Program) (t A:TypeId) (S:St) (s x:GV) (n q:Nat):Dec (GV×St):=match Zv P t,IZ S [s,x] with
 | some (e,es,_),some ([.ro u xs,.ro u' ys],S)=>match Hy u' u,Nat.beq es u.sz&&Nat.beq t A with
  | some ⟨h⟩,true=>.chk (Nat.beq n q&&Nat.ble (xs.length+ys.length) 4294967296) (.ro u (xs++(h ▸ ys:List u.den)),S)
  | _,_=>.no
 | _,_=>.no
def EM (P:Program) (name:Nat) (t A:TypeId) (S:St) (s:GV) (l:List UInt8):Dec (GV×St):=match qW P t,P.underlying A with
 | some e,some .string=>match VJ P S e s with
  | some ⟨.int .u8,T,xs,true⟩=>match Nat.beq e T,Pc S s with
   | true,some S=>match S.seto name (some ⟨.int .u8,e,xs++ofB l,true⟩) with
    | some S=>.chk (Nat.ble (xs.length+(ofB l).length) 4294967296) (.own name,S)
    | none=>.no
   | _,_=>.no
  | _=>.no
 | _,_=>.no
def G2 (P:Program) (name s d:TypeId) (x:GV) (S:St):Dec (GV×St):=match P.underlying s,P.underlying d,x with
 | some .string,some (.slice e),.str l=>match P.underlying e with
  | some (.int .u8)=>match S.seto name (some ⟨.int .u8,1000000,ofB l,true⟩) with
   | some S=>.chk (Nat.ble l.length 4294967296) (.own name,S)
   | none=>.no
  | _=>.no
 | some (.slice e),some .string,x=>match P.underlying e,Hz S (.int .u8) x with
  | some (.int .u8),some xs=>.ret (.str (E5 xs),S)
  | _,_=>.of (C7 P name s d x S)
 | _,_,_=>.of (C7 P name s d x S)
def EN (P:Program) (name:Nat) (t A:TypeId) (S:St) (n:Int):Dec (GV×St):=match Zv P t,P.underlying A with
 | some (e,es,z),some (.int _)=>match JR P 9 e with
  | some u=>match Em u z,Nat.beq es u.sz with
   | some (x0,[]),true=>match S.seto name (some ⟨u,e,List.replicate n.toNat x0,true⟩) with
    | some S=>.chk (decide (0<n)&&decide (n≤4294967296)) (.own name,S)
    | none=>.no
   | _,_=>.no
  | none=>.no
 | _,_=>.no
def K7:Operand→Operand→Bool
 | .tmp a,.tmp b=>Nat.beq a b
 | .const (.int .i64 a),.const (.int .i64 b)=>decide (a=b)
 | _,_=>false
def qX:Operand→Bool
 | .const (.int .i64 a)=>decide (a=0)
 | _=>false
def DD (P:Program) (name:Nat) (t:TypeId) (lo co:Operand) (l c:GV) (S:St):Dec (GV×St):=match Zv P t,l,c with
 | some (e,es,z),.int .i64 l,.int .i64 c=>match JR P 9 e with
  | some u=>match Em u z,Nat.beq es u.sz with
   | some (x0,[]),true=>match K7 lo co,qX lo with
    | true,_=>match S.seto name (some ⟨u,e,List.replicate c.toNat x0,true⟩) with
     | some S=>.chk (decide (0≤c)&&decide (c≤4294967296)) (.own name,S)
     | none=>.no
    | _,_=>.no
   | _,_=>.no
  | none=>.no
 | _,_,_=>.no
def I7 (P:Program) (name:Nat) (t:TypeId) (len:Nat) (ps:List (Nat×GV)) (S:St):Option (GV×St):=match Zv P t with
 | some (e,es,z)=>match JR P 9 e with
  | some u=>match Nat.ble (len*es) 65536&&Nat.beq es u.sz,Gc (λi=>some (i*es,es)) (rep len z) ps with
   | true,some c=>match !(ps.all λp=>Hj p.2)||Ed c,IZ S c with
    | true,some (c,S)=>match JJ u len c with
     | some xs=>(S.seto name (some ⟨u,e,xs,true⟩)).map λS=>(.own name,S)
     | none=>none
    | _,_=>none
   | _,_=>none
  | none=>none
 | none=>none
def qY (P:Program) (t:TypeId):Bool:=match P.underlying t with
 | some (.slice e)=>match JR P 9 e with
  | some _=>true
  | none=>false
 | _=>false
def qZ (len:Nat):Option (List (Nat×GV))→Bool
 | some ps=>Nat.ble 2 len&&ps.any λp=>match p.2 with
  | .own _=>true
  | _=>false
 | none=>false
def iU:Operand→Bool
 | .const _=>true
 | _=>false
def Q4 (P:Program) (t:TypeId) (A:Operand) (x i:GV):Dec GV:=match P.underlying t,x,i with
 | some .string,.str s,.int .i64 n=>.opt (idx s n) λb=>some (.int .u8 b.toNat)
 | some (.array n e),.agg l,.int .i64 k=>match iU A with
  | true=>.of (J5 P t x i)
  | false=>match JR P 9 e,Z4 P e with
   | some u,some ag=>match JS P e u&&(ag==iT u),JJ u n l with
    | true,some xs=>.opt (idx xs k) λx=>some (unj u x)
    | _,_=>.no
   | _,_=>.no
 | _,_,_=>.no
def Xp (P:Program) (t:TypeId) (S:St) (x:GV):Option Int:=match P.underlying t,x with
 | some (.slice _),.ro _ xs=>some xs.length
 | some (.slice _),.own b=>(S.ow.get b).map λo=>(o.xs.length:Int)
 | some (.slice _),.vw _ _ _ n _=>some n
 | _,_=>match Uc P t S x with
  | some n=>some (Int.ofNat n)
  | none=>none
def Dec.on {β A:Type} (f:β→A):Dec β→Dec A
 | .no=>.no
 | .ret b=>.ret (f b)
 | .chk c b=>.chk c (f b)
 | .two c a b=>.two c (f a) (f b)
 | .opt o k=>.opt o λx=>(k x).map f
def M3d:(t:Ty)→t.den→t.den→Bool
 | .int _,a,b=>decide ((a:Int)=b)
 | .str,a,b=>(show List UInt8 from a)==b
 | _,_,_=>false
abbrev Hk (t:Ty):BEq t.den:=⟨M3d t⟩
def scG:(t:Ty)→t.den→GV
 | .int k,n=>.int k n
 | .bool,b=>.bool b
 | .str,s=>.str s
 | _,_=>.nilp
def KY (P:Program) (t:TypeId):Option Ty:=match P.underlying t with
 | some (.int k)=>some (.int k)
 | some .string=>some .str
 | _=>none
def ON (P:Program) (t:TypeId):Option Ty:=match P.underlying t with
 | some (.int k)=>some (.int k)
 | some .bool=>some .bool
 | some .string=>some .str
 | _=>none
def zeT (P:Program) (t:TypeId) (v:Ty):Option v.den:=match P.info? t with
 | some i=>match i.zero with
  | some z=>match Z3 z with
   | some g=>match Em v [g] with
    | some (x,[])=>some x
    | _=>none
   | none=>none
  | none=>none
 | none=>none
def Xq (o:Option Ty) (t:Ty):Bool:=match o with
 | some u=>match Hy u t with
  | some _=>true
  | none=>false
 | none=>false
abbrev yg (k v:Ty) (l:List (Ty.pair k v).den):List (k.den×v.den):=l
def KZ (P:Program) (t:TypeId) (S:St) (b:Nat) (i:GV) (ok:Bool):Dec GV:=match P.underlying t,S.ow.get b with
 | some (.map kt et),some ⟨.pair k v,_,xs,true⟩=>match Xq (KY P kt) k&&Xq (ON P et) v,zeT P et v,Em k [i] with
  | true,some z,some (x,[])=>match ok with
   | true=>.ret (.tup [scG v ((@D5 _ _ (Hk k) (yg k v xs) x).getD z),.bool (@D5 _ _ (Hk k) (yg k v xs) x).isSome])
   | false=>.ret (scG v ((@D5 _ _ (Hk k) (yg k v xs) x).getD z))
  | _,_,_=>.no
 | _,_=>.no
def Xr (P:Program) (t:TypeId) (S:St) (b:Nat) (i x:GV):Option St:=match P.underlying t,S.ow.get b with
 | some (.map kt et),some ⟨.pair k v,T,xs,true⟩=>match Xq (KY P kt) k&&Xq (ON P et) v,zeT P et v,Em k [i],Em v [x] with
  | true,some _,some (i,[]),some (y,[])=>S.seto b (some ⟨.pair k v,T,@H9 _ _ (Hk k) (yg k v xs) i y,true⟩)
  | _,_,_,_=>none
 | _,_=>none
def EO (P:Program) (name:Nat) (t:TypeId) (S:St):Option (GV×St):=match P.underlying t with
 | some (.map kt et)=>match KY P kt,ON P et with
  | some k,some v=>(S.seto name (some ⟨.pair k v,0,[],true⟩)).map λS=>(.mapo name,S)
  | _,_=>none
 | _=>none
def Q5:List (Nat×List GV)→Nat→Option (List GV)
 | [],_=>none
 | (g,l)::r,i=>match Nat.beq g i with
  | true=>some l
  | false=>Q5 r i
def Uo (f:GF):Operand→Option GV
 | .global g=>(Q5 Z7 g).map λl=>.rop l 0
 | x=>Bo f x
def Ha:Cl:=λ_ _ _=>none
def HC (P:Program) (name:Nat) (o:Oper) (f:GF) (S:St):Dec (GV×St):=match o.op with
 | .pick c a b=>match Bo f c,Bo f a,Bo f b with
  | some (.bool c),some x,some y=>match mrg c x y with
   | some v=>.ret (v,S)
   | none=>.two c (x,S) (y,S)
  | _,_,_=>.no
 | .load t a=>match Bo f a with
  | some a=>.of ((Pb P t S a).map λv=>(v,S))
  | none=>.no
 | .store t a x=>match Bo f a,Bo f x with
  | some a,some v=>.of ((HA P t S a v).map λS=>(.tup [],S))
  | _,_=>.no
 | .nilCheck x=>match Bo f x with
  | some (.rop l o)=>.ret (.rop l o,S)
  | some (.elp b t i o x)=>.ret (.elp b t i o x,S)
  | _=>.of (J7 P Ha name o f S)
 | .fieldAddr s x i=>match Bo f x,DA P s i with
  | some (.rop l o),some (d,t)=>match BG P t with
   | some (_+1)=>.ret (.rop l (o+d),S)
   | _=>.no
  | some (.elp b u i o x),some (d,t)=>match BG P t with
   | some (_+1)=>.ret (.elp b u i (o+d) x,S)
   | _=>.no
  | _,_=>.of (J7 P Ha name o f S)
 | .binOp op t x y _=>match Bo f x,Bo f y with
  | some x,some y=>(bin P op t x y).on λv=>(v,S)
  | _,_=>.no
 | .slice t x lo hi mx=>match Bo f x,KH f lo,KH f hi,KH f mx with
  | some x,some lo,some hi,some mx=>CI P name t S x lo hi mx
  | _,_,_,_=>.no
 | .indexAddr t x i=>match Uo f x,Bo f i with
  | some x,some i=>(Cf P t S x i).on λv=>(v,S)
  | _,_=>.no
 | .index t x i=>match Bo f x,Bo f i with
  | some x,some iv=>match Hj x,x with
   | true,x=>(Q4 P t i x iv).on λv=>(v,S)
   | false,.agg l=>match IZ S l with
    | some (l,S)=>(Q4 P t i (.agg l) iv).on λv=>(v,S)
    | none=>.no
   | false,_=>.no
  | _,_=>.no
 | .convert s d x=>match Bo f x with
  | some x=>G2 P name s d x S
  | none=>.no
 | .makeSlice t l c=>match Bo f l,Bo f c with
  | some lv,some cv=>DD P name t l c lv cv S
  | _,_=>.no
 | .buildSlice t len A=>match qY P t&&!(qZ len (KD f A.toList)) with
  | true=>match KD f A.toList with
   | some ps=>.of (I7 P name t len ps S)
   | none=>.no
  | false=>.of (J7 P Ha name o f S)
 | .call c=>match EC f c.args.toList with
  | some args=>match c.callee,c.argTypes.toList,args with
   | .builtin .len,[t],[x]=>.of ((Xp P t S x).map λn=>(.int .i64 n,S))
   | .builtin .append,[t,t2],[s,.str l]=>EM P name t t2 S s l
   | .builtin .append,[t,t2],[.nils,.int _ n]=>EN P name t t2 S n
   | .builtin .append,[t,t2],[.vw b sz lo n (some q),x]=>EL P t t2 S (.vw b sz lo n (some q)) x n q
   | .builtin .append,[t,t2],[s,x]=>EK P name t t2 S s x
   | .builtin .max,_,[.int k a,.int k' b]=>if k=k' then .ret (.int k (max a b),S) else .no
   | .builtin .max,ts,args=>.of (CU P name .max ts args S)
   | .builtin .min,_,[.int k a,.int k' b]=>if k=k' then .ret (.int k (min a b),S) else .no
   | .builtin .cap,[t],[.nils]=>match P.underlying t with
    | some (.slice _)=>.ret (.int .i64 0,S)
    | _=>.no
   | _,_,_=>.no
  | none=>.no
 | .makeMap t none=>.of (EO P name t S)
 | .lookup t m i ok=>match Bo f m,Bo f i with
  | some (.mapo b),some i=>(KZ P t S b i ok).on λv=>(v,S)
  | _,_=>.of (J7 P Ha name o f S)
 | .mapUpdate t m k v=>match Bo f m,Bo f k,Bo f v with
  | some (.mapo b),some k,some v=>.of ((Xr P t S b k v).map λS=>(.tup [],S))
  | _,_,_=>.no
 | _=>.of (J7 P Ha name o f S)
def Q6 (o:Oper) (f:GF):Option (FuncId×List GV):=match o.op with
 | .call c=>match c.callee with
  | .value g=>match Bo f g,EC f c.args.toList with
   | some (.func g a e),some args=>some (g,a++(args++e))
   | _,_=>none
  | _=>none
 | _=>none
def K8 {A:Type} (P:Program) (call:CK) (name:Nat) (o:Oper) (f:GF) (S:St) (K:GV→St→Option A):Option A:=match Q6 o f with
 | some (g,args)=>call A g args S K
 | none=>(HC P name o f S).run λx=>K x.1 x.2
def VK {A:Type} (B:Bool) (v:GV) (K:GV→Option A):Option A:=match B,v with
 | true,.bool b=>bif b then K (.bool true) else K (.bool false)
 | _,v=>K v
def Up (ops:Array Oper) (cs:List Nat) (d:Option Tmp):Bool:=match d with
 | none=>false
 | some d=>Bx cs d||ops.any λo=>match o.guard with
  | some (j,_)=>match ops[j]? with
   | some p=>(match p.dst with | some e=>Nat.beq e d | none=>false)
   | none=>false
  | none=>false
def JT {A:Type} (n:Nat) (f:GF) (d:Option Tmp) (v:GV) (K:GF→Option A):Option A:=match PV n f d v with
 | some f=>K f
 | none=>none
def DE {A:Type} (P:Program) (call:CK) (n:Nat) (cs:List Nat) (ops:Array Oper) (base i:Nat) (o:Oper) (f:GF) (S:St) (K:GF→St→Option A):Option A:=match Gd ops.toList o f with
 | some true=>K8 P call (base+i) o f S λv S=>VK (Up ops cs o.dst) v λv=>JT n f o.dst v λf=>K f S
 | some false=>JT n f o.dst (.tup []) λf=>K f S
 | none=>none
def JU {A:Type} (P:Program) (call:CK) (n:Nat) (cs:List Nat) (ops:Array Oper) (base:Nat):List Oper→Nat→GF→St→(GF→St→Option A)→Option A
 | [],_,f,S,K=>K f S
 | o::l,i,f,S,K=>DE P call n cs ops base i o f S λf S=>JU P call n cs ops base l (i+1) f S K
def Bi:Option GV→List Nat
 | some (.ptr b _)=>[b]
 | some (.sl b ..)=>[b]
 | some (.map b)=>[b]
 | some (.own b)=>[b]
 | some (.mapo b)=>[b]
 | some (.vw b ..)=>[b]
 | some (.elp b ..)=>[b]
 | _=>[]
def EP (o:Oper) (f:GF) (name:Nat):List Nat:=match o.op with
 | .load _ x=>Bi (Bo f x)
 | .slice _ x _ _ _=>Bi (Bo f x)
 | .convert _ _ x=>name::Bi (Bo f x)
 | .indexAddr _ x _=>Bi (Bo f x)
 | .lookup _ x _ _=>Bi (Bo f x)
 | .call c=>match c.args.toList with
  | x::_=>Bi (Bo f x)
  | []=>[]
 | .alloc _=>[name]
 | .box _ _=>[name]
 | .buildSlice ..=>[name]
 | .makeSlice ..=>[name]
 | .makeMap ..=>[name]
 | _=>[]
def VL:Option GV→Bool
 | some (.own _)=>true
 | _=>false
def HD (o:Oper) (f:GF):Bool:=Cy o.op&&match o.op with
 | .slice _ x lo _ mx=>!(VL (Bo f x)&&(lo.isNone&&mx.isNone))
 | .index _ x _=>match Bo f x with
  | some x=>Hj x
  | none=>false
 | .buildSlice _ _ A=>match KD f A.toList with
  | some ps=>ps.all λp=>Hj p.2
  | none=>false
 | _=>true
def iV (nx:Nat) (ops:Array Oper) (loose:List (Nat×List Nat)) (d:Option Tmp) (ch:List Nat):Bool:=loose.all λp=>match ops[p.1]? with
 | some o=>(match d with
  | some d=>!((o.looksAt ops).any (Nat.beq d))&&(match o.dst with | some e=>!(Nat.beq d e) | none=>true)
  | none=>true)&&p.2.all λb=>!(Bx ch b)&&Nat.blt b nx
 | none=>false
def iW (S S':St):List Nat:=S'.lg.take (S'.lg.length-S.lg.length)
def VM (op:GO) (ops:Array Oper) (done:List Nat) (f:GF):List (Nat×Oper)→Option (Nat×Oper)
 | []=>none
 | (i,o)::l=>match BU o done&&Rt op ops i o f with
  | true=>some (i,o)
  | false=>VM op ops done f l
def J0 (P:Program) (call:CK):GO:=⟨λname o f S=>K8 P call name o f S λv S=>some (v,S),HD⟩
def HE {A:Type} (P:Program) (call:CK) (n:Nat) (cs:List Nat) (ops:Array Oper) (base:Nat):Nat→List (Nat×Oper)→List Nat→List (Nat×List Nat)→GF→St→(GF→St→Option A)→Option A
 | 0,_,_,_,_,_,_=>none
 | k+1,rem,done,loose,f,S,K=>match VM (J0 P call) ops done f rem with
  | some (i,o)=>DE P call n cs ops base i o f S λf' S'=>match iV S.nx ops loose o.dst [base+i] with
   | true=>HE P call n cs ops base k (rem.filter λp=>!(Nat.beq p.1 i)) (i::done) ((i,EP o f (base+i))::loose) f' S' K
   | false=>none
  | none=>match rem.filter (λp=>BU p.2 done) with
   | []=>match rem with
    | []=>K f S
    | _=>none
   | [(m,o)]=>DE P call n cs ops base m o f S λf' S'=>match loose.filter (λp=>!(HQ ops 8 m p.1)) with
    | loose=>match iV S.nx ops loose o.dst ((base+m)::iW S S') with
     | true=>HE P call n cs ops base k (rem.filter λp=>!(Nat.beq p.1 m)) (m::done) loose f' S' K
     | false=>none
   | _=>none
inductive Sh where
 | d (t:Ty)
 | own (t:Ty) (T:TypeId)
inductive It where
 | slot (i:Nat) (s:Sh)
 | cell (b i:Nat) (s:Sh)
 | ow (b:Nat) (t:Ty)
def Sh.den:Sh→Type
 | .d t=>t.den
 | .own t _=>List t.den
def Sh.sz:Sh→Nat
 | .d t=>t.sz
 | .own _ _=>1
def It.den:It→Type
 | .slot _ s=>s.den
 | .cell _ _ s=>s.den
 | .ow _ t=>List t.den
def Ay:List It→Type
 | []=>Unit
 | [i]=>i.den
 | i::l=>i.den×Ay l
def qe (S:St):(s:Sh)→List GV→Option (s.den×St)
 | .d t,l=>match IZ S l with
  | some (c,S)=>match Em t c with
   | some (x,[])=>some (x,S)
   | _=>none
  | none=>none
 | .own t T,[.nils]=>some (([]:List t.den),S)
 | .own t T,[.own b]=>match S.ow.get b with
  | some o=>match o.mu&&Nat.beq o.T T,Hy o.t t with
   | true,some ⟨h⟩=>some ((h ▸ o.xs:List t.den),S)
   | _,_=>none
  | none=>none
 | _,_=>none
def Zw:Sh→Bool
 | .d t=>iT t
 | _=>false
def Q7:GV→Bool
 | .agg _=>true
 | _=>false
def qf (f:GF) (S:St):(i:It)→Option (i.den×St)
 | .slot i s=>match f.get i with
  | some g=>match Zw s==Q7 g with
   | true=>qe S s g.ats
   | false=>none
  | none=>none
 | .cell b i s=>match Bc S b i s.sz with
  | some l=>qe S s l
  | none=>none
 | .ow b t=>match S.ow.get b with
  | some o=>match o.mu,Hy o.t t with
   | true,some ⟨h⟩=>some ((h ▸ o.xs:List t.den),S)
   | _,_=>none
  | none=>none
def Eo (f:GF):(l:List It)→St→Option (Ay l×St)
 | [],S=>some ((),S)
 | [i],S=>qf f S i
 | i::j::l,S=>match qf f S i with
  | some (x,S)=>match Eo f (j::l) S with
   | some (y,S)=>some ((x,y),S)
   | none=>none
  | none=>none
def Ep:Sh→List GV→List (Option Nat)
 | .own _ _,[.own b]=>[some b]
 | .own _ _,_=>[none]
 | .d _,_=>[]
def Er (f:GF) (S:St):It→List (Option Nat)
 | .slot i s=>match f.get i with
  | some g=>Ep s g.ats
  | none=>[]
 | .cell b i s=>match Bc S b i s.sz with
  | some l=>Ep s l
  | none=>[]
 | .ow _ _=>[]
def AM (f:GF) (S:St):List It→List (Option Nat)
 | []=>[]
 | i::l=>Er f S i++AM f S l
def isN (b:Nat):Option Nat→Bool
 | some c=>Nat.beq b c
 | none=>false
def Zx (S:St):List (Option Nat)→Bool
 | []=>true
 | none::l=>Zx S l
 | some b::l=>!(l.any (isN b))&&(match S.ow.get b with | some o=>o.mu | none=>false)&&Zx S l
def qg (S:St):(s:Sh)→s.den→Option (GV×St)
 | .d t,x=>some (unj t x,S)
 | .own t T,xs=>match Nat.blt S.nx KF with
  | true=>some (.own S.nx,⟨S.h,S.nx+1,S.df,S.ow.set AD S.nx (some ⟨t,T,xs,true⟩),S.lg⟩)
  | false=>none
def qh (f:GF) (S:St):(i:It)→i.den→Option (GF×St)
 | .slot i s,x=>match qg S s x,Nat.blt i KF with
  | some (g,S),true=>some (f.set AD i (some g),S)
  | _,_=>none
 | .cell b i s,x=>match qg S s x with
  | some (g,S)=>match S.h.get b with
   | some (.cells l)=>match over l i g.ats with
    | some l=>(S.put b (some (.cells l))).map λS=>(f,⟨S.h,S.nx,S.df,S.ow,b::(codes b i s.sz++S.lg)⟩)
    | none=>none
   | _=>none
  | none=>none
 | .ow b t,xs=>match S.ow.get b with
  | some o=>match o.mu,Hy t o.t with
   | true,some ⟨h⟩=>(S.seto b (some ⟨o.t,o.T,(h ▸ xs:List o.t.den),true⟩)).map λS=>(f,S)
   | _,_=>none
  | none=>none
def Es:(l:List It)→Ay l→GF→St→Option (GF×St)
 | [],_,f,S=>some (f,S)
 | [i],x,f,S=>qh f S i x
 | i::j::l,x,f,S=>match qh f S i x.1 with
  | some (f,S)=>Es (j::l) x.2 f S
  | none=>none
def clr:List Nat→GF→GF
 | [],f=>f
 | i::l,f=>clr l (f.set AD i none)
def AS:Code→List Nat
 | .seq a b=>AS a++AS b
 | .cond _ a b=>AS a++AS b
 | .block _ c=>AS c
 | .loop c=>AS c
 | .region _ ops _=>ops.toList.filterMap (·.dst)
 | _=>[]
def qi:List It→List Nat
 | []=>[]
 | .slot ..::l=>qi l
 | .cell b _ _::l=>b::qi l
 | .ow b _::l=>b::qi l
def CR:List (Option Nat)→St→Option St
 | [],S=>some S
 | none::l,S=>CR l S
 | some b::l,S=>match S.seto b none with
  | some S=>CR l S
  | none=>none
def VN (S:St) (b:Nat):Bool:=JE (S.h.get b)&&JE (S.ow.get b)
def Br (b k:Nat):List It→Bool
 | []=>false
 | .cell c i s::l=>(Nat.beq b c&&Nat.ble i k&&Nat.blt k (i+s.sz))||Br b k l
 | _::l=>Br b k l
def r7 (S A:St) (its:List It) (S':St):Bool:=Nat.ble A.nx 4194304&&(iW S S').all λe=>match Nat.blt e 4194304 with
 | true=>!(Nat.blt e A.nx)||Bx (qi its) e||VN A e
 | false=>!(Nat.blt (e%4194304) A.nx)||Br (e%4194304) (e / 4194304-1) its||VN A (e%4194304)
def VO (f:GF) (b:Nat):Nat→Bool
 | 0=>false
 | n+1=>(match f.get n with | some (.ptr c _)=>Nat.beq c b | _=>false)||VO f b n
def qj (n:Nat) (f:GF) (S:St) (kill:List Nat) (its:List It):Bool:=(kill.all λk=>Nat.blt k KF)&&its.all fun
 | .slot i _=>Bx kill i
 | .cell b _ _=>Nat.blt b S.nx&&(JE (S.ow.get b)&&VO f b n)
 | .ow b _=>Nat.blt b S.nx&&JE (S.h.get b)
abbrev Kt (R:Type):=(A:Type)→(R→A)→GX→GF→St→Option A
def Zy:List (Nat×List It)→Nat→Option (List It)
 | [],_=>none
 | (k,a)::l,p=>match Nat.beq k p with
  | true=>some a
  | false=>Zy l p
def Hl {A:Type} (its:List It) (E:GF) (B:St) (kill:List Nat) (t:Ay its) (K:GF→St→Option A):Option A:=match Es its t (clr kill E) B with
 | some (f,S)=>K f S
 | none=>none
def U4:List It→List (Option Nat)
 | []=>[]
 | .ow b _::l=>some b::U4 l
 | _::l=>U4 l
def M0 (A:St):List (Option Nat)→Bool
 | []=>true
 | none::l=>M0 A l
 | some b::l=>JE (A.ow.get b)&&M0 A l
def RS (A S:St):List It→Bool
 | []=>true
 | .ow b _::l=>(match A.ow.get b,S.ow.get b with | some o,some u=>Nat.beq o.T u.T | _,_=>false)&&RS A S l
 | _::l=>RS A S l
def eqD:List Nat→List Nat→Bool
 | [],[]=>true
 | a::l,b::m=>Nat.beq a b&&eqD l m
 | _,_=>false
def Hm (its:List It) (S A:St) (f:GF) (S':St):Bool:=
 eqD A.df S'.df&&(Zx S' (AM f S' its++U4 its)&&(M0 A (AM f S' its)&&(RS A S' its&&r7 S A its S')))
def Jf {A:Type} (its:List It) (S B:St) (f:GF) (S':St) (K:Ay its→Option A):Option A:=match Eo f its S' with
 | some (t,S')=>match Hm its S B f S' with
  | true=>K t
  | false=>none
 | none=>none
def VP (n:Nat) (its:List It) (kill:List Nat) (f:GF) (S:St):Option St:=match CR (AM f S its) S with
 | some A=>match qj n f A kill its with
  | true=>some A
  | false=>none
 | none=>none
def OJ {T R A:Type} (j:R→A):Al T R→Al T A
 | .next t=>.next t
 | .done r=>.done (j r)
def JV {R:Type} (its:List It) (S B:St) (K:Kt R):Kt (Al (Ay its) R):=λA j e f' S'=>match e with
 | .nrm=>Jf its S B f' S' λt=>some (j (.next t))
 | e=>K A (λr=>j (.done r)) e f' S'
structure Lp where
 run:{σ ρ:Type}→(σ→Option (Al σ ρ))→σ→Option ρ
 s1:List Int→Option (List Int)
 s2:List (Int×Int×Int×Int)→Option (List (Int×Int×Int×Int))
 s3:List (Int×Int×Int×Int)×Int→List Int→Option (List Int)
noncomputable def std:Lp:=⟨λstep s=>loop step s,Zs,Zt,yQ⟩
def YV {R:Type} (body:GF→St→Kt R→(A:Type)→(R→A)→Option A):Nat→GF→St→Kt R→(A:Type)→(R→A)→Option A
 | 0,_,_,_,_,_=>none
 | m+1,f,S,K,A,j=>body f S (λA j e f S=>match e with
  | .nrm=>YV body m f S K A j
  | e=>K A j e f S) A j
def yC {R:Type} (L:Lp) (P:Program) (call:CK) (n:Nat) (cs:List Nat) (B:List (Nat×List It)):Code→Nat→GF→St→Kt R→(A:Type)→(R→A)→Option A
 | .skip,_,f,S,K,A,j=>K A j .nrm f S
 | .label _,_,f,S,K,A,j=>K A j .nrm f S
 | .ret,_,f,S,K,A,j=>K A j .ret f S
 | .exit id,_,f,S,K,A,j=>K A j (.exit id) f S
 | .seq a b,p,f,S,K,A,j=>match Zy B p with
  | none=>yC L P call n cs B a (2*p) f S (λA j e f S=>match e with
   | .nrm=>yC L P call n cs B b (2*p+1) f S K A j
   | e=>K A j e f S) A j
  | some its=>match VP n its (AS a) f S with
   | some E=>(yC (R:=Al (Ay its) R) L P call n cs B a (2*p) f S (JV its S E K) (Al (Ay its) A) (OJ j)).bind λx=>match x with
     | .next t=>Hl its f E (AS a) t λf S=>yC L P call n cs B b (2*p+1) f S K A j
     | .done x=>some x
   | none=>none
 | .cond c x y,p,f,S,K,A,j=>match Bo f c with
  | some (.bool b)=>bif b then yC L P call n cs B x (2*p) f S K A j else yC L P call n cs B y (2*p+1) f S K A j
  | _=>none
 | .block id c,p,f,S,K,A,j=>yC L P call n cs B c (2*p) f S (λA j e f S=>match e with
  | .exit G=>match Nat.beq G id with
   | true=>K A j .nrm f S
   | false=>K A j (.exit G) f S
  | e=>K A j e f S) A j
 | .loop c,p,f,S,K,A,j=>match Zy B p with
  | none=>YV (λf S K A j=>yC L P call n cs B c (2*p) f S K A j) 9 f S K A j
  | some its=>match Eo f its S with
   | some (_,S1)=>match VP n its (AS c) f S1 with
    | some E=>Jf its S1 E f S1 λt0=>L.run (λt=>Hl its f E (AS c) t λf1 S1=>yC (R:=Al (Ay its) R) L P call n cs B c (2*p) f1 S1 (JV its S1 E K) (Al (Ay its) A) (OJ j)) t0
    | none=>none
   | none=>none
 | .region _ ops false,p,f,S,K,A,j=>JU P call n cs ops S.nx ops.toList 0 f ⟨S.h,S.nx+ops.size,S.df,S.ow,S.lg⟩ λf S=>K A j .nrm f S
 | .region _ ops true,p,f,S,K,A,j=>match KI ops&&OY n ops.toList with
  | true=>HE P call n cs ops S.nx (2*ops.size+2) (B1 ops.toList 0) [] [] f ⟨S.h,S.nx+ops.size,S.df,S.ow,S.lg⟩ λf S=>K A j .nrm f S
  | false=>none
 | _,_,_,_,_,_,_=>none
section
theorem Et:∀ (t:Ty),(eT t).n=t.sz
 | .int _=>rfl
 | .bool=>rfl
 | .str=>rfl
 | .sl _=>rfl
 | .unit=>rfl
 | .pair a b=>by show (eT a).n+(eT b).n=a.sz+b.sz;rw [Et a,Et b]
theorem M4G {p:Ren}:∀ {l m:List GV} {vs:List Value},RVs p (l++m) vs→∃ A ws,vs=A++ws∧RVs p l A∧RVs p m ws
 | [],m,vs,h=>⟨[],vs,rfl,trivial,h⟩
 | g::l,m,[],h=>h.elim
 | g::l,m,v::vs,⟨h1,h2⟩=>by
  obtain ⟨A,ws,rfl,h3,B⟩:=M4G h2;exact ⟨v::A,ws,rfl,⟨h1,h3⟩,B⟩
variable {p:Ren}{g:GV}
theorem RVs.one{vs:List Value}(h:RVs p [g] vs):∃ v,vs=[v]∧RV p g v:=by
 match vs,h with
 | [v],⟨h1,_⟩=>exact ⟨v,rfl,h1⟩
 | _::_::_,⟨_,h2⟩=>exact h2.elim
theorem C8 {p:Ren}:∀ (t:Ty) (x:t.den) (cs:List Value),RVs p (inj t x) cs↔(eT t).R p.zw p.zM cs x
 | .int k,n,cs=>⟨λh=>by obtain ⟨v,rfl,h2⟩:=RVs.one h;exact M1t (λv=>[v]) h2,λh=>by
  have h:cs=[.int k n]:=h;subst h;exact ⟨rfl,trivial⟩⟩
 | .bool,b,cs=>⟨λh=>by obtain ⟨v,rfl,h2⟩:=RVs.one h;exact M1t (λv=>[v]) h2,λh=>by
  have h:cs=[.bool b]:=h;subst h;exact ⟨rfl,trivial⟩⟩
 | .str,s,cs=>⟨λh=>by obtain ⟨v,rfl,h2⟩:=RVs.one h;exact M1t (λv=>[v]) h2,λh=>by
  have h:cs=[Vs s]:=h;subst h;exact ⟨rfl,trivial⟩⟩
 | .sl t,xs,cs=>⟨λh=>by obtain ⟨v,rfl,h2⟩:=RVs.one h;exact h2,λh=>by
  obtain ⟨a,c,e,h1⟩:=h;subst e;exact ⟨⟨a,c,rfl,h1⟩,trivial⟩⟩
 | .unit,_,cs=>⟨λh=>by
  cases cs with
  | nil=>rfl
  | cons=>exact h.elim,λh=>by
  have h:cs=[]:=h;subst h;trivial⟩
 | .pair a b,x,cs=>⟨λh=>by
  obtain ⟨A,ws,rfl,h1,h2⟩:=M4G h;exact ⟨A,ws,rfl,(C8 a _ _).1 h1,(C8 b _ _).1 h2⟩,λh=>by
  obtain ⟨A,ws,rfl,h1,h2⟩:=h;exact RVs.append ((C8 a _ _).2 h1) ((C8 b _ _).2 h2)⟩
theorem RVs.head{l:List GV}{vs:List Value}(h:RVs p (g::l) vs):∃ v ws,vs=v::ws∧RV p g v∧RVs p l ws:=by
 match vs,h with
 | v::ws,⟨h1,h2⟩=>exact ⟨v,ws,rfl,h1,h2⟩
variable {t:Ty}
theorem iX{u:Ty}(h:u=t){xs:List u.den}{v:Value}(hv:RV p (.ro u xs) v):(eT (.sl t)).R p.zw p.zM [v] (h ▸ xs:List t.den):=by
 subst h;exact hv
theorem Dg {p:Ren}:∀ (t:Ty) {l r:List GV} {x:t.den} {vs:List Value},Em t l=some (x,r)→RVs p l vs→∃ A ws,vs=A++ws∧(eT t).R p.zw p.zM A x∧RVs p r ws
 | .int k,l,r,x,vs,h,hv=>by
  unfold Em hdI at h;split at h;split at h;rename_i hk;cases h;subst hk;obtain ⟨v,ws,rfl,h1,h2⟩:=hv.head;exact ⟨[v],ws,rfl,M1t (λv=>[v]) h1,h2⟩;cases h;cases h
 | .bool,l,r,x,vs,h,hv=>by
  unfold Em hdB at h;split at h;cases h;obtain ⟨v,ws,rfl,h1,h2⟩:=hv.head;exact ⟨[v],ws,rfl,M1t (λv=>[v]) h1,h2⟩;cases h
 | .str,l,r,x,vs,h,hv=>by
  unfold Em hdS at h;split at h;cases h;obtain ⟨v,ws,rfl,h1,h2⟩:=hv.head;exact ⟨[v],ws,rfl,M1t (λv=>[v]) h1,h2⟩;cases h
 | .sl t,l,r,x,vs,h,hv=>by
  unfold Em hdL at h;split at h;split at h;rename_i hk _;cases h;obtain ⟨v,ws,rfl,h1,h2⟩:=hv.head;exact ⟨[v],ws,rfl,iX hk h1,h2⟩;cases h;cases h;obtain ⟨v,ws,rfl,h1,h2⟩:=hv.head;have h1:v=.slice none 0 0:=h1;subst h1;exact ⟨[_],ws,rfl,⟨none,0,rfl,M4r _ _ _⟩,h2⟩;cases h
 | .unit,l,r,x,vs,h,hv=>by
  cases h;exact ⟨[],vs,rfl,rfl,hv⟩
 | .pair a b,l,r,x,vs,h,hv=>by
  unfold Em at h;split at h;rename_i y l1 h1;split at h;rename_i z O h2;cases h;obtain ⟨A,ws,rfl,E,G⟩:=Dg a h1 hv;obtain ⟨B,J,rfl,H,I⟩:=Dg b h2 G;exact ⟨A++B,J,by simp,⟨A,B,rfl,E,H⟩,I⟩;cases h;cases h
theorem Gg {p:Ren}(t:Ty):∀ (n:Nat) {l:List GV} {xs:List t.den} {vs:List Value},JJ t n l=some xs→RVs p l vs→xs.length=n∧vs.length=n*t.sz∧
  ∀ (i:Nat) (x:t.den),xs[i]? = some x→∃ cs,(eT t).R p.zw p.zM cs x∧∀ (k:Nat) (v:Value),cs[k]? = some v→vs[i*t.sz+k]? = some v
 | 0,l,xs,vs,h,hv=>by
  unfold JJ at h;split at h;cases h
  match vs,hv with
  | [],_=>exact ⟨rfl,by simp,λi x E=>by simp at E⟩
  cases h;rename_i e;cases e
 | n+1,l,xs,vs,h,hv=>by
  unfold JJ at h;split at h;rename_i x l1 h1;split at h;rename_i r h2;cases h;obtain ⟨B,ws,rfl,A,J⟩:=Dg t h1 hv;obtain ⟨G,H,I⟩:=Gg t n h2 J;have hl:B.length=t.sz:=by rw [←Et];exact (eT t).len A
  refine ⟨by simp [G],by rw [M1l,H,hl,M2p];omega,λi y hy=>?_⟩;cases i with
  | zero=>
   cases hy;exact ⟨B,A,λk v hk=>by rw [Nat.zero_mul,M25,M1f (M09.1 hk).1];exact hk⟩
  | succ i=>
   obtain ⟨cs,O,U⟩:=I i y (by simpa using hy);refine ⟨cs,O,λk v hk=>?_⟩;rw [M1a (by rw [hl,M2p];omega),hl,show (i+1)*t.sz+k-t.sz=i*t.sz+k by rw [M2p];omega];exact U k v hk
  cases h;cases h
variable {α:Type}{T:TypeId}{w:World}{a:Option Addr}{c:Nat}
theorem OwnS.conv{e e':Enc α}(hn:e.n=e'.n){M M':List Nat}{xs:List α}(h:OwnS e T w M a c xs)(H:∀ cs x,e.R w M cs x→e'.R w M' cs x):OwnS e' T w M' a c xs:=by
 rcases h with h|⟨g,A,rfl,hg,h1,h2,h3,B⟩;exact .inl h;refine .inr ⟨g,A,rfl,hg,h1,h2,by rw [←hn];exact h3,λi x I=>?_⟩;obtain ⟨cs,E,G⟩:=B i x I;exact ⟨cs,H _ _ E,by rw [←hn];exact G⟩
theorem OwnX.conv{e e':Enc α}(hn:e.n=e'.n){M M':List Nat}{xs:List α}(h:OwnX e T w M a c xs)(A:∀ cs x,e.R w M cs x→e'.R w M' cs x):OwnX e' T w M' a c xs:=by
 refine ⟨?_,λht=>OwnS.conv hn (h.2 ht) A⟩;rcases h.1 with h|⟨g,E,B,fz,rfl,hg,G,h1,h2,h3,H⟩
 exact .inl h;refine .inr ⟨g,E,B,fz,rfl,hg,G,h1,h2,by rw [←hn];exact h3,λi x O=>?_⟩;obtain ⟨cs,I,J⟩:=H i x O;exact ⟨cs,A _ _ I,by rw [←hn];exact J⟩
variable {n:Nat}
theorem OwnY.conv {q:Ren}{xs:List t.den}(h:OwnY p t T w a n c xs)(B:Stp p.zM p.zw q.zM q.zw):OwnY q t T w a n c xs:=
 ⟨λA=>⟨(h.1 A).1,OwnX.conv (e:=eZ p t) (e':=eZ q t) rfl (h.1 A).2 λcs x E=>(eT t).step (show (eT t).R p.zw p.zM cs x from E) B⟩,h.2⟩
variable {S S':St}{b:Nat}
theorem Ak{o:Option JC}(h:S.seto b o=some S'):S'.h=S.h∧S'.nx=S.nx∧S'.df=S.df∧S'.lg=b::S.lg∧∀ j,S'.ow.get j=if j=b then o else S.ow.get j:=by
 unfold St.seto at h;split at h;rename_i hb;cases h;have:=M18 hb;exact ⟨rfl,rfl,rfl,rfl,λj=>M4m _ _ _ _ _ (by unfold AD;unfold KF at this;omega)⟩;cases h
variable {o:JC}
theorem RH.freeze(h:RH p S w)(ho:S.ow.get b=some o)(hm:o.mu=true)(hp:p.ov b=some (a,n,c))(hc:c≤maxLen)(Y:S.seto b (some ⟨o.t,o.T,o.xs,false⟩)=some S') :
  ∃ q,q.m=p.m∧q.ov=p.ov∧Le p q∧RH q S' w∧RV q (.ro o.t o.xs) (.slice a n c)∧∀ k,k<w.heap.size→U2 p k→¬ Bk p k→U2 q k:=by
 obtain ⟨s1,s2,_,_,s5⟩:=Ak Y;obtain ⟨k1,k3⟩:=h.ro.mu b o a n c ho hm hp;obtain ⟨rfl,k2⟩:=k1.1 hc;have B:∀ k,k∈(List.range w.heap.size).filter (λk=>(Bx p.zM k||Nat.ble p.zw.heap.size k)&&!(Bx (Av a) k))↔k<w.heap.size∧U2 p k∧k∉Av a:=λk=>by
  rw [M1Z,M2i];simp only [M05,M2t,M2u,B4,Nat.ble_eq,U2];constructor;rintro ⟨h1,h2,h3⟩;exact ⟨h1,h2,λhk=>by rw [B4.2 hk] at h3;cases h3⟩;rintro ⟨h1,h2,h3⟩;refine ⟨h1,h2,?_⟩;cases hb:Bx (Av a) k with
  | false=>rfl
  | true=>exact absurd (B4.1 hb) h3
 generalize (List.range w.heap.size).filter (λk=>(Bx p.zM k||Nat.ble p.zw.heap.size k)&&!(Bx (Av a) k))=M at B;have I:Stp p.zM p.zw M w:=⟨h.ro.zev,λk hk=>((B k).1 hk).2.1⟩
 have U:Le p ⟨p.m,p.ov,w,M⟩:=⟨λ_ _ h=>h,λ_ _ h=>h,I⟩
 have hsl:SlR (eT o.t) w M a c o.xs:=by
  rcases k2.1 with ⟨rfl,rfl,e⟩|⟨g,ak,T',fz,rfl,hg,h0,h1,h2,h3,A⟩;rw [e];exact M4r _ _ _;refine ⟨h1,h2,λe=>(by cases e),λad Z _=>?_⟩;cases Z;refine ⟨rfl,λhk=>((B g).1 hk).2.2 (by simp [Av]),Am hg,λi x hx=>?_⟩;obtain ⟨cs,H,O⟩:=A i x hx;refine ⟨cs,(eT o.t).step H I,λk v hv=>?_⟩;simp only [M25];rw [Af hg];exact O k v hv
 refine ⟨⟨p.m,p.ov,w,M⟩,rfl,rfl,U,⟨λb' r base n' g h1 h2=>?_,λE G x x' h1 h2 h3 A=>h.inj E G x x' h1 h2 (by rw [←s1];exact h3) (by rw [←s1];exact A),h.lt,λb' hb=>h.fr b' (by rw [←s2];exact hb),?_,h.gl.mono U⟩,⟨a,c,rfl,hsl⟩,λk hk hl hb=>.inl ((B k).2 ⟨hk,hl,λac=>hb (.inr ⟨b,_,hp,ac⟩)⟩)⟩;rw [s1] at h2;exact (h.at_ b' r base n' g h1 h2).mono U rfl
 have old:∀ {b' o'},S'.ow.get b'=some o'→o'.mu=true→b'≠b∧S.ow.get b'=some o':=λ{b' o'} h1 h2=>by
  rw [s5] at h1;split at h1;cases h1;cases h2;rename_i e;exact ⟨e,h1⟩
 refine ⟨Ev.refl _ _,λb' x h1 h2=>.inl ((B _).2 ⟨h.lt b' x h1,h.ro.zl b' x h1 (by rw [←s1];exact h2),h.ro.sep b o _ b' x ho hm hp h1 (by rw [←s1];exact h2)⟩),λb' o' a' n' c' h1 h2 h3=>?_,λb' o' a' n' c' h1 h2 h3=>?_,λE G o1 o2 y y' h1 h2 h3 A H O=>h.ro.inj E G o1 o2 y y' (old h1 h3).2 (old h2 A).2 h3 A H O,λE o1 y G x h1 h2 h3 A H=>h.ro.sep E o1 y G x (old h1 h2).2 h2 h3 A (by rw [←s1];exact H)⟩;obtain ⟨e,h1⟩:=old h1 h2;obtain ⟨J,m3⟩:=h.ro.mu b' o' a' n' c' h1 h2 h3;refine ⟨OwnY.conv J I,λg hg=>.inl ((B g).2 ⟨J.lt g hg,m3 g hg,λab=>e (h.ro.inj b' b o' o _ _ h1 ho h2 hm h3 hp g hg ab)⟩)⟩;rw [s5] at h1;split at h1;rename_i e;subst e;cases h1;rw [hp] at h3;cases h3;exact ⟨rfl,hsl⟩
 obtain ⟨m1,J⟩:=h.ro.ro b' o' a' n' c' h1 h2 h3;exact ⟨m1,J.step I⟩
variable {w':World}
theorem RH.adv(h:RH p S w)(B:Ev [] w w'):∃ q,q.m=p.m∧q.ov=p.ov∧Le p q∧RH q S w'∧q.zw=w'∧(∀ k,k∈q.zM↔k<w.heap.size∧U2 p k)∧∀ k,k<w.heap.size→U2 p k→U2 q k:=by
 have A:∀ k,k∈(List.range w.heap.size).filter (λk=>Bx p.zM k||Nat.ble p.zw.heap.size k)↔k<w.heap.size∧U2 p k:=λk=>by
  rw [M1Z,M2i];simp only [M2t,B4,Nat.ble_eq,U2]
 generalize (List.range w.heap.size).filter (λk=>Bx p.zM k||Nat.ble p.zw.heap.size k)=M at A;have H:Stp p.zM p.zw M w':=Stp.trans (M':=M) (w':=w) ⟨h.ro.zev,λk hk=>((A k).1 hk).2⟩ (Stp.same B λ_ h=>by cases h);have G:Le p ⟨p.m,p.ov,w',M⟩:=⟨λ_ _ h=>h,λ_ _ h=>h,H⟩
 refine ⟨⟨p.m,p.ov,w',M⟩,rfl,rfl,G,⟨λb r base n g h1 h2=>(h.at_ b r base n g h1 h2).mono G (B.block r (h.lt b _ h1) (by simp)),h.inj,λb x h1=>M1D (h.lt b x h1) B.size,h.fr,?_,h.gl.mono G⟩,rfl,A,λk hk hl=>.inl ((A k).2 ⟨hk,hl⟩)⟩;refine ⟨Ev.refl _ _,λb x h1 h2=>.inl ((A _).2 ⟨h.lt b x h1,h.ro.zl b x h1 h2⟩),λb o a n c h1 h2 h3=>?_,λb o a n c h1 h2 h3=>?_,h.ro.inj,h.ro.sep⟩;obtain ⟨E,J⟩:=h.ro.mu b o a n c h1 h2 h3;exact ⟨OwnY.conv (E.evp B λ_ _ h=>by cases h) H,λg hg=>.inl ((A g).2 ⟨E.lt g hg,J g hg⟩)⟩;obtain ⟨I,E⟩:=h.ro.ro b o a n c h1 h2 h3;exact ⟨I,E.step H⟩
structure Gh (p:Ren) (S:St) (w:World) (q:Ren) (S':St):Prop where
 m:q.m=p.m
 o:q.ov=p.ov
 le:Le p q
 rh:RH q S' w
 nx:S'.nx=S.nx
 h:S'.h=S.h
 df:S'.df=S.df
 lv:∀ k,k<w.heap.size→U2 p k→¬ Bk p k→U2 q k
theorem Gh.refl(h:RH p S w):Gh p S w p S:=⟨rfl,rfl,Le.refl _,h,rfl,rfl,rfl,λ_ _ h _=>h⟩
theorem Gh.trans {q r:Ren}{A:St}(h:Gh p S w q S')(k:Gh q S' w r A):Gh p S w r A:=
 ⟨k.m.trans h.m,k.o.trans h.o,h.le.trans k.le,k.rh,k.nx.trans h.nx,k.h.trans h.h,k.df.trans h.df,λi hi hl hb=>k.lv i hi (h.lv i hi hl hb) λhq=>hb (by unfold Bk at hq ⊢;rw [h.m,h.o] at hq;exact hq)⟩
theorem Gh.ch {q:Ren}(h:Gh p S w q S')(N:Nat→Prop):Ch N p w q w:=by
 have hf:∀ b,By q b↔By p b:=λb=>by unfold By;rw [h.m,h.o]
 have hb:∀ k,Bk q k↔Bk p k:=λk=>by unfold Bk;rw [h.m,h.o]
 exact ⟨h.le,λb hb=>.inl λhp=>hb ((hf b).2 hp),rfl,rfl,rfl,M1g _,λ_ _ _=>rfl,λk hk=>.inl ((hb k).1 hk),h.lv⟩
theorem Gh.free {q:Ren}(h:Gh p S w q S')(hb:By p b):By q b:=by unfold By;rw [h.m,h.o];exact hb
theorem DG:∀ {l I:List GV} {S S':St} {p:Ren} {vs:List Value} {w:World},IZ S l=some (I,S')→RVs p l vs→RH p S w→∃ q,Gh p S w q S'∧RVs q I vs
 | [],I,S,S',p,vs,w,h,hv,hh=>by cases h;exact ⟨p,Gh.refl hh,hv⟩
 | g::l,I,S,S',p,vs,w,h,hv,hh=>by
  obtain ⟨v,ws,rfl,h1,h2⟩:=hv.head;unfold IZ at h;split at h;rename_i e;cases e;rename_i b l0 e;cases e;obtain ⟨a,n,c,rfl,hp,O⟩:=h1;split at h;rename_i o ho;split at h;rename_i S1 B;split at h;rename_i r S2 hr;cases h;split at B;rename_i hm;obtain ⟨q,Y,Z,E,G,H,k6⟩:=hh.freeze ho hm hp O B;obtain ⟨s1,s2,s3,_,_⟩:=Ak B;have hg:Gh p S w q S1:=⟨Y,Z,E,G,s2,s1,s3,k6⟩
  obtain ⟨q2,A,r2⟩:=DG hr (h2.mono E) G;exact ⟨q2,hg.trans A,H.mono A.le,r2⟩;rename_i hm;cases B;obtain ⟨rfl,m2⟩:=hh.ro.ro b o a n c ho hm hp;obtain ⟨q2,A,r2⟩:=DG hr h2 hh;exact ⟨q2,A,RV.mono A.le (.ro o.t o.xs) _ ⟨a,c,rfl,m2⟩,r2⟩;cases h;cases h;cases h;rename_i b sz lo n cp l0 e;cases e;obtain ⟨a,m,c,k,hp,O,ag,ai,ad,af,rfl⟩:=h1;split at h;rename_i o ho;split at h;rename_i S1 U B;have U:=M0g U;split at h;rename_i r S2 hr;cases h;have ac:∀ {q:Ren},m=o.xs.length→SlR (eT o.t) q.zw q.zM a c o.xs→RV q (.ro o.t ((o.xs.drop lo).take n)) (.slice (if lo+k=lo then a else a.map (·.add (lo*sz))) n k):=λ{q} hm hs=>by
   have:=hs.cut lo (lo+n) (lo+k) (by omega) (by omega) (by omega) ad;rw [Et,←U,M2s,M2s] at this;refine ⟨_,_,?_,this⟩;rw [M1q,M2f,M2h (by omega)]
  split at B;rename_i hm;obtain ⟨q,Y,Z,E,G,H,k6⟩:=hh.freeze ho hm hp O B;obtain ⟨s1,s2,s3,_,_⟩:=Ak B;have hg:Gh p S w q S1:=⟨Y,Z,E,G,s2,s1,s3,k6⟩
  obtain ⟨q2,A,r2⟩:=DG hr (h2.mono E) G;obtain ⟨a',c',J,H⟩:=H;cases J;exact ⟨q2,hg.trans A,(ac rfl H).mono A.le,r2⟩;rename_i hm;cases B;obtain ⟨J,m2⟩:=hh.ro.ro b o a m c ho hm hp;obtain ⟨q2,A,r2⟩:=DG hr h2 hh;exact ⟨q2,A,(ac J m2).mono A.le,r2⟩;cases h;cases h;cases h;rename_i g' l0 hne ah e;cases e;split at h;rename_i r S2 hr;cases h;obtain ⟨q2,A,r2⟩:=DG hr h2 hh;exact ⟨q2,A,h1.mono A.le,r2⟩;cases h
def Ren.seto (p:Ren) (b:Nat) (x:Option Addr×Nat×Nat):Ren:={ p with ov:=λi=>if i=b then some x else p.ov i }
theorem M4l (p:Ren)(b:Nat)(x:Option Addr×Nat×Nat):(p.seto b x).ov b=some x:=by simp [Ren.seto]
theorem M4s{i:Nat}{x:Option Addr×Nat×Nat}(h:i≠b):(p.seto b x).ov i=p.ov i:=by simp [Ren.seto,h]
theorem M4J{x:Option Addr×Nat×Nat}(h:p.ov b=none):Le p (p.seto b x):=⟨λ_ _ h=>h,λi y hy=>by
 by_cases e:i=b;subst e;rw [h] at hy;cases hy
 rw [M4s e];exact hy,Stp.sub _ λ_ h=>h⟩
theorem RH.newO(h:RH p S w){name:Nat}{a':Option Addr}{n' c':Nat}{Ao:List Nat}{dr:Nat→Prop}(hn:By p name)(hx:name<S.nx)(hm:o.mu=true)
  (ai:S'.h=S.h)(aD:S'.nx=S.nx)(au:∀ j o',S'.ow.get j=some o'→(j=name∧o'=o)∨(j≠name∧¬ dr j∧S.ow.get j=some o'))(aC:∀ o',S'.ow.get name=some o'→o'=o)
  (ag:∀ g∈Ao,∃ b A y,dr b∧S.ow.get b=some A∧A.mu=true∧p.ov b=some y∧g∈Av y.1)(U:Ev Ao w w')
  (az:OwnY p o.t o.T w' a' n' c' o.xs)(hb:∀ g∈Av a',g∈Ao∨w.heap.size≤g) :
  RH (p.seto name (a',n',c')) S' w'∧Ch (· = name) p w (p.seto name (a',n',c')) w':=by
 have ao:=M4J (x:=(a',n',c')) hn.2;have an:∀ j B y,S.ow.get j=some B→B.mu=true→p.ov j=some y→¬ dr j→∀ g∈Av y.1,g∉Ao:=λj B y h1 h2 h3 E g hg ah=>by
  obtain ⟨b,A,H,d1,d2,d3,J,O⟩:=ag g ah;have:=h.ro.inj j b B A y H h1 d2 h2 d3 h3 J g hg O;subst this;exact E d1
 have aw:∀ j B y,S.ow.get j=some B→B.mu=true→p.ov j=some y→∀ g∈Av y.1,g<w.heap.size:=λj B y h1 h2 h3=>(h.ro.mu j B y.1 y.2.1 y.2.2 h1 h2 h3).1.lt
 have ax:∀ b x,p b=some x→S.h.get b≠none→x.1∉Ao:=λb x h1 h2 ah=>by
  obtain ⟨b',A,H,d1,d2,d3,J,O⟩:=ag _ ah;exact h.ro.sep b' A H b x d2 d3 J h1 h2 O
 have av:∀ g∈Ao,U2 p g:=λg ah=>by
  obtain ⟨b',A,H,d1,d2,d3,J,O⟩:=ag _ ah;exact (h.ro.mu b' A H.1 H.2.1 H.2.2 d2 d3 J).2 g O
 have aj:∀ j B y,S'.ow.get j=some B→B.mu=true→(p.seto name (a',n',c')).ov j=some y→(j=name∧B=o∧y=(a',n',c'))∨(j≠name∧¬ dr j∧S.ow.get j=some B∧p.ov j=some y):=λj B y h1 h2 h3=>by
  rcases au j B h1 with ⟨rfl,rfl⟩|⟨e1,e2,G⟩;rw [M4l] at h3;cases h3;exact .inl ⟨rfl,rfl,rfl⟩
  rw [M4s e1] at h3;exact .inr ⟨e1,e2,G,h3⟩
 refine ⟨⟨λb r base n g h1 h2=>?_,λb b' x x' h1 h2 h3 E=>h.inj b b' x x' h1 h2 (by rw [←ai];exact h3) (by rw [←ai];exact E),λb x h1=>M1D (h.lt b x h1) U.size,λb ar=>?_,?_,h.gl.mono ao⟩,⟨ao,λb ar=>?_,U.os,U.tape,U.output,U.size,λk hk ho=>U.block k hk λay=>?_,λk hk=>?_,λ_ _ h _=>h⟩⟩;rw [ai] at h2;exact (h.at_ b r base n g h1 h2).mono ao (U.block r (h.lt b _ h1) (ax b _ h1 (by rw [h2];simp)))
 have:=h.fr b (by omega);exact ⟨this.1,by rw [M4s (by omega)];exact this.2⟩;refine ⟨?_,λb x h1 h2=>h.ro.zl b x h1 (by rw [←ai];exact h2),λb A a n c h1 h2 h3=>?_,λb A a n c h1 h2 h3=>?_,λZ I o1 o2 y y' h1 h2 h3 E h5 h6 g hg am=>?_,λZ o1 y I x h1 h2 h3 E h5 hm=>?_⟩;have:Stp p.zM p.zw (p.zM++Ao) w:=⟨h.ro.zev,λb hb=>(M1b.1 hb).elim .inl λhb=>av b hb⟩
 exact (Stp.trans this (Stp.same U (λb hb=>M1z _ hb))).ev;rcases aj b A _ h1 h2 h3 with ⟨rfl,rfl,e⟩|⟨e1,e2,G,Y⟩;cases e;refine ⟨az,λg hg=>?_⟩;rcases hb g hg with e|e
 exact av g e;exact .inr (M1B h.ro.zev.size e);obtain ⟨m2,m3⟩:=h.ro.mu b A a n c G h2 Y;exact ⟨m2.evp U (an b A _ G h2 Y e2),m3⟩;rcases au b A h1 with ⟨rfl,rfl⟩|⟨e1,e2,G⟩;rw [hm] at h2;cases h2
 rw [M4s e1] at h3;exact h.ro.ro b A a n c G h2 h3
 rcases aj Z o1 y h1 h3 h5 with ⟨rfl,rfl,rfl⟩|⟨e1,e2,G,Y⟩;rcases aj I o2 y' h2 E h6 with ⟨rfl,rfl,rfl⟩|⟨f1,f2,f3,f4⟩;rfl;rcases hb g hg with e|e;exact absurd e (an I o2 y' f3 E f4 f2 g am);have:=aw I o2 y' f3 E f4 g am;omega;rcases aj I o2 y' h2 E h6 with ⟨rfl,rfl,rfl⟩|⟨f1,f2,f3,f4⟩;rcases hb g am with e|e;exact absurd e (an Z o1 y G h3 Y e2 g hg);have:=aw Z o1 y G h3 Y g hg;omega;exact h.ro.inj Z I o1 o2 y y' G f3 h3 E Y f4 g hg am;rw [ai] at h5;rcases aj Z o1 y h1 h2 h3 with ⟨rfl,rfl,rfl⟩|⟨e1,e2,G,Y⟩
 rcases hb _ hm with e|e;exact ax I x E h5 e;have:=h.lt I x E;omega;exact h.ro.sep Z o1 y I x G h2 Y E h5 hm;by_cases e:b=name;exact .inr e;left;intro hf;exact ar ⟨hf.1,by rw [M4s e];exact hf.2⟩;obtain ⟨b',A,H,d1,d2,d3,J,O⟩:=ag _ ay;exact ho (.inr ⟨b',H,J,O⟩);rcases hk with ⟨b,y,h1,h2⟩|⟨b,y,h1,h2⟩;exact .inl (.inl ⟨b,y,h1,h2⟩);by_cases e:b=name;subst e;rw [M4l] at h1;cases h1;rcases hb k h2 with e|e
 obtain ⟨b',A,H,d1,d2,d3,J,O⟩:=ag _ e;exact .inl (.inr ⟨b',H,J,O⟩);exact .inr e;rw [M4s e] at h1;exact .inl (.inr ⟨b,y,h1,h2⟩)
end
section
variable {p:Ren}{S S':St}{w:World}{o:JC}{a:Option Addr}{n c:Nat}
theorem RH.updO{w':World}(h:RH p S w){b:Nat}{xs':List o.t.den}(ho:S.ow.get b=some o)(hm:o.mu=true)(hp:p.ov b=some (a,n,c))
  (I:S'.h=S.h)(an:S'.nx=S.nx)(ai:∀ j,S'.ow.get j=if j=b then some ⟨o.t,o.T,xs',true⟩ else S.ow.get j)(A:Ev (Av a) w w')(aj:OwnY p o.t o.T w' a n c xs') :
  RH p S' w'∧Ch (λ_=>False) p w p w':=by
 obtain ⟨m2,m3⟩:=h.ro.mu b o a n c ho hm hp;have al:∀ b' x,p b'=some x→S.h.get b'≠none→x.1∉Av a:=λb' x h1 h2=>h.ro.sep b o _ b' x ho hm hp h1 h2
 have old:∀ {j B},S'.ow.get j=some B→(j=b∧B=⟨o.t,o.T,xs',true⟩)∨(j≠b∧S.ow.get j=some B):=λ{j B} h1=>by
  rw [ai] at h1;split at h1;rename_i e;cases h1;exact .inl ⟨e,rfl⟩;rename_i e;exact .inr ⟨e,h1⟩
 have ab:∀ {j B},S'.ow.get j=some B→B.mu=true→∃ ad,S.ow.get j=some ad∧ad.mu=true:=λ{j B} h1 h2=>by
  rcases old h1 with ⟨rfl,rfl⟩|⟨_,e⟩;exact ⟨o,ho,hm⟩;exact ⟨B,e,h2⟩
 refine ⟨⟨λb' r base n' g h1 h2=>?_,λE G x x' h1 h2 h3 H=>h.inj E G x x' h1 h2 (by rw [←I];exact h3) (by rw [←I];exact H),λb' x h1=>M1D (h.lt b' x h1) A.size,λb' hb=>h.fr b' (by omega),?_,h.gl⟩,⟨Le.refl _,λ_ h=>.inl h,A.os,A.tape,A.output,A.size,λk hk hb=>A.block k hk λah=>hb (.inr ⟨b,_,hp,ah⟩),λk hk=>.inl hk,λ_ _ h _=>h⟩⟩;rw [I] at h2;exact (h.at_ b' r base n' g h1 h2).mono (Le.refl _) (A.block r (h.lt b' _ h1) (al b' _ h1 (by rw [h2];simp)))
 refine ⟨?_,λb' x h1 h2=>h.ro.zl b' x h1 (by rw [←I];exact h2),λb' O a' n' c' h1 h2 h3=>?_,λb' O a' n' c' h1 h2 h3=>?_,λE G o1 o2 y y' h1 h2 h3 H U h6 g hg af=>?_,λE o1 y G x h1 h2 h3 H U=>?_⟩;have:Stp p.zM p.zw (p.zM++Av a) w:=⟨h.ro.zev,λb hb=>(M1b.1 hb).elim .inl λhb=>m3 b hb⟩
 exact (Stp.trans this (Stp.same A (λb hb=>M1z _ hb))).ev;rcases old h1 with ⟨rfl,rfl⟩|⟨e,h1⟩;rw [hp] at h3;cases h3;exact ⟨aj,m3⟩
 obtain ⟨J,Z⟩:=h.ro.mu b' O a' n' c' h1 h2 h3;exact ⟨J.evp A λg hg ag=>e (h.ro.inj b' b O o _ _ h1 ho h2 hm h3 hp g hg ag),Z⟩;rcases old h1 with ⟨rfl,rfl⟩|⟨e,h1⟩;cases h2;exact h.ro.ro b' O a' n' c' h1 h2 h3;obtain ⟨aa,Y,J⟩:=ab h1 h3;obtain ⟨am,Z,k4⟩:=ab h2 H;exact h.ro.inj E G aa am y y' Y Z J k4 U h6 g hg af;obtain ⟨aa,Y,J⟩:=ab h1 h2;exact h.ro.sep E aa y G x Y J h3 H (by rw [←I];exact U)
variable {ad:Addr}{vs:List Value}
theorem Xt{M:List Nat}(h:CellsAt w M ad vs)(off k:Nat):CellsAt w M ⟨ad.block,ad.off+off,none⟩ ((vs.drop off).take k):=by
 refine ⟨rfl,h.2,h.lt,λj v hv=>?_⟩;rw [M1r] at hv;split at hv;rw [M1C] at hv;have:=h.at_ _ v hv;rw [←M1P] at this;exact this
 cases hv
variable {P:Program}{t off:Nat}{l:List GV}{g:GV}
theorem Q8(h:part P t l off=some g)(hv:RVs p l vs)(B:CellsAt w [] ad vs) :
  ∃ v,(Instr.loadAt t (.pointer (some ⟨ad.block,ad.off+off,none⟩))).run P w=.ok v w∧RV p g v:=by
 unfold part at h;split at h;rename_i A;split at h;rename_i k hk;obtain ⟨m,h1,rfl⟩:=M01.1 h;obtain ⟨rfl,h2⟩:=HW h1;have h3:=(hv.drop off).take k;have hl:((vs.drop off).take k).length=k:=by rw [h3.length,h2]
 exact ⟨_,OZ (Mo:=[]) (λw=>⟨CW A w,by rw [hl];exact AL hk w⟩) (Xt B off k) (λ_ h=>h) w (Ev.refl _ _),_,rfl,h3⟩;cases h;rename_i A;obtain ⟨v,h2,h3⟩:=hv.get h;refine ⟨v,?_,h3⟩;simp only [Instr.loadAt,Instr.sureAddr];show (loadVar t ⟨ad.block,ad.off+off,none⟩).run P w=_
 unfold loadVar;rw [run_bind,CW A];have:=B.at_ off v h2;simp [Go.load,Sem.run,this];cases h
variable {α:Type}{T:TypeId}{i:Nat}{xs:List α}
theorem Zz{e:Enc α}(hp:e.Plain){g:Nat}{x y:α}(h:OwnS e T w [] (some ⟨g,0,none⟩) c xs)(U:xs[i]? = some x)(h1:∀ v∈vs,v.oneCell'=true)(hl:off+vs.length≤e.n)
  (hy:∀ cs,e.R w [] cs x→(∀ k v,cs[k]? = some v→(w.cell? ⟨g,i*e.n+k,none⟩)=some v)→e.R w [] (cs.take off++(vs++cs.drop (off+vs.length))) y) :
  ∃ w',(storeCells ⟨g,i*e.n+off,none⟩ vs).run P w=.ok () w'∧Ev [g] w w'∧OwnS e T w' [] (some ⟨g,0,none⟩) c (xs.set i y):=by
 rcases h with ⟨hh,_⟩|⟨g',A,ad,hg,h3,h4,h5,O⟩;cases hh;cases ad;have hi:i<xs.length:=(M09.1 U).1;have ac:(i+1)*e.n≤A.size:=by rw [h5];exact M1S _ (by omega)
 rw [M2p,M3z] at ac;have hr:=Bt P g (i*e.n+off) T (0,0) vs 0 A w hg (.inl rfl) (by omega) h1;simp only [M1M] at hr;refine ⟨_,hr,⟨rfl,rfl,rfl,by simp [World.setRow],λk _ hk=>setRow_other w g k _ (by simpa using hk)⟩,.inr ⟨g,_,rfl,setRow_heap w g A _ T _ hg,by simpa using h3,h4,?_,λj z B=>?_⟩⟩
 simp only [M2e,M1l,M1q,M2f,M1u];omega;obtain ⟨cs,I,E⟩:=O i x U;have ah:=e.len I;have key:∀ q:Nat,(q<i*e.n+off∨i*e.n+off+vs.length≤q)→(A.toList.take (i*e.n+off)++vs++A.toList.drop (i*e.n+off+vs.length)).toArray[q]? = A[q]?:=λq hq=>by
  rw [M26];rcases hq with hq|hq
  rw [M20,M1f (by rw [M1q,M1u];omega),M1r,M1d hq];simp;have H:(A.toList.take (i*e.n+off)++vs).length=i*e.n+off+vs.length:=by rw [M1l,M1q,M1u,M2h (by omega)]
  rw [M1a (by omega),M1C,H,show i*e.n+off+vs.length+(q-(i*e.n+off+vs.length))=q by omega];simp
 by_cases G:j=i;subst G;rw [M2Q hi] at B;cases B;refine ⟨_,hp _ _ _ _ _ _ (hy cs I λk v hk=>by rw [Af hg];exact E k v hk),λk v hk=>?_⟩
 by_cases k1:k<off;rw [M1f (by rw [M1q];omega),M1r,M1d k1] at hk;rw [key _ (.inl (by omega))];exact E k v hk
 rw [M1a (by rw [M1q];omega),M1q,M2h (by omega)] at hk;by_cases Y:k-off<vs.length;rw [M1f Y] at hk;have H:(A.toList.take (j*e.n+off)).length=j*e.n+off:=by rw [M1q,M1u,M2h (by omega)]
 rw [M26,M20,M1a (by omega),H,show j*e.n+k-(j*e.n+off)=k-off by omega,M1f Y];exact hk;rw [M1a (by omega),M1C,show off+vs.length+(k-off-vs.length)=k by omega] at hk;rw [key _ (.inr (by omega))];exact E k v hk
 rw [List.getElem?_set_ne (M40 G)] at B;obtain ⟨ds,J,Z⟩:=O j z B;refine ⟨ds,hp _ _ _ _ _ _ J,λk v hk=>?_⟩;have ai:k<e.n:=by rw [←e.len J];exact (M09.1 hk).1
 rw [key _ ?_];exact Z k v hk;rcases Nat.lt_or_gt_of_ne G with aj|hgt;left;have:=M1S e.n (show j+1≤i by omega);rw [M2p,M3z] at this;omega
 right;have:=M1S e.n (show i+1≤j by omega);rw [M2p,M3z] at this;omega
theorem Xv{e:Enc α}(hp:e.Plain){g:Nat}{x y:α}(h:iJ e w [] (some ⟨g,0,none⟩) c xs)(Y:xs[i]? = some x)(h1:∀ v∈vs,v.oneCell'=true)(hl:off+vs.length≤e.n)
  (hy:∀ cs,e.R w [] cs x→(∀ k v,cs[k]? = some v→(w.cell? ⟨g,i*e.n+k,none⟩)=some v)→e.R w [] (cs.take off++(vs++cs.drop (off+vs.length))) y) :
  ∃ w',(storeCells ⟨g,i*e.n+off,none⟩ vs).run P w=.ok () w'∧Ev [g] w w'∧iJ e w' [] (some ⟨g,0,none⟩) c (xs.set i y):=by
 rcases h with ⟨hh,_⟩|⟨g',A,T,fz,ae,hg,B,h3,h4,h5,U⟩;cases hh;cases ae;have hi:i<xs.length:=(M09.1 Y).1;have ad:(i+1)*e.n≤A.size:=by rw [h5];exact M1S _ (by omega)
 rw [M2p,M3z] at ad;have hr:=Bt P g (i*e.n+off) T fz vs 0 A w hg (B.imp id id) (by omega) h1;simp only [M1M] at hr;refine ⟨_,hr,⟨rfl,rfl,rfl,by simp [World.setRow],λk _ hk=>setRow_other w g k _ (by simpa using hk)⟩,.inr ⟨g,_,T,fz,rfl,setRow_heap w g A _ T _ hg,B.imp id λB=>M1B (M1O (by simp only [M2e,M1l,M1q,M2f,M1u];omega)) B,by simpa using h3,h4,?_,λj z E=>?_⟩⟩
 simp only [M2e,M1l,M1q,M2f,M1u];omega;obtain ⟨cs,J,G⟩:=U i x Y;have ai:=e.len J;have key:∀ q:Nat,(q<i*e.n+off∨i*e.n+off+vs.length≤q)→(A.toList.take (i*e.n+off)++vs++A.toList.drop (i*e.n+off+vs.length)).toArray[q]? = A[q]?:=λq hq=>by
  rw [M26];rcases hq with hq|hq
  rw [M20,M1f (by rw [M1q,M1u];omega),M1r,M1d hq];simp;have I:(A.toList.take (i*e.n+off)++vs).length=i*e.n+off+vs.length:=by rw [M1l,M1q,M1u,M2h (by omega)]
  rw [M1a (by omega),M1C,I,show i*e.n+off+vs.length+(q-(i*e.n+off+vs.length))=q by omega];simp
 by_cases H:j=i;subst H;rw [M2Q hi] at E;cases E;refine ⟨_,hp _ _ _ _ _ _ (hy cs J λk v hk=>by rw [Af hg];exact G k v hk),λk v hk=>?_⟩
 by_cases k1:k<off;rw [M1f (by rw [M1q];omega),M1r,M1d k1] at hk;rw [key _ (.inl (by omega))];exact G k v hk
 rw [M1a (by rw [M1q];omega),M1q,M2h (by omega)] at hk;by_cases Z:k-off<vs.length;rw [M1f Z] at hk;have I:(A.toList.take (j*e.n+off)).length=j*e.n+off:=by rw [M1q,M1u,M2h (by omega)]
 rw [M26,M20,M1a (by omega),I,show j*e.n+k-(j*e.n+off)=k-off by omega,M1f Z];exact hk;rw [M1a (by omega),M1C,show off+vs.length+(k-off-vs.length)=k by omega] at hk;rw [key _ (.inr (by omega))];exact G k v hk
 rw [List.getElem?_set_ne (M40 H)] at E;obtain ⟨ds,O,d2⟩:=U j z E;refine ⟨ds,hp _ _ _ _ _ _ O,λk v hk=>?_⟩;have aj:k<e.n:=by rw [←e.len O];exact (M09.1 hk).1
 rw [key _ ?_];exact d2 k v hk;rcases Nat.lt_or_gt_of_ne H with ak|hgt;left;have:=M1S e.n (show j+1≤i by omega);rw [M2p,M3z] at this;omega
 right;have:=M1S e.n (show i+1≤j by omega);rw [M2p,M3z] at this;omega
theorem Xx{e:Enc α}(hp:e.Plain){g:Nat}{x y:α}(h:OwnX e T w [] (some ⟨g,0,none⟩) c xs)(A:xs[i]? = some x)(h1:∀ v∈vs,v.oneCell'=true)(hl:off+vs.length≤e.n)
  (hy:∀ cs,e.R w [] cs x→(∀ k v,cs[k]? = some v→(w.cell? ⟨g,i*e.n+k,none⟩)=some v)→e.R w [] (cs.take off++(vs++cs.drop (off+vs.length))) y) :
  ∃ w',(storeCells ⟨g,i*e.n+off,none⟩ vs).run P w=.ok () w'∧Ev [g] w w'∧OwnX e T w' [] (some ⟨g,0,none⟩) c (xs.set i y):=by
 obtain ⟨B,r1,r2,r3⟩:=Xv (P:=P) hp h.1 A h1 hl hy;refine ⟨B,r1,r2,r3,λht=>?_⟩;obtain ⟨E,s1,s2,s3⟩:=Zz (P:=P) hp (h.2 ht) A h1 hl hy;rw [r1] at s1;cases s1;exact s3
variable {β:Type}
theorem M4u {A:Type}{d:Dec β}{K:β→Option A}{r:A}(h:d.run K=some r):∃ b,d.run some=some b∧K b=some r:=by
 cases d with
 | no=>cases h
 | ret b=>exact ⟨b,rfl,h⟩
 | chk c b=>cases c with
  | true=>exact ⟨b,rfl,h⟩
  | false=>cases h
 | two c a b=>cases c with
  | true=>exact ⟨a,rfl,h⟩
  | false=>exact ⟨b,rfl,h⟩
 | opt o k=>cases o with
  | none=>cases h
  | some x=>
   simp only [Dec.run,M2O] at h ⊢;split at h;rename_i b hb;exact ⟨b,by simp only [hb],h⟩;cases h
variable {b:β}
theorem A4:(Dec.no:Dec β).run some=some b↔False:=⟨λh=>(by cases h),λh=>h.elim⟩
theorem Az{a:β}:(Dec.ret a).run some=some b↔a=b:=⟨λh=>(by cases h;rfl),λh=>(by rw [h];rfl)⟩
theorem As{c:Bool}{a:β}:(Dec.chk c a).run some=some b↔c=true∧a=b:=by
 cases c <;> simp [Dec.run]
theorem E6{c:Bool}{a a':β}:(Dec.two c a a').run some=some b↔(c=true∧a=b)∨(c=false∧a'=b):=by
 cases c <;> simp [Dec.run]
theorem AI{o:Option α}{k:α→Option β}:(Dec.opt o k).run some=some b↔∃ x,o=some x∧k x=some b:=by
 cases o with
 | none=>simp [Dec.run]
 | some x=>
  simp only [Dec.run,M2O];cases hk:k x <;> simp [hk]
theorem run_of{o:Option β}:(Dec.of o).run some=some b↔o=some b:=by
 cases o <;> simp [Dec.of,Dec.run]
theorem BO {B:Type}{d:Dec β}{f:β→B}{c:B}:(d.on f).run some=some c↔∃ b,d.run some=some b∧f b=c:=by
 cases d with
 | no=>simp [Dec.on,A4]
 | ret b=>simp [Dec.on,Az]
 | chk c b=>simp only [Dec.on,As];exact ⟨λ⟨h1,h2⟩=>⟨b,⟨h1,rfl⟩,h2⟩,λ⟨_,⟨h1,h2⟩,h3⟩=>⟨h1,by rw [h2];exact h3⟩⟩
 | two c a b=>
  simp only [Dec.on,E6];cases c <;> simp
 | opt o k=>
  simp only [Dec.on,AI];constructor;rintro ⟨x,h1,h2⟩;obtain ⟨b,h3,A⟩:=M01.1 h2;exact ⟨b,⟨x,h1,h3⟩,A⟩;rintro ⟨b,⟨x,h1,h3⟩,A⟩;exact ⟨x,h1,by rw [h3];exact M1t some A⟩
theorem ZA {P:Program}{d:Nat}{r1 r2:TypeId→GV→GV→Option Bool}(hr:∀ t x y b,r1 t x y=some b→r2 t x y=some b){xs ys:List GV}:∀ {A:List Field} {b:Bool},Zu P r1 xs ys A=some b→Ub P r2 xs ys A=some b
 | [],b,h=>by cases h;rfl
 | [f],b,h=>by
  unfold Zu at h;unfold Ub
  split at h;cases h;rename_i hn;rw [M1e hn];split at h;rename_i x y h1 h2;rw [h1,h2];have h3:=hr _ _ _ _ h;simp only [h3];cases b <;> rfl
  cases h
 | f::g::l,b,h=>by
  unfold Zu at h;unfold Ub
  split at h;cases h;rename_i hn;rw [M1e hn];split at h;rename_i x y h1 h2;rw [h1,h2];split at h;rename_i a c h3 B;cases h;simp only [hr _ _ _ _ h3];cases a with
  | true=>rw [ZA (d:=d) hr B];rfl
  | false=>rfl
  cases h;cases h
theorem ZB {P:Program}:∀ (d t:Nat) (x y:GV) (b:Bool),yEq P d t x y=some b→iy P d t x y=some b
 | 0,t,x,y,b,h=>by cases h
 | d+1,t,x,y,b,h=>by
  unfold yEq at h;split at h;rename_i B xs ys A;unfold iy;rw [A];simp only;split at h;cases h;rename_i hn;rw [M1e hn];exact ZA (d:=d) (ZB d) h;exact h
variable {x:GV}
theorem yT{op:BinOp}{t:TypeId}{y:GV}(h:(bin P op t x y).run some=some g):HT P op t x y=some g:=by
 unfold bin at h;split at h;rename_i k a k' b;split at h;split at h;rename_i hk;subst hk;obtain ⟨h1,rfl⟩:=As.1 h;have:¬ b=0:=by simpa using h1
 simp [HT,DY,this,JD];exact (A4.1 h).elim;split at h;rename_i hk;subst hk;obtain ⟨h1,rfl⟩:=As.1 h;have:¬ b=0:=by simpa using h1
 simp [HT,DY,this,JD];exact (A4.1 h).elim;obtain ⟨h1,rfl⟩:=As.1 h;have:¬ b<0:=by simpa using h1
 simp [HT,DY,this,JD];obtain ⟨h1,rfl⟩:=As.1 h;have:¬ b<0:=by simpa using h1
 simp [HT,DY,this,JD];split at h;rename_i v hv;have:=run_of.1 h;simp only [HT,hv,this];exact (A4.1 h).elim;rename_i a b;split at h;obtain ⟨h1,rfl⟩:=As.1 h;have:=M18 h1;simp [HT,KG,this];have:=run_of.1 h;simp only [HT,this];rename_i xs ys;split at h;rename_i b hb;have:=Az.1 h;subst this;simp [HT,ZB _ _ _ _ _ hb];rename_i b hb;have:=Az.1 h;subst this;simp [HT,ZB _ _ _ _ _ hb];exact (A4.1 h).elim;exact run_of.1 h
theorem RH.step(h:RH p S w):Stp p.zM p.zw p.zM w:=⟨h.ro.zev,λb hb=>.inl hb⟩
variable {e:Nat}{u:Ty}
theorem RT(h:RH p S w){xs:List u.den}{x:u.den}{n:Int}(hs:SlR (eT u) p.zw p.zM a c xs)(ht:P.underlying t=some (.slice e))(B:BG P e=some u.sz)(A:idx xs n=some x) :
  ∃ v,(Instr.indexAt t (.slice a xs.length c) (.int .i64 n)).run P w=.ok v w∧RV p (.rop (inj u x) 0) v:=by
 obtain ⟨ad,cs,h1,h2,h3⟩:=Rd (P:=P) (Mo:=p.zM) (t:=t) (el:=e) ⟨ht,λw=>by rw [Et];exact AL B w⟩ hs A;exact ⟨_,h1 w h.ro.zev,ad,cs,by rw [M1M,←R9 h2.spot],h2,(C8 u x cs).2 h3⟩
variable {z:Nat}
theorem RU{g:Nat}{i:Int}(B:P.underlying t=some (.slice e))(E:BG P e=some z)(A:0≤i)(hl:i<n)(w:World) :
  (Instr.indexAt t (.slice (some ⟨g,0,none⟩) n c) (.int .i64 i)).run P w=.ok (.pointer (some ⟨g,i.toNat*z,none⟩)) w:=by
 simp only [Instr.indexAt,asIntOf,Sem.run_bind,Sem.run_pure,Result.andThen_ok,run_underlying B,A,hl,M3G,M2K,AL E];rw [AQ rfl];simp
theorem Q9{g:Nat}{i:Int}(B:P.underlying t=some (.slice e))(E:BG P e=some z)(A:0≤i)(hl:i<n)(w:World) :
  (Instr.indexAt t (.slice (some ⟨g,off,none⟩) n c) (.int .i64 i)).run P w=.ok (.pointer (some ⟨g,off+i.toNat*z,none⟩)) w:=by
 simp only [Instr.indexAt,asIntOf,Sem.run_bind,Sem.run_pure,Result.andThen_ok,run_underlying B,A,hl,M3G,M2K,AL E];rw [AQ rfl]
theorem GP{t:Ty}{xs:List t.den}{x:t.den}(h:OwnX (eZ p t) T w [] a c xs)(A:xs[i]? = some x) :
  ∃ g cs,a=some ⟨g,0,none⟩∧CellsAt w [] ⟨g,i*t.sz,none⟩ cs∧RVs p (inj t x) cs:=by
 rcases h.1 with ⟨_,_,rfl⟩|⟨g,I,H,fz,rfl,hg,J,h1,h2,h3,B⟩;simp at A;obtain ⟨cs,E,G⟩:=B i x A;refine ⟨g,cs,rfl,⟨rfl,by simp,Am hg,λk v hv=>?_⟩,(C8 t x cs).2 E⟩;rw [Af hg];have:=G k v hv;rw [show (eZ p t).n=t.sz from Et t] at this;exact this
theorem ZC(h:RH p S w){t:Ty}{g:Nat}{xs:List t.den}{x:t.den}(hs:SlR (eT t) p.zw p.zM (some ⟨g,0,none⟩) c xs)(A:xs[i]? = some x) :
  ∃ cs,CellsAt w [] ⟨g,i*t.sz,none⟩ cs∧RVs p (inj t x) cs:=by
 have hl:0<xs.length:=by have:=(M09.1 A).1;omega
 obtain ⟨h1,h2,h3,B⟩:=hs.at_ _ rfl hl;obtain ⟨cs,E,G⟩:=B i x A;have H:CellsAt p.zw p.zM ⟨g,i*t.sz,none⟩ cs:=⟨rfl,h2,h3,λk v hv=>by
  have:=G k v hv;rw [Et,M25] at this;exact this⟩
 exact ⟨cs,(H.step h.step).sub (λ_ h=>by cases h),(C8 t x cs).2 E⟩
theorem Qa{e:TypeId}(h:JS P e u=true):BG P e=some u.sz:=by
 unfold JS at h;split at h;rename_i z A;rw [A,M0g h];cases h
variable {vx:Value}
theorem OO(h:RH p S w){i:GV}{H:Value}(hg:(Cf P t S x i).run some=some g)(U:RV p x vx)(hi:RV p i H) :
  ∃ v,(Instr.indexAt t vx H).run P w=.ok v w∧RV p g v:=by
 unfold Cf at hg;split at hg;rename_i e u xs n A;split at hg;rename_i z B;split at hg;rename_i E;have E:=M0g E;subst E;obtain ⟨y,h1,h2⟩:=AI.1 hg;cases h2;obtain ⟨a,c,e1,hs⟩:=U;cases e1;have hi:H=.int .i64 n:=hi;subst hi;exact RT h hs A B h1;exact (A4.1 hg).elim;exact (A4.1 hg).elim;rename_i e b n A;split at hg;rename_i z o B ho;split at hg;rename_i E;have E:=M0g E;subst E;obtain ⟨y,h1,h2⟩:=AI.1 hg;obtain ⟨a,m,c,rfl,hp,O⟩:=U;have hi:H=.int .i64 n:=hi;subst hi;split at h2;rename_i hm;cases h2;obtain ⟨k1,k3⟩:=h.ro.mu b o a m c ho hm hp;obtain ⟨rfl,Y⟩:=k1.1 O;obtain ⟨I,hl,G⟩:=CT h1;obtain ⟨g0,cs,rfl,_,_⟩:=GP Y G;exact ⟨_,RU A B I hl w,g0,_,c,hp,by omega,by rw [M1M],O⟩;rename_i hm;cases h2;obtain ⟨rfl,Y⟩:=h.ro.ro b o a m c ho hm hp;exact RT h Y A B h1;exact (A4.1 hg).elim;exact (A4.1 hg).elim;rename_i e b sz lo n cp i A;split at hg;rename_i z o B ho;split at hg;rename_i J;simp only [M05] at J;obtain ⟨Z,aa,hm⟩:=J;have Z:=M0g Z;have aa:=M0g aa;subst Z;subst aa;obtain ⟨y,h1,h2⟩:=AI.1 hg;cases h2;obtain ⟨a,m,c,k,hp,O,ao,ap,an,am,rfl⟩:=U;have hi:H=.int .i64 i:=hi;subst hi;obtain ⟨k1,k3⟩:=h.ro.mu b o a m c ho hm hp;obtain ⟨rfl,Y⟩:=k1.1 O;obtain ⟨I,hl,G⟩:=CT h1;have ag:((o.xs.drop lo).take n).length=n:=by rw [M1q,M2f,M2h (by omega)]
 rw [ag] at hl;rw [M1r,M1d (by omega),M1C] at G;obtain ⟨g0,cs,rfl,_,_⟩:=GP Y G;rw [M1e (by omega)];refine ⟨_,by simp only [Option.map];rw [AQ rfl];exact Q9 A B I hl w,g0,_,c,hp,by omega,?_,O⟩;rw [M1M,M25,M2p]
 exact (A4.1 hg).elim;exact (A4.1 hg).elim;rename_i n e l k A;split at hg;rename_i u _;split at hg;rename_i xs J ah;simp only [M05] at J;obtain ⟨y,h1,h2⟩:=AI.1 hg;cases h2;obtain ⟨ad,vs,rfl,h3,h4⟩:=U;have hi:H=.int .i64 k:=hi;subst hi;obtain ⟨j1,_,j3⟩:=Gg u n ah h4;obtain ⟨I,hl,G⟩:=CT h1;obtain ⟨cs,m1,m2⟩:=j3 _ _ G;have B:=Qa J.1;refine ⟨.pointer (some ⟨ad.block,ad.off+k.toNat*u.sz,none⟩),?_,⟨ad.block,ad.off+k.toNat*u.sz,none⟩,cs,rfl,⟨rfl,h3.2,h3.lt,λj v hv=>?_⟩,(C8 u y cs).2 m1⟩
 have af:k<n:=by omega
 simp only [Instr.indexAt,Instr.sureAddr,asIntOf,Sem.run_bind,Sem.run_pure,Result.andThen_ok,run_underlying A,I,af,M3G,M2K,AL B,AQ,M1M];have:=h3.at_ _ v (m2 j v hv);rw [←M1P] at this;exact this
 exact (A4.1 hg).elim;exact (A4.1 hg).elim;exact HX (run_of.1 hg) U hi w
theorem ZD(h:RH p S w)(hg:Pb P t S x=some g)(E:RV p x vx):∃ v,(Instr.loadAt t vx).run P w=.ok v w∧RV p g v:=by
 unfold Pb at hg;split at hg;obtain ⟨r,base,n,hp,rfl⟩:=E;exact KJ h hg hp;obtain ⟨ad,vs,rfl,h1,h2⟩:=E;exact Q8 hg h2 ((h1.step h.step).sub (λ_ h=>by cases h));rename_i b u i off x0;split at hg;rename_i o ho;split at hg;rename_i e _;obtain ⟨ot,oT,B,Y⟩:=o;subst e;obtain ⟨g0,n,c,hp,hi,rfl,O⟩:=E;cases Y with
 | true=>
  obtain ⟨U,k3⟩:=h.ro.mu b _ _ n c ho rfl hp;obtain ⟨rfl,I⟩:=U.1 O;have A:B[i]? = some (B[i]'hi):=M00 hi;obtain ⟨Z,cs,J,G,H⟩:=GP I A;cases J;simp only [A,M1G] at hg;exact Q8 hg H G
 | false=>
  obtain ⟨rfl,I⟩:=h.ro.ro b _ _ n c ho rfl hp;have A:B[i]? = some (B[i]'hi):=M00 hi;obtain ⟨cs,G,H⟩:=ZC h I A;simp only [A,M1G] at hg;exact Q8 hg H G
 cases hg;cases hg;cases hg
theorem r8(h:RH p S w)(l:List Nat):RH p ⟨S.h,S.nx,S.df,S.ow,l⟩ w:=h.congr (λ_ _=>rfl) (M1g _) λ_ _=>rfl
theorem Xy(h:RH p S w){v:Value}(hg:HA P t S x g=some S')(hx:RV p x vx)(hv:RV p g v) :
  ∃ q w',(Instr.storeAt t vx v).run P w=.ok () w'∧RH q S' w'∧Ch (λ_=>False) p w q w':=by
 unfold HA at hg;split at hg;rename_i n b off O;split at hg;rename_i hl;obtain ⟨S1,h1,h2⟩:=M01.1 hg;cases h2;obtain ⟨r,base,m,hp,rfl⟩:=hx;obtain ⟨w',U,G,k3⟩:=Rw (P:=P) h O (M0g hl) h1 hp hv;exact ⟨p,w',U,r8 G _,k3⟩;cases hg;rename_i n b u i off x0 O;split at hg;rename_i vs S1 hl hf;obtain ⟨q,E,J⟩:=DG hf hv.ats h;have hl:=M0g hl;split at hg;rename_i o ho;split at hg;rename_i e hm _;obtain ⟨A,oT,B,ap⟩:=o;subst e;have hm:ap=true:=hm;subst hm;obtain ⟨g0,m,c,hp,hi,rfl,ai⟩:=hx;rw [←E.o] at hp;obtain ⟨U,k3⟩:=E.rh.ro.mu b _ _ m c ho rfl hp;obtain ⟨rfl,G⟩:=U.1 ai;have I:B[i]? = some (B[i]'hi):=M00 hi;simp only [I,M1G] at hg
 split at hg;rename_i l al;obtain ⟨o1,o2,rfl⟩:=Dn al;split at hg;rename_i y am;obtain ⟨s1,s2,s3,s4,s5⟩:=Ak hg;have ab:=J.length;have aj:∀ cs:List Value,RVs q (inj A B[i]) cs→cs.length=A.sz:=λcs H=>by rw [←Et];exact (eT A).len ((C8 A _ cs).1 H)
 obtain ⟨_,af,_,_,aa⟩:=GP G I;have hn:(inj A B[i]).length=A.sz:=by rw [←aa.length];exact aj af aa
 have ac:(eZ q A).n=A.sz:=Et A;obtain ⟨w',r1,r2,r3⟩:=Xx (P:=P) (e:=eZ q A) (λ_ _ _ _ _ _ h=>h) (off:=off) (vs:=v.cells.toList) G I (J.cell o2) (by rw [ac,ab];omega) (y:=y) (λcs H _=>by
  have Z:RVs q (inj A B[i]) cs:=(C8 A _ cs).2 H;have ak:=(Z.take off).append (J.append (Z.drop (off+vs.length)));obtain ⟨us,ws,Y,e2,e3⟩:=Dg A am ak;have:ws=[]:=M1F.1 (by have:=e3.length;simpa using this);subst this;rw [M1w] at Y;rw [ab];show (eT A).R q.zw q.zM _ y
  rw [Y];exact e2)
 rw [ac] at r1;obtain ⟨m1,m2⟩:=E.rh.updO (xs':=B.set i y) ho rfl hp s1 s2 s5 r2 (by have:=r3.y;rwa [M2x] at this);refine ⟨q,w',?_,m1,(E.ch _).trans m2⟩;simp only [Instr.storeAt,Instr.sureAddr];show (storeVar t ⟨g0,i*A.sz+off,none⟩ v).run P w=_
 unfold storeVar;rw [run_bind,AL O];simp only;rw [M1e (by have:=hv.ats.length;rw [M1u] at this;omega)];exact r1;cases hg;cases hg;cases hg;cases hg;cases hg;cases hg
variable {ty:Nat}
theorem HF(A:P.underlying t=some (.slice e))(w:World):(Builtin.len_ #[t] ty #[.slice a n c]).run P w=.ok (.int .i64 n) w:=by
 simp only [Builtin.len_];show Sem.run P (underlying t >>= _) w=_
 rw [run_bind,run_underlying A];rfl
theorem RH.ownlen(h:RH p S w){b:Nat}(ho:S.ow.get b=some o)(hp:p.ov b=some (a,n,c))(A:c≤maxLen):n=o.xs.length:=by
 cases hm:o.mu with
 | true=>exact ((h.ro.mu b o a n c ho hm hp).1.1 A).1
 | false=>exact (h.ro.ro b o a n c ho hm hp).1
theorem iY(h:RH p S w){n:Int}(hl:Xp P t S x=some n)(B:RV p x vx):(Builtin.len_ #[t] ty #[vx]).run P w=.ok (.int .i64 n) w:=by
 unfold Xp at hl;split at hl;rename_i e u xs A;cases hl;obtain ⟨a,c,G,hs⟩:=B;cases G;exact HF A w;rename_i e b A;obtain ⟨o,ho,rfl⟩:=M01.1 hl;obtain ⟨a,m,c,rfl,hp,E⟩:=B;rw [h.ownlen ho hp E];exact HF A w;rename_i e b sz lo n' cp A;cases hl;obtain ⟨a,m,c,k,hp,E,J,O,I,H,rfl⟩:=B;exact HF A w;split at hl;rename_i m h1;cases hl;exact Zk h h1 B;cases hl
theorem I8(h:JS P e u=true):BG P e=some u.sz:=by
 unfold JS at h;split at h;rename_i z A;rw [A,M0g h];cases h
theorem M1{r:List α}{l h:Int}(hs:sub xs l h=some r):0≤l∧l≤h∧h≤xs.length∧r=(xs.drop l.toNat).take (h.toNat-l.toNat):=by
 unfold sub at hs;split at hs;rename_i A;cases hs;exact ⟨A.1,A.2.1,A.2.2,rfl⟩;cases hs
theorem Qb {x:Option GV}{d m:Nat}{n:Int}(h:DT x d=some n)(A:0≤n)(h1:n≤m):C4 x d m=some n.toNat:=by
 unfold DT at h;split at h;cases h;unfold C4;simp only;rw [M1d (by omega)];simp;cases h;unfold C4;simp only;rw [M1d ⟨A,h1⟩];cases h
variable {lo hi:Option GV}{A:Int}
theorem Qc{len:Nat}{E B:Option Value}{l:Int}(U:P.underlying t=some (.slice e))(hz:BG P e=some z)(hl:DT lo 0=some l)(O:DT hi len=some A)(I:0≤l)(h1:l≤A)(h2:A≤len)(h3:len≤c)
  (Z:RO p lo E)(Y:RO p hi B)(w:World):(Instr.sliceAt t (.slice a len c) E B none).run P w=.ok (.slice (if c=l.toNat then a else a.map (·.add (l.toNat*z))) (A.toNat-l.toNat) (c-l.toNat)) w:=by
 have G:=Qb (m:=len) O (by omega) h2;have H:=Qb (d:=0) (m:=A.toNat) hl I (by omega);obtain ⟨J,_,_⟩:=HZ (P:=P) (isS:=true) G H Z Y h3 w;simp only [Instr.sliceAt,Instr.slice,Sem.run_bind,run_underlying U,Result.andThen_ok,J,AL hz,Sem.run_pure]
theorem ZE{xs r:List u.den}{G E:Option Value}{l:Int}(hs:SlR (eT u) p.zw p.zM a c xs)(I:P.underlying t=some (.slice e))(U:BG P e=some u.sz)(hl:DT lo 0=some l)(H:DT hi xs.length=some A)(hr:sub xs l A=some r)
  (O:RO p lo G)(J:RO p hi E)(w:World):∃ v,(Instr.sliceAt t (.slice a xs.length c) G E none).run P w=.ok v w∧RV p (.ro u r) v:=by
 obtain ⟨B,h1,h2,rfl⟩:=M1 hr;refine ⟨_,Qc I U hl H B h1 h2 hs.le O J w,?_⟩;have:=hs.cut l.toNat A.toNat c (by omega) (by omega) (by have:=hs.le;omega) (M1g _);rw [Et] at this;exact ⟨_,_,by rw [iE B h1 h2],this⟩
theorem Uq{x:Option GV}{d n:Int}{v:Option Value}(h:DT x d=some n)(_:True)(hv:RO p x v):∃ o:Option Int,v=o.map (.int .i64 ·)∧((o=none∧n=d)∨o=some n):=by
 unfold DT at h;split at h;cases h;cases v with
 | none=>exact ⟨none,rfl,.inl ⟨rfl,rfl⟩⟩
 | some _=>exact hv.elim
 cases h;cases v with
 | none=>exact hv.elim
 | some v=>
  have hv:v=.int .i64 _:=hv;subst hv;exact ⟨some _,rfl,.inr rfl⟩
 cases h
theorem Xz(h:RH p S w){name:Nat}{mx:Option GV}{ap ao vmx:Option Value}(hg:(CI P name t S x lo hi mx).run some=some (g,S'))(H:RV p x vx)(U:RO p lo ap)(J:RO p hi ao)(Z:RO p mx vmx)(hn:By p name)(aF:name<S.nx) :
  Giv P (· = name) p w (Instr.sliceAt t vx ap ao vmx) g S':=by
 have an:∀ {vmx},RO p none vmx→vmx=none:=λ{vmx} h=>by cases vmx with|none=>rfl|some _=>exact h.elim
 have fz:∀ {e:Nat} {b:Nat} {u:Ty} {xs:List u.den} {S1:St} {l A:Int},P.underlying t=some (.slice e)→IZ S [.own b]=some ([.ro u xs],S1)→JS P e u=true→DT lo 0=some l→DT hi xs.length=some A→(∃ r,sub xs l A=some r∧(GV.ro u r,S1)=(g,S'))→RV p (.own b) vx→vmx=none→
   Giv P (· = name) p w (Instr.sliceAt t vx ap ao vmx) g S':=λ{e b u xs S1 l A} E hf G hl B ⟨r,hr,O⟩ H hm=>by
  cases O;subst hm;obtain ⟨q,aj,hv⟩:=DG (p:=p) (vs:=[vx]) hf ⟨H,trivial⟩ h;obtain ⟨a,c,e2,hs⟩:=(hv:RV q (.ro u xs) vx∧RVs q [] []).1;cases e2;have ro:∀ {o v},RO p o v→RO q o v:=λ{o v} h=>by
   cases o <;> cases v <;> first | exact h | exact RV.mono aj.le _ _ h
  obtain ⟨v,k1,Y⟩:=ZE (P:=P) (p:=q) hs E (I8 G) hl B hr (ro U) (ro J) w;exact ⟨q,v,w,k1,Y,aj.rh,aj.ch _⟩
 unfold CI at hg;split at hg;rename_i s E;cases an Z;split at hg;rename_i l A hl B;obtain ⟨r,h1,h2⟩:=AI.1 hg;cases h2;obtain ⟨k0,k1,Y,rfl⟩:=M1 h1;have:ED P t S (.str s) lo hi none=some (.str ((s.drop l.toNat).take (A.toNat-l.toNat))):=by
  unfold ED;rw [E];simp only [Qb B (by omega) Y,Qb (m:=A.toNat) (d:=0) hl k0 (by omega)]
 obtain ⟨v,j1,j2⟩:=KM (P:=P) h this H U J (vmx:=none) trivial;exact M4p h j1 j2;exact (A4.1 hg).elim;rename_i e u xs E;cases an Z;split at hg;rename_i l A G hl B;obtain ⟨r,h1,h2⟩:=AI.1 hg;cases h2;obtain ⟨a,c,e2,hs⟩:=H;cases e2;obtain ⟨v,k1,Y⟩:=ZE (P:=P) hs E (I8 G) hl B h1 U J w;exact M4p h k1 Y;exact (A4.1 hg).elim
 ·rename_i e b mx E;split at hg
  ·rename_i o ho;split at hg
   ·rename_i l aB A m hc hl aO aQ;rw [M05] at hc;obtain ⟨hm,G⟩:=hc;obtain ⟨hb,O⟩:=As.1 hg;cases O;simp only [M05,M2R] at hb;obtain ⟨b0,b1,b2,b3⟩:=hb;obtain ⟨a,n,c,rfl,hp,I⟩:=H;obtain ⟨m1,m3⟩:=h.ro.mu b o a n c ho hm hp;obtain ⟨rfl,m2⟩:=m1.1 I;have ar:=m2.le;have i1:=Uq (x:=lo) (d:=0) (n:=l) (by assumption) trivial U;have i2:=Uq (x:=some aB) (d:=0) (n:=A) (by assumption) trivial J;have i3:=Uq (x:=some mx) (d:=0) (n:=m) (by assumption) trivial Z;obtain ⟨li,rfl,aD⟩:=i1;obtain ⟨aA,rfl,az⟩:=i2;obtain ⟨mi,rfl,aE⟩:=i3;have ai:Bg li 0=l:=by rcases aD with ⟨rfl,rfl⟩|rfl <;> rfl
    obtain ⟨rfl⟩:aA=some A:=by rcases az with ⟨rfl,_⟩|h' <;> first | (exact J.elim) | exact h'
    obtain ⟨rfl⟩:mi=some m:=by rcases aE with ⟨rfl,_⟩|h' <;> first | (exact Z.elim) | exact h'
    have hr:=Rj (P:=P) (Mo:=[]) (w:=w) (t:=t) (el:=e) (n:=o.t.sz) ⟨E,λw=>AL (I8 G) w⟩ a o.xs.length c li (some A) (some m) (by simp) (by rw [ai];exact b0) (by rw [ai];exact b1) (by exact b2) (by show m≤c;omega) w (Ev.refl _ _);refine M4p h hr ⟨a,_,c,m.toNat-l.toNat,hp,I,by omega,by omega,by omega,.inl rfl,?_⟩;rw [ai];show Value.slice (if m.toNat=l.toNat then a else a.map (·.add (l.toNat*o.t.sz))) (A.toNat-l.toNat) (m.toNat-l.toNat)=_
    congr 1;by_cases e:m.toNat=l.toNat;rw [M1d e,M1d (by omega)];rw [M1e e,M1e (by omega)]
   exact (A4.1 hg).elim
  exact (A4.1 hg).elim
 rename_i e b E;cases an Z;split at hg;rename_i o ho;split at hg;rename_i x0 hm;split at hg;rename_i l A G hl B;obtain ⟨hb,O⟩:=As.1 hg;cases O;simp only [M05,M2R] at hb;obtain ⟨b0,b1,b2⟩:=hb;obtain ⟨a,n,c,rfl,hp,I⟩:=H;obtain ⟨m1,m3⟩:=h.ro.mu b o a n c ho hm hp;obtain ⟨rfl,m2⟩:=m1.1 I;have ar:=m2.le;refine M4p h (Qc (P:=P) (t:=t) (a:=a) E (I8 G) hl B b0 b1 b2 ar U J w) ⟨a,_,c,c-l.toNat,hp,I,by omega,by omega,by omega,.inr ⟨rfl,by omega⟩,?_⟩
 congr 1;by_cases e:c=l.toNat;rw [M1d e,M1d (by omega)];rw [M1e e,M1e (by omega)];exact (A4.1 hg).elim;rename_i hm;split at hg;rename_i A G B;obtain ⟨r,h1,h2⟩:=AI.1 hg;split at h2;rename_i S1 ax;obtain ⟨S2,ay,O⟩:=M01.1 h2;cases O;obtain ⟨s1,s2,s3,s4,s5⟩:=Ak ax;obtain ⟨t1,t2,t3,t4,t5⟩:=Ak ay;obtain ⟨a,n,c,rfl,hp,I⟩:=H;obtain ⟨m1,m3⟩:=h.ro.mu b o a n c ho hm hp;obtain ⟨rfl,m2⟩:=m1.1 I;obtain ⟨k0,k1,Y,rfl⟩:=M1 h1;have aG:=Qc (P:=P) (t:=t) (a:=a) E (I8 G) (lo:=none) (l:=0) rfl B k0 k1 Y m2.le U J w;have hne:name≠b:=λe=>by subst e;rw [hn.2] at hp;cases hp
 have aC:(o.xs.take A.toNat).length=A.toNat:=by rw [M1q];omega
 have key:=h.newO (S':=S') (w':=w) (name:=name) (o:=⟨o.t,o.T,o.xs.take A.toNat,true⟩) (a':=a) (c':=c) (Ao:=Av a) (dr:=(· = b)) hn aF rfl (t1.trans s1) (t2.trans s2) (λj o' hj=>by
  rw [t5] at hj;split at hj;rename_i e;cases hj;exact .inl ⟨e,by simp⟩;rename_i e;rw [s5] at hj;split at hj;cases hj;rename_i e2;exact .inr ⟨e,e2,hj⟩) (λo' hj=>by rw [t5,M1d rfl] at hj;cases hj;simp) (λg hg=>⟨b,o,_,rfl,ho,hm,hp,hg⟩) (Ev.refl _ _) (m2.trunc A.toNat).y (λg hg=>.inl hg)
 refine ⟨_,_,w,aG,⟨a,A.toNat,c,?_,?_⟩,key.1,key.2⟩;have e0:(0:Int).toNat=0:=rfl;rw [e0,M3f,M3f,Nat.zero_mul];congr 1;split;rfl;cases a with
 | none=>rfl
 | some ad=>simp [Addr.add]
 refine ⟨?_,I⟩;show (p.seto name (a,(o.xs.take A.toNat).length,c)).ov name=_
 rw [M4l,aC];cases h2;exact (A4.1 hg).elim;split at hg;rename_i u xs S1 hf;split at hg;rename_i l A G hl B;exact fz E hf G hl B (by obtain ⟨r,h1,h2⟩:=AI.1 hg;exact ⟨r,h1,by cases h2;rfl⟩) H rfl;exact (A4.1 hg).elim;exact (A4.1 hg).elim;exact (A4.1 hg).elim;obtain ⟨v,h1,h2⟩:=M01.1 (run_of.1 hg);cases h2;obtain ⟨u,j1,j2⟩:=KM (P:=P) h h1 H U J Z;exact M4p h j1 j2
theorem M3(h:Zv P t=some (e,n,l)):∃ z bytes,C9 P t e n bytes z∧He z.cells.toList=some l:=by
 unfold Zv at h;split at h;rename_i e' B;split at h;rename_i i hi;split at h;rename_i z E;split at h;rename_i G A hl;cases h;simp only [M05] at A;exact ⟨z,i.bytes,⟨B,⟨i,hi,E,rfl,rfl⟩,M0g A.1.1.2,A.1.2,A.1.1.1⟩,hl⟩
 cases h;cases h;cases h;cases h
theorem r9(h:Zv P t=some (e,n,l)):e<Z8:=by
 unfold Zv at h;split at h;split at h;split at h;split at h;rename_i B A hl;cases h;simp only [M05] at A;exact M18 A.2
 cases h;cases h;cases h;cases h
theorem ZF(h:RH p S w){t:Ty}{xs:List t.den}(hs:SlR (eT t) p.zw p.zM a c xs):SlR (eZ p t) w [] a c xs:=by
 refine ⟨hs.le,hs.cap,hs.nil,λad G hp=>?_⟩;obtain ⟨h1,h2,h3,A⟩:=hs.at_ ad G hp;refine ⟨h1,by simp,M1D h3 h.ro.zev.size,λi x I=>?_⟩;obtain ⟨cs,B,E⟩:=A i x I;have H:CellsAt p.zw p.zM ⟨ad.block,ad.off+i*(eT t).n,none⟩ cs:=⟨rfl,h2,h3,λk v hv=>by
  have:=E k v hv;rw [←M1P] at this;exact this⟩
 refine ⟨cs,B,λk v hv=>?_⟩;have:=(H.step h.step).at_ k v hv;rw [M1P] at this;exact this
theorem Pd(h:RH p S w){t:Ty}{ys:List t.den}(hd:Hz S t x=some ys)(A:RV p x vx):∃ b d,vx=.slice b ys.length d∧SlR (eZ p t) w [] b d ys:=by
 unfold Hz at hd;split at hd;split at hd;rename_i e _;subst e;cases hd;obtain ⟨a,c,Y,hs⟩:=A;cases Y;exact ⟨a,c,rfl,ZF h hs⟩;cases hd;rename_i b;split at hd;rename_i o ho;split at hd;rename_i e _;obtain ⟨E,oT,G,O⟩:=o;subst e;cases hd;obtain ⟨a,n,c,rfl,hp,I⟩:=A;cases O with
 | true=>
  obtain ⟨J,_⟩:=h.ro.mu b _ a n c ho rfl hp;obtain ⟨rfl,B⟩:=J.1 I;exact ⟨a,c,rfl,B.ro (λ_ h=>by cases h) (λ_ _ h=>by cases h)⟩
 | false=>
  obtain ⟨rfl,B⟩:=h.ro.ro b _ a n c ho rfl hp;exact ⟨a,c,rfl,ZF h B⟩
 cases hd;cases hd;rename_i b sz lo n cp;split at hd;rename_i o ho;split at hd;rename_i e H _;obtain ⟨E,oT,G,O⟩:=o;subst e;cases hd;rw [M05] at H;have hm:O=true:=H.1;subst hm;have aa:=M0g H.2;obtain ⟨a,m,c,k,hp,I,U,ad,Z,ac,rfl⟩:=A;obtain ⟨J,_⟩:=h.ro.mu b _ a m c ho rfl hp;obtain ⟨rfl,B⟩:=J.1 I;have hs:SlR (eZ p E) w [] a c G:=B.ro (λ_ h=>by cases h) (λ_ _ h=>by cases h);have:=hs.cut lo (lo+n) (lo+k) (by omega) U (by omega) Z;rw [show (eZ p E).n=E.sz from Et E,←aa,M2s,M2s] at this;exact ⟨_,k,by rw [M1q,M2f,M2h (by show n≤G.length-lo;have:lo+n≤G.length:=U;omega)],this⟩
 cases hd;cases hd;cases hd;have A:vx=.slice none 0 0:=A;exact ⟨none,0,A,M4r _ _ _⟩;cases hd
theorem Ur(h:RH p S w){E name:Nat}{s:GV}{vs:Value}(hg:(EK P name t E S s x).run some=some (g,S'))(hs:RV p s vs)(hx:RV p x vx)(hn:By p name)(ak:name<S.nx) :
  Giv P (· = name) p w (Builtin.append_ #[t,E] ty #[vs,vx]) g S':=by
 unfold EK at hg;split at hg;rename_i e es l Y;obtain ⟨z,bytes,Z,_⟩:=M3 Y;split at hg;rename_i o hd;split at hg;rename_i ys U hy;simp only [M05] at U;obtain ⟨⟨⟨hm,J⟩,I⟩,hT⟩:=U;have J:=M0g J;have I:=M0g I;have hT:=M0g hT;subst I
 split at hg;rename_i S1 B;split at hg;rename_i S2 am;obtain ⟨H,G⟩:=As.1 hg;cases G;have H:=M18 H;obtain ⟨b,d,rfl,hsl⟩:=Pd h hy hx;have aj:(eZ p o.t).n=es:=by rw [J];exact Et o.t
 obtain ⟨t1,E,t3,t4,t5⟩:=Ak am;have ag:∃ (a:Option Addr) (c:Nat) (dr:Nat→Prop),vs=.slice a o.xs.length c∧OwnS (eZ p o.t) o.T w [] a c o.xs∧S1.h=S.h∧S1.nx=S.nx∧(∀ j o',S1.ow.get j=some o'→¬ dr j∧S.ow.get j=some o')∧
   (∀ g∈Av a,∃ b ob y,dr b∧S.ow.get b=some ob∧ob.mu=true∧p.ov b=some y∧g∈Av y.1):=by
  unfold VJ at hd;split at hd;obtain ⟨u,_,G⟩:=M01.1 hd;have hs:vs=.slice none 0 0:=hs;have B:some S=some S1:=B;cases B;subst G;exact ⟨none,0,λ_=>False,hs,OwnS.nil _ _ _ _,rfl,rfl,λj o' hj=>⟨id,hj⟩,λg hg=>by cases hg⟩;rename_i A;obtain ⟨a,n,c,rfl,hp,ai⟩:=hs;obtain ⟨m1,m3⟩:=h.ro.mu A o a n c hd hm hp;obtain ⟨rfl,m2⟩:=m1.1 ai;obtain ⟨s1,s2,s3,s4,s5⟩:=Ak (show S.seto A none=some S1 from B);refine ⟨a,c,(· = A),rfl,m2.2 (by rw [←hT];exact r9 Y),s1,s2,λj o' hj=>?_,λg hg=>⟨A,o,_,rfl,hd,hm,hp,hg⟩⟩;rw [s5] at hj;split at hj;cases hj;rename_i e2;exact ⟨e2,hj⟩;cases hd
 obtain ⟨a,c,dr,rfl,al,d1,d2,O,d4⟩:=ag;rw [←aj,hT] at Z;obtain ⟨a',c',w',r1,r2,r3,r4,r5⟩:=JA (P:=P) (e:=eZ p o.t) Z ty (M:=Av a) (M2:=[]) (al.plain λ_ _ _ _ _ _ h=>h) (λ_ h=>h) hsl (λ_ _ h=>h) H;have key:=h.newO (S':=S') (w':=w') (name:=name) (o:=⟨o.t,e,o.xs++ys,true⟩) (a':=a') (c':=c') (Ao:=Av a) (dr:=dr) hn ak rfl (t1.trans d1) (E.trans d2) (λj o' hj=>by
  rw [t5] at hj;split at hj;rename_i e;cases hj;exact .inl ⟨e,rfl⟩;rename_i e;exact .inr ⟨e,(O j o' hj).1,(O j o' hj).2⟩) (λo' hj=>by rw [t5,M1d rfl] at hj;cases hj;rfl) d4 r2 (by
  have:=r5 [] (λ_ h=>by cases h);show OwnY p o.t e w' a' (o.xs++ys).length c' (o.xs++ys)
  rw [hT];exact (OwnX.y (M4t this))) (λg hg=>(r3 g hg).1)
 exact ⟨_,_,w',r1,⟨a',(o.xs++ys).length,c',rfl,M4l _ _ _,(M4t (r5 [] (λ_ h=>by cases h))).cap⟩,key.1,key.2⟩;exact (A4.1 hg).elim;exact (A4.1 hg).elim;exact (A4.1 hg).elim;exact (A4.1 hg).elim;exact (A4.1 hg).elim
theorem ZG(h:Zv P t=some (e,n,l)):P.underlying t=some (.slice e)∧BG P e=some n∧Db P e=some l∧l.length=n:=by
 unfold Zv at h;split at h;rename_i e' E;split at h;rename_i i hi;split at h;rename_i z G;split at h;rename_i H A hl;cases h;simp only [M05] at A;have B:∀ {l:List Value} {gs:List GV},He l=some gs→gs.length=l.length:=λ{l gs} hg=>by
  have:=(CV (p:=⟨λ_=>none,λ_=>none,default,[]⟩) hg).length;exact this.symm
 exact ⟨E,by simp [BG,hi],by simp [Db,hi,G,hl],by rw [B hl,M1u];exact M0g A.1.1.2⟩;cases h;cases h;cases h;cases h
theorem iZ(h:RH p S w){len name:Nat}{ps:List (Nat×GV)}{U:List (Nat×Value)}(hg:I7 P name t len ps S=some (g,S'))(hp:qc p ps U)(hn:By p name)(ab:name<S.nx) :
  Giv P (· = name) p w (Instr.buildSlice t len U.toArray) g S':=by
 unfold I7 at hg;split at hg;rename_i e es z E;obtain ⟨hu,hz,ag,ah⟩:=ZG E;split at hg;rename_i u _;split at hg;rename_i c B hf;simp only [M05] at B;have aa:=M18 B.1;have ap:=M0g B.2
 split at hg;rename_i c' S1 _ Z;split at hg;rename_i xs ae;obtain ⟨S2,h1,h2⟩:=M01.1 hg;cases h2;obtain ⟨O,k1,k2⟩:=Ge (P:=P) (w:=w) hu hz ag aa ah hp hf;obtain ⟨q,A,hv⟩:=DG Z k1 h;obtain ⟨I,j2,j3⟩:=Gg u len ae hv;obtain ⟨t1,t2,t3,t4,J⟩:=Ak h1;have G:(eZ q u).n=u.sz:=Et u;have H:OwnS (eZ q u) e (w.alloc (.cells O.toArray e (0,0))) [] (some ⟨w.heap.size,0,none⟩) len xs:=by
  refine U7 (Aq _ _) ?_ I (by rw [G];simpa using j2) λi x hx=>?_
  have:len≤len*es:=Nat.le_mul_of_pos_right _ (M18 (M3 E).choose_spec.choose_spec.1.pos);unfold maxLen;omega;obtain ⟨cs,m1,m2⟩:=j3 i x hx;exact ⟨cs,m1,λk v hk=>by rw [G,M26];exact m2 k v hk⟩
 have Y:Ev [] w (w.alloc (.cells O.toArray e (0,0))):=⟨rfl,rfl,rfl,by rw [AT];omega,λk hk _=>@heap_alloc_old w _ k hk⟩
 have key:=A.rh.newO (S':=S') (name:=name) (o:=⟨u,e,xs,true⟩) (c':=len) (Ao:=[]) (dr:=λ_=>False) (A.free hn) (by rw [A.nx];exact ab) rfl t1 t2 (λj o' hj=>by
  rw [J] at hj;split at hj;rename_i e;cases hj;exact .inl ⟨e,rfl⟩;rename_i e;exact .inr ⟨e,id,hj⟩) (λo' hj=>by rw [J,M1d rfl] at hj;cases hj;rfl) (λg hg=>by cases hg) Y (OwnX.y (M4t H)) (λg hg=>.inr (by simp only [Av,M19] at hg;omega))
 refine ⟨_,_,_,k2,⟨some ⟨w.heap.size,0,none⟩,len,len,rfl,?_⟩,key.1,(A.ch _).trans key.2⟩;exact ⟨by rw [M4l,I],(M4t H).cap⟩;cases hg;cases hg;cases hg;cases hg;cases hg
theorem ZH(h:RH p S w){name:Nat}{lo co:Operand}{l c:Int}(ab:K7 lo co=true→l=c)(hg:(DD P name t lo co (.int .i64 l) (.int .i64 c) S).run some=some (g,S'))(hn:By p name)(Z:name<S.nx) :
  Giv P (· = name) p w (Instr.makeSlice t (.int .i64 l) (.int .i64 c)) g S':=by
 unfold DD at hg;split at hg;rename_i e es z l' c' Y A U;cases A;cases U;obtain ⟨zv,bytes,G,ae⟩:=M3 Y;split at hg;rename_i u _;split at hg;rename_i O ad E;have E:=M0g E;split at hg;rename_i hs;split at hg;rename_i S1 ac;obtain ⟨B,A⟩:=As.1 hg;cases A;simp only [M05,M2R] at B;have:=ab hs;subst this;obtain ⟨t1,t2,t3,t4,J⟩:=Ak ac;have aa:(eZ p u).n=es:=by rw [E];exact Et u
 rw [←aa] at G;obtain ⟨us,ws,H,k2,k3⟩:=Dg u ad (CV (p:=p) ae);have:ws=[]:=M1F.1 (by have:=k3.length;simpa using this);subst this;rw [M1w] at H;obtain ⟨a',c',w',r1,r2,r3,I⟩:=KA (P:=P) (e:=eZ p u) G w l B.1 B.2 O (λ_ _=>by rw [H];exact k2);have key:=h.newO (S':=S') (w':=w') (name:=name) (o:=⟨u,e,List.replicate l.toNat O,true⟩) (a':=a') (c':=c') (Ao:=[]) (dr:=λ_=>False) hn Z rfl t1 t2 (λj o' hj=>by
  rw [J] at hj;split at hj;rename_i e;cases hj;exact .inl ⟨e,rfl⟩;rename_i e;exact .inr ⟨e,id,hj⟩) (λo' hj=>by rw [J,M1d rfl] at hj;cases hj;rfl) (λg hg=>by cases hg) r2 (OwnX.y (M4t (I []))) (λg hg=>.inr (r3 g hg).1)
 exact ⟨_,_,w',r1,⟨a',_,c',rfl,M4l _ _ _,(M4t (I [])).cap⟩,key.1,key.2⟩;exact (A4.1 hg).elim;exact (A4.1 hg).elim;exact (A4.1 hg).elim;exact (A4.1 hg).elim;exact (A4.1 hg).elim
end
end Go.E
namespace Go.E
open Go Go.V Go.Lib
section
theorem Qd (zs:Array Value)(n j:Nat)(hp:0<zs.size)(hj:j<n*zs.size):(Builtin.zeroCells zs n)[j]? = zs[j%zs.size]?:=by
 have h:=M47 j hp;simp [Builtin.zeroCells,hj,h]
variable {P:Program}{α:Type}{t I T:Nat}
theorem XA{e:Enc α}{bytes:Nat}{z:Value}{kn kq:IntKind}(ht:C9 P t T e.n bytes z)(ai:P.underlying I=some (.int kn))(ty:TypeId)(w:World)(n:Int)(h0:0<n)(hn:n≤4294967296)(E:α)(hz:∀ w M,e.R w M z.cells.toList E) :
  ∃ a' c' w',(Builtin.append_ #[t,I] ty [.slice none 0 0,.int kq n].toArray).run P w=.ok (.slice a' (List.replicate n.toNat E).length c') w'∧Ev [] w w'∧
   (∀ x∈Av a',w.heap.size≤x∧x<w'.heap.size)∧(∀ M',OwnS e T w' M' a' c' (List.replicate n.toNat E)):=by
 obtain ⟨i,hi,al,ah,Z⟩:=ht.info;have O:0<e.n:=M18 ht.pos;have ag:bytes≤4096:=M18 ht.small;obtain ⟨m,rfl⟩:=M1j (show (0:Int)≤n by omega);have hm:m≤4294967296:=by omega
 have ae:0<m:=by omega
 have af:m*i.bytes≤140737488355328:=by rw [Z];have:=M32 hm ag;omega
 have hr:=Lib.run_append_grow_zeros w t I ty T i z kq kn ht.und ai hi al none 0 0 [] (by simp [Builtin.firstCells]) m ae (by rw [ah];exact O) (by omega) (by omega) (by omega) (growslice_fits (by omega) (by simpa using af));have ab:=grownCap_ge w (0+m) 0 T;have J:=grownCap_le_maxLen w (0+m) 0 T (by unfold maxLen;omega);generalize hG:grownCap w (0+m) 0 T=G at hr ab J;have H:(List.replicate (Int.toNat (m:Int)) E).length=m:=by simp
 have A:z.cells.size=e.n:=ht.zs;have aa:Ev [] w (w.drew.alloc (.cells (([]:List Value).toArray++Builtin.zeroCells z.cells m++Builtin.zeroCells z.cells (G-(0+m))) T)):=(Ev.drew w).trans (Ev.alloc _ _);refine ⟨some ⟨w.heap.size,0,none⟩,G,_,by rw [H,show [Value.slice none 0 0,Value.int kq (m:Int)].toArray = #[.slice none 0 0,.int kq m] from rfl,hr,M25],aa,λx B=>?_,λM'=>?_⟩;simp only [Av,M19] at B;subst B;refine ⟨M1g _,?_⟩;rw [AT];exact M3t _
 have U:(Builtin.zeroCells z.cells m).size=m*e.n:=by simp [Builtin.zeroCells,A]
 have ak:(Builtin.zeroCells z.cells (G-(0+m))).size=(G-(0+m))*e.n:=by simp [Builtin.zeroCells,A]
 refine .inr ⟨_,_,rfl,Aq _ _,by rw [H];omega,J,?_,λj x B=>⟨z.cells.toList,?_,λk v hv=>?_⟩⟩;rw [M35,M35,U,ak];simp only [M2e,M2g,M25];rw [←M2p];congr 1;omega;rw [M2U (M1k B)];exact hz _ _;have ad:j<m:=by have:=(M09.1 B).1;rwa [H] at this
 have hk:k<e.n:=by rw [←A,←M1u];exact (M09.1 hv).1
 have ac:j*e.n+k<m*e.n:=by
  have:(j+1)*e.n≤m*e.n:=M1S _ ad;rw [M2p] at this;omega
 rw [M3q (by rw [M35,U];simp only [M2e,M2g];omega)];have Y:(([]:List Value).toArray++Builtin.zeroCells z.cells m)[j*e.n+k]? =(Builtin.zeroCells z.cells m)[j*e.n+k]?:=by
  rw [Array.getElem?_append_right (by simp)];simp
 rw [Y,Qd _ _ _ (by rw [A];exact O) (by rw [A];exact ac),A,Nat.add_comm,Nat.add_mul_mod_self_right,M3K hk,←M1E];exact hv
variable {p:Ren}{S S':St}{w:World}{ty:Nat}{g:GV}
theorem Us(h:RH p S w){A name:Nat}{n:Int}{k:IntKind}(hg:(EN P name t A S n).run some=some (g,S'))(hn:By p name)(Z:name<S.nx) :
  Giv P (· = name) p w (Builtin.append_ #[t,A] ty [.slice none 0 0,.int k n].toArray) g S':=by
 unfold EN at hg;split at hg;rename_i e es z kn Y ac;obtain ⟨zv,bytes,G,ae⟩:=M3 Y;split at hg;rename_i u _;split at hg;rename_i O ad E;have E:=M0g E;split at hg;rename_i S1 ab;obtain ⟨B,U⟩:=As.1 hg;cases U;simp only [M05,M2R] at B;obtain ⟨t1,A,t3,t4,J⟩:=Ak ab;have aa:(eZ p u).n=es:=by rw [E];exact Et u
 rw [←aa] at G;obtain ⟨us,ws,H,k2,k3⟩:=Dg u ad (CV (p:=p) ae);have:ws=[]:=M1F.1 (by have:=k3.length;simpa using this);subst this;rw [M1w] at H;obtain ⟨a',c',w',r1,r2,r3,I⟩:=XA (P:=P) (e:=eZ p u) (kq:=k) G ac ty w n B.1 B.2 O (λ_ _=>by rw [H];exact k2);have key:=h.newO (S':=S') (w':=w') (name:=name) (o:=⟨u,e,List.replicate n.toNat O,true⟩) (a':=a') (c':=c') (Ao:=[]) (dr:=λ_=>False) hn Z rfl t1 A (λj o' hj=>by
  rw [J] at hj;split at hj;rename_i e;cases hj;exact .inl ⟨e,rfl⟩;rename_i e;exact .inr ⟨e,id,hj⟩) (λo' hj=>by rw [J,M1d rfl] at hj;cases hj;rfl) (λg hg=>by cases hg) r2 (OwnX.y (M4t (I []))) (λg hg=>.inr (r3 g hg).1)
 exact ⟨_,_,w',r1,⟨a',_,c',rfl,M4l _ _ _,(M4t (I [])).cap⟩,key.1,key.2⟩;exact (A4.1 hg).elim;exact (A4.1 hg).elim;exact (A4.1 hg).elim;exact (A4.1 hg).elim
variable {d:Nat}
theorem Ut{xs:List Int}{b:Option Addr}(hs:SlR (eZ p (.int .u8)) w [] b d xs)(hp:0<xs.length) :
  ∃ ad,b=some ad∧∀ j u,(xs.map (Value.int .u8))[j]? = some u→w.cell? (ad.add j)=some u:=by
 cases b with
 | none=>have:=hs.nil rfl;subst this;simp at hp
 | some ad=>
  obtain ⟨h1,h2,h3,E⟩:=hs.at_ ad rfl hp;refine ⟨ad,rfl,λj u hj=>?_⟩;rw [M1n] at hj;obtain ⟨x,G,rfl⟩:=M01.1 hj;obtain ⟨cs,A,B⟩:=E j x G;have A:cs=[.int .u8 x]:=A;subst A;have:=B 0 _ rfl;rw [show (eZ p (.int .u8)).n=1 from Et _,M29,M1M] at this;rw [AQ h1];exact this
theorem K9 (l:List UInt8):(ofB l).length=l.length:=by simp [ofB]
variable {x:GV}{vx:Value}
theorem ZI(h:RH p S w){s name:Nat}(A:(G2 P name s d x S).run some=some (g,S'))(B:RV p x vx)(hn:By p name)(I:name<S.nx) :
  Giv P (· = name) p w (convert s d vx) g S':=by
 unfold G2 at A;split at A;rename_i e l hs hd;split at A;rename_i G;split at A;rename_i S1 aj;obtain ⟨U,e1⟩:=As.1 A;cases e1;have U:=M18 U;have B:vx=Vs l:=B;subst B;have hr:=run_bytes_of_string w s d e ⟨⟨l⟩⟩ hs hd G;have ag:=grownCap_ge w l.length 0 e;have O:=grownCap_le_maxLen w l.length 0 e (by unfold maxLen;omega);have Z:(⟨⟨l⟩⟩:ByteArray).size=l.length:=rfl;have hrow:bytesRow ⟨⟨l⟩⟩ (grownCap w l.length 0 e)=((l.map λ(b:UInt8)=>Value.int .u8 b.toNat)++List.replicate (grownCap w l.length 0 e-l.length) (Value.int .u8 0)).toArray:=by
  unfold bytesRow;rw [Z];apply Array.ext';simp
 have ah:((l.map λ(b:UInt8)=>Value.int .u8 b.toNat)++List.replicate (grownCap w l.length 0 e-l.length) (Value.int .u8 0)).length=grownCap w l.length 0 e:=by simp;omega
 have H:((l.map λ(b:UInt8)=>Value.int .u8 b.toNat)++List.replicate (grownCap w l.length 0 e-l.length) (Value.int .u8 0)).toArray.size=grownCap w l.length 0 e:=by rw [M2e];exact ah
 rw [Z,hrow,H] at hr;obtain ⟨t1,t2,t3,t4,t5⟩:=Ak aj;have Y:(eZ p (.int .u8)).n=1:=Et _;have ai:OwnX (eZ p (.int .u8)) 1000000 (w.drew.alloc (.cells ((l.map λ(b:UInt8)=>Value.int .u8 b.toNat)++List.replicate (grownCap w l.length 0 e-l.length) (Value.int .u8 0)).toArray e (grownCap w l.length 0 e,grownCap w l.length 0 e+1))) [] (some ⟨w.heap.size,0,none⟩) (grownCap w l.length 0 e) (ofB l):=by
  refine ⟨.inr ⟨w.heap.size,_,e,_,rfl,Aq w.drew _,.inr (M1O H),by rw [K9];exact ag,O,by rw [H,Y,M29],λi x hi=>?_⟩,λht=>absurd ht (by decide)⟩;unfold ofB at hi;rw [M1n] at hi;obtain ⟨b,hb,rfl⟩:=M01.1 hi;refine ⟨[.int .u8 b.toNat],rfl,λk v hk=>?_⟩
  match k,hk with
  | 0,hk=>
   cases hk;rw [Y,M29,M1M,M26,M1f (by rw [M2E];exact (M09.1 hb).1),M1n,hb];rfl
  | k+1,hk=>simp at hk
 have af:Ev [] w (w.drew.alloc (.cells ((l.map λ(b:UInt8)=>Value.int .u8 b.toNat)++List.replicate (grownCap w l.length 0 e-l.length) (Value.int .u8 0)).toArray e (grownCap w l.length 0 e,grownCap w l.length 0 e+1))):=⟨rfl,rfl,rfl,by rw [AT];show w.heap.size≤w.heap.size+1;omega,λk hk _=>@heap_alloc_old w.drew _ k hk⟩
 have key:=h.newO (S':=S') (name:=name) (o:=⟨.int .u8,1000000,ofB l,true⟩) (c':=grownCap w l.length 0 e) (Ao:=[]) (dr:=λ_=>False) hn I rfl t1 t2 (λj o' hj=>by
  rw [t5] at hj;split at hj;rename_i e;cases hj;exact .inl ⟨e,rfl⟩;rename_i e;exact .inr ⟨e,id,hj⟩) (λo' hj=>by rw [t5,M1d rfl] at hj;cases hj;rfl) (λg hg=>by cases hg) af (OwnX.y ai) (λg hg=>.inr (by simp only [Av,M19] at hg;omega))
 refine ⟨_,_,_,hr,⟨some ⟨w.heap.size,0,none⟩,l.length,grownCap w l.length 0 e,rfl,?_⟩,key.1,key.2⟩;exact ⟨by rw [M4l];simp only [K9],O⟩;exact (A4.1 A).elim;exact (A4.1 A).elim;rename_i e hs hd;split at A;rename_i xs G ae;cases Az.1 A;obtain ⟨b,c,rfl,hsl⟩:=Pd h ae B;refine M4p h ?_ rfl;rw [run_convert_bytes_string w s d e b xs.length c hs G hd];cases J:xs with
 | nil=>
  subst J;cases b with
  | none=>rfl
  | some ad=>
   have E:(loadCells ad 0).run P w=.ok (([]:List Int).map (Value.int .u8)).toArray w:=run_loadCells_list (P:=P) w ad [] (λj u hj=>by simp at hj);have:=run_bytesToString w ad 0 c [] E;exact this
 | cons y ys=>
  obtain ⟨ad,rfl,ac⟩:=Ut hsl (by rw [J];simp);have E:=run_loadCells_list (P:=P) w ad (xs.map (Value.int .u8)) ac;rw [M2E] at E;rw [←J,run_bytesToString w ad _ c xs E,Hv];simp [Vs,E5]
 exact Q1 (P:=P) h (run_of.1 A) B hn I;exact Q1 (P:=P) h (run_of.1 A) B hn I
theorem j9{t e:TypeId}(h:qW P t=some e):∃ i,P.underlying t=some (.slice e)∧P.info? e=some i∧i.zero=some (.int .u8 0)∧i.size=1∧i.bytes=1∧e<Z8:=by
 unfold qW at h;split at h;rename_i e' B;split at h;rename_i i hi;split at h;rename_i z A E;split at h;rename_i hd;cases h;simp only [M05] at A;have:=M1s hd;subst this;exact ⟨i,B,hi,E,M0g A.1.2,M0g A.1.1,M18 A.2⟩
 cases h;cases h;cases h;cases h
variable {c:Nat}
theorem RX{t u T ty:TypeId}{i:TypeInfo}(I:P.underlying t=some (.slice T))(hi:P.info? T=some i)(Z:i.zero=some (.int .u8 0))(Y:i.size=1)(O:i.bytes=1)(hs:P.underlying u=some .string){a:Option Addr}{xs:List Int}(l:List UInt8)
  (h:OwnS (eZ p (.int .u8)) T w [] a c xs)(hl:xs.length+l.length≤4294967296) :
  ∃ a' c' w',(Builtin.append_ #[t,u] ty #[.slice a xs.length c,Vs l]).run P w=.ok (.slice a' (xs++ofB l).length c') w'∧Ev (Av a) w w'∧
   (∀ x∈Av a',x∈Av a∨w.heap.size≤x)∧OwnS (eZ p (.int .u8)) T w' [] a' c' (xs++ofB l):=by
 have E:(eZ p (.int .u8)).n=1:=Et _;have hsl:(⟨⟨l⟩⟩:ByteArray).size=l.length:=rfl;have hrow:w.ownsRow 0 T 1 (.slice a xs.length c) xs.length (xs.map (Value.int .u8)):=by
  rcases h with ⟨rfl,rfl,rfl⟩|⟨g,B,rfl,hg,h1,h2,h3,G⟩;exact World.ownsRow_nil w 0 T 1;refine ⟨by simp,.inr ⟨g,c,B,rfl,M2j _,hg,h1,h2,by rw [E] at h3;exact h3,?_⟩⟩;rw [E,M29] at h3;apply M23;intro j;rw [M1r,M29,M1n]
  by_cases hj:j<xs.length;rw [M1d hj,M00 hj];obtain ⟨cs,J,c2⟩:=G j _ (M00 hj);have J:cs=[.int .u8 xs[j]]:=J;subst J;have:=c2 0 _ rfl;rw [E,M29,M1M] at this
  simpa using this
  rw [M1e hj,M1h (by omega)];rfl
 obtain ⟨v',w',hr,al,ai,aj⟩:=run_append_own_string (P:=P) w 0 t u ty T i I hs hi Z Y O _ _ _ hrow ⟨⟨l⟩⟩ (by rw [hsl];unfold maxLen;omega) (by rw [hsl];omega) (M2j _);have aa:=Re ai;have af:(∃ g cap,v'=.slice (some ⟨g,0,none⟩) (xs.length+l.length) cap∧(g∈Av a∨w.heap.size≤g))∨(v'=.slice none 0 0∧l=[]∧xs=[]):=by
  have ap:xs.length≤c:=by
   rcases h with ⟨_,_,rfl⟩|⟨g,B,_,_,h1,_⟩;simp;exact h1
  rcases h with ⟨rfl,rfl,rfl⟩|⟨g,B,rfl,hg,h1,h2,h3,G⟩;by_cases hm:l.length=0;exact .inr ⟨aj.2 ⟨rfl,hm⟩,M1F.1 hm,rfl⟩;have H:=run_append_nil_string (P:=P) w t u ty T i (.int .u8 0) I hs hi Z ⟨⟨l⟩⟩ (by rw [hsl];omega) (by rw [hsl];omega) (by rw [O,hsl];omega);have e:=hr.symm.trans H;cases e;exact .inl ⟨w.heap.size,grownCap w l.length 0 T,by rw [M2g,M25];rfl,.inr (M1g _)⟩;rw [E,M29] at h3;by_cases am:xs.length+l.length≤c;have H:=run_append_room_string (P:=P) w t u ty T i I hs hi Y g xs.length c B hg ⟨⟨l⟩⟩ am (by rw [hsl];omega);have e:=hr.symm.trans H;cases e;exact .inl ⟨g,_,rfl,.inl (by simp [Av])⟩;have H:=run_append_grow_string (P:=P) w t u ty T i (.int .u8 0) I hs hi Z ⟨g,0,none⟩ xs.length c (xs.map (Value.int .u8)) (by rw [Y];simp) (hrow.cells (g:=g) rfl) ⟨⟨l⟩⟩ (by rw [hsl];omega) (by rw [hsl];omega) (by rw [O,hsl];exact growslice_fits (by omega) (by omega));have e:=hr.symm.trans H;cases e;exact .inl ⟨_,_,rfl,.inr (M1g _)⟩
 have U:(xs++ofB l).length=xs.length+l.length:=by rw [M1l,K9]
 rcases af with ⟨g,cap,rfl,hb⟩|⟨rfl,rfl,rfl⟩;refine ⟨some ⟨g,0,none⟩,cap,w',by rw [U];exact hr,aa,λx A=>by simp only [Av,M19] at A;subst A;exact hb,?_⟩;rcases al.2 with ⟨h0,_⟩|⟨g',an,B,ag,_,ah,h1,h2,h3,G⟩
 cases h0;cases ag;refine .inr ⟨g,B,rfl,ah,by rw [U];exact h1,h2,by rw [E];exact h3,λi x A=>?_⟩;refine ⟨[.int .u8 x],rfl,λk v hk=>?_⟩
 match k,hk with
 | 0,hk=>
  cases hk;rw [E,M29,M1M];have ak:i<xs.length+l.length:=by rw [←U];exact (M09.1 A).1
  have e2:(xs.map (Value.int .u8)++strCells ⟨⟨l⟩⟩)=(xs++ofB l).map (Value.int .u8):=by simp [ofB,strCells]
  rw [e2,M29,hsl] at G;have:((xs++ofB l).map (Value.int .u8))[i]? = some (.int .u8 x):=by rw [M1n,A];rfl
  rw [←G,M1r,M1d ak] at this
  simpa using this
 | k+1,hk=>simp at hk
 exact ⟨none,0,w',hr,aa,λx A=>(by cases A),.inl ⟨rfl,rfl,rfl⟩⟩
variable {vs:Value}
theorem Uu(h:RH p S w){name:Nat}{s:GV}{l:List UInt8}(hg:(EM P name t I S s l).run some=some (g,S'))(hs:RV p s vs)(hn:By p name)(ai:name<S.nx) :
  Giv P (· = name) p w (Builtin.append_ #[t,I] ty #[vs,Vs l]) g S':=by
 unfold EM at hg;split at hg;rename_i e ag an;obtain ⟨i,hu,hi,hz,al,ae,ah⟩:=j9 ag;split at hg;rename_i T G hd;split at hg;rename_i S1 hT B;have hT:=M0g hT;subst hT;split at hg;rename_i S2 ak;obtain ⟨E,H⟩:=As.1 hg;cases H;have E:=M18 E;rw [K9] at E;obtain ⟨t1,ar,t3,t4,Y⟩:=Ak ak;have ac:∃ (a:Option Addr) (c:Nat) (dr:Nat→Prop),vs=.slice a G.length c∧OwnS (eZ p (.int .u8)) e w [] a c G∧S1.h=S.h∧S1.nx=S.nx∧(∀ j o',S1.ow.get j=some o'→¬ dr j∧S.ow.get j=some o')∧
   (∀ g∈Av a,∃ b O y,dr b∧S.ow.get b=some O∧O.mu=true∧p.ov b=some y∧g∈Av y.1):=by
  unfold VJ at hd;split at hd;obtain ⟨u,_,H⟩:=M01.1 hd;have hs:vs=.slice none 0 0:=hs;have B:some S=some S1:=B;cases B;cases H;exact ⟨none,0,λ_=>False,hs,OwnS.nil _ _ _ _,rfl,rfl,λj o' hj=>⟨id,hj⟩,λg hg=>by cases hg⟩;rename_i A;obtain ⟨a,n,c,rfl,hp,af⟩:=hs;obtain ⟨m1,m3⟩:=h.ro.mu A _ a n c hd rfl hp;obtain ⟨rfl,m2⟩:=m1.1 af;obtain ⟨s1,s2,s3,s4,s5⟩:=Ak (show S.seto A none=some S1 from B);refine ⟨a,c,(· = A),rfl,m2.2 ah,s1,s2,λj o' hj=>?_,λg hg=>⟨A,_,_,rfl,hd,rfl,hp,hg⟩⟩;rw [s5] at hj;split at hj;cases hj;rename_i e2;exact ⟨e2,hj⟩;cases hd
 obtain ⟨a,c,dr,rfl,aj,Z,d2,J,d4⟩:=ac;obtain ⟨a',c',w',r1,r2,r3,U⟩:=RX (P:=P) (p:=p) (u:=I) (ty:=ty) hu hi hz al ae an l aj E;have key:=h.newO (S':=S') (w':=w') (name:=name) (o:=⟨.int .u8,e,G++ofB l,true⟩) (a':=a') (c':=c') (Ao:=Av a) (dr:=dr) hn ai rfl (t1.trans Z) (ar.trans d2) (λj o' hj=>by
  rw [Y] at hj;split at hj;rename_i e;cases hj;exact .inl ⟨e,rfl⟩;rename_i e;exact .inr ⟨e,(J j o' hj).1,(J j o' hj).2⟩) (λo' hj=>by rw [Y,M1d rfl] at hj;cases hj;rfl) d4 r2 (OwnX.y (M4t U)) r3
 exact ⟨_,_,w',r1,⟨a',(G++ofB l).length,c',rfl,M4l _ _ _,(M4t U).cap⟩,key.1,key.2⟩;exact (A4.1 hg).elim;exact (A4.1 hg).elim;exact (A4.1 hg).elim;exact (A4.1 hg).elim
theorem RY{e:Enc α}{bytes:Nat}{z:Value}(ht:C9 P t T e.n bytes z)(ty:TypeId){M:List Nat}{a b:Option Addr}{xs ys:List α}
  (h1:SlR e w M a xs.length xs)(h2:SlR e w M b d ys)(Y:∀ k∈M,k<w.heap.size)(hl:xs.length+ys.length≤4294967296) :
  ∃ a' c' w',(Builtin.append_ #[t,t] ty #[.slice a xs.length xs.length,.slice b ys.length d]).run P w=.ok (.slice a' (xs++ys).length c') w'∧Ev [] w w'∧SlR e w' M a' c' (xs++ys):=by
 obtain ⟨i,hi,hz,hn,ab⟩:=ht.info;have J:0<e.n:=M18 ht.pos;have ap:bytes≤4096:=M18 ht.small;by_cases hm:ys=[]
 subst hm;refine ⟨a,xs.length,w,?_,Ev.refl _ _,by rw [M1w];exact h1⟩;cases a <;> cases b <;> simp [Builtin.append_,run_underlying ht.und,sizeOf,typeInfo,hi,Builtin.lenOf,Builtin.firstCells,storeCells,loadCells,loadCellsFrom]
 have ar:0<ys.length:=M3x.2 hm;cases b with
 | none=>exact absurd (h2.nil rfl) hm
 | some ad=>
  obtain ⟨B,aj,ai,ah,ak⟩:=h2.cells J ar;have ao:∃ A:List Value,A.length=xs.length*e.n∧(Builtin.firstCells i.size xs.length (.slice a xs.length xs.length)).run P w.drew=.ok A.toArray w.drew∧∀ (j:Nat) (x:α),xs[j]? = some x→∃ cs,e.R w M cs x∧∀ (k:Nat) (v:Value),cs[k]? = some v→A[j*e.n+k]? = some v:=by
   cases a with
   | none=>
    have E:=h1.nil rfl;subst E;exact ⟨[],by simp,run_firstCells_none _ _ _ _ _,λj x hj=>by simp at hj⟩
   | some aa=>
    by_cases E:xs=[]
    subst E;exact ⟨[],by simp,run_firstCells_some _ _ _ _ _ _ _ (by simp) (λj v hv=>by simp at hv),λj x hj=>by simp at hj⟩;obtain ⟨A,o1,o2,o3,o4⟩:=h1.cells J (M3x.2 E);exact ⟨A,o1,run_firstCells_some _ _ _ _ _ _ _ (by rw [hn];exact o1) (λj v hv=>by simpa using o2 j v hv),o4⟩
  obtain ⟨A,al,am,an⟩:=ao;have ac:(xs.length+ys.length)*bytes≤140737488355328:=by
   have:=M32 hl ap;omega
  have aq:Src P i.size t (.slice (some ad) ys.length d) ys.length B w:=Src.ofSlice w ht.und ad ys.length d B (by rw [hn];exact aj) ai ah;have hr:=run_append_grow_src (P:=P) w t t ty T i z ht.und hi hz a xs.length xs.length A am _ _ _ aq (by omega) (by omega) (by rw [ab];exact growslice_fits (by omega) ac);have af:=grownCap_ge w (xs.length+ys.length) xs.length T;have ae:grownCap w (xs.length+ys.length) xs.length T≤maxLen:=grownCap_le_maxLen w _ _ _ (by unfold maxLen;omega);have I:Ev [] w (w.drew.alloc (.cells ((A++B).toArray++Builtin.zeroCells z.cells (grownCap w (xs.length+ys.length) xs.length T-(xs.length+ys.length))) T)):=⟨rfl,rfl,rfl,by rw [AT];show w.heap.size≤w.heap.size+1;omega,λk hk _=>@heap_alloc_old w.drew _ k hk⟩
  refine ⟨some ⟨w.heap.size,0,none⟩,grownCap w (xs.length+ys.length) xs.length T,_,by rw [M1l];exact hr,I,?_⟩;have O:=Stp.same (M:=M) I (λ_ h=>by cases h);refine ⟨by rw [M1l];exact af,ae,λh=>(by cases h),λa2 Z _=>?_⟩;cases Z;refine ⟨rfl,λhk=>absurd (Y _ hk) (by simp),by rw [AT];exact M3t _,λj x hj=>?_⟩;have fin:∀ (q:Nat) (v:Value),(A++B)[q]? = some v→(w.drew.alloc (.cells ((A++B).toArray++Builtin.zeroCells z.cells (grownCap w (xs.length+ys.length) xs.length T-(xs.length+ys.length))) T)).cell? ⟨w.heap.size,0+q,none⟩=some v:=λq v hq=>by
   have hb:=Af (b:=w.heap.size) (Aq w.drew (.cells ((A++B).toArray++Builtin.zeroCells z.cells (grownCap w (xs.length+ys.length) xs.length T-(xs.length+ys.length))) T)) (0+q);rw [hb,M25,M3q (by simpa using (M09.1 hq).1),M26];exact hq
  by_cases ag:j<xs.length;rw [M1f ag] at hj;obtain ⟨cs,G,H⟩:=an j x hj;refine ⟨cs,e.step G O,λk v hk=>fin _ _ ?_⟩;have:=H k v hk;rw [M1f (M09.1 this).1];exact this
  rw [M1a (by omega)] at hj;obtain ⟨cs,G,H⟩:=ak _ x hj;refine ⟨cs,e.step G O,λk v hk=>fin _ _ ?_⟩;have U:=H k v hk;have ax:xs.length*e.n≤j*e.n:=M1S _ (by omega);rw [M1a (by omega),al];rw [show j*e.n+k-xs.length*e.n=(j-xs.length)*e.n+k by rw [Nat.sub_mul];omega];exact U
variable {b n:Nat}
theorem Uv(h:RH p S w){t2 name:Nat}{sz lo q:Nat}(hg:(EL P t t2 S (.vw b sz lo n (some q)) x n q).run some=some (g,S'))(hs:RV p (.vw b sz lo n (some q)) vs)(hx:RV p x vx) :
  Giv P (· = name) p w (Builtin.append_ #[t,t2] ty #[vs,vx]) g S':=by
 unfold EL at hg;split at hg;rename_i e es l u xs u' ys S1 ai hf;obtain ⟨z,bytes,H,_⟩:=M3 ai;split at hg;rename_i hu _ A;subst hu;rw [M05] at A;have aj:=M0g A.1;have aq:=M0g A.2;subst aq;obtain ⟨hb,e1⟩:=As.1 hg;cases e1;rw [M05] at hb;have ap:=M0g hb.1;have am:=M18 hb.2;obtain ⟨a0,m,c,k,hp,ah,an,ao,al,E,rfl⟩:=hs;have hk:k=q:=by rcases E with h|⟨h,_⟩ <;> cases h;rfl
 subst hk;subst ap;obtain ⟨B,G,hv⟩:=DG (vs:=[_,vx]) hf ⟨⟨a0,m,c,n,hp,ah,an,ao,al,E,rfl⟩,hx,trivial⟩ h;obtain ⟨⟨a1,c1,e2,s1⟩,⟨a2,c2,e3,s2⟩,_⟩:=hv;cases e2;cases e3;have hn:(eT u').n=es:=by rw [aj];exact Et u'
 rw [←hn] at H;obtain ⟨q2,O,U,Y,k4,Z,k6,k7⟩:=G.rh.adv (Ev.refl [] w);have st:Stp B.zM B.zw q2.zM w:=by have:=Y.z;rwa [Z] at this
 obtain ⟨a',c',w',r1,r2,r3⟩:=RY (P:=P) H ty (s1.step st) (s2.step st) (λj hj=>((k6 j).1 hj).1) am;obtain ⟨q3,I,J,j3,j4,j5,j6,j7⟩:=k4.adv r2;refine ⟨q3,_,w',r1,⟨a',c',rfl,?_⟩,j4,(G.ch _).trans ?_⟩;rw [j5];refine r3.sub λj hj=>?_
 have ak:=(j6 j).1 hj;rcases ak.2 with hz|hz
 exact hz;rw [Z] at hz;omega
 have ag:∀ j,Bk q3 j↔Bk B j:=λj=>by unfold Bk;rw [I,J,O,U]
 refine ⟨Y.trans j3,λb hb=>.inl λhp=>hb ?_,r2.os,r2.tape,r2.output,r2.size,λj hj _=>r2.block j hj (by simp),λj hj=>.inl ((ag j).1 hj),λj hj hl _=>j7 j hj (k7 j hj hl)⟩;unfold By at hp ⊢;rw [I,J,O,U];exact hp
 exact (A4.1 hg).elim;exact (A4.1 hg).elim
variable {v:Ty}
theorem qk{t:TypeId}(h:ON P t=some v){x:v.den}{u:Value}:RV p (scG v x) u↔u=qb v x:=by
 unfold ON at h;split at h <;> cases h <;> exact Iff.rfl
theorem Ka{t:TypeId}(h:ON P t=some v){x:v.den}{u:Value}(hp:Em v [g]=some (x,[]))(hr:RV p g u):u=qb v x:=by
 obtain ⟨A,ws,e,h1,h2⟩:=Dg (p:=p) v hp (vs:=[u]) ⟨hr,trivial⟩;have:ws=[]:=M1F.1 (by have:=h2.length;simpa using this);subst this;rw [M1w] at e;subst e;unfold ON at h
 split at h <;> cases h <;>(have h1:[u]=[_]:=h1;exact (List.cons.inj h1).1)
variable {k:Ty}
theorem ZJ{t:TypeId}(h:KY P t=some k):ON P t=some k:=by
 unfold KY at h;unfold ON
 split at h;rename_i A;rw [A];exact h;rename_i A;rw [A];exact h;cases h
theorem Uw{t:TypeId}(h:KY P t=some k):@Rk P t k.den (Hk k) (qb k)∧@LawfulBEq k.den (Hk k):=by
 unfold KY at h;split at h;rename_i kd A;cases h;have e:Hk (.int kd)=(instBEqOfDecidableEq:BEq Int):=rfl;rw [e];exact ⟨iF A,inferInstanceAs (LawfulBEq Int)⟩;rename_i A;cases h;have e:Hk .str=(inferInstanceAs (BEq (List UInt8))):=rfl;rw [e];exact ⟨iG A,inferInstanceAs (LawfulBEq (List UInt8))⟩;cases h
theorem Kc {o:Option Ty}{t:Ty}(h:Xq o t=true):o=some t:=by
 unfold Xq at h;split at h;split at h;rename_i e _;obtain ⟨e⟩:=e;rw [e];cases h;cases h
theorem rc{B:TypeId}{z:v.den}(hv:ON P B=some v)(A:zeT P B v=some z)(w:World):(zeroValue B).run P w=.ok (qb v z) w:=by
 unfold zeT at A;split at A;rename_i i hi;split at A;rename_i E H;split at A;rename_i g hg;split at A;rename_i x G;cases A;have hr:RV ⟨λ_=>none,λ_=>none,default,[]⟩ g E:=(CV (p:=⟨λ_=>none,λ_=>none,default,[]⟩) (l:=[E]) (gs:=[g]) (by simp [He,hg])).1;have:=Ka hv G hr;subst this;simp [zeroValue,typeInfo,hi,H];cases A;cases A;cases A;cases A
theorem RH.mapAt(h:RH p S w){T:TypeId}{xs:List (Ty.pair k v).den}{g:Nat}(ho:S.ow.get b=some ⟨.pair k v,T,xs,true⟩)(hp:p.ov b=some (some ⟨g,0,none⟩,n,c))(A:maxLen<c):MapH (qb k) (qb v) w g (yg k v xs):=by
 obtain ⟨E,e,B⟩:=(h.ro.mu b _ _ n c ho rfl hp).1.2 A;cases e;exact B
variable {i:GV}
theorem ZK(h:RH p S w){ok:Bool}{E B:Value}(hg:(KZ P t S b i ok).run some=some g)(hm:RV p (.mapo b) E)(hi:RV p i B) :
  ∃ u,(Instr.lookup t E B ok).run P w=.ok u w∧RV p g u:=by
 unfold KZ at hg;split at hg;rename_i kt Z k v T xs O ho;split at hg;rename_i z x A Y U;rw [M05] at A;have hk:=Kc A.1;have hv:=Kc A.2;obtain ⟨gb,n,c,hp,H,rfl⟩:=hm;have G:=h.mapAt ho hp H;have I:=Ka (ZJ hk) U hi;subst I
 letI:=Hk k
 have J:=M4M (P:=P) (Mo:=[]) O (Uw hk).1 x z (rc hv Y) G (by simp) ok w (Ev.refl _ _);refine ⟨_,J,?_⟩;split at hg;cases Az.1 hg;exact ⟨_,rfl,(qk hv).2 rfl,rfl,trivial⟩;cases Az.1 hg;exact (qk hv).2 rfl;exact (A4.1 hg).elim;exact (A4.1 hg).elim
theorem ja(h:RH p S w){H G:Value}(hg:Xr P t S b i x=some S')(hm:RV p (.mapo b) H)(hi:RV p i G)(hx:RV p x vx) :
  ∃ w',(Instr.mapUpdate t H G vx).run P w=.ok () w'∧RH p S' w'∧Ch (λ_=>False) p w p w':=by
 unfold Xr at hg;split at hg;rename_i kt et k v T xs Y ho;split at hg;rename_i z E y A hz O hy;rw [M05] at A;have hk:=Kc A.1;have hv:=Kc A.2;obtain ⟨I,n,c,hp,B,rfl⟩:=hm;have J:=h.mapAt ho hp B;have U:=Ka (ZJ hk) O hi;have Z:=Ka hv hy hx;subst U Z
 letI:=Hk k
 letI:=(Uw hk).2
 obtain ⟨w',r1,r2,r3⟩:=MapH.upd (P:=P) Y (Uw hk).1 E y J;obtain ⟨s1,s2,s3,s4,s5⟩:=Ak hg;obtain ⟨m1,m2⟩:=h.updO (o:=⟨.pair k v,T,xs,true⟩) (w':=w') (xs':=H9 (yg k v xs) E y) ho rfl hp s1 s2 s5 r3 ⟨λae=>absurd B (by omega),λ_=>⟨I,rfl,r2⟩⟩;exact ⟨w',r1,m1,m2⟩;cases hg;cases hg
theorem XB(h:RH p S w){name:Nat}(hg:EO P name t S=some (g,S'))(hn:By p name)(G:name<S.nx) :
  Giv P (· = name) p w (Instr.makeMap t none) g S':=by
 unfold EO at hg;split at hg;rename_i kt O I;split at hg;rename_i k v _ _;obtain ⟨S1,h1,h2⟩:=M01.1 hg;cases h2;obtain ⟨t1,J,U,Y,A⟩:=Ak h1;have hr:=run_makeMap I w none .i64;have E:Ev [] w (w.alloc (.map #[] 0)):=⟨rfl,rfl,rfl,by rw [AT];omega,λk hk _=>@heap_alloc_old w _ k hk⟩
 have H:OwnY p (.pair k v) 0 (w.alloc (.map #[] 0)) (some ⟨w.heap.size,0,none⟩) 0 (maxLen+1) []:=⟨λB=>absurd B (by omega),λ_=>⟨w.heap.size,rfl,MapH.mk (Aq _ _)⟩⟩
 have key:=h.newO (S':=S') (name:=name) (o:=⟨.pair k v,0,[],true⟩) (Ao:=[]) (dr:=λ_=>False) hn G rfl t1 J (λj o' hj=>by
  rw [A] at hj;split at hj;rename_i e;cases hj;exact .inl ⟨e,rfl⟩;rename_i e;exact .inr ⟨e,id,hj⟩) (λo' hj=>by rw [A,M1d rfl] at hj;cases hj;rfl) (λg hg=>by cases hg) E H (λg hg=>.inr (by simp only [Av,M19] at hg;omega))
 exact ⟨_,_,_,hr,⟨w.heap.size,0,maxLen+1,M4l _ _ _,by omega,rfl⟩,key.1,key.2⟩;cases hg;cases hg
theorem XC{i:Nat}{u:Ty}{l:List GV}{vs:List Value}{xs:List u.den}{x:u.den}(B:Z4 P t=some (iT u))(U:BG P t=some u.sz)(hp:JJ u n l=some xs)(hv:RVs p l vs)(E:xs[i]? = some x)(w:World) :
  ∃ v,(Go.part t vs.toArray (i*u.sz)).run P w=.ok v w∧RV p (unj u x) v:=by
 obtain ⟨Y,Z,j3⟩:=Gg u n hp hv;obtain ⟨cs,G,H⟩:=j3 i x E;have hi:i<n:=by rw [←Y];exact (M09.1 E).1
 have I:cs.length=u.sz:=by rw [←Et];exact (eT u).len G
 have ab:i*u.sz+u.sz≤vs.length:=by rw [Z,←Nat.succ_mul];exact M1S _ hi
 have J:cs=(vs.drop (i*u.sz)).take u.sz:=by
  apply M23;intro k;rw [M1r];by_cases hk:k<u.sz;rw [M1d hk,M1C,M00 (by omega:k<cs.length)];exact (H k _ (M00 (by omega))).symm;rw [M1e hk,M1h (by omega)]
 have hr:=(C8 u x cs).2 G;unfold Go.part;cases A:iT u with
 | true=>
  rw [A] at B;refine ⟨.agg (vs.toArray.extract (i*u.sz) (i*u.sz+u.sz)),?_,?_⟩
  rw [run_bind,CW B];simp only [M2K,Sem.run_bind,AL U,Result.andThen_ok,Sem.run_pure];have e:vs.toArray.extract (i*u.sz) (i*u.sz+u.sz)=cs.toArray:=by rw [J];simp [List.extract_eq_take_drop]
  rw [e];cases u with
  | pair a b=>exact ⟨cs,rfl,hr⟩
  | unit=>exact ⟨cs,rfl,hr⟩
  | _=>cases A
 | false=>
  rw [A] at B;have h1:u.sz=1:=by cases u <;> first|rfl|cases A
  obtain ⟨v,rfl⟩:∃ v,cs=[v]:=List.length_eq_one_iff.1 (I.trans h1);have O:vs[i*u.sz]? = some v:=by have:=H 0 v rfl;rwa [M1M] at this
  refine ⟨v,?_,?_⟩;rw [run_bind,CW B];simp [O]
  ·cases u <;> first | exact hr.1 | cases A
theorem Pe{Y:Operand}{I:Value}(hg:(Q4 P t Y x i).run some=some g)(H:RV p x vx)(hi:RV p i I):∃ v,(Instr.index t vx I).run P w=.ok v w∧RV p g v:=by
 unfold Q4 at hg;split at hg;rename_i s n G;obtain ⟨b,h1,h2⟩:=AI.1 hg;cases h2;obtain ⟨B,hl,E⟩:=CT h1;have:J5 P t (.str s) (.int .i64 n)=some (.int .u8 b.toNat):=by
  unfold J5 X2;rw [G];simp only [M1d (show 0≤n∧n<(s.length:Int) from ⟨B,hl⟩),E]
 exact KL this H hi w;rename_i n e l k G;split at hg;exact KL (run_of.1 hg) H hi w;split at hg;rename_i u ag _ O;split at hg;rename_i xs A J;simp only [M05,beq_iff_eq] at A;obtain ⟨y,h1,h2⟩:=AI.1 hg;cases h2;obtain ⟨vs,rfl,hv⟩:=H;have hi:I=.int .i64 k:=hi;subst hi;obtain ⟨B,hl,E⟩:=CT h1;obtain ⟨j1,_,_⟩:=Gg u n J hv;obtain ⟨v,Z,k2⟩:=XC (by rw [O,A.2]) (Qa A.1) J hv E w;refine ⟨v,?_,k2⟩;unfold Instr.index;simp only [asIntOf,pure_bind];rw [run_bind,run_underlying G];have U:k<n:=by omega
 simp only [B,U,M3G,M2K];rw [run_bind,AL (Qa A.1)];exact Z;exact (A4.1 hg).elim;exact (A4.1 hg).elim;exact (A4.1 hg).elim
end
end Go.E
namespace Go.E
open Go Go.V
section
structure Kp (S S':St):Prop where
 h:S'.h=S.h
 nx:S'.nx=S.nx
 df:S'.df=S.df
theorem Kp.refl (S:St):Kp S S:=⟨rfl,rfl,rfl⟩
variable {S S':St}
theorem Kp.trans {A:St}(h:Kp S S')(k:Kp S' A):Kp S A:=⟨k.h.trans h.h,k.nx.trans h.nx,k.df.trans h.df⟩
variable {b:Nat}
theorem Kp.seto{o:Option JC}(h:S.seto b o=some S'):Kp S S':=let ⟨a,b,c,_⟩:=Ak h;⟨a,b,c⟩
theorem DH:∀ {l B:List GV} {S S':St},IZ S l=some (B,S')→Kp S S'
 | [],B,S,S',h=>by cases h;exact .refl _
 | g::l,B,S,S',h=>by
  unfold IZ at h;split at h;rename_i e;cases e;rename_i b l0 e;cases e;split at h;split at h;rename_i S1 A;split at h;rename_i hr;cases h;split at A;exact (Kp.seto A).trans (DH hr);cases A;exact DH hr;cases h;cases h;cases h;rename_i e;cases e;split at h;split at h;rename_i A;split at h;rename_i hr;cases h;split at A;exact (Kp.seto A).trans (DH hr);cases A;exact DH hr;cases h;cases h;cases h;rename_i e;cases e;split at h;rename_i hr;cases h;exact DH hr;cases h
variable {P:Program}{t:Nat}{x g:GV}
theorem Pf(hg:HA P t S x g=some S'):S'.df=S.df∧S'.nx=S.nx:=by
 unfold HA at hg;split at hg;split at hg;obtain ⟨S1,h1,h2⟩:=M01.1 hg;cases h2;obtain ⟨l,B,_,_,A⟩:=Cm h1;exact ⟨(Ax A).2.1,(Ax A).1⟩;cases hg;split at hg;rename_i hf;split at hg;split at hg;split at hg;split at hg;have:=(DH hf).trans (Kp.seto hg);exact ⟨this.df,this.nx⟩;cases hg;cases hg;cases hg;cases hg;cases hg;cases hg
theorem Pg{name:Nat}{lo hi mx:Option GV}(hg:(CI P name t S x lo hi mx).run some=some (g,S')):Kp S S':=by
 unfold CI at hg;split at hg;split at hg;obtain ⟨r,h1,h2⟩:=AI.1 hg;cases h2;exact .refl _;exact (A4.1 hg).elim;split at hg;obtain ⟨r,h1,h2⟩:=AI.1 hg;cases h2;exact .refl _;exact (A4.1 hg).elim;split at hg;split at hg;obtain ⟨_,A⟩:=As.1 hg;cases A;exact .refl _;exact (A4.1 hg).elim;exact (A4.1 hg).elim;split at hg;split at hg;split at hg;obtain ⟨_,A⟩:=As.1 hg;cases A;exact .refl _;exact (A4.1 hg).elim;split at hg;obtain ⟨r,h1,h2⟩:=AI.1 hg;split at h2;rename_i B;obtain ⟨S2,E,A⟩:=M01.1 h2;cases A;exact (Kp.seto B).trans (Kp.seto E);cases h2;exact (A4.1 hg).elim;split at hg;rename_i hf;split at hg;obtain ⟨r,h1,h2⟩:=AI.1 hg;cases h2;exact DH hf;exact (A4.1 hg).elim;exact (A4.1 hg).elim;exact (A4.1 hg).elim;obtain ⟨v,h1,h2⟩:=M01.1 (run_of.1 hg);cases h2;exact .refl _
theorem RZ(h:Pc S g=some S'):Kp S S':=by
 unfold Pc at h;split at h;exact .seto h;cases h;exact .refl _
variable {G:Nat}{s:GV}
theorem M4{name:Nat}(hg:(EK P name t G S s x).run some=some (g,S')):Kp S S':=by
 unfold EK at hg;split at hg;split at hg;split at hg;split at hg;rename_i B;split at hg;rename_i E;obtain ⟨_,A⟩:=As.1 hg;cases A;exact (RZ B).trans (.seto E);exact (A4.1 hg).elim;exact (A4.1 hg).elim;exact (A4.1 hg).elim;exact (A4.1 hg).elim;exact (A4.1 hg).elim
variable {l c:GV}
theorem ZL{name:Nat}{lo co:Operand}(hg:(DD P name t lo co l c S).run some=some (g,S')):Kp S S':=by
 unfold DD at hg;split at hg;split at hg;split at hg;split at hg;split at hg;rename_i B;obtain ⟨_,A⟩:=As.1 hg;cases A;exact .seto B;exact (A4.1 hg).elim;exact (A4.1 hg).elim;exact (A4.1 hg).elim;exact (A4.1 hg).elim;exact (A4.1 hg).elim
theorem VQ{len name:Nat}{ps:List (Nat×GV)}(hg:I7 P name t len ps S=some (g,S')):Kp S S':=by
 unfold I7 at hg;split at hg;split at hg;split at hg;split at hg;rename_i A;split at hg;obtain ⟨S2,h1,h2⟩:=M01.1 hg;cases h2;exact (DH A).trans (.seto h1);cases hg;cases hg;cases hg;cases hg;cases hg
theorem Qe (P:Program):Ja P Ha:=λ_ _ _ _ _ h=>by cases h
theorem M5{B n q:Nat}(hg:(EL P t B S s x n q).run some=some (g,S')):Kp S S':=by
 unfold EL at hg;split at hg;rename_i hf;split at hg;obtain ⟨_,A⟩:=As.1 hg;cases A;exact DH hf;exact (A4.1 hg).elim;exact (A4.1 hg).elim
theorem M6{E name:Nat}{n:Int}(hg:(EN P name t E S n).run some=some (g,S')):Kp S S':=by
 unfold EN at hg;split at hg;split at hg;split at hg;split at hg;rename_i B;obtain ⟨_,A⟩:=As.1 hg;cases A;exact .seto B;exact (A4.1 hg).elim;exact (A4.1 hg).elim;exact (A4.1 hg).elim;exact (A4.1 hg).elim
theorem M7{name:Nat}{l:List UInt8}(hg:(EM P name t G S s l).run some=some (g,S')):Kp S S':=by
 unfold EM at hg;split at hg;split at hg;split at hg;rename_i B;split at hg;rename_i E;obtain ⟨_,A⟩:=As.1 hg;cases A;exact (RZ B).trans (.seto E);exact (A4.1 hg).elim;exact (A4.1 hg).elim;exact (A4.1 hg).elim;exact (A4.1 hg).elim
theorem M8{s d name:Nat}(hg:(G2 P name s d x S).run some=some (g,S')):S'.df=S.df∧S'.nx=S.nx∧Same name S S':=by
 have A:C7 P name s d x S=some (g,S')→S'.df=S.df∧S'.nx=S.nx∧Same name S S':=λhg=>by
  have h1:=KQ hg;exact ⟨h1.2.1,h1.1,h1⟩
 unfold G2 at hg;split at hg;split at hg;split at hg;rename_i G;obtain ⟨_,B⟩:=As.1 hg;cases B;obtain ⟨h1,h2,h3,_,E⟩:=Ak G;exact ⟨h3,h2,h2,h3,λb hb=>⟨by rw [h1],by rw [E,M1e hb]⟩⟩;exact (A4.1 hg).elim;exact (A4.1 hg).elim;split at hg;cases Az.1 hg;exact ⟨rfl,rfl,.rfl' _ _⟩;exact A (run_of.1 hg);exact A (run_of.1 hg)
theorem Ph{name:Nat}(hg:EO P name t S=some (g,S')):Kp S S':=by
 unfold EO at hg;split at hg;split at hg;obtain ⟨S1,h1,h2⟩:=M01.1 hg;cases h2;exact .seto h1;cases hg;cases hg
theorem VR{i:GV}(hg:Xr P t S b i x=some S'):Kp S S':=by
 unfold Xr at hg;split at hg;split at hg;exact .seto hg;cases hg;cases hg
theorem M9:∀ {l:List (Nat×List GV)} {g:Nat} {c:List GV},Q5 l g=some c→(g,c)∈l
 | [],g,c,h=>by cases h
 | (k,m)::l,g,c,h=>by
  unfold Q5 at h;split at h;rename_i e;cases h;rw [M0g e];simp;exact M1c _ (M9 h)
variable {p:Ren}{fr:Fr}
theorem jb{f:GF}{x:Operand}(hg:Uo f x=some g)(hgl:GlP p)(ho:∀ g,Bo f x=some g→RV p g (ev fr x)):RV p g (ev fr x):=by
 unfold Uo at hg;split at hg;obtain ⟨l,h1,rfl⟩:=M01.1 hg;exact hgl _ (M9 h1);exact ho g hg
theorem ZM(ts:Array TypeId)(ty:TypeId)(k k':IntKind)(a b:Int)(w:World):(Builtin.max_ ts ty #[.int k a,.int k' b]).run P w=.ok (.int k (max a b)) w:=by
 have e:max a b=if b>a then b else a:=by rw [Int.max_def];split <;> split <;> omega
 rw [e];rfl
theorem ZN(ts:Array TypeId)(ty:TypeId)(k k':IntKind)(a b:Int)(w:World):(Builtin.min_ ts ty #[.int k a,.int k' b]).run P w=.ok (.int k (min a b)) w:=by
 have e:min a b=if b<a then b else a:=by rw [Int.min_def];split <;> split <;> omega
 rw [e];rfl
variable {o:Oper}
theorem Ux{name:Nat}{f:GF}(hg:(HC P name o f S).run some=some (g,S')){a:Act}{w:World}(I:a.eval=ev fr)
  (ho:OpsOK p f fr o.op.operands.toList)(h:RH p S w)(hn:By p name)(O:name<S.nx){N:Act→World→Prop}{Q:Exit→Act→World→Prop}
  (H:∀ q u w' ds,RV q g u→RH q S' w'→Ch (λb=>b=name∨S.nx≤b∧b<S'.nx) p w q w'→(DF a.defers S.df→DF ds S'.df)→N (({ a with defers:=ds }:Act).put o.dst u) w'):o.wp P a w N Q:=by
 have Y:J7 P Ha name o f S=some (g,S')→o.wp P a w N Q:=λhg=>Jb (Qe P) hg I ho h hn O H
 obtain ⟨dst,op,ty,pos,ag,ah⟩:=o;have ab:∀ {s:Sem Value} {v:Value},(execOp (ev fr) ⟨dst,op,ty,pos,ag,ah⟩)=(do pure (.value (←s)):Sem Next)→S'=S→s.run P w=.ok v w→RV p g v→Oper.wp P ⟨dst,op,ty,pos,ag,ah⟩ a w N Q:=by
  intro s v he e h1 h2;subst e;refine AE (v:=v) (w':=w) (by rw [I,he];exact CH s v w w h1) ?_;exact H p v w a.defers h2 h (Ch.refl _ _ _) id
 have ae:∀ {s:Sem Value},(execOp (ev fr) ⟨dst,op,ty,pos,ag,ah⟩)=(do pure (.value (←s)):Sem Next)→S'.df=S.df→Giv P (· = name) p w s g S'→Oper.wp P ⟨dst,op,ty,pos,ag,ah⟩ a w N Q:=by
  intro s he aA ⟨q,v,w',h1,h2,h3,E⟩;refine AE (v:=v) (w':=w') (by rw [I,he];exact CH s v w w' h1) ?_;exact H q v w' a.defers h2 h3 (E.mono λb hb=>.inl hb) (by rw [aA];exact id)
 unfold HC at hg;cases op <;> simp only at hg <;> try simp only [Op.operands] at ho
 case pick c x y=>
  split at hg
  ·rename_i b vx vy hc G hy;have ai:ev fr c=.bool b:=ho c (by simp) _ hc;have al:=ho x (by simp) _ G;have am:=ho y (by simp) _ hy;split at hg
   ·rename_i v hm;have e:=Az.1 hg;cases e;have hv:RV p g (if b then ev fr x else ev fr y):=by
     unfold mrg at hm;split at hm
     ·split at hm
      ·rename_i hk;subst hk;cases hm;cases b <;> first | exact al | exact am
      cases hm
     ·cases hm;cases b <;> first | exact al | exact am
     ·cases hm;cases b <;> first | exact al | exact am
     ·split at hm
      ·rename_i e2 _;subst e2;cases hm;cases b <;> first | exact al | exact am
      cases hm
     cases hm
    refine AE (v:=if b then ev fr x else ev fr y) (w':=w) ?_ (H p _ w a.defers hv h (Ch.refl _ _ _) id);rw [I];cases b <;> simp only [execOp,ai] <;> rfl
   rcases E6.1 hg with ⟨rfl,e⟩|⟨rfl,e⟩;cases e;exact AE (v:=ev fr x) (w':=w) (by rw [I];simp only [execOp,ai];rfl) (H p _ w a.defers al h (Ch.refl _ _ _) id);cases e;exact AE (v:=ev fr y) (w':=w) (by rw [I];simp only [execOp,ai];rfl) (H p _ w a.defers am h (Ch.refl _ _ _) id)
  exact (A4.1 hg).elim
 case load t x=>
  split at hg;rename_i va hv;obtain ⟨v,h1,h2⟩:=M01.1 (run_of.1 hg);cases h2;obtain ⟨u,h3,E⟩:=ZD (P:=P) h h1 (ho x (by simp) _ hv);exact ab rfl rfl h3 E;exact (A4.1 hg).elim
 case store t x y=>
  split at hg;rename_i va vv G hy;obtain ⟨S1,h1,h2⟩:=M01.1 (run_of.1 hg);cases h2;obtain ⟨q,w',h3,E,Z⟩:=Xy (P:=P) h h1 (ho x (by simp) _ G) (ho y (by simp) _ hy);refine Hw (w':=w') (by rw [I];show Sem.run P (do Instr.storeAt t (ev fr x) (ev fr y);pure .skip:Sem Next) w=_;rw [run_bind,h3];rfl) ?_;exact H q undef w' a.defers ⟨[],rfl,trivial⟩ E (Z.mono λb hb=>hb.elim) (by rw [(Pf h1).1];exact id);exact (A4.1 hg).elim
 case nilCheck x=>
  split at hg;rename_i l off hv;cases Az.1 hg;have hr:=ho x (by simp) _ hv;refine AE (v:=ev fr x) (w':=w) ?_ (H p _ w a.defers hr h (Ch.refl _ _ _) id);obtain ⟨ad,vs,h2,_⟩:=hr;rw [I];simp only [execOp,h2];rfl;rename_i b t i off y hv;cases Az.1 hg;have hr:=ho x (by simp) _ hv;refine AE (v:=ev fr x) (w':=w) ?_ (H p _ w a.defers hr h (Ch.refl _ _ _) id);obtain ⟨g0,n,c,_,_,h2,_⟩:=hr;rw [I];simp only [execOp,h2];rfl;exact Y (run_of.1 hg)
 case fieldAddr s x i=>
  split at hg;rename_i l off d t hv ao;split at hg;rename_i n ar;cases Az.1 hg;obtain ⟨ad,vs,h2,h3,E⟩:=ho x (by simp) _ hv;refine ab rfl rfl (v:=.pointer (some ⟨ad.block,ad.off+off+d,none⟩)) ?_ ⟨ad,vs,by rw [M1P],h3,E⟩;rw [h2];exact EG ao ar _ _ w;exact (A4.1 hg).elim;rename_i b u j off y d t hv ao;split at hg;rename_i n ar;cases Az.1 hg;obtain ⟨g0,n,c,h2,h3,E,Z⟩:=ho x (by simp) _ hv;refine ab rfl rfl (v:=.pointer (some ⟨g0,j*u.sz+off+d,none⟩)) ?_ ⟨g0,n,c,h2,h3,by rw [M1P],Z⟩;rw [E];exact EG ao ar _ _ w;exact (A4.1 hg).elim;exact Y (run_of.1 hg)
 case binOp op t x y yt=>
  split at hg;rename_i vx vy G hy;obtain ⟨v,h1,h2⟩:=BO.1 hg;cases h2;obtain ⟨u,h3,E⟩:=Zj (xo:=x) (yo:=y) (yT h1) (ho x (by simp) _ G) (ho y (by simp) _ hy) w;exact ab rfl rfl h3 E;exact (A4.1 hg).elim
 case indexAddr t x i=>
  split at hg;rename_i vx vi G hi;obtain ⟨v,h1,h2⟩:=BO.1 hg;cases h2;obtain ⟨u,h3,E⟩:=OO h h1 (jb G h.gl (ho x (by simp))) (ho i (by simp) _ hi);exact ab rfl rfl h3 E;exact (A4.1 hg).elim
 case index t x i=>
  split at hg;rename_i vx vi G hi;split at hg;obtain ⟨v,h1,h2⟩:=BO.1 hg;cases h2;obtain ⟨u,h3,E⟩:=Pe h1 (ho x (by simp) _ G) (ho i (by simp) _ hi);exact ab rfl rfl h3 E;split at hg;rename_i l' S1 hf;obtain ⟨v,h1,h2⟩:=BO.1 hg;cases h2;obtain ⟨vs,e1,hv⟩:=ho x (by simp) _ G;obtain ⟨q,ap,aH⟩:=DG hf hv h;obtain ⟨u,h3,E⟩:=Pe (w:=w) h1 (show RV q (.agg l') (ev fr x) from ⟨vs,e1,aH⟩) ((ho i (by simp) _ hi).mono ap.le);exact ae rfl (DH hf).df ⟨q,u,w,h3,E,ap.rh,ap.ch _⟩;exact (A4.1 hg).elim;exact (A4.1 hg).elim;exact (A4.1 hg).elim
 case convert s d x=>
  split at hg;rename_i vx G;exact ae rfl (M8 hg).1 (ZI (P:=P) h hg (ho x (by simp) _ G) hn O);exact (A4.1 hg).elim
 case slice t x lo hi mx=>
  split at hg;rename_i vx aQ aN vmx G aE aB aF;have hm:∀ y,y∈lo.toList∨y∈hi.toList∨y∈mx.toList→y∈(#[x]++lo.toArray++hi.toArray++mx.toArray).toList:=λy hy=>by
   have e:∀ o:Option Operand,o.toArray.toList=o.toList:=λo=>by cases o <;> rfl
   simp only [M1Y,M1b,e];rcases hy with hy|hy|hy
   exact .inl (.inl (.inr hy));exact .inl (.inr hy);exact .inr hy
  exact ae rfl (Pg hg).df (Xz (P:=P) h hg (ho x (by simp) _ G) (GI aE λy hy=>ho y (hm y (.inl hy))) (GI aB λy hy=>ho y (hm y (.inr (.inl hy)))) (GI aF λy hy=>ho y (hm y (.inr (.inr hy)))) hn O);exact (A4.1 hg).elim
 case makeSlice t l c=>
  split at hg;rename_i lv cv hl hc;have kp:=(ZL hg).df;have aC:∃ l' c',lv=.int .i64 l'∧cv=.int .i64 c':=by
   unfold DD at hg;split at hg;exact ⟨_,_,rfl,rfl⟩;exact (A4.1 hg).elim
  obtain ⟨l',c',rfl,rfl⟩:=aC;have aD:ev fr l=.int .i64 l':=ho l (by simp) _ hl;have ai:ev fr c=.int .i64 c':=ho c (by simp) _ hc;have same:K7 l c=true→l'=c':=λhs=>by
   unfold K7 at hs;split at hs;have:=M0g hs;subst this;rw [hl] at hc;cases hc;rfl
   have:=M1s hs;subst this;have h1:P1 (.int .i64 _)=some (GV.int .i64 l'):=hl;have h2:P1 (.int .i64 _)=some (GV.int .i64 c'):=hc;cases h1;cases h2;rfl;cases hs
  have:=ZH (P:=P) h same hg hn O;rw [←aD,←ai] at this;exact ae rfl kp this
  exact (A4.1 hg).elim
 case buildSlice t len parts=>
  split at hg
  rotate_left
  exact Y (run_of.1 hg);split at hg;rename_i ps aG;have hg:=run_of.1 hg;have:=iZ (P:=P) h hg (I2 aG (by simpa using ho)) hn O;rw [De] at this;exact ae rfl (VQ hg).df this
  exact (A4.1 hg).elim
 case call c=>
  obtain ⟨callee,args,argTypes⟩:=c;split at hg
  ·rename_i gs aq;simp only at aq hg;have A:=GH aq λy hy=>ho y (by simp only [Call.operands,M1Y,M1b];exact .inr hy)
   have U:∀ {b:Builtin} {s:Sem Value},callee=.builtin b→(∀ cs:Array Bool,builtin b argTypes ty cs (args.map (ev fr))=(do pure (.value (←s)):Sem Next))→Giv P (· = name) p w s g S'→S'.df=S.df→
     Oper.wp P ⟨dst,.call ⟨callee,args,argTypes⟩,ty,pos,ag,ah⟩ a w N Q:=by
    intro b s az hb ⟨q,v,w',h1,h2,h3,E⟩ Z;subst az;refine AE (v:=v) (w':=w') ?_ (H q v w' a.defers h2 h3 (E.mono λb hb=>.inl hb) (by rw [Z];exact id));rw [I];simp only [execOp,resolve,pure_bind,invoke];refine (M1t (λs=>Sem.run P s w) (hb _)).trans ?_;exact CH s v w w' h1
   have B:args.map (ev fr)=(args.toList.map (ev fr)).toArray:=(DX _ _).symm;split at hg
   ·rename_i t x aj;obtain ⟨n,h1,h2⟩:=M01.1 (run_of.1 hg);cases h2;have J:argTypes = #[t]:=by cases argTypes;simp_all
    subst J;generalize hl:args.toList.map (ev fr)=vs at A B
    match vs,A,B with
    | [v],A,B=>
     exact U rfl (λ_=>rfl) (by rw [B];exact M4p h (iY h h1 A.1) rfl) rfl
   ·rename_i t t2 x l aj;have J:argTypes = #[t,t2]:=by cases argTypes;simp_all
    subst J;generalize hl:args.toList.map (ev fr)=vs at A B
    match vs,A,B with
    | [v,u],A,B=>
     have hu:u=Vs l:=A.2.1;subst hu;exact U rfl (λ_=>rfl) (by rw [B];exact Uu (P:=P) (ty:=ty) h hg A.1 hn O) (M7 hg).df
   ·rename_i t t2 k n aj;have J:argTypes = #[t,t2]:=by cases argTypes;simp_all
    subst J;generalize hl:args.toList.map (ev fr)=vs at A B
    match vs,A,B with
    | [v,u],A,B=>
     have hu:u=.int k n:=A.2.1;have hv:v=.slice none 0 0:=A.1;subst hu hv;exact U rfl (λ_=>rfl) (by rw [B];exact Us (P:=P) (ty:=ty) h hg hn O) (M6 hg).df
   ·rename_i t t2 b sz lo n q y _ aj;have J:argTypes = #[t,t2]:=by cases argTypes;simp_all
    subst J;generalize hl:args.toList.map (ev fr)=vs at A B
    match vs,A,B with
    | [v,u],A,B=>
     exact U rfl (λ_=>rfl) (by rw [B];exact Uv (P:=P) (ty:=ty) h hg A.1 A.2.1) (M5 hg).df
   ·rename_i t t2 x y _ _ _ aj;have J:argTypes = #[t,t2]:=by cases argTypes;simp_all
    subst J;generalize hl:args.toList.map (ev fr)=vs at A B
    match vs,A,B with
    | [v,u],A,B=>
     exact U rfl (λ_=>rfl) (by rw [B];exact Ur (P:=P) (ty:=ty) h hg A.1 A.2.1 hn O) (M4 hg).df
   rename_i k a k' b;split at hg;rename_i hk;cases Az.1 hg;generalize hl:args.toList.map (ev fr)=vs at A B
   match vs,A,B with
   | [v,u],A,B=>
    have h1:v=.int k a:=A.1;have h2:u=.int k' b:=A.2.1;subst h1 h2;exact U rfl (λ_=>rfl) (by rw [B];exact M4p h (ZM argTypes ty k k' a b w) rfl) rfl
   exact (A4.1 hg).elim;have hg:=run_of.1 hg;refine Y ?_;unfold J7;simp only [aq];exact hg;rename_i k a k' b;split at hg;rename_i hk;cases Az.1 hg;generalize hl:args.toList.map (ev fr)=vs at A B
   match vs,A,B with
   | [v,u],A,B=>
    have h1:v=.int k a:=A.1;have h2:u=.int k' b:=A.2.1;subst h1 h2;exact U rfl (λ_=>rfl) (by rw [B];exact M4p h (ZN argTypes ty k k' a b w) rfl) rfl
   exact (A4.1 hg).elim
   ·rename_i t aj;split at hg
    ·rename_i e hu;cases Az.1 hg;have J:argTypes = #[t]:=by cases argTypes;simp_all
     subst J;generalize hl:args.toList.map (ev fr)=vs at A B
     match vs,A,B with
     | [v],A,B=>
      have h1:v=.slice none 0 0:=A.1;subst h1;have ay:(Builtin.cap_ #[t] ty #[.slice none 0 0]).run P w=.ok (.int .i64 0) w:=by
       simp only [Builtin.cap_];show Sem.run P (underlying t >>= _) w=_
       rw [run_bind,run_underlying hu];rfl
      exact U rfl (λ_=>rfl) (by rw [B];exact M4p h ay rfl) rfl
    exact (A4.1 hg).elim
   exact (A4.1 hg).elim
  exact (A4.1 hg).elim
 case makeMap t r=>
  cases r with
  | none=>exact ae rfl (Ph (run_of.1 hg)).df (XB (P:=P) h (run_of.1 hg) hn O)
  | some r=>exact Y (run_of.1 hg)
 case lookup t m i ok=>
  split at hg;rename_i b vi hm hi;obtain ⟨v,h1,h2⟩:=BO.1 hg;cases h2;obtain ⟨u,h3,E⟩:=ZK h h1 (ho m (by simp) _ hm) (ho i (by simp) _ hi);exact ab rfl rfl h3 E;exact Y (run_of.1 hg)
 case mapUpdate t m k v=>
  split at hg;rename_i b vk vv hm hk hv;obtain ⟨S1,h1,h2⟩:=M01.1 (run_of.1 hg);cases h2;obtain ⟨w',h3,E,Z⟩:=ja (P:=P) h h1 (ho m (by simp) _ hm) (ho k (by simp) _ hk) (ho v (by simp) _ hv);refine Hw (w':=w') (by rw [I];show Sem.run P (do Instr.mapUpdate t (ev fr m) (ev fr k) (ev fr v);pure .skip:Sem Next) w=_;rw [run_bind,h3];rfl) ?_;exact H p undef w' a.defers ⟨[],rfl,trivial⟩ E (Z.mono λb hb=>hb.elim) (by rw [(VR h1).df];exact id);exact (A4.1 hg).elim
 all_goals first | exact Y (run_of.1 hg) | exact (A4.1 hg).elim
theorem S4:∀ {l A:List GV} {S S':St},Ed l=true→IZ S l=some (A,S')→S'=S
 | [],A,S,S',_,h=>by cases h;rfl
 | g::l,A,S,S',hn,h=>by
  unfold Ed at hn;simp only [M05] at hn;unfold IZ at h
  split at h;rename_i e;cases e;rename_i e;cases e;exact absurd hn.1 (by simp [Hj]);rename_i e;cases e;exact absurd hn.1 (by simp [Hj]);rename_i e;cases e;split at h;rename_i hr;cases h;exact S4 hn.2 hr;cases h
theorem Same.seto {name:Nat}{o:Option JC}(h:S.seto name o=some S'):Same name S S':=by
 obtain ⟨h1,h2,h3,_,A⟩:=Ak h;exact ⟨h2,h3,λb hb=>⟨by rw [h1],by rw [A,M1e hb]⟩⟩
theorem XD{len name:Nat}{ps:List (Nat×GV)}(hg:I7 P name t len ps S=some (g,S'))(hp:(ps.all λp=>Hj p.2)=true):Same name S S':=by
 unfold I7 at hg;split at hg;split at hg;split at hg;split at hg;rename_i A B;rw [hp] at A;have e:=S4 (by simpa using A) B;subst e
 split at hg;obtain ⟨S2,h1,h2⟩:=M01.1 hg;cases h2;exact .seto h1;cases hg;cases hg;cases hg;cases hg;cases hg
theorem Ma{name:Nat}{lo co:Operand}(hg:(DD P name t lo co l c S).run some=some (g,S')):Same name S S':=by
 unfold DD at hg;split at hg;split at hg;split at hg;split at hg;split at hg;rename_i B;obtain ⟨_,A⟩:=As.1 hg;cases A;exact .seto B;exact (A4.1 hg).elim;exact (A4.1 hg).elim;exact (A4.1 hg).elim;exact (A4.1 hg).elim;exact (A4.1 hg).elim
theorem Dq {f:GF}{x:Option Operand}{y:Option GV}(h:KH f x=some y):y.isNone=x.isNone:=by
 cases x with
 | none=>cases h;rfl
 | some o=>
  unfold KH at h;obtain ⟨g,_,rfl⟩:=M01.1 h;rfl
theorem JK{name:Nat}{lo hi mx:Option GV}(hg:(CI P name t S x lo hi mx).run some=some (g,S'))(H:(VL (some x)&&(lo.isNone&&mx.isNone))=false):S'=S:=by
 unfold CI at hg;split at hg;split at hg;obtain ⟨r,h1,h2⟩:=AI.1 hg;cases h2;rfl;exact (A4.1 hg).elim;split at hg;obtain ⟨r,h1,h2⟩:=AI.1 hg;cases h2;rfl;exact (A4.1 hg).elim;split at hg;split at hg;obtain ⟨_,A⟩:=As.1 hg;cases A;rfl;exact (A4.1 hg).elim;exact (A4.1 hg).elim;split at hg;rename_i o ho;split at hg;split at hg;obtain ⟨_,A⟩:=As.1 hg;cases A;rfl;exact (A4.1 hg).elim;cases H;rename_i I O J E G;split at hg;rename_i hf;split at hg;obtain ⟨r,h1,h2⟩:=AI.1 hg;cases h2;have B:o.mu=false:=by
  cases hm:o.mu with
  | false=>rfl
  | true=>
   cases I with
   | none=>exact (G hm rfl).elim
   | some l=>exact (E l hm rfl).elim
 unfold IZ at hf;rw [ho] at hf;simp only [B,IZ] at hf;cases hf;rfl
 exact (A4.1 hg).elim;exact (A4.1 hg).elim;exact (A4.1 hg).elim;obtain ⟨v,h1,h2⟩:=M01.1 (run_of.1 hg);cases h2;rfl
theorem XE{name:Nat}{f:GF}(hg:(HC P name o f S).run some=some (g,S')):S.nx≤S'.nx∧(HD o f=true→Same name S S'):=by
 obtain ⟨dst,op,ty,pos,B,E⟩:=o;have H:HD ⟨dst,op,ty,pos,B,E⟩ f=true→Cy op=true:=λh=>by unfold HD at h;rw [M05] at h;exact h.1
 have A:J7 P Ha name ⟨dst,op,ty,pos,B,E⟩ f S=some (g,S')→S.nx≤S'.nx∧(HD ⟨dst,op,ty,pos,B,E⟩ f=true→Same name S S'):=λhg=>⟨(KR (Qe P) hg).1,λh=>(KR (Qe P) hg).2 (H h)⟩
 have same:S'=S→S.nx≤S'.nx∧(HD ⟨dst,op,ty,pos,B,E⟩ f=true→Same name S S'):=λe=>by subst e;exact ⟨M1g _,λ_=>.rfl' _ _⟩
 have G:Kp S S'→Cy op=false→S.nx≤S'.nx∧(HD ⟨dst,op,ty,pos,B,E⟩ f=true→Same name S S'):=λk hf=>⟨M1O k.nx.symm,λh=>by rw [H h] at hf;cases hf⟩
 unfold HC at hg;cases op <;> simp only at hg
 case pick=>
  split at hg;split at hg;cases Az.1 hg;exact same rfl;rcases E6.1 hg with ⟨_,e⟩|⟨_,e⟩ <;> cases e <;> exact same rfl
  exact (A4.1 hg).elim
 case load=>
  split at hg;obtain ⟨v,h1,h2⟩:=M01.1 (run_of.1 hg);cases h2;exact same rfl;exact (A4.1 hg).elim
 case store=>
  split at hg;obtain ⟨S1,h1,h2⟩:=M01.1 (run_of.1 hg);cases h2;refine ⟨M1O (Pf h1).2.symm,λh=>?_⟩;have:=H h;cases this;exact (A4.1 hg).elim
 case nilCheck=>
  split at hg;cases Az.1 hg;exact same rfl;cases Az.1 hg;exact same rfl;exact A (run_of.1 hg)
 case fieldAddr=>
  split at hg;split at hg;cases Az.1 hg;exact same rfl;exact (A4.1 hg).elim;split at hg;cases Az.1 hg;exact same rfl;exact (A4.1 hg).elim;exact A (run_of.1 hg)
 case binOp=>
  split at hg;obtain ⟨v,h1,h2⟩:=BO.1 hg;cases h2;exact same rfl;exact (A4.1 hg).elim
 case slice t x lo hi mx=>
  split at hg;rename_i vx _ _ _ U _ _ _;refine ⟨M1O (Pg hg).nx.symm,λh=>?_⟩;unfold HD at h;simp only [M05,U,M2u] at h;rw [JK hg (by rw [Dq (by assumption),Dq (by assumption)];exact h.2)];exact .rfl' _ _
  exact (A4.1 hg).elim
 case indexAddr=>
  split at hg;obtain ⟨v,h1,h2⟩:=BO.1 hg;cases h2;exact same rfl;exact (A4.1 hg).elim
 case index t x i=>
  split at hg;rename_i vx Z Y hi;split at hg;obtain ⟨v,h1,h2⟩:=BO.1 hg;cases h2;exact same rfl;rename_i J;split at hg;rename_i hf;obtain ⟨v,h1,h2⟩:=BO.1 hg;cases h2;refine ⟨M1O (DH hf).nx.symm,λh=>?_⟩;unfold HD at h;simp only [M05,Y] at h;rw [h.2] at J;cases J
  exact (A4.1 hg).elim;exact (A4.1 hg).elim;exact (A4.1 hg).elim
 case convert=>
  split at hg;exact ⟨M1O (M8 hg).2.1.symm,λ_=>(M8 hg).2.2⟩;exact (A4.1 hg).elim
 case makeSlice=>
  split at hg;exact ⟨M1O (Ma hg).1.symm,λ_=>Ma hg⟩;exact (A4.1 hg).elim
 case buildSlice t len parts=>
  split at hg
  rotate_left
  exact A (run_of.1 hg);split at hg;rename_i ps O;have hg:=run_of.1 hg;refine ⟨M1O (VQ hg).nx.symm,λh=>?_⟩;unfold HD at h;simp only [M05,O] at h;exact XD hg h.2
  exact (A4.1 hg).elim
 case call c=>
  obtain ⟨callee,args,argTypes⟩:=c;split at hg;rename_i gs I;simp only at I hg;split at hg;obtain ⟨n,h1,h2⟩:=M01.1 (run_of.1 hg);cases h2;exact same rfl;exact G (M7 hg) rfl;exact G (M6 hg) rfl;exact G (M5 hg) rfl;exact G (M4 hg) rfl;split at hg;cases Az.1 hg;exact same rfl;exact (A4.1 hg).elim;have hg:=run_of.1 hg;refine A ?_;unfold J7;simp only [I];exact hg;split at hg;cases Az.1 hg;exact same rfl;exact (A4.1 hg).elim;split at hg;cases Az.1 hg;exact same rfl;exact (A4.1 hg).elim;exact (A4.1 hg).elim;exact (A4.1 hg).elim
 case makeMap t r=>
  cases r with
  | none=>
   refine ⟨M1O (Ph (run_of.1 hg)).nx.symm,λ_=>?_⟩;have hg:=run_of.1 hg;unfold EO at hg;split at hg;split at hg;obtain ⟨S1,h1,h2⟩:=M01.1 hg;cases h2;exact .seto h1;cases hg;cases hg
  | some r=>exact A (run_of.1 hg)
 case lookup=>
  split at hg;obtain ⟨v,h1,h2⟩:=BO.1 hg;cases h2;exact same rfl;exact A (run_of.1 hg)
 case mapUpdate=>
  split at hg;obtain ⟨S1,h1,h2⟩:=M01.1 (run_of.1 hg);cases h2;exact G (VR h1) rfl;exact (A4.1 hg).elim
 all_goals first | exact A (run_of.1 hg) | exact (A4.1 hg).elim
def Hst (l:List Nat) (S S':St) (b:Nat):Prop:=S'.h.get b=S.h.get b∨∃ c c',S.h.get b=some (.cells c)∧S'.h.get b=some (.cells c')∧c'.length=c.length∧∀ k,En b k∉l→c'[k]? = c[k]?
structure Cw (P:Program) (call:CK):Prop where
 cut:∀ {A:Type} {g:FuncId} {args:List GV} {S:St} {K:GV→St→Option A} {r:A},call A g args S K=some r→∃ v S',call (GV×St) g args S (λv S=>some (v,S))=some (v,S')∧K v S'=some r
 ok:Ja P λg args S=>call (GV×St) g args S λv S=>some (v,S)
 lg:∀ {g:FuncId} {args:List GV} {S S':St} {v:GV},call (GV×St) g args S (λv S=>some (v,S))=some (v,S')→∃ l,S'.lg=l++S.lg∧(∀ b,b∉l→b<S.nx→S'.h.get b=S.h.get b∧S'.ow.get b=S.ow.get b)∧∀ b,b<S.nx→Hst l S S' b
variable {call:CK}
theorem Mb(B:Cw P call){A:Type}{name:Nat}{f:GF}{K:GV→St→Option A}{r:A}(h:K8 P call name o f S K=some r):∃ v S',(J0 P call).run name o f S=some (v,S')∧K v S'=some r:=by
 unfold K8 at h;show ∃ v S',K8 P call name o f S (λv S=>some (v,S))=some (v,S')∧_
 unfold K8;split at h;exact B.cut h;obtain ⟨b,h1,h2⟩:=M4u h;exact ⟨b.1,b.2,h1,h2⟩
theorem GQ{call:Cl}{name:Nat}{f:GF}{g:FuncId}{args:List GV}(h:Q6 o f=some (g,args)):J7 P call name o f S=call g args S∧Cy o.op=false:=by
 obtain ⟨dst,op,ty,pos,A,E⟩:=o;unfold Q6 at h;cases op <;> simp only at h <;> first | (cases h;done) | skip
 rename_i c;obtain ⟨callee,B,argTypes⟩:=c;cases callee <;> simp only at h <;> first | (cases h;done) | skip
 split at h;rename_i h1 h2;cases h;refine ⟨?_,rfl⟩;unfold J7;simp only [h1,h2];cases h
theorem ZO(G:Cw P call):D6 P (J0 P call):=by
 refine ⟨λ{name o f S S' g} hg {p a fr w} E ho h hn H {N Q} B=>?_,λ{name o f S S' g} hg=>?_⟩;have hg:K8 P call name o f S (λv S=>some (v,S))=some (g,S'):=hg;unfold K8 at hg;split at hg;rename_i k args A;refine Jb (call:=λg args S=>call (GV×St) g args S λv S=>some (v,S)) G.ok (name:=name) (f:=f) (S:=S) (S':=S') (g:=g) ?_ E ho h hn H B;rw [(GQ A).1];exact hg;exact Ux hg E ho h hn H B;have hg:K8 P call name o f S (λv S=>some (v,S))=some (g,S'):=hg;unfold K8 at hg;split at hg;rename_i k args A;refine ⟨(G.ok _ _ _ _ _ hg).2.1,λhf=>?_⟩;have hf:HD o f=true:=hf;unfold HD at hf;rw [M05,(GQ (P:=P) (call:=Ha) (name:=name) (S:=S) A).2] at hf;cases hf.1
 exact XE hg
end
section
theorem CJ {f f':GF}:∀ {l:List Operand},(∀ x∈l,Bo f' x=Bo f x)→EC f' l=EC f l
 | [],_=>rfl
 | x::l,h=>by unfold EC;rw [h x (by simp),CJ (l:=l) λy hy=>h y (by simp [hy])]
theorem DI {f f':GF}:∀ {l:List (Nat×Operand)},(∀ x∈l.map (·.2),Bo f' x=Bo f x)→KD f' l=KD f l
 | [],_=>rfl
 | (i,x)::l,h=>by unfold KD;rw [h x (by simp),DI (l:=l) λy hy=>h y (by simp only [M1X,M1y];exact .inr hy)]
variable {f':GF}
theorem CL {f:GF}{o:Option Operand}(h:∀ x∈o.toList,Bo f' x=Bo f x):KH f' o=KH f o:=by
 cases o with
 | none=>rfl
 | some x=>show Option.map some (Bo f' x)=Option.map some (Bo f x);rw [h x (by simp)]
variable {P:Program}{o:Oper}{S:St}
theorem XF{call:Cl}{name:Nat}{f:GF}(h:∀ x∈o.op.operands.toList,Bo f' x=Bo f x):J7 P call name o f' S=J7 P call name o f S:=by
 obtain ⟨dst,op,ty,pos,B,E⟩:=o;unfold J7;cases op <;> simp only [Op.operands] at h ⊢
 case move x=>rw [h x (by simp)]
 case assign x=>rw [h x (by simp)]
 case pick c x y=>rw [h c (by simp),h x (by simp),h y (by simp)]
 case box t x=>rw [h x (by simp)]
 case build t parts=>rw [DI (l:=parts.toList) (by simpa using h)]
 case buildSlice t len parts=>rw [DI (l:=parts.toList) (by simpa using h)]
 case load t x=>rw [h x (by simp)]
 case store t x y=>rw [h x (by simp),h y (by simp)]
 case nilCheck x=>rw [h x (by simp)]
 case binOp op t x y yt=>rw [h x (by simp),h y (by simp)]
 case unOp op t x=>rw [h x (by simp)]
 case convert s d x=>rw [h x (by simp)]
 case makeFunc fn a c=>
  cases fn <;> simp only
  rw [CJ (l:=a.toList) λy hy=>h y (by simp only [M1Y,M1b];exact .inl hy),CJ (l:=c.toList) λy hy=>h y (by simp only [M1Y,M1b];exact .inr hy)]
 case makeMap t r=>cases r <;> rfl
 case makeSlice t l c=>rw [h l (by simp),h c (by simp)]
 case slice t x lo hi mx=>
  have hm:∀ y,y∈lo.toList∨y∈hi.toList∨y∈mx.toList→y∈(#[x]++lo.toArray++hi.toArray++mx.toArray).toList:=λy hy=>by
   have e:∀ o:Option Operand,o.toArray.toList=o.toList:=λo=>by cases o <;> rfl
   simp only [M1Y,M1b,e];rcases hy with hy|hy|hy
   exact .inl (.inl (.inr hy));exact .inl (.inr hy);exact .inr hy
  rw [h x (by simp),CL λy hy=>h y (hm y (.inl hy)),CL λy hy=>h y (hm y (.inr (.inl hy))),CL λy hy=>h y (hm y (.inr (.inr hy)))]
 case fieldAddr s x i=>rw [h x (by simp)]
 case field s x i=>rw [h x (by simp)]
 case indexAddr t x i=>rw [h x (by simp),h i (by simp)]
 case index t x i=>rw [h x (by simp),h i (by simp)]
 case lookup t x i ok=>rw [h x (by simp),h i (by simp)]
 case mapUpdate t m k v=>rw [h m (by simp),h k (by simp),h v (by simp)]
 case extract x i=>rw [h x (by simp)]
 case defer c=>
  obtain ⟨callee,args,argTypes⟩:=c;cases callee <;> simp only [Call.operands] at h ⊢
  rename_i x;cases args.toList with
  | nil=>simp only [h x (by simp)]
  | cons y l=>rfl
 case call c=>
  obtain ⟨callee,args,argTypes⟩:=c;have A:EC f' args.toList=EC f args.toList:=CJ λy hy=>h y (by simp only [Call.operands,M1Y,M1b];exact .inr hy)
  simp only [A];cases callee <;> simp only [Call.operands] at h ⊢
  rename_i x;rw [h x (by simp)]
theorem Mc{name:Nat}{f:GF}(h:∀ x∈o.op.operands.toList,Bo f' x=Bo f x):HC P name o f' S=HC P name o f S:=by
 have A:=XF (P:=P) (call:=Ha) (name:=name) (S:=S) h;obtain ⟨dst,op,ty,pos,E,G⟩:=o;unfold HC;cases op <;> simp only [Op.operands] at h ⊢ <;> try rw [A]
 case pick c x y=>rw [h c (by simp),h x (by simp),h y (by simp)]
 case buildSlice t len parts=>rw [DI (l:=parts.toList) (by simpa using h)]
 case load t x=>rw [h x (by simp)]
 case store t x y=>rw [h x (by simp),h y (by simp)]
 case nilCheck x=>rw [h x (by simp)]
 case binOp op t x y yt=>rw [h x (by simp),h y (by simp)]
 case makeSlice t l c=>rw [h l (by simp),h c (by simp)]
 case slice t x lo hi mx=>
  have hm:∀ y,y∈lo.toList∨y∈hi.toList∨y∈mx.toList→y∈(#[x]++lo.toArray++hi.toArray++mx.toArray).toList:=λy hy=>by
   have e:∀ o:Option Operand,o.toArray.toList=o.toList:=λo=>by cases o <;> rfl
   simp only [M1Y,M1b,e];rcases hy with hy|hy|hy
   exact .inl (.inl (.inr hy));exact .inl (.inr hy);exact .inr hy
  rw [h x (by simp),CL λy hy=>h y (hm y (.inl hy)),CL λy hy=>h y (hm y (.inr (.inl hy))),CL λy hy=>h y (hm y (.inr (.inr hy)))]
 case fieldAddr s x i=>rw [h x (by simp)]
 case indexAddr t x i=>
  have e:Uo f' x=Uo f x:=by
   have:=h x (by simp);cases x <;> first | rfl | exact this
  rw [e,h i (by simp)]
 case index t x i=>rw [h x (by simp),h i (by simp)]
 case convert s d x=>rw [h x (by simp)]
 case makeMap t r=>cases r <;> rfl
 case lookup t m i ok=>rw [h m (by simp),h i (by simp)]
 case mapUpdate t m k v=>rw [h m (by simp),h k (by simp),h v (by simp)]
 case call c=>
  obtain ⟨callee,args,argTypes⟩:=c;have B:EC f' args.toList=EC f args.toList:=CJ λy hy=>h y (by simp only [Call.operands,M1Y,M1b];exact .inr hy)
  simp only [B]
theorem Md{f:GF}(h:∀ x∈o.op.operands.toList,Bo f' x=Bo f x):Q6 o f'=Q6 o f:=by
 obtain ⟨dst,op,ty,pos,B,E⟩:=o;unfold Q6;cases op <;> simp only [Op.operands] at h ⊢
 rename_i c;obtain ⟨callee,args,argTypes⟩:=c;have A:EC f' args.toList=EC f args.toList:=CJ λy hy=>h y (by simp only [Call.operands,M1Y,M1b];exact .inr hy)
 cases callee <;> simp only [Call.operands] at h ⊢
 rename_i x;rw [h x (by simp),A]
def Loc (name:Nat) (S S':St) (r B:Option (GV×St)):Prop:=∀ g S1,r=some (g,S1)→∃ A,B=some (g,A)∧((S1.h.get name=S.h.get name∧S1.ow.get name=S.ow.get name)→A.h.get name=S'.h.get name∧A.ow.get name=S'.ow.get name)
variable {S':St}
theorem AG {name:Nat}{r:Option (GV×St)}:Loc name S S' none r:=λg S1 h=>by cases h
variable {α:Type}
theorem Bu {name:Nat}{o:Option α}{c:α→GV}:Loc name S S' (o.map λv=>(c v,S)) (o.map λv=>(c v,S')):=λg S1 h=>by
 obtain ⟨v,h1,h2⟩:=M01.1 h;cases h2;exact ⟨S',by rw [h1];rfl,λ_=>⟨rfl,rfl⟩⟩
variable {g:GV}
theorem GR {name:Nat}:Loc name S S' (some (g,S)) (some (g,S')):=λA S1 h=>by
 cases h;exact ⟨S',rfl,λ_=>⟨rfl,rfl⟩⟩
variable {S1:St}{b:Nat}
theorem VS(S':St){g:Option GB}(h:S.put b g=some S1):∃ A,S'.put b g=some A∧A.h.get b=g∧A.ow=S'.ow:=by
 have hb:Nat.blt b KF=true:=by
  unfold St.put at h;split at h;assumption;cases h
 have e:S'.put b g=some ⟨S'.h.set AD b g,S'.nx,S'.df,S'.ow,S'.lg⟩:=by unfold St.put;rw [hb]
 exact ⟨_,e,by rw [(Ax e).2.2,M1d rfl],rfl⟩
variable {c:GV}
theorem VT {name:Nat}{g:Option GB}(A:S'.h.get name=S.h.get name):Loc name S S' ((S.put name g).map λS=>(c,S)) ((S'.put name g).map λS=>(c,S)):=λI S1 h=>by
 obtain ⟨S2,h1,h2⟩:=M01.1 h;cases h2;obtain ⟨S3,E,G,H⟩:=VS S' h1;refine ⟨S3,by rw [E];rfl,λB=>⟨?_,by rw [H]⟩⟩;have:=(Ax h1).2.2 name;rw [M1d rfl] at this;rw [G,A,←B.1,this]
variable {l:List GV}
theorem Kd {name:Nat}(A:S'.h.get name=S.h.get name):Loc name S S' ((newB S name l).map λS=>(c,S)) ((newB S' name l).map λS=>(c,S)):=by
 unfold newB;split;exact VT A;exact λg S1 h=>by cases h
variable {s d:Nat}{x:GV}
theorem Pj{name:Nat}(hn:S'.h.get name=S.h.get name)(A:∀ b∈Bi (some x),S'.h.get b=S.h.get b):Loc name S S' (C7 P name s d x S) (C7 P name s d x S'):=by
 unfold C7;split;exact GR;exact GR;split;split;exact Kd hn;exact AG;exact AG;split;exact GR;exact AG;rename_i b off n c _ _;have:Bc S' b off n=Bc S b off n:=by unfold Bc;rw [A b (by simp [Bi])]
 rw [this];split;split;exact Bu;exact AG;exact AG;exact AG
variable {t:Nat}{i:GV}
theorem Uy{ok:Bool}(A:∀ b∈Bi (some x),S'.h.get b=S.h.get b):GE P t S' x i ok=GE P t S x i ok:=by
 have:P3 S' x=P3 S x:=by
  cases x <;> simp only [P3]
  rename_i b;rw [A b (by simp [Bi])]
 unfold GE;rw [this]
theorem jc{name:Nat}{f:GF}(hf:Cy o.op=true)(A:∀ b∈EP o f name,S'.h.get b=S.h.get b∧S'.ow.get b=S.ow.get b)(G:∀ t a,o.op≠.load t a)(I:∀ t x a b c,o.op≠.slice t x a b c)(H:∀ t a b,o.op≠.makeSlice t a b)(E:∀ c,o.op≠.call c) :
  Loc name S S' (J7 P Ha name o f S) (J7 P Ha name o f S'):=by
 obtain ⟨dst,op,ty,pos,J,O⟩:=o;unfold J7;cases op <;> simp only [EP] at A ⊢
 case move=>exact Bu
 case assign=>exact Bu
 case pick=>split <;> first | exact Bu | exact AG
 case alloc=>split <;> first | exact Kd (A name (by simp)).1 | exact AG
 case box=>split <;> first | exact Kd (A name (by simp)).1 | exact AG
 case build=>
  split
  ·split <;> first | exact Bu | exact AG
  ·split <;> first | exact Bu | exact AG
  exact AG
 case buildSlice=>
  split
  ·split
   ·split
    ·split <;> first | exact Kd (A name (by simp)).1 | exact AG
    exact AG
   exact AG
  exact AG
 case load=>exact absurd rfl (G _ _)
 case store=>cases hf
 case nilCheck=>
  split
  ·split <;> first | exact GR | exact AG
  exact AG
 case binOp=>split <;> first | exact Bu | exact AG
 case unOp=>split <;> first | exact Bu | exact AG
 case convert s d x=>
  split;rename_i vx B;rw [B] at A;exact Pj (A name (by simp)).1 λb hb=>(A b (by simp [hb])).1
  exact AG
 case makeFunc fn a c=>
  cases fn <;> simp only
  ·split <;> first | exact GR | exact AG
  all_goals exact AG
 case makeMap t r=>
  cases r <;> simp only
  exact VT (A name (by simp)).1;exact AG
 case makeSlice=>exact absurd rfl (H _ _ _)
 case slice=>exact absurd rfl (I _ _ _ _ _)
 case fieldAddr=>
  split
  ·split <;> first | exact GR | exact AG
  exact AG
 case field=>split <;> first | exact Bu | exact AG
 case indexAddr=>split <;> first | exact Bu | exact AG
 case index=>split <;> first | exact Bu | exact AG
 case lookup t x i ok=>
  split;rename_i vx U B hi;rw [B] at A;rw [Uy (S:=S) (S':=S') λb hb=>(A b hb).1];exact Bu
  exact AG
 case mapUpdate=>cases hf
 case extract=>split <;> first | exact Bu | exact AG
 case defer=>cases hf
 case call=>exact absurd rfl (E _)
 all_goals exact AG
theorem Qf {name:Nat}{d:Dec GV}:Loc name S S' ((d.on λv=>(v,S)).run some) ((d.on λv=>(v,S')).run some):=λg S1 h=>by
 obtain ⟨v,h1,h2⟩:=BO.1 h;cases h2;exact ⟨S',BO.2 ⟨_,h1,rfl⟩,λ_=>⟨rfl,rfl⟩⟩
theorem CM {name:Nat}{o o':Option (GV×St)}(h:Loc name S S' o o'):Loc name S S' ((Dec.of o).run some) ((Dec.of o').run some):=λg S1 B=>by
 obtain ⟨A,E,G⟩:=h g S1 (run_of.1 B);exact ⟨A,run_of.2 E,G⟩
variable {v:GV}
theorem EQ {name:Nat}:Loc name S S' ((Dec.ret (v,S)).run some) ((Dec.ret (v,S')).run some):=λg S1 A=>by
 cases Az.1 A;exact ⟨S',rfl,λ_=>⟨rfl,rfl⟩⟩
theorem AJ {name:Nat}{r:Option (GV×St)}:Loc name S S' ((Dec.no:Dec (GV×St)).run some) r:=λg S1 h=>by cases h
theorem Eu(S':St){o:Option JC}(h:S.seto b o=some S1):∃ A,S'.seto b o=some A∧A.h=S'.h∧A.ow.get b=o:=by
 have hb:Nat.blt b KF=true:=by
  unfold St.seto at h;split at h;assumption;cases h
 have e:S'.seto b o=some ⟨S'.h,S'.nx,S'.df,S'.ow.set AD b o,b::S'.lg⟩:=by unfold St.seto;rw [hb]
 exact ⟨_,e,rfl,by rw [(Ak e).2.2.2.2,M1d rfl]⟩
theorem XG(A:∀ b∈Bi (some x),S'.h.get b=S.h.get b∧S'.ow.get b=S.ow.get b):Pb P t S' x=Pb P t S x:=by
 cases x <;> simp only [Pb]
 rename_i b off;unfold KE;rw [(A b (by simp [Bi])).1];rename_i b u i off y;rw [(A b (by simp [Bi])).2]
variable {lo hi mx:Option GV}
theorem Uz(A:∀ b∈Bi (some x),S'.h.get b=S.h.get b):ED P t S' x lo hi mx=ED P t S x lo hi mx:=by
 unfold ED;generalize P.underlying t=u;cases x with
 | sl b off len c=>
  cases c with
  | kn c=>rcases u with _|d <;> first|rfl | (cases d <;> rfl)
  | op es=>rcases u with _|d <;> first|rfl | (cases d <;> first|rfl | (simp only [A b (by simp [Bi])]))
 | _=>rcases u with _|d <;> first|rfl | (cases d <;> rfl)
theorem ZP(A:∀ b∈Bi (some x),S'.h.get b=S.h.get b∧S'.ow.get b=S.ow.get b):Xp P t S' x=Xp P t S x:=by
 have hl:Uc P t S' x=Uc P t S x:=by
  unfold Uc;generalize P.underlying t=u;cases x with
  | map b=>rcases u with _|d <;> first|rfl | (cases d <;> first|rfl | (simp only [(A b (by simp [Bi])).1]))
  | _=>rcases u with _|d <;> first|rfl | (cases d <;> rfl)
 unfold Xp;rw [hl];generalize P.underlying t=u;cases x with
 | own b=>rcases u with _|d <;> first|rfl | (cases d <;> first|rfl | (simp only [(A b (by simp [Bi])).2]))
 | _=>rcases u with _|d <;> first|rfl | (cases d <;> rfl)
theorem UA{name:Nat}(ho:(VL (some x)&&(lo.isNone&&mx.isNone))=false)(A:∀ b∈Bi (some x),S'.h.get b=S.h.get b∧S'.ow.get b=S.ow.get b) :
  Loc name S S' ((CI P name t S x lo hi mx).run some) ((CI P name t S' x lo hi mx).run some):=by
 have opt:∀ {α:Type} {o:Option α} {k:α→GV},Loc name S S' ((Dec.opt o λr=>some (k r,S)).run some) ((Dec.opt o λr=>some (k r,S')).run some):=λ{α o k} g S1 h=>by
  obtain ⟨r,h1,h2⟩:=AI.1 h;cases h2;exact ⟨S',AI.2 ⟨r,h1,rfl⟩,λ_=>⟨rfl,rfl⟩⟩
 have chk:∀ {c:Bool} {g:GV},Loc name S S' ((Dec.chk c (g,S)).run some) ((Dec.chk c (g,S')).run some):=λ{c g} H S1 h=>by
  obtain ⟨h1,h2⟩:=As.1 h;cases h2;exact ⟨S',As.2 ⟨h1,rfl⟩,λ_=>⟨rfl,rfl⟩⟩
 have hg:=Uz (P:=P) (t:=t) (lo:=lo) (hi:=hi) (mx:=mx) λb hb=>(A b hb).1
 unfold CI;split
 ·split <;> first | exact opt | exact AJ
 ·split <;> first | exact opt | exact AJ
 ·rename_i e b mx G;rw [(A b (by simp [Bi])).2];split
  ·split <;> first | exact chk | exact AJ
  exact AJ
 ·rename_i e b G;have hb:=(A b (by simp [Bi])).2;cases lo with
  | none=>cases ho
  | some I=>
   rw [hb];cases B:S.ow.get b with
   | none=>exact AJ
   | some o=>
    simp only;cases hm:o.mu with
    | true=>
     simp only;split <;> first | exact chk | exact AJ
    | false=>
     have f1:IZ S [.own b]=some ([.ro o.t o.xs],S):=by simp only [IZ,B,hm]
     have E:IZ S' [.own b]=some ([.ro o.t o.xs],S'):=by simp only [IZ,hb,B,hm]
     simp only [f1,E];split <;> first | exact opt | exact AJ
 rw [hg];exact CM Bu
theorem Me(A:∀ b∈Bi (some x),S'.ow.get b=S.ow.get b):Cf P t S' x i=Cf P t S x i:=by
 unfold Cf;generalize P.underlying t=u;cases x with
 | own b=>rcases u with _|d <;> first|rfl | (cases d <;> first|rfl | (cases i <;> first|rfl | (rename_i k n;cases k <;> first|rfl | (simp only [A b (by simp [Bi])]))))
 | vw b sz lo n cp=>rcases u with _|d <;> first|rfl | (cases d <;> first|rfl | (cases i <;> first|rfl | (rename_i k n;cases k <;> first|rfl | (simp only [A b (by simp [Bi])]))))
 | rop l off=>cases off <;> rcases u with _|d <;> first|rfl | (cases d <;> first|rfl | (cases i <;> first|rfl | (rename_i k n;cases k <;> first|rfl)))
 | _=>rcases u with _|d <;> first|rfl | (cases d <;> first|rfl | (cases i <;> first|rfl | (rename_i k n;cases k <;> rfl)))
theorem I9:∀ {l:List GV} {S:St},Ed l=true→IZ S l=some (l,S)
 | [],S,_=>rfl
 | g::l,S,h=>by
  unfold Ed at h;simp only [M05] at h;have A:=I9 (l:=l) (S:=S) h.2;cases g <;> simp only [IZ,A] <;> cases h.1
theorem Sc {name:Nat}{o:Option JC}(A:S'.h.get name=S.h.get name∧S'.ow.get name=S.ow.get name):Loc name S S' ((S.seto name o).map λS=>(c,S)) ((S'.seto name o).map λS=>(c,S)):=λI S1 h=>by
 obtain ⟨S2,h1,h2⟩:=M01.1 h;cases h2;obtain ⟨S3,E,G,H⟩:=Eu S' h1;refine ⟨S3,by rw [E];rfl,λB=>⟨by rw [G],?_⟩⟩;have:=(Ak h1).2.2.2.2 name;rw [M1d rfl] at this;rw [H,A.2,←B.2,this]
theorem ZQ{len name:Nat}{ps:List (Nat×GV)}(hp:(ps.all λp=>Hj p.2)=true)(B:S'.h.get name=S.h.get name∧S'.ow.get name=S.ow.get name):Loc name S S' (I7 P name t len ps S) (I7 P name t len ps S'):=by
 unfold I7;split;split;split;rename_i c _ _;rw [hp];simp only [Bool.not_true,Bool.false_or];cases A:Ed c with
 | false=>exact λg S1 h=>by cases h
 | true=>
  rw [I9 A,I9 A];simp only;split;exact Sc B;exact AG
 exact AG;exact AG;exact AG
theorem XH{name:Nat}{lo co:Operand}{l:GV}(B:S'.h.get name=S.h.get name∧S'.ow.get name=S.ow.get name):Loc name S S' ((DD P name t lo co l c S).run some) ((DD P name t lo co l c S').run some):=by
 unfold DD;split;split;split;split;intro g S1 h;split at h;rename_i S2 A;obtain ⟨h1,h2⟩:=As.1 h;cases h2;obtain ⟨S3,G,H,I⟩:=Eu S' A;rw [G];refine ⟨S3,As.2 ⟨h1,rfl⟩,λE=>⟨by rw [H],?_⟩⟩;have:=(Ak A).2.2.2.2 name;rw [M1d rfl] at this;rw [I,B.2,←E.2,this]
 exact (A4.1 h).elim;exact AJ;exact AJ;exact AJ;exact AJ
theorem ZR {f:GF}{x:Operand}(h:Uo f x=some g):∀ b∈Bi (some g),b∈Bi (Bo f x):=by
 unfold Uo at h;split at h;obtain ⟨l,_,rfl⟩:=M01.1 h;intro b hb;cases hb;rw [h];exact λb hb=>hb
theorem UB{t:Ty}(h:∀ b∈Bi (some x),S'.ow.get b=S.ow.get b):Hz S' t x=Hz S t x:=by
 cases x <;> simp only [Hz]
 rename_i b;rw [h b (by simp [Bi])];rename_i b _ _ _ _;rw [h b (by simp [Bi])]
theorem XI{name:Nat}(A:∀ b∈name::Bi (some x),S'.h.get b=S.h.get b∧S'.ow.get b=S.ow.get b):Loc name S S' ((G2 P name s d x S).run some) ((G2 P name s d x S').run some):=by
 have B:Loc name S S' ((Dec.of (C7 P name s d x S)).run some) ((Dec.of (C7 P name s d x S')).run some):=CM (Pj (A name (by simp)).1 λb hb=>(A b (by simp [hb])).1);unfold G2;split;split;intro g S1 h;split at h;rename_i S2 E;obtain ⟨h1,h2⟩:=As.1 h;cases h2;obtain ⟨S3,H,I,J⟩:=Eu S' E;rw [H];refine ⟨S3,As.2 ⟨h1,rfl⟩,λG=>⟨by rw [I],?_⟩⟩;have:=(Ak E).2.2.2.2 name;rw [M1d rfl] at this;rw [J,(A name (by simp)).2,←G.2,this]
 exact (A4.1 h).elim;exact AJ;rw [UB (S:=S) (S':=S') λb hb=>(A b (by simp [hb])).2];split;exact EQ;exact B;exact B
theorem XJ{ok:Bool}(h:S'.ow.get b=S.ow.get b):KZ P t S' b i ok=KZ P t S b i ok:=by
 unfold KZ;rw [h]
theorem ZS{name:Nat}{f:GF}(hf:HD o f=true)(A:∀ b∈EP o f name,S'.h.get b=S.h.get b∧S'.ow.get b=S.ow.get b):Loc name S S' ((HC P name o f S).run some) ((HC P name o f S').run some):=by
 have G:Cy o.op=true:=by unfold HD at hf;rw [M05] at hf;exact hf.1
 have H:=λh1 h2 h3 Y=>jc (P:=P) (S:=S) (S':=S') G A h1 h2 h3 Y
 obtain ⟨dst,op,ty,pos,aa,ab⟩:=o;unfold HC;cases op <;> simp only
 case pick=>
  split;split;exact EQ;intro g S1 h;rcases E6.1 h with ⟨h1,h2⟩|⟨h1,h2⟩ <;> cases h2
  exact ⟨S',E6.2 (.inl ⟨h1,rfl⟩),λ_=>⟨rfl,rfl⟩⟩;exact ⟨S',E6.2 (.inr ⟨h1,rfl⟩),λ_=>⟨rfl,rfl⟩⟩;exact AJ
 case load t x=>
  split;rename_i vx B;simp only [EP,B] at A;rw [XG (S:=S) (S':=S') A];exact CM Bu
  exact AJ
 case store=>cases G
 case nilCheck=>
  split;exact EQ;exact EQ;exact CM (H (by simp) (by simp) (by simp) (by simp))
 case fieldAddr=>
  split
  ·split <;> first | exact EQ | exact AJ
  ·split <;> first | exact EQ | exact AJ
  exact CM (H (by simp) (by simp) (by simp) (by simp))
 case binOp=>split <;> first | exact Qf | exact AJ
 case slice t x lo hi mx=>
  split;rename_i vx _ _ _ B _ _ _;simp only [EP,B] at A;unfold HD at hf;simp only [M05,B,M2u] at hf;exact UA (by rw [Dq (by assumption),Dq (by assumption)];exact hf.2) A
  exact AJ
 case indexAddr t x i=>
  split;rename_i vx J B hi;simp only [EP] at A;rw [Me (S:=S) (S':=S') λb hb=>(A b (ZR B b hb)).2];exact Qf
  exact AJ
 case index t x i=>
  split;rename_i vx J B hi;unfold HD at hf;simp only [M05,B] at hf;rw [hf.2];simp only;exact Qf
  exact AJ
 case convert s d x=>
  split;rename_i vx B;simp only [EP,B] at A;exact XI A
  exact AJ
 case makeSlice=>
  split;exact XH (A name (by simp [EP]));exact AJ
 case buildSlice t len parts=>
  split
  rotate_left
  exact CM (H (by simp) (by simp) (by simp) (by simp));split;rename_i ps Z;unfold HD at hf;simp only [M05,Z] at hf;exact CM (ZQ hf.2 (A name (by simp [EP])))
  exact AJ
 case call c=>
  obtain ⟨callee,args,argTypes⟩:=c;split
  ·rename_i gs E;simp only at E ⊢;split;rename_i t x ac;have B:∃ y,args.toList=[y]∧Bo f y=some x:=by
    cases I:args.toList with
    | nil=>rw [I] at E;cases E
    | cons y l=>
     rw [I] at E;unfold EC at E
     split at E;rename_i g hg;split at E;rename_i r hr;cases E;cases l with
     | nil=>exact ⟨y,rfl,hg⟩
     | cons z l=>
      unfold EC at hr;split at hr;split at hr <;> cases hr
      cases hr
     cases E;cases E
   obtain ⟨y,O,U⟩:=B;simp only [EP,O,U] at A;rw [ZP (S:=S) (S':=S') A];exact CM Bu
   cases G;cases G;cases G;cases G
   ·split <;> first | exact EQ | exact AJ
   have key:∀ l,Loc name S S' (CU P name .max argTypes.toList l S) (CU P name .max argTypes.toList l S'):=λl=>by
    cases l with
    | nil=>exact AG
    | cons x l=>exact Bu (o:=Rq x l) (c:=λv=>v)
   exact CM (key _)
   ·split <;> first | exact EQ | exact AJ
   ·split <;> first | exact EQ | exact AJ
   exact AJ
  exact AJ
 case makeMap t r=>
  cases r with
  | none=>
   refine CM ?_;unfold EO;split;split;exact Sc (A name (by simp [EP]));exact AG;exact AG
  | some r=>exact CM (H (by simp) (by simp) (by simp) (by simp))
 case lookup t m i ok=>
  split;rename_i b J hm hi;simp only [EP,hm] at A;rw [XJ (S:=S) (S':=S') (A b (by simp [Bi])).2];exact Qf
  exact CM (H (by simp) (by simp) (by simp) (by simp))
 case mapUpdate=>cases G
 all_goals first | exact CM (H (by simp) (by simp) (by simp) (by simp)) | exact AJ
theorem Hst.trans {l m:List Nat}{I:St}(h:Hst l S S' b)(k:Hst m S' I b):Hst (m++l) S I b:=by
 rcases h with h|⟨c,c',h1,h2,h3,J⟩;rcases k with k|⟨d,B,A,E,G,H⟩;exact .inl (k.trans h);exact .inr ⟨d,B,h.symm.trans A,E,G,λi hi=>H i λhm=>hi (M1T _ hm)⟩;rcases k with k|⟨d,B,A,E,G,H⟩;exact .inr ⟨c,c',h1,k.trans h2,h3,λi hi=>J i λhm=>hi (M1z _ hm)⟩;rw [h2] at A;cases A;exact .inr ⟨c,B,h1,E,G.trans h3,λi hi=>(H i λhm=>hi (M1T _ hm)).trans (J i λhm=>hi (M1z _ hm))⟩
def Lg (name:Nat) (S S':St):Prop:=∃ l,S'.lg=l++S.lg∧(∀ b,b∉l→b≠name→S'.h.get b=S.h.get b∧S'.ow.get b=S.ow.get b)∧∀ b,b≠name→Hst l S S' b
theorem Lg.refl (name:Nat)(S:St):Lg name S S:=⟨[],rfl,λ_ _ _=>⟨rfl,rfl⟩,λ_ _=>.inl rfl⟩
theorem Lg.trans {name:Nat}{B:St}(h:Lg name S S')(k:Lg name S' B):Lg name S B:=by
 obtain ⟨l,h1,h2,h3⟩:=h;obtain ⟨m,E,G,H⟩:=k;refine ⟨m++l,by rw [E,h1,M20],λb hb hn=>?_,λb hn=>(h3 b hn).trans (H b hn)⟩;have hm:=G b (λA=>hb (M1T _ A)) hn;have hl:=h2 b (λA=>hb (M1z _ A)) hn;exact ⟨hm.1.trans hl.1,hm.2.trans hl.2⟩
theorem Lg.seto {name:Nat}{o:Option JC}(h:S.seto b o=some S'):Lg name S S':=by
 obtain ⟨h1,_,_,A,B⟩:=Ak h;exact ⟨[b],A,λj hj _=>⟨by rw [h1],by rw [B,M1e (by simpa using hj)]⟩,λj _=>.inl (by rw [h1])⟩
theorem D7 {name:Nat}:∀ {l B:List GV} {S S':St},IZ S l=some (B,S')→Lg name S S'
 | [],B,S,S',h=>by cases h;exact .refl _ _
 | g::l,B,S,S',h=>by
  unfold IZ at h;split at h;rename_i e;cases e;rename_i e;cases e;split at h;split at h;rename_i S1 A;split at h;rename_i hr;cases h;split at A;exact (Lg.seto A).trans (D7 hr);cases A;exact D7 hr;cases h;cases h;cases h;rename_i e;cases e;split at h;split at h;rename_i A;split at h;rename_i hr;cases h;split at A;exact (Lg.seto A).trans (D7 hr);cases A;exact D7 hr;cases h;cases h;cases h;rename_i e;cases e;split at h;rename_i hr;cases h;exact D7 hr;cases h
theorem UC{g:Option GB}(h:S.put b g=some S'):S'.lg=S.lg:=by
 unfold St.put at h;split at h;cases h;rfl;cases h
theorem Lg.put {name:Nat}{g:Option GB}(h:S.put name g=some S'):Lg name S S':=⟨[],UC h,λj _ hn=>⟨by rw [(Ax h).2.2,M1e hn],by rw [DB h]⟩,λj hn=>.inl (by rw [(Ax h).2.2,M1e hn])⟩
theorem Jg {b:Nat}:∀ {n off k:Nat},off≤k→k<off+n→En b k∈codes b off n
 | 0,off,k,h1,h2=>by omega
 | n+1,off,k,h1,h2=>by
  unfold codes;by_cases e:k=off;rw [e];simp;exact M1c _ (Jg (by omega) (by omega))
theorem XK{name:Nat}(hg:HA P t S x g=some S'):Lg name S S':=by
 unfold HA at hg;split at hg;rename_i n b off _;split at hg;rename_i B;obtain ⟨S1,h1,h2⟩:=M01.1 hg;cases h2;obtain ⟨l,J,E,G,A⟩:=Cm h1;obtain ⟨o1,_,rfl⟩:=Dn G;have B:=M0g B;refine ⟨b::codes b off n,?_,λj hj _=>⟨?_,?_⟩,λj _=>?_⟩;show b::(codes b off n++S1.lg)=_;rw [UC A];rfl
 show S1.h.get j=_;rw [(Ax A).2.2,M1e (λe=>hj (by rw [e];simp))]
 show S1.ow.get j=_;rw [DB A]
 by_cases e:j=b;subst e;refine .inr ⟨l,_,E,by show S1.h.get j=_;rw [(Ax A).2.2,M1d rfl],by simp;omega,λk hk=>?_⟩;have I:¬ (off≤k∧k<off+n):=λh=>hk (M1c _ (Jg h.1 h.2))
 by_cases H:k<off;rw [M1f (by simp;omega),M1r,M1d H];rw [M1a (by simp;omega),M1q,M2h (by omega),M1a (by omega),M1C];congr 1;omega;exact .inl (by show S1.h.get j=_;rw [(Ax A).2.2,M1e e]);cases hg;split at hg;rename_i hf;split at hg;split at hg;split at hg;split at hg;exact (D7 hf).trans (.seto hg);cases hg;cases hg;cases hg;cases hg;cases hg;cases hg
theorem XL{name:Nat}(hg:(CI P name t S x lo hi mx).run some=some (g,S')):Lg name S S':=by
 unfold CI at hg;split at hg;split at hg;obtain ⟨r,h1,h2⟩:=AI.1 hg;cases h2;exact .refl _ _;exact (A4.1 hg).elim;split at hg;obtain ⟨r,h1,h2⟩:=AI.1 hg;cases h2;exact .refl _ _;exact (A4.1 hg).elim;split at hg;split at hg;obtain ⟨_,A⟩:=As.1 hg;cases A;exact .refl _ _;exact (A4.1 hg).elim;exact (A4.1 hg).elim;split at hg;split at hg;split at hg;obtain ⟨_,A⟩:=As.1 hg;cases A;exact .refl _ _;exact (A4.1 hg).elim;split at hg;obtain ⟨r,h1,h2⟩:=AI.1 hg;split at h2;rename_i B;obtain ⟨S2,E,A⟩:=M01.1 h2;cases A;exact (Lg.seto B).trans (Lg.seto E);cases h2;exact (A4.1 hg).elim;split at hg;rename_i hf;split at hg;obtain ⟨r,h1,h2⟩:=AI.1 hg;cases h2;exact D7 hf;exact (A4.1 hg).elim;exact (A4.1 hg).elim;exact (A4.1 hg).elim;obtain ⟨v,h1,h2⟩:=M01.1 (run_of.1 hg);cases h2;exact .refl _ _
variable {G:Nat}
theorem UD{name:Nat}{s:GV}(hg:(EK P name t G S s x).run some=some (g,S')):Lg name S S':=by
 unfold EK at hg;split at hg;split at hg;split at hg;split at hg;rename_i A;split at hg;rename_i E;obtain ⟨_,B⟩:=As.1 hg;cases B;refine Lg.trans ?_ (.seto E);unfold Pc at A;split at A;exact .seto A;cases A;exact .refl _ _;exact (A4.1 hg).elim;exact (A4.1 hg).elim;exact (A4.1 hg).elim;exact (A4.1 hg).elim;exact (A4.1 hg).elim
theorem ZT{name:Nat}{lo co:Operand}{l:GV}(hg:(DD P name t lo co l c S).run some=some (g,S')):Lg name S S':=by
 unfold DD at hg;split at hg;split at hg;split at hg;split at hg;split at hg;rename_i B;obtain ⟨_,A⟩:=As.1 hg;cases A;exact .seto B;exact (A4.1 hg).elim;exact (A4.1 hg).elim;exact (A4.1 hg).elim;exact (A4.1 hg).elim;exact (A4.1 hg).elim
theorem jd{len name:Nat}{ps:List (Nat×GV)}(hg:I7 P name t len ps S=some (g,S')):Lg name S S':=by
 unfold I7 at hg;split at hg;split at hg;split at hg;split at hg;rename_i A;split at hg;obtain ⟨S2,h1,h2⟩:=M01.1 hg;cases h2;exact (D7 A).trans (.seto h1);cases hg;cases hg;cases hg;cases hg;cases hg
theorem BP{name:Nat}{o:Option α}{c:α→GV}(h:(o.map λv=>(c v,S))=some (g,S')):Lg name S S':=by
 obtain ⟨_,_,h2⟩:=M01.1 h;cases h2;exact .refl _ _
theorem re {name:Nat}{b:Option GB}(h:((S.put name b).map λS=>(c,S))=some (g,S')):Lg name S S':=by
 obtain ⟨_,h1,h2⟩:=M01.1 h;cases h2;exact .put h1
theorem Mg {name:Nat}(h:((newB S name l).map λS=>(c,S))=some (g,S')):Lg name S S':=by
 obtain ⟨_,h1,h2⟩:=M01.1 h;cases h2;exact .put (C0 h1).2
theorem Jh {name:Nat}(h:some (c,S)=some (g,S')):Lg name S S':=by cases h;exact .refl _ _
theorem Mh{name:Nat}(h:C7 P name s d x S=some (g,S')):Lg name S S':=by
 unfold C7 at h;split at h;exact Jh h;exact Jh h;split at h;split at h;exact Mg h;cases h;cases h;split at h;exact Jh h;cases h;split at h;split at h;exact BP h;cases h;cases h;cases h
theorem ri{name:Nat}{f:GF}(hg:J7 P Ha name o f S=some (g,S'))(B:∀ t a x,o.op≠.store t a x)(E:∀ t a x v,o.op≠.mapUpdate t a x v)(A:∀ c,o.op≠.call c):Lg name S S':=by
 obtain ⟨dst,op,ty,pos,G,H⟩:=o;unfold J7 at hg;cases op <;> simp only at hg
 case move=>exact BP hg
 case assign=>exact BP hg
 case pick=>split at hg <;> first | exact BP hg | cases hg
 case alloc=>split at hg <;> first | exact Mg hg | cases hg
 case box=>split at hg <;> first | exact Mg hg | cases hg
 case build=>
  split at hg
  ·split at hg <;> first | exact BP hg | cases hg
  ·split at hg <;> first | exact BP hg | cases hg
  cases hg
 case buildSlice=>
  split at hg
  ·split at hg
   ·split at hg
    ·split at hg <;> first | exact Mg hg | cases hg
    cases hg
   cases hg
  cases hg
 case load=>split at hg <;> first | exact BP hg | cases hg
 case store=>exact absurd rfl (B _ _ _)
 case nilCheck=>
  split at hg
  ·split at hg <;> first | exact Jh hg | cases hg
  cases hg
 case binOp=>split at hg <;> first | exact BP hg | cases hg
 case unOp=>split at hg <;> first | exact BP hg | cases hg
 case convert=>split at hg <;> first | exact Mh hg | cases hg
 case makeFunc fn a c=>
  cases fn <;> simp only at hg <;> first | (cases hg;done) | skip
  split at hg <;> first | exact Jh hg | cases hg
 case makeMap t r=>
  cases r <;> simp only at hg
  exact re hg;cases hg
 case makeSlice=>
  split at hg
  ·split at hg
   ·split at hg <;> first | exact Mg hg | cases hg
   cases hg
  cases hg
 case slice=>split at hg <;> first | exact BP hg | cases hg
 case fieldAddr=>
  split at hg
  ·split at hg <;> first | exact Jh hg | cases hg
  cases hg
 case field=>split at hg <;> first | exact BP hg | cases hg
 case indexAddr=>split at hg <;> first | exact BP hg | cases hg
 case index=>split at hg <;> first | exact BP hg | cases hg
 case lookup=>split at hg <;> first | exact BP hg | cases hg
 case mapUpdate=>exact absurd rfl (E _ _ _ _)
 case extract=>split at hg <;> first | exact BP hg | cases hg
 case defer c=>
  split at hg;split at hg;cases hg;exact ⟨[],rfl,λ_ _ _=>⟨rfl,rfl⟩,λ_ _=>.inl rfl⟩;cases hg;cases hg
 case call=>exact absurd rfl (A _)
 all_goals (cases hg)
variable {n:Nat}
theorem UE{B q name:Nat}{s:GV}(hg:(EL P t B S s x n q).run some=some (g,S')):Lg name S S':=by
 unfold EL at hg;split at hg;rename_i hf;split at hg;obtain ⟨_,A⟩:=As.1 hg;cases A;exact D7 hf;exact (A4.1 hg).elim;exact (A4.1 hg).elim
theorem UF{E name:Nat}{n:Int}(hg:(EN P name t E S n).run some=some (g,S')):Lg name S S':=by
 unfold EN at hg;split at hg;split at hg;split at hg;split at hg;rename_i B;obtain ⟨_,A⟩:=As.1 hg;cases A;exact .seto B;exact (A4.1 hg).elim;exact (A4.1 hg).elim;exact (A4.1 hg).elim;exact (A4.1 hg).elim
theorem UG{name:Nat}{s:GV}{l:List UInt8}(hg:(EM P name t G S s l).run some=some (g,S')):Lg name S S':=by
 unfold EM at hg;split at hg;split at hg;split at hg;rename_i A;split at hg;rename_i E;obtain ⟨_,B⟩:=As.1 hg;cases B;refine Lg.trans ?_ (.seto E);unfold Pc at A;split at A;exact .seto A;cases A;exact .refl _ _;exact (A4.1 hg).elim;exact (A4.1 hg).elim;exact (A4.1 hg).elim;exact (A4.1 hg).elim
theorem ZU{name:Nat}(hg:(G2 P name s d x S).run some=some (g,S')):Lg name S S':=by
 unfold G2 at hg;split at hg;split at hg;split at hg;rename_i B;obtain ⟨_,A⟩:=As.1 hg;cases A;exact .seto B;exact (A4.1 hg).elim;exact (A4.1 hg).elim;split at hg;cases Az.1 hg;exact .refl _ _;exact Mh (run_of.1 hg);exact Mh (run_of.1 hg)
theorem je{name:Nat}{f:GF}(hg:(HC P name o f S).run some=some (g,S')):Lg name S S':=by
 have A:=λh1 h2 h3 B=>ri (P:=P) (name:=name) (o:=o) (f:=f) (S:=S) (S':=S') (g:=g) h1 h2 h3 B
 obtain ⟨dst,op,ty,pos,E,G⟩:=o;unfold HC at hg;cases op <;> simp only at hg
 case pick=>
  split at hg;split at hg;cases Az.1 hg;exact .refl _ _;rcases E6.1 hg with ⟨_,e⟩|⟨_,e⟩ <;> cases e <;> exact .refl _ _
  exact (A4.1 hg).elim
 case load=>
  split at hg;exact BP (run_of.1 hg);exact (A4.1 hg).elim
 case store=>
  split at hg;obtain ⟨S1,h1,h2⟩:=M01.1 (run_of.1 hg);cases h2;exact XK h1;exact (A4.1 hg).elim
 case nilCheck=>
  split at hg;cases Az.1 hg;exact .refl _ _;cases Az.1 hg;exact .refl _ _;exact A (run_of.1 hg) (by simp) (by simp) (by simp)
 case fieldAddr=>
  split at hg;split at hg;cases Az.1 hg;exact .refl _ _;exact (A4.1 hg).elim;split at hg;cases Az.1 hg;exact .refl _ _;exact (A4.1 hg).elim;exact A (run_of.1 hg) (by simp) (by simp) (by simp)
 case binOp=>
  split at hg;obtain ⟨v,h1,h2⟩:=BO.1 hg;cases h2;exact .refl _ _;exact (A4.1 hg).elim
 case slice=>
  split at hg;exact XL hg;exact (A4.1 hg).elim
 case indexAddr=>
  split at hg;obtain ⟨v,h1,h2⟩:=BO.1 hg;cases h2;exact .refl _ _;exact (A4.1 hg).elim
 case index=>
  split at hg;split at hg;obtain ⟨v,h1,h2⟩:=BO.1 hg;cases h2;exact .refl _ _;split at hg;rename_i hf;obtain ⟨v,h1,h2⟩:=BO.1 hg;cases h2;exact D7 hf;exact (A4.1 hg).elim;exact (A4.1 hg).elim;exact (A4.1 hg).elim
 case convert=>
  split at hg;exact ZU hg;exact (A4.1 hg).elim
 case makeSlice=>
  split at hg;exact ZT hg;exact (A4.1 hg).elim
 case buildSlice=>
  split at hg
  rotate_left
  exact A (run_of.1 hg) (by simp) (by simp) (by simp);split at hg;exact jd (run_of.1 hg);exact (A4.1 hg).elim
 case call c=>
  obtain ⟨callee,args,argTypes⟩:=c;split at hg;simp only at hg;split at hg;exact BP (run_of.1 hg);exact UG hg;exact UF hg;exact UE hg;exact UD hg;split at hg;cases Az.1 hg;exact .refl _ _;exact (A4.1 hg).elim;have hg:=run_of.1 hg;have key:∀ l,CU P name .max argTypes.toList l S=some (g,S')→Lg name S S':=λl h=>by
   cases l with
   | nil=>cases h
   | cons x l=>exact BP (o:=Rq x l) (c:=λv=>v) h
  exact key _ hg;split at hg;cases Az.1 hg;exact .refl _ _;exact (A4.1 hg).elim;split at hg;cases Az.1 hg;exact .refl _ _;exact (A4.1 hg).elim;exact (A4.1 hg).elim;exact (A4.1 hg).elim
 case makeMap t r=>
  cases r with
  | none=>
   have hg:=run_of.1 hg;unfold EO at hg;split at hg;split at hg;obtain ⟨S1,h1,h2⟩:=M01.1 hg;cases h2;exact .seto h1;cases hg;cases hg
  | some r=>exact A (run_of.1 hg) (by simp) (by simp) (by simp)
 case lookup=>
  split at hg;obtain ⟨v,h1,h2⟩:=BO.1 hg;cases h2;exact .refl _ _;exact A (run_of.1 hg) (by simp) (by simp) (by simp)
 case mapUpdate=>
  split at hg;obtain ⟨S1,h1,h2⟩:=M01.1 (run_of.1 hg);cases h2;unfold Xr at h1;split at h1;split at h1;exact .seto h1;cases h1;cases h1;exact (A4.1 hg).elim
 all_goals exact A (run_of.1 hg) (by simp) (by simp) (by simp)
variable {ops:Array Oper}
theorem ER{f:GF}(h:∀ t∈o.looksAt ops,f'.get t=f.get t):Gd ops.toList o f'=Gd ops.toList o f:=by
 unfold Gd;cases hg:o.guard with
 | none=>rfl
 | some q=>
  obtain ⟨j,A⟩:=q;simp only;cases hp:ops.toList[j]? with
  | none=>rfl
  | some p=>
   simp only;cases hd:p.dst with
   | none=>rfl
   | some d=>
    simp only;rw [h d (E3 (by unfold Do;rw [hg];simp [hp,hd]))]
theorem GS{f:GF}(h:∀ t∈o.looksAt ops,f'.get t=f.get t):∀ x∈o.op.operands.toList,Bo f' x=Bo f x:=λx A=>by
 cases x with
 | tmp t=>exact h t (KS A)
 | const v=>rfl
 | global g=>rfl
 | func g=>rfl
theorem Pl{f:GF}(h:∀ x∈o.op.operands.toList,Bo f' x=Bo f x):HD o f'=HD o f:=by
 obtain ⟨dst,op,ty,pos,A,B⟩:=o;unfold HD;cases op <;> simp only [Op.operands] at h ⊢
 case slice t x lo hi mx=>rw [h x (by simp)]
 case index t x i=>rw [h x (by simp)]
 case buildSlice t len parts=>rw [DI (l:=parts.toList) (by simpa using h)]
variable {call:CK}{base:Nat}
theorem UH{i:Nat}{f:GF}(hl:Cz (J0 P call) ops base f S i)(ho:ops[i]? = some o)(H:∀ t∈o.looksAt ops,f'.get t=f.get t)(Y:∀ d,o.dst=some d→f'.get d=f.get d)
  (Z:∀ b∈EP o f (base+i),S'.h.get b=S.h.get b∧S'.ow.get b=S.ow.get b):Cz (J0 P call) ops base f' S' i:=by
 obtain ⟨o2,U,aa,hh⟩:=hl;rw [ho] at U;cases U;have G:=GS H;refine ⟨o,ho,aa,?_⟩;rcases hh with ⟨hw,A,v,S1,B,ac,J⟩|⟨hw,J⟩
 left;have A:HD o f=true:=A;have B:K8 P call (base+i) o f S (λv S=>some (v,S))=some (v,S1):=B;unfold K8 at B;cases E:Q6 o f with
 | some q=>
  obtain ⟨k,args⟩:=q;have:=(GQ (P:=P) (call:=Ha) (name:=0) (S:=S) E).2;unfold HD at A;rw [M05,this] at A;cases A.1
 | none=>
  rw [E] at B;obtain ⟨O,k1,k2⟩:=ZS (P:=P) (S':=S') A Z v S1 B;refine ⟨by rw [ER H];exact hw,by show HD o f'=true;rw [Pl G];exact A,v,O,?_,k2 ac,λd hd u I=>J d hd u (by rw [←Y d hd];exact I)⟩;show K8 P call (base+i) o f' S' (λv S=>some (v,S))=some (v,O)
  unfold K8;rw [Md G,E,Mc G];exact k1
 right;exact ⟨by rw [ER H];exact hw,λd hd u I=>J d hd u (by rw [←Y d hd];exact I)⟩
variable {A:Type}{r:A}
theorem Mi{y:Bool}{K:GV→Option A}(h:VK y v K=some r):K v=some r:=by
 unfold VK at h;split at h;rename_i b;cases b <;> exact h
 exact h
theorem Dr{f:GF}{d:Option Tmp}{K:GF→Option A}(h:JT n f d v K=some r):∃ f',PV n f d v=some f'∧K f'=some r:=by
 unfold JT at h;split at h;rename_i f' hf;exact ⟨f',hf,h⟩;cases h
theorem HG(E:Cw P call){cs:List Nat}{i:Nat}{f:GF}{K:GF→St→Option A}(h:DE P call n cs ops base i o f S K=some r) :
  ∃ f' S',stepG (J0 P call) n ops.toList base i o f S=some (f',S')∧K f' S'=some r:=by
 unfold DE at h;unfold stepG
 split at h;rename_i hw;rw [hw];obtain ⟨v,S',h1,h2⟩:=Mb E h;obtain ⟨f',h3,B⟩:=Dr (Mi h2);exact ⟨f',S',by simp only [h1,h3,M1W],B⟩;rename_i hw;rw [hw];obtain ⟨f',h3,B⟩:=Dr h;exact ⟨f',S,by simp only [h3,M1W],B⟩;cases h
theorem Ew {P:Program}{call:CK}(B:Cw P call){A:Type}{n:Nat}{cs:List Nat}{ops:Array Oper}{base:Nat}{K:GF→St→Option A}{r:A}:∀ {l:List Oper} {i:Nat} {f:GF} {S:St},JU P call n cs ops base l i f S K=some r→
  ∃ f' S',OK (J0 P call) n ops.toList base l i f S=some (f',S')∧K f' S'=some r
 | [],i,f,S,h=>⟨f,S,rfl,h⟩
 | o::l,i,f,S,h=>by
  unfold JU at h;obtain ⟨f1,S1,h1,h2⟩:=HG B h;obtain ⟨E,S2,h3,G⟩:=Ew B h2;exact ⟨E,S2,by unfold OK;rw [h1];exact h3,G⟩
theorem Sd(A:Cw P call){i:Nat}{f:GF}(h:stepG (J0 P call) n ops.toList base i o f S=some (f',S')) :
  ∃ l,S'.lg=l++S.lg∧(∀ b,b∉l→b≠base+i→b<S.nx→S'.h.get b=S.h.get b∧S'.ow.get b=S.ow.get b)∧∀ b,b≠base+i→b<S.nx→Hst l S S' b:=by
 unfold stepG at h;split at h;split at h;rename_i v S1 hg;obtain ⟨f1,_,h2⟩:=M01.1 h;cases h2;have hg:K8 P call (base+i) o f S (λv S=>some (v,S))=some (v,S'):=hg;unfold K8 at hg;split at hg;obtain ⟨l,h1,h2,h3⟩:=A.lg hg;exact ⟨l,h1,λb hb _ hn=>h2 b hb hn,λb _ hn=>h3 b hn⟩;obtain ⟨l,h1,h2,h3⟩:=je (P:=P) hg;exact ⟨l,h1,λb hb hn _=>h2 b hb hn,λb hn _=>h3 b hn⟩;cases h;obtain ⟨f1,_,h2⟩:=M01.1 h;cases h2;exact ⟨[],rfl,λ_ _ _ _=>⟨rfl,rfl⟩,λ_ _ _=>.inl rfl⟩;cases h
def Qg (name:Nat) (r:St→Option (GV×St)):Prop:=∀ S g S1,r S=some (g,S1)→∃ S2,r S1=some (g,S2)∧S2.h.get name=S1.h.get name∧S2.ow.get name=S1.ow.get name
theorem VU {name:Nat}{b:Option GB}:Qg name λS=>(S.put name b).map λS=>(c,S):=λS g S1 h=>by
 obtain ⟨S2,h1,h2⟩:=M01.1 h;cases h2;obtain ⟨S3,A,B,E⟩:=VS S1 h1;refine ⟨S3,by simp only [A,M1W],?_,by rw [E]⟩;have:=(Ax h1).2.2 name;rw [M1d rfl] at this;rw [B,this]
theorem Kf {name:Nat}:Qg name λS=>(newB S name l).map λS=>(c,S):=by
 unfold newB;split;exact VU;exact λS g S1 h=>by cases h
theorem Se {name:Nat}{o:Option JC}:Qg name λS=>(S.seto name o).map λS=>(c,S):=λS g S1 h=>by
 obtain ⟨S2,h1,h2⟩:=M01.1 h;cases h2;obtain ⟨S3,A,B,E⟩:=Eu S1 h1;refine ⟨S3,by simp only [A,M1W],by rw [B],?_⟩;have:=(Ak h1).2.2.2.2 name;rw [M1d rfl] at this;rw [E,this]
theorem Bv {name:Nat}{r:St→Option (GV×St)}(h:∀ S g S1,r S=some (g,S1)→S1=S):Qg name r:=λS g S1 hr=>by
 have:=h S g S1 hr;subst this;exact ⟨S1,hr,rfl,rfl⟩
end
section
theorem BN {name:Nat}{o:Option GV}:Qg name λS=>o.map λv=>(v,S):=Bv λS g S1 h=>by
 obtain ⟨_,_,h2⟩:=M01.1 h;cases h2;rfl
theorem Ar {name:Nat}:Qg name λ_=>none:=λS g S1 h=>by cases h
variable {g:GV}
theorem GT {name:Nat}:Qg name λS=>some (g,S):=Bv λS g S1 h=>by cases h;rfl
variable {P:Program}{s d:Nat}{x:GV}
theorem Pm{name:Nat}:Qg name λS=>C7 P name s d x S:=by
 unfold C7;split;exact GT;exact GT;split;split;exact Kf;exact Ar;exact Ar;split;exact GT;exact Ar;refine Bv λS g S1 h=>?_
 split at h;split at h;obtain ⟨_,_,h2⟩:=M01.1 h;cases h2;rfl;cases h;cases h;exact Ar
variable {o:Oper}
theorem jf{name:Nat}{f:GF}(hf:Cy o.op=true)(B:∀ t a b,o.op≠.makeSlice t a b)(A:∀ c,o.op≠.call c):Qg name λS=>J7 P Ha name o f S:=by
 obtain ⟨dst,op,ty,pos,E,G⟩:=o;unfold J7;cases op <;> simp only
 case move=>exact BN
 case assign=>exact BN
 case pick=>split <;> first | exact BN | exact Ar
 case alloc=>split <;> first | exact Kf | exact Ar
 case box=>split <;> first | exact Kf | exact Ar
 case build=>
  split
  ·split <;> first|exact Bv (λS g S1 h=>by obtain ⟨_,_,h2⟩:=M01.1 h;cases h2;rfl) | exact Ar
  ·split <;> first|exact Bv (λS g S1 h=>by obtain ⟨_,_,h2⟩:=M01.1 h;cases h2;rfl) | exact Ar
  exact Ar
 case buildSlice=>
  split
  ·split
   ·split
    ·split <;> first | exact Kf | exact Ar
    exact Ar
   exact Ar
  exact Ar
 case load=>
  refine Bv λS g S1 h=>?_
  split at h;obtain ⟨_,_,h2⟩:=M01.1 h;cases h2;rfl;cases h
 case store=>cases hf
 case nilCheck=>
  split
  ·split <;> first | exact GT | exact Ar
  exact Ar
 case binOp=>split <;> first | exact BN | exact Ar
 case unOp=>split <;> first | exact BN | exact Ar
 case convert=>split <;> first | exact Pm | exact Ar
 case makeFunc fn a c=>
  cases fn <;> simp only
  ·split <;> first | exact GT | exact Ar
  all_goals exact Ar
 case makeMap t r=>
  cases r <;> simp only
  exact VU;exact Ar
 case makeSlice=>exact absurd rfl (B _ _ _)
 case slice=>
  refine Bv λS g S1 h=>?_
  split at h;obtain ⟨_,_,h2⟩:=M01.1 h;cases h2;rfl;cases h
 case fieldAddr=>
  split
  ·split <;> first | exact GT | exact Ar
  exact Ar
 case field=>split <;> first | exact BN | exact Ar
 case indexAddr=>split <;> first | exact BN | exact Ar
 case index=>split <;> first | exact BN | exact Ar
 case lookup=>
  refine Bv λS g S1 h=>?_
  split at h;obtain ⟨_,_,h2⟩:=M01.1 h;cases h2;rfl;cases h
 case mapUpdate=>cases hf
 case extract=>split <;> first | exact BN | exact Ar
 case defer=>cases hf
 case call=>exact absurd rfl (A _)
 all_goals exact Ar
variable {t:Nat}
theorem ZV{len name:Nat}{ps:List (Nat×GV)}(hp:(ps.all λp=>Hj p.2)=true):Qg name λS=>I7 P name t len ps S:=by
 unfold I7;split;split;split;rename_i c _ _;rw [hp];simp only [Bool.not_true,Bool.false_or];cases A:Ed c with
 | false=>exact Ar
 | true=>
  simp only [I9 A];split;exact Se;exact Ar
 exact Ar;exact Ar;exact Ar
theorem XM{name:Nat}{lo co:Operand}{l c:GV}:Qg name λS=>(DD P name t lo co l c S).run some:=by
 unfold DD;split;split;split;split;intro S g S1 h;simp only at h ⊢;split at h;rename_i S2 A;obtain ⟨h1,h2⟩:=As.1 h;cases h2;obtain ⟨S3,B,E,G⟩:=Eu S1 A;rw [B];refine ⟨S3,As.2 ⟨h1,rfl⟩,by rw [E],?_⟩;have:=(Ak A).2.2.2.2 name;rw [M1d rfl] at this;rw [G,this]
 exact (A4.1 h).elim;exact λS g S1 h=>(A4.1 h).elim
 exact λS g S1 h=>(A4.1 h).elim
 exact λS g S1 h=>(A4.1 h).elim
 exact λS g S1 h=>(A4.1 h).elim
theorem Ee {name:Nat}{r:St→Option (GV×St)}(h:Qg name r):Qg name λS=>(Dec.of (r S)).run some:=λS g S1 hg=>by
 obtain ⟨S2,h1,h2⟩:=h S g S1 (run_of.1 hg);exact ⟨S2,run_of.2 h1,h2⟩
theorem Qh {name:Nat}{d:St→Dec GV}:Qg name λS=>((d S).on λv=>(v,S)).run some:=Bv λS g S1 h=>by
 obtain ⟨v,h1,h2⟩:=BO.1 h;cases h2;rfl
theorem BV {name:Nat}:Qg name λ_=>(Dec.no:Dec (GV×St)).run some:=λS g S1 h=>by cases h
theorem Gi {name:Nat}:Qg name λS=>(Dec.ret (g,S)).run some:=Bv λS A S1 h=>by cases Az.1 h;rfl
variable {S S':St}
theorem UI{name:Nat}{lo hi mx:Option GV}(ho:(VL (some x)&&(lo.isNone&&mx.isNone))=false)(h:(CI P name t S x lo hi mx).run some=some (g,S')):S'=S:=JK h ho
theorem XN{name:Nat}:Qg name λS=>(G2 P name s d x S).run some:=by
 intro S g S1 h;simp only at h ⊢;have G:(Dec.of (C7 P name s d x S)).run some=some (g,S1)→∃ S2,(Dec.of (C7 P name s d x S1)).run some=some (g,S2)∧S2.h.get name=S1.h.get name∧S2.ow.get name=S1.ow.get name:=λh=>Ee (Pm (P:=P)) S g S1 h
 unfold G2 at h ⊢;split at h;split at h;split at h;rename_i S2 E;obtain ⟨h1,h2⟩:=As.1 h;cases h2;obtain ⟨S3,I,J,O⟩:=Eu S1 E;simp only [I];refine ⟨S3,As.2 ⟨h1,rfl⟩,by rw [J],?_⟩;have:=(Ak E).2.2.2.2 name;rw [M1d rfl] at this;rw [O,this]
 exact (A4.1 h).elim;exact (A4.1 h).elim
 ·split at h;cases Az.1 h;rename_i xs B hd;simp only [B,hd];exact ⟨_,rfl,rfl,rfl⟩
  ·rename_i H;rename_i e hs hd _ _;have A:S1=S:=by
    have h:=run_of.1 h;unfold C7 at h;rw [hs,hd] at h
    split at h;cases h;rfl;cases h;rfl;rename_i A U;cases A
    ·split at h <;> first | (cases h;rfl) | cases h
    split at h;split at h;obtain ⟨_,_,h2⟩:=M01.1 h;cases h2;rfl;cases h;cases h;cases h
   subst A;refine ⟨S1,?_,rfl,rfl⟩;split;rename_i xs B hd;exact absurd hd (H xs B);exact h
 exact G h
theorem ZW{name:Nat}{f:GF}(hf:HD o f=true):Qg name λS=>(HC P name o f S).run some:=by
 have A:Cy o.op=true:=by unfold HD at hf;rw [M05] at hf;exact hf.1
 have B:=λh1 h2=>jf (P:=P) (name:=name) (f:=f) A h1 h2
 obtain ⟨dst,op,ty,pos,H,I⟩:=o;unfold HC;cases op <;> simp only
 case pick=>
  split;split;exact Gi;refine Bv λS g S1 h=>?_
  rcases E6.1 h with ⟨h1,h2⟩|⟨h1,h2⟩ <;> cases h2 <;> rfl
  exact BV
 case load=>
  split;refine Bv λS g S1 h=>?_
  obtain ⟨_,_,h2⟩:=M01.1 (run_of.1 h);cases h2;rfl;exact BV
 case store=>cases A
 case nilCheck=>
  split;exact Gi;exact Gi;exact Ee (B (by simp) (by simp))
 case fieldAddr=>
  split
  ·split <;> first | exact Gi | exact BV
  ·split <;> first | exact Gi | exact BV
  exact Ee (B (by simp) (by simp))
 case binOp=>split <;> first | exact Qh | exact BV
 case slice t x lo hi mx=>
  split;rename_i vx _ _ _ E _ _ _;unfold HD at hf;simp only [M05,E,M2u] at hf;exact Bv λS g S1 h=>UI (by rw [Dq (by assumption),Dq (by assumption)];exact hf.2) h
  exact BV
 case indexAddr=>split <;> first | exact Qh (d:=λS=>Cf P _ S _ _) | exact BV
 case index t x i=>
  split;rename_i vx J E hi;unfold HD at hf;simp only [M05,E] at hf;rw [hf.2];simp only;exact Qh
  exact BV
 case convert=>split <;> first | exact XN | exact BV
 case makeSlice=>split <;> first | exact XM | exact BV
 case buildSlice t len parts=>
  split
  rotate_left
  exact Ee (B (by simp) (by simp));split;rename_i ps G;unfold HD at hf;simp only [M05,G] at hf;exact Ee (ZV hf.2)
  exact BV
 case call c=>
  obtain ⟨callee,args,argTypes⟩:=c;split
  ·simp only;split;refine Bv λS g S1 h=>?_
   obtain ⟨_,_,h2⟩:=M01.1 (run_of.1 h);cases h2;rfl;cases A;cases A;cases A;cases A
   ·split <;> first | exact Gi | exact BV
   have key:∀ l,Qg name λS=>CU P name .max argTypes.toList l S:=λl=>by
    cases l with
    | nil=>exact Ar
    | cons x l=>exact BN
   exact Ee (key _)
   ·split <;> first | exact Gi | exact BV
   ·split <;> first | exact Gi | exact BV
   exact BV
  exact BV
 case makeMap t r=>
  cases r with
  | none=>
   refine Ee ?_;unfold EO;split;split;exact Se;exact Ar;exact Ar
  | some r=>exact Ee (B (by simp) (by simp))
 case lookup=>
  split;exact Qh (d:=λS=>KZ P _ S _ _ _);exact Ee (B (by simp) (by simp))
 case mapUpdate=>cases A
 all_goals first | exact Ee (B (by simp) (by simp)) | exact BV
variable {f':GF}
theorem Mj{f:GF}{name:Nat}(h:∀ x∈o.op.operands.toList,Bo f' x=Bo f x):EP o f' name=EP o f name:=by
 obtain ⟨dst,op,ty,pos,B,E⟩:=o;unfold EP;cases op <;> simp only [Op.operands] at h ⊢
 case load t x=>rw [h x (by simp)]
 case slice t x lo hi mx=>rw [h x (by simp)]
 case convert s d x=>rw [h x (by simp)]
 case indexAddr t x i=>rw [h x (by simp)]
 case lookup t x i ok=>rw [h x (by simp)]
 case call c=>
  obtain ⟨callee,args,argTypes⟩:=c;simp only;cases A:args.toList with
  | nil=>rfl
  | cons y l=>
   show Bi (Bo f' y)=Bi (Bo f y)
   rw [h y (by simp only [Call.operands,M1Y,M1b,A];exact .inr (by simp))]
theorem Ml {op:GO}{ops:Array Oper}{done:List Nat}{f:GF}:∀ {l:List (Nat×Oper)} {i:Nat} {o:Oper},VM op ops done f l=some (i,o)→(i,o)∈l∧(BU o done&&Rt op ops i o f)=true
 | [],i,o,h=>by cases h
 | (j,p)::l,i,o,h=>by
  unfold VM at h;split at h;rename_i A;cases h;exact ⟨by simp,A⟩;obtain ⟨h1,h2⟩:=Ml h;exact ⟨M1c _ h1,h2⟩
def LInv (P:Program) (call:CK) (ops:Array Oper) (base:Nat) (loose:List (Nat×List Nat)) (f:GF) (S:St):Prop:=
 ∀ x∈loose,∃ o,ops[x.1]? = some o∧Cz (J0 P call) ops base f S x.1∧∀ b∈EP o f (base+x.1),b∈x.2
variable {ops:Array Oper}
theorem ZX {nx:Nat}{loose:List (Nat×List Nat)}{d:Option Tmp}{ch:List Nat}(h:iV nx ops loose d ch=true){x:Nat×List Nat}(E:x∈loose)(ho:ops[x.1]? = some o) :
  (∀ e,d=some e→(∀ t∈o.looksAt ops,t≠e)∧∀ t,o.dst=some t→t≠e)∧∀ b∈x.2,b∉ch∧b<nx:=by
 have h1:=M1R.1 h x E;rw [ho] at h1;simp only [M05] at h1;refine ⟨λe B=>?_,λb hb=>?_⟩
 have h2:=h1.1;rw [B] at h2;simp only [M05,M2u] at h2;refine ⟨λt ht A=>?_,λt ht A=>?_⟩
 subst A;have:(o.looksAt ops).any (Nat.beq t)=true:=M2P.2 ⟨t,ht,by simp⟩;rw [this] at h2;cases h2.1
 subst A;rw [ht] at h2;simp at h2
 have h2:=M1R.1 h1.2 b hb;simp only [M05,M2u] at h2;refine ⟨λhm=>?_,M18 h2.2⟩;rw [B4.2 hm] at h2;cases h2.1
variable {call:CK}{base:Nat}
theorem LInv.keep{n:Nat}{i:Nat}{loose:List (Nat×List Nat)}{f:GF}{ch:List Nat}(h:LInv P call ops base loose f S)
  (A:∀ t,o.dst≠some t→f'.get t=f.get t)(I:∀ b,b∉ch→b<S.nx→S'.h.get b=S.h.get b∧S'.ow.get b=S.ow.get b)(J:iV S.nx ops loose o.dst ch=true):LInv P call ops base loose f' S':=by
 intro x E;obtain ⟨o2,h1,h2,h3⟩:=h x E;obtain ⟨G,H⟩:=ZX J E h1;have B:∀ t∈o2.looksAt ops,f'.get t=f.get t:=λt ht=>A t λe=>(G t e).1 t ht rfl
 refine ⟨o2,h1,UH h2 h1 B (λd hd=>A d λe=>(G d e).2 d hd rfl) λb hb=>I b (H b (h3 b hb)).1 (H b (h3 b hb)).2,λb hb=>h3 b ?_⟩;rw [Mj (GS B)] at hb;exact hb
variable {i:Nat}
theorem UJ(h:HV ops i o=true)(ho:ops[i]? = some o):∀ d,o.dst=some d→∀ t∈o.looksAt ops,t≠d:=by
 intro d hd t ht e;subst e;unfold HV at h;rw [hd] at h;simp only at h;have:=M1R.1 h i (M2i.2 (M2q.1 ho).1);rw [ho] at this;have hm:(o.looksAt ops).any (Nat.beq t)=true:=M2P.2 ⟨t,ht,by simp⟩;simp [hm] at this
variable {n:Nat}
theorem XO(U:D6 P (J0 P call)){f:GF}(ho:ops[i]? = some o)(A:Rt (J0 P call) ops i o f=true)(hs:stepG (J0 P call) n ops.toList base i o f S=some (f',S')) :
  Cz (J0 P call) ops base f' S' i∧(∀ t,o.dst≠some t→f'.get t=f.get t)∧(∀ t∈o.looksAt ops,f'.get t=f.get t)∧∀ b,b≠base+i→S'.h.get b=S.h.get b∧S'.ow.get b=S.ow.get b:=by
 unfold Rt at A;simp only [M05,M2t] at A;obtain ⟨G,A⟩:=A;have J:=UJ G ho;unfold stepG at hs
 split at hs;rename_i hw;have A:HD o f=true:=by
  rcases A with h|h;exact h;rw [hw] at h;cases h
 split at hs;rename_i v S1 hg;obtain ⟨f1,h1,h2⟩:=M01.1 hs;cases h2;obtain ⟨_,B⟩:=BZ h1;have hp:∀ t,o.dst≠some t→f'.get t=f.get t:=λt ht=>by rw [B,M1e ht]
 have hl:∀ t∈o.looksAt ops,f'.get t=f.get t:=λt ht=>hp t λe=>J t e t ht rfl
 have H:=GS hl;have Y:=(U.keep hg).2 A;refine ⟨⟨o,ho,G,.inl ⟨by rw [ER hl];exact hw,by show HD o f'=true;rw [Pl H];exact A,v,?_⟩⟩,hp,hl,λb hb=>Y.2.2 b hb⟩;have hg:K8 P call (base+i) o f S (λv S=>some (v,S))=some (v,S'):=hg;have I:Q6 o f=none:=by
  cases O:Q6 o f with
  | none=>rfl
  | some q=>
   have:=(GQ (P:=P) (call:=Ha) (name:=0) (S:=S) (f:=f) (o:=o) (g:=q.1) (args:=q.2) O).2;unfold HD at A;rw [M05,this] at A;cases A.1
 unfold K8 at hg;rw [I] at hg;obtain ⟨S2,Z,k2⟩:=ZW (P:=P) A S v S' hg;refine ⟨S2,?_,k2,λd hd u E=>?_⟩
 show K8 P call (base+i) o f' S' (λv S=>some (v,S))=some (v,S2)
 unfold K8;rw [Md H,I,Mc H];exact Z;rw [B,M1d hd] at E;cases E;rfl
 cases hs;rename_i hw;obtain ⟨f1,h1,h2⟩:=M01.1 hs;cases h2;obtain ⟨_,B⟩:=BZ h1;have hp:∀ t,o.dst≠some t→f'.get t=f.get t:=λt ht=>by rw [B,M1e ht]
 have hl:∀ t∈o.looksAt ops,f'.get t=f.get t:=λt ht=>hp t λe=>J t e t ht rfl
 refine ⟨⟨o,ho,G,.inr ⟨by rw [ER hl];exact hw,λd hd u E=>?_⟩⟩,hp,hl,λb _=>⟨rfl,rfl⟩⟩;rw [B,M1d hd] at E;cases E;rfl
 cases hs
theorem GU {op:GO}{ops:List Oper}{f:GF}(hs:stepG op n ops base i o f S=some (f',S')):∀ t,o.dst≠some t→f'.get t=f.get t:=by
 unfold stepG at hs;split at hs;split at hs;obtain ⟨f1,h1,h2⟩:=M01.1 hs;cases h2;intro t ht;rw [(BZ h1).2,M1e ht];cases hs;obtain ⟨f1,h1,h2⟩:=M01.1 hs;cases h2;intro t ht;rw [(BZ h1).2,M1e ht];cases hs
theorem VV{l:List Nat}(h:S'.lg=l++S.lg):iW S S'=l:=by
 unfold iW;rw [h,M1l,M3X,List.take_left]
theorem ZY {loose:List (Nat×List Nat)}(h:Bx (loose.map (·.1)) i=true):∃ x∈loose,x.1=i:=by
 obtain ⟨x,A,e⟩:=M1L.1 (B4.1 h);exact ⟨x,A,e⟩
theorem Ji {P:Program}{call:CK}(E:Cw P call)(O:D6 P (J0 P call)){A:Type}{n base:Nat}{cs:List Nat}{ops:Array Oper}{K:GF→St→Option A}{r:A}:∀ (k:Nat) {rem:List (Nat×Oper)} {done:List Nat} {loose:List (Nat×List Nat)} {f:GF} {S:St},
  HE P call n cs ops base k rem done loose f S K=some r→(∀ x∈rem,ops[x.1]? = some x.2)→LInv P call ops base loose f S→∃ f' S',RegD (J0 P call) n ops base f' S' rem done (loose.map (·.1)) f S∧K f' S'=some r
 | 0,rem,done,loose,f,S,h,_,_=>by cases h
 | k+1,rem,done,loose,f,S,h,hrem,hL=>by
  have U:∀ j,Bx (loose.map (·.1)) j=true→Cz (J0 P call) ops base f S j:=λj hj=>by
   obtain ⟨x,hx,rfl⟩:=ZY hj;obtain ⟨_,_,h2,_⟩:=hL x hx;exact h2
  have Z:∀ i,∀ x∈rem.filter (λp=>!(Nat.beq p.1 i)),ops[x.1]? = some x.2:=λi x hx=>hrem x (M1Z.1 hx).1
  unfold HE at h;split at h;rename_i i o ae;obtain ⟨Y,I⟩:=Ml ae;obtain ⟨f1,S1,B,h⟩:=HG E h;split at h;rename_i J;have ho:=hrem _ Y;rw [M05] at I;obtain ⟨n1,n2,n3,n4⟩:=XO O ho I.2 B;have H:LInv P call ops base ((i,EP o f (base+i))::loose) f1 S1:=by
   intro x hx;rcases M1y.1 hx with rfl|hx
   refine ⟨o,ho,n1,λb hb=>?_⟩;rw [Mj (GS n3)] at hb;exact hb
   exact hL.keep (n:=n) (i:=i) n2 (λb hb _=>n4 b (by simpa using hb)) J x hx
  obtain ⟨f',S',hd,G⟩:=Ji E O k h (Z i) H;refine ⟨f',S',.flt Y (by rw [M05];exact I) B ?_,G⟩
  simpa using hd
  cases h;split at h;split at h;exact ⟨f,S,.fin U,h⟩;cases h;rename_i m o ad;obtain ⟨f1,S1,B,h⟩:=HG E h;simp only at h;split at h;rename_i J;obtain ⟨l,e1,e2,_⟩:=Sd E B;have ac:LInv P call ops base (loose.filter λp=>!(HQ ops 8 m p.1)) f S:=λx hx=>hL x (M1Z.1 hx).1
  have H:=ac.keep (n:=n) (i:=m) (GU B) (λb hb hn=>e2 b (λhm=>hb (by rw [VV e1];exact M1c _ hm)) (λe=>hb (by rw [e];simp)) hn) J;obtain ⟨f',S',hd,G⟩:=Ji E O k h (Z m) H;refine ⟨f',S',.mov U ad B ?_,G⟩;have:(loose.map (·.1)).filter (λj=>!(HQ ops 8 m j))=(loose.filter λp=>!(HQ ops 8 m p.1)).map (·.1):=by rw [List.filter_map];rfl
  rw [this];exact hd;cases h;cases h
end
end Go.E
