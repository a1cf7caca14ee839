
/- Walks, printed by program: each function returns what the partial function of the same name returns. Conditions: those of each theorem. -/
import Derived.Test.YtlejnkhaphlooaaGreatGT
import Derived.Test.YtlejnkhaphlooaaGreatGr11
import Derived.Test.YtlejnkhaphlooaaGreatGr12
import Derived.Test.YtlejnkhaphlooaaGreatGr13
import Derived.Test.YtlejnkhaphlooaaGreatGr14
set_option linter.unusedVariables false
set_option linter.unusedSimpArgs false
set_option maxRecDepth 4000
namespace Go.Proofs.YtlejnkhaphlooaaGreat
open Go Go.V Go.Proofs Go.IntKind
def r15_Make (b:List (Int×Int×Int×Int)) (c:Int):Option (((Int×(List Int))×(List Int))×Int):=
((r13_Least b c).bind fun a=>
(if (a.2 != 0)=true then
some (((0,[]),[]),a.2)
else
((r13_Witness b c).bind fun d=>
some (((a.1.1,a.1.2),d.1),0))))
theorem r15_Make_w (u v t x A y d)(c:MS y [d])(n:SlR (eIt4) y (fl [d]) u v t)(s:r15_Make t x=some A):CallVC Tryz.prog 64 [.agg #[Vl u t v,Vi x]] y fun ae N=>∃ B af C ag,ae=.tuple #[.agg #[Vi A.1.1.1,Vl B A.1.1.2 af,Vl C A.1.2 ag],Vi A.2]∧Ev [] y N∧MS N [Bk B,Bk C,d]∧FR y.heap.size [Bk B,Bk C]∧OwnS eI 3 N (fl [Bk B,Bk C,d]) B af A.1.1.2∧OwnS eI 3 N (fl [Bk B,Bk C,d]) C ag A.1.2:=by
 refine Cv hmx Tryz.func64 (by kernel_rfl) R (rs:=[.cell 2 54,.tmp 3]) R (by kernel_rfl) (args:=[.agg #[Vl u t v,Vi x]]) R ?_;have e:Ev [] y y:=Ev.refl _ _;have k:FR y.heap.size []:=FR.nil _;refine Cs (Yb _ R (fun h ay aa l Q aA=>?_));replace l:ay.heap[h]? = some (.cells #[Vl u t v,Vi x] 50 (0,0)):=l;refine I1 ?_;have j:=Stp.box (ls:=[d]) Q aa;have n:=n.step j;have c:=c.box Q aa l;have k:=k.box e.size aa;have e:=e.ext Q;refine Xa (z:=.agg #[Vi 0,Z0,Z0]) R R (by kernel_rfl) (fun g ak ab i L aB=>?_);replace i:ak.heap[g]? = some (.cells #[Vi 0,Z0,Z0] 54 (0,0)):=i;refine I1 ?_;have j:=Stp.box (ls:=[[h],d]) L ab;have n:=n.step j;have l:=L.box l nn;have c:=c.box L ab i;have k:=k.box e.size ab;have e:=e.ext L;refine Xu 1 [(3,Vi 0)] (Xk (Cs (Yl _ _ R (Ra 0 [Vl u t v,Vi x] tagg50 l nn R) ?_)));obtain ⟨b,ad,s⟩:=Bs s;have O:=r13_Least_w u v t x _ ak (fl [[g],[h],d]) (MS.fold (P:=[]) c) (n.sub fl1) ad;refine Xc 61 #[] #[] _ _ R R R R O ?_;rintro ae aE ⟨a,r,rfl,J,aq,X,q⟩;refine I1 ?_;have j:=Stp.call0 [[g],[h],d] [Bk a] [Bk a,[g],[h],d] J X R;have n:=n.step j;have l:=J.box l nn;have i:=J.box i nn;have c:=MS.call0 [Bk a] [Bk a,[g],[h],d] c J aq X R;have Y:=FR.call0 [Bk a,[g],[h]] e.size X k R;have e:=e.ext J;have k:=Y;have q:=OwnS.plain (M':=fl [Bk a,[g],[h],d]) (Pi _) q;refine Xu 3 [(8,.tuple #[.agg #[Vi b.1.1,Vl a b.1.2 r],Vi b.2]),(11,.agg #[Vi b.1.1,Vl a b.1.2 r]),(12,Vi b.2)] (Xa (z:=.agg #[Vi 0,Z0]) R R (by kernel_rfl) (fun o az ac w F aC=>?_));replace w:az.heap[o]? = some (.cells #[Vi 0,Z0] 52 (0,0)):=w;refine I1 ?_;have j:=Stp.box (ls:=[Bk a,[g],[h],d]) F ac;have n:=n.step j;have l:=F.box l nn;have i:=F.box i nn;have q:=q.step j F nn2;have c:=c.box F ac w;have k:=k.box e.size ac;have e:=e.ext F;obtain ⟨aj,ar,am,D⟩:=Sa [Vi b.1.1,Vl a b.1.2 r] tagg52 w R R R;refine Ys aj _ _ R ar (I1 ?_);have j:=Stp.ev' (ls:=[[o],Bk a,[g],[h],d]) D (Mf 0 R);have n:=n.step j;have l:=D.box l (c.apart 3 0 R R R _ mem1);have i:=D.box i (c.apart 2 0 R R R _ mem1);have q:=q.step j D (c.apart 1 0 R R R);have c:=c.ev D;have e:=e.then D (fun G H=>.inr (k.at 0 R G H));have w:=am;refine Xu 1 [(5,Vi b.2)] (Xk (Cq (Cs (Xu 2 [(13,Vi b.2),(14,.bool (b.2 != 0))] (Xk (Ci (b.2 != 0) R s (fun s=>?_) (fun s=>?_)))))))
 · refine Cs (Xd (vs:=[]) (.agg #[Vi 0,Z0,Z0]) R R R (fun _ _=>by kernel_rfl) ?_);refine Xu 1 [(16,Vi b.2)] ?_;obtain ⟨aw,au,an,ah⟩:=Sa [Vi 0,Z0,Z0] tagg54 i R R R;refine Ys aw _ _ R au (I1 ?_);have c:=c.ev ah;have e:=e.then ah (fun G H=>.inr (k.at 2 R G H));have i:=an;refine Xu 1 [(3,Vi b.2)] (Xk (Cn [(2,Vp g 0),(3,Vi b.2)] (fun al=>?_)));refine Cr (Kr (Rr (Rv [.agg #[Vi 0,Z0,Z0],Vi b.2] ⟨⟨_,R,Lv (Ra (Mo:=[]) 0 [Vi 0,Z0,Z0] tagg54 i nn R)⟩,R,T0⟩ ?_)));obtain rfl:=Sj s;have Z:=c.pick [none,none,some 4] [Bk none,Bk none,d] R;have S:=k.pick [none,none] [Bk none,Bk none] R;exact ⟨none,0,none,0,R,e,Z,S,OwnS.nil _ _ _ _,OwnS.nil _ _ _ _⟩
 refine Ck (Kt (Cs (Yl _ _ R (Ra 0 [Vl u t v,Vi x] tagg50 l nn R) ?_)));obtain ⟨m,ad,s⟩:=Bs s;have O:=r13_Witness_w u v t x _ aj (fl [[o],Bk a,[g],[h],d]) (MS.fold (P:=[]) c) (n.sub fl1) ad;refine Xc 98 #[] #[] _ _ R R R R O ?_;rintro ae aD ⟨f,p,rfl,E,ap,U,K⟩;refine I1 ?_;have j:=Stp.call0 [[o],Bk a,[g],[h],d] [Bk f] [Bk f,[o],Bk a,[g],[h],d] E U R;have i:=E.box i nn;have q:=q.step j E nn2;have w:=E.box w nn;have c:=MS.call0 [Bk f] [Bk f,[o],Bk a,[g],[h],d] c E ap U R;have Y:=FR.call0 [Bk f,[o],Bk a,[g],[h]] e.size U k R;have e:=e.ext E;have k:=Y;have K:=OwnS.plain (M':=fl [Bk f,[o],Bk a,[g],[h],d]) (Pi _) K;refine Xu 5 [(17,.tuple #[Vl f m.1 p,Vi m.2]),(20,Vl f m.1 p),(21,Vi m.2),(6,Vl f m.1 p),(7,Vi m.2)] (Xk (Cn [(2,Vp g 0),(4,Vp o 0),(6,Vl f m.1 p)] (fun al=>?_)));refine Cs (Yl _ _ R (Ra 0 [Vi b.1.1,Vl a b.1.2 r] tagg52 w nn R) (Xu 1 [(23,Vl f m.1 p)] (Xd (vs:=[(0,.agg #[Vi b.1.1,Vl a b.1.2 r]),(1,Vl f m.1 p)]) (.agg #[Vi b.1.1,Vl a b.1.2 r,Vl f m.1 p]) R R R (fun _ _=>by kernel_rfl) ?_)));obtain ⟨ax,av,ao,I⟩:=Sa [Vi b.1.1,Vl a b.1.2 r,Vl f m.1 p] tagg54 i R R R;refine Ys ax _ _ R av (I1 ?_);have j:=Stp.ev' (ls:=[Bk f,[o],Bk a,[g],[h],d]) I (Mf 3 R);have q:=q.step j I (c.apart 2 3 R R R);have K:=K.step j I (c.apart 0 3 R R R);have c:=c.ev I;have e:=e.then I (fun G H=>.inr (k.at 3 R G H));have i:=ao;refine Xu 1 [(3,Vi 0)] (Xk (Cr (Rr (Rv [.agg #[Vi b.1.1,Vl a b.1.2 r,Vl f m.1 p],Vi 0] ⟨⟨_,R,Lv (Ra (Mo:=[]) 0 [Vi b.1.1,Vl a b.1.2 r,Vl f m.1 p] tagg54 i nn R)⟩,R,T0⟩ ?_))));obtain rfl:=Sj s;have Z:=c.pk [2,0,5] [Bk a,Bk f,d] R;have ai:=Pk (ls:=[Bk f,[o],Bk a,[g],[h],d]) [2,0,5] [Bk a,Bk f,d] R;have S:=k.pk [2,0] [Bk a,Bk f] R;exact ⟨a,r,f,p,R,e,Z,S,q.sub ai,K.sub ai⟩
def r15_Check_L14 (d:List (Int×Int×Int×Int)) (e:Int) (b:List Int) (c:Int) (f:Int):Option (Step Int (Unit⊕Unit)):=
match f with
| a=>
(if (decide (a<((b).length:Int)))=true then
((r11_Kind d e c a).bind fun g=>
(if (decide (g>0))=true then
((idx b c).bind fun h=>
((idx b a).bind fun i=>
((r11_Strict d e c a).bind fun j=>
(if (decide ((i64.wrap (h+j))>i))=true then
some (.done (.inl ()))
else
some (.next (i64.wrap (a+1)))))))
else
some (.next (i64.wrap (a+1)))))
else
some (.done (.inr ())))
def r15_Check_L12 (d:List (Int×Int×Int×Int)) (e:Int) (b:List Int) (f:Int):Option (Step Int (Unit⊕Unit)):=
match f with
| a=>
(if (decide (a<((b).length:Int)))=true then
((loop (r15_Check_L14 d e b a) 0).bind fun c=>match c with
| (.inl _)=>some (.done (.inl ()))
| (.inr _)=>some (.next (i64.wrap (a+1))))
else
some (.done (.inr ())))
def r15_Check (a:List (Int×Int×Int×Int)) (b:Int) (d:Int) (e:List Int) (h:List Int):Option Int:=
((r14_Valid a b d e).bind fun f=>
(if (f != 0)=true then
some f
else
((loop (r15_Check_L12 a b e) 0).bind fun g=>match g with
| (.inl _)=>some 12
| (.inr _)=>((r13_Bound a b h).bind fun c=>
(if (c.2 != 0)=true then
some c.2
else
((r12_Long c.1).bind fun i=>
(if (i != d)=true then
some 17
else
some 0)))))))
theorem r15_Check_w (t u r v z g h d E F B av y f)(j:MS y [f])(k:SlR (eIt4) y (fl [f]) t u r)(m:SlR eI y (fl [f]) g h d)(q:SlR eI y (fl [f]) E F B)(a:r15_Check r v z d B=some av):CallVC Tryz.prog 68 [.agg #[Vl t r u,Vi v],.agg #[Vi z,Vl g d h,Vl E B F]] y fun Q s=>Q=Vi av∧Ev [] y s:=by
 refine Cv hmx Tryz.func68 (by kernel_rfl) R (rs:=[.tmp 4]) R (by kernel_rfl) (args:=[.agg #[Vl t r u,Vi v],.agg #[Vi z,Vl g d h,Vl E B F]]) R ?_;have e:Ev [] y y:=Ev.refl _ _;have x:FR y.heap.size []:=FR.nil _;refine Cs (Yb _ R (fun c aI ai l ag aQ=>?_));replace l:aI.heap[c]? = some (.cells #[Vl t r u,Vi v] 50 (0,0)):=l;refine I1 ?_;have p:=Stp.box (ls:=[f]) ag ai;have k:=k.step p;have m:=m.step p;have q:=q.step p;have j:=j.box ag ai l;have x:=x.box e.size ai;have e:=e.ext ag;refine Yb _ R (fun b aw aj i ac aS=>?_);replace i:aw.heap[b]? = some (.cells #[Vi z,Vl g d h,Vl E B F] 54 (0,0)):=i;refine I1 ?_;have p:=Stp.box (ls:=[[c],f]) ac aj;have k:=k.step p;have m:=m.step p;have q:=q.step p;have l:=ac.box l nn;have j:=j.box ac aj i;have x:=x.box e.size aj;have e:=e.ext ac;refine Xu 1 [(4,Vi 0)] (Xk (Cq (Cs (Yl _ _ R (Ra 0 [Vl t r u,Vi v] tagg50 l nn R) (Yf (Vp b 0) (Vp b 0) R (Rf tfld54_0 _ _) (Yl _ _ R (Ra 0 [Vi z,Vl g d h] tagg52 i nn R) ?_))))));obtain ⟨K,A,a⟩:=Bs a;have G:=r14_Valid_w t u r v z g h d _ aw (fl [[b],[c],f]) (MS.fold (P:=[]) j) (k.sub fl1) (m.sub fl1) A;refine Xc 99 #[] #[] _ _ R R R R G ?_;rintro Q aY ⟨rfl,X⟩;refine I1 ?_;have p:=Stp.ext (ls:=[[b],[c],f]) X;have k:=k.step p;have m:=m.step p;have q:=q.step p;have l:=X.box l nn;have i:=X.box i nn;have j:=j.ev X;have e:=e.ext X;refine Xu 1 [(5,Vi K)] (Xk (Cs (Xu 2 [(15,Vi K),(16,.bool (K != 0))] (Xk (Ci (K != 0) R a (fun a=>?_) (fun a=>?_))))))
 · refine Cs (Xu 2 [(17,Vi K),(4,Vi K)] (Xk (Cr (Kr (Rr (Rv [Vi K] ⟨R,T0⟩ ?_))))));obtain rfl:=Sj a;exact ⟨R,e⟩
 refine Ck (Kt (Cs (Yf (Vp b 0) (Vp b 0) R (Rf tfld54_0 _ _) (Yg b 0 1 (Vl g d h) R R (Rf tfld52_1 _ _) tcell22 i nn R (Xu 1 [(6,Vl g d h)] (Xk (Cn [(2,Vp c 0),(3,Vp b 0),(6,Vl g d h)] (fun D=>?_))))))));refine Cq (Cs (Xu 1 [(7,Vi 0)] (Xk (Cb ?_))));have ah:=j.pk [1,0,2] [[c],[b],f] R;have ak:=Pk (ls:=[[b],[c],f]) [1,0,2] [[c],[b],f] R;have k:=k.sub ak;have m:=m.sub ak;have q:=q.sub ak;have j:=ah;have x:=x.pk [1,0] [[c],[b]] R;obtain ⟨ax,ae,ap⟩:=Bs a;obtain ⟨Z,ae⟩:=Lo ae;refine Cl (Lr hmx (σ:=Nat×Int) (fun C=>match C with | (_,n)=>[(2,Vp c 0),(3,Vp b 0),(6,Vl g d h),(7,Vi n)]) (fun C s=>match C with | (al,n)=>loopN (r15_Check_L12 r v d) al n=some ax∧Ev [] y s∧MS s [[c],[b],f]∧FR y.heap.size [[c],[b]]∧SlR (eIt4) s (fl [[c],[b],f]) t u r∧s.heap[c]? = some (.cells #[Vl t r u,Vi v] 50 (0,0))∧SlR eI s (fl [[c],[b],f]) g h d∧SlR eI s (fl [[c],[b],f]) E F B∧s.heap[b]? = some (.cells #[Vi z,Vl g d h,Vl E B F] 54 (0,0))) (fun C=>C.1) (Z,0) ⟨R,R,R,R,T0⟩ ⟨ae,e,j,x,k,l,m,q,i⟩ ?_);rintro ⟨Z,n⟩ D aJ ⟨N,e,j,x,k,l,m,q,i⟩;rcases Z with _ | Z
 · exact (Lz N).elim
 obtain ⟨aU,a,N⟩:=Bs N;refine Cq (Cs (Xu 2 [(21,Vi n),(22,Vl g d h)] (Xn (vs:=[Vl g d h]) (Vi ((d).length:Int)) R R R (Rl tsl22 _ _ _ _ _) (Xu 1 [(24,Bd (n<((d).length:Int)))] (Xk (Cn [(2,Vp c 0),(3,Vp b 0),(6,Vl g d h),(7,Vi n),(24,Bd (n<((d).length:Int)))] (fun D=>?_)))))));refine Ci (decide (n<((d).length:Int))) R a (fun a=>?_) (fun a=>?_)
 · refine Ck (Kt (Cq (Cb (Cs (Xu 1 [(8,Vi 0)] (Xk (Cb ?_)))))));obtain ⟨ay,af,aq⟩:=Bs a;obtain ⟨O,af⟩:=Lo af;refine Cl (Lr hmx (σ:=Nat×Int) (fun C=>match C with | (_,o)=>[(2,Vp c 0),(3,Vp b 0),(6,Vl g d h),(7,Vi n),(8,Vi o)]) (fun C s=>match C with | (al,o)=>loopN (r15_Check_L14 r v d n) al o=some ay∧Ev [] y s∧MS s [[c],[b],f]∧FR y.heap.size [[c],[b]]∧SlR (eIt4) s (fl [[c],[b],f]) t u r∧s.heap[c]? = some (.cells #[Vl t r u,Vi v] 50 (0,0))∧SlR eI s (fl [[c],[b],f]) g h d∧SlR eI s (fl [[c],[b],f]) E F B∧s.heap[b]? = some (.cells #[Vi z,Vl g d h,Vl E B F] 54 (0,0))) (fun C=>C.1) (O,0) ⟨R,R,R,R,R,T0⟩ ⟨af,e,j,x,k,l,m,q,i⟩ ?_);rintro ⟨O,o⟩ D J ⟨H,e,j,x,k,l,m,q,i⟩;rcases O with _ | O
   · exact (Lz H).elim
   obtain ⟨aX,a,H⟩:=Bs H;refine Cq (Cs (Xu 2 [(27,Vi o),(28,Vl g d h)] (Xn (vs:=[Vl g d h]) (Vi ((d).length:Int)) R R R (Rl tsl22 _ _ _ _ _) (Xu 1 [(30,Bd (o<((d).length:Int)))] (Xk (Cn [(2,Vp c 0),(3,Vp b 0),(6,Vl g d h),(7,Vi n),(8,Vi o),(30,Bd (o<((d).length:Int)))] (fun D=>?_)))))));refine Ci (decide (o<((d).length:Int))) R a (fun a=>?_) (fun a=>?_)
   · refine Ck (Kt (Cq (Cb (Cq (Cd [] [(0,false),(1,false),(2,false),(3,true),(4,false),(5,false),(6,false),(7,false),(8,false),(9,false),(10,false),(11,false),(12,false),(15,false),(16,false),(17,false),(18,false),(13,false),(14,false),(19,false),(20,false)] _ (by kernel_rfl) R ?_)))));have p:=Stp.ext (ls:=[[c],[b],f]) (Ev.drew J);have l:=(Ev.drew J).box l nn;have k:=k.step p;have i:=(Ev.drew J).box i nn;have m:=m.step p;have q:=q.step p;have j:=j.ev (Ev.drew J);have e:=e.ext (Ev.drew J);refine Yl _ _ R (Ra 0 [Vl t r u,Vi v] tagg50 l nn R) (Xu 2 [(34,Vi n),(35,Vi o)] ?_);obtain ⟨an,A,a⟩:=Bs a;have ah:MS (J).drew ([]++[[c],[b],f]):=j.pk [0,1,2] _ R;have aE:∀ S∈fl ([]++[[c],[b],f]),S∈fl [[c],[b],f]:=Pk [0,1,2] _ R;have aD:∀ S∈fl ([]++[(fl [[c],[b],f])]),S∈fl [[c],[b],f]:=fun S A=>aE S (Fu S A)
     have G:=r11_Kind_w t u r v n o _ (J).drew (fl [[c],[b],f]) (MS.fold (P:=[]) ah) (k.sub aD) A;refine Xc 102 #[] #[] _ _ R R R R G ?_;rintro Q aH ⟨rfl,Y⟩;refine I1 ?_;have p:=Stp.ext (ls:=[[c],[b],f]) Y;have l:=Y.box l nn;have k:=k.step p;have i:=Y.box i nn;have m:=m.step p;have q:=q.step p;have j:=j.ev Y;have e:=e.ext Y;refine Xu 2 [(37,Bd (an>0)),(38,Bd (an>0))] (Xw 38 (decide (an>0)) R a (fun a=>?_) (fun a=>?_))
     · refine Xu 2 [(39,Vl g d h),(40,Vi n)] ?_;obtain ⟨U,aF,a⟩:=Bs a;obtain ⟨aK,aN,aB,az,ad⟩:=Ri (Mo:=[]) tsl22 m aF;obtain rfl:=ad;refine Yi _ _ _ R aB (Yl _ (Vi U) R (Rc tcell3 az (fun _ a=>by cases a)) ?_);refine Yl _ _ R (Ra 0 [Vl t r u,Vi v] tagg50 l nn R) (Xu 4 [(44,Vi n),(45,Vi o),(48,Vl g d h),(49,Vi o)] ?_);obtain ⟨aa,aG,a⟩:=Bs a;obtain ⟨aL,aO,aC,aA,ad⟩:=Ri (Mo:=[]) tsl22 m aG;obtain rfl:=ad;refine Yi _ _ _ R aC (Yl _ (Vi aa) R (Rc tcell3 aA (fun _ a=>by cases a)) ?_);obtain ⟨ab,A,a⟩:=Bs a;have G:=r11_Strict_w t u r v n o _ aH (fl [[c],[b],f]) (MS.fold (P:=[]) j) (k.sub fl1) A;refine Xc 103 #[] #[] _ _ R R R R G ?_;rintro Q aZ ⟨rfl,L⟩;refine ⟨.inr L,?_⟩;have p:=Stp.ext (ls:=[[c],[b],f]) L;have l:=L.box l nn;have k:=k.step p;have i:=L.box i nn;have m:=m.step p;have q:=q.step p;have j:=j.ev L;have e:=e.ext L;refine Xu 3 [(47,Vi (i64.wrap (U+ab))),(52,Bd ((i64.wrap (U+ab))>aa)),(53,Bd ((i64.wrap (U+ab))>aa))] (Xk (Cn [(2,Vp c 0),(3,Vp b 0),(6,Vl g d h),(7,Vi n),(8,Vi o),(53,Bd ((i64.wrap (U+ab))>aa))] (fun D=>?_)));refine Ci (decide ((i64.wrap (U+ab))>aa)) R a (fun a=>?_) (fun a=>?_)
       · refine Cs (Xu 1 [(4,Vi 12)] (Xk (Cr (Kb (Kr ?_)))));obtain rfl:=Sj a;have I:=Sj H;subst I;have a:=aq;refine Kr (Kb (Kb (Kr ?_)));obtain rfl:=Sj a;have I:=Sj N;subst I;have a:=ap;refine Kr (Kb (Kr (Rr (Rv [Vi 12] ⟨R,T0⟩ ?_))));obtain rfl:=Sj a;exact ⟨R,e⟩
       refine Ck (Kl (Kt (Cp (Xu 3 [(31,Vi o),(32,Vi (i64.wrap (o+1))),(8,Vi (i64.wrap (o+1)))] (Xe R ?_)))));obtain rfl:=Sj a;exact Kt ⟨(O,i64.wrap (o+1)),⟨R,R,R,R,R,T0⟩,⟨H,e,j,x,k,l,m,q,i⟩,Ns _⟩
     refine Xu 15 [(39,U0),(40,U0),(41,U0),(42,U0),(43,U0),(44,U0),(45,U0),(48,U0),(49,U0),(50,U0),(51,U0),(46,U0),(47,U0),(52,U0),(53,.bool false)] (Xk (Cn [(2,Vp c 0),(3,Vp b 0),(6,Vl g d h),(7,Vi n),(8,Vi o),(53,.bool false)] (fun D=>?_)));refine c_false R (Ck (Kl (Kt (Cp (Xu 3 [(31,Vi o),(32,Vi (i64.wrap (o+1))),(8,Vi (i64.wrap (o+1)))] (Xe R ?_))))));obtain rfl:=Sj a;exact Kt ⟨(O,i64.wrap (o+1)),⟨R,R,R,R,R,T0⟩,⟨H,e,j,x,k,l,m,q,i⟩,Ns _⟩
   refine Ce (Ke ?_);obtain rfl:=Sj a;have I:=Sj H;subst I;have a:=aq;refine Ke (Ki (Kl (Kt (Cn [(2,Vp c 0),(3,Vp b 0),(6,Vl g d h),(7,Vi n)] (fun D=>?_)))));refine Cp (Xu 3 [(25,Vi n),(26,Vi (i64.wrap (n+1))),(7,Vi (i64.wrap (n+1)))] (Xe R ?_));obtain rfl:=Sj a;exact Kt ⟨(Z,i64.wrap (n+1)),⟨R,R,R,R,T0⟩,⟨N,e,j,x,k,l,m,q,i⟩,Ns _⟩
 refine Ce (Ke ?_);obtain rfl:=Sj a;have I:=Sj N;subst I;have a:=ap;refine Ke (Ki (Kt (Cn [(2,Vp c 0),(3,Vp b 0)] (fun D=>?_))));refine Cs (Yl _ _ R (Ra 0 [Vl t r u,Vi v] tagg50 l nn R) (Yg b 0 2 (Vl E B F) R R (Rf tfld54_1 _ _) tcell22 i nn R ?_));obtain ⟨w,A,a⟩:=Bs a;have G:=r13_Bound_w t u r v E F B _ aJ (fl [[c],[b],f]) (MS.fold (P:=[]) j) (k.sub fl1) (q.sub fl1) A;refine Xc 104 #[] #[] _ _ R R R R G ?_;rintro Q am ⟨rfl,ar⟩;refine I1 ?_;have i:=ar.box i nn;have e:=e.ext ar;refine Xu 5 [(54,.tuple #[Vi w.1,Vi w.2]),(59,Vi w.1),(60,Vi w.2),(9,Vi w.1),(10,Vi w.2)] (Xk (Cq (Cs (Xu 2 [(61,Vi w.2),(62,.bool (w.2 != 0))] (Xk (Ci (w.2 != 0) R a (fun a=>?_) (fun a=>?_)))))))
 · refine Cs (Xu 2 [(63,Vi w.2),(4,Vi w.2)] (Xk (Cn [(4,Vi w.2)] (fun D=>?_))));refine Cr (Kr (Rr (Rv [Vi w.2] ⟨R,T0⟩ ?_)));obtain rfl:=Sj a;exact ⟨R,e⟩
 refine Ck (Kt (Cq (Cq (Cd [] [(0,false),(2,false),(3,false),(4,false),(1,false),(5,false)] _ (by kernel_rfl) R ?_))));have i:=(Ev.drew am).box i nn;have e:=e.ext (Ev.drew am);refine Xu 1 [(64,Vi w.1)] (Yf (Vp b 0) (Vp b 0) R (Rf tfld54_0 _ _) (Yg b 0 0 (Vi z) R R (Rf tfld52_0 _ _) tcell3 i nn R ?_));obtain ⟨ao,A,a⟩:=Bs a;have G:=r12_Long_w w.1 _ (am).drew A;refine Xc 95 #[] #[] _ _ R R R R G ?_;rintro Q a0 ⟨rfl,au⟩;refine ⟨.inr au,?_⟩;have e:=e.ext au;refine Xu 1 [(69,.bool (ao != z))] (Xk (Cn [(69,.bool (ao != z))] (fun D=>?_)));refine Ci (ao != z) R a (fun a=>?_) (fun a=>?_)
 · refine Cs (Xu 1 [(4,Vi 17)] (Xk (Cr (Kr (Rr (Rv [Vi 17] ⟨R,T0⟩ ?_))))));obtain rfl:=Sj a;exact ⟨R,e⟩
 refine Ck (Kt (Cs (Xu 1 [(4,Vi 0)] (Xk (Cr (Rr (Rv [Vi 0] ⟨R,T0⟩ ?_)))))));obtain rfl:=Sj a;exact ⟨R,e⟩
end Go.Proofs.YtlejnkhaphlooaaGreat
