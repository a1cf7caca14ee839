
/- Walks, printed by program: each function returns what the partial function of the same name returns. Conditions: those of each theorem. -/
import Derived.Test.YtlejnkhaphlooaaGreatGT
import Derived.Test.YtlejnkhaphlooaaGreatGcode
import Derived.Test.YtlejnkhaphlooaaGreatGjob
import Derived.Test.YtlejnkhaphlooaaGreatGleastcode
import Derived.Test.YtlejnkhaphlooaaGreatGrollin
set_option linter.unusedVariables false
set_option linter.unusedSimpArgs false
set_option maxRecDepth 4000
namespace Go.Proofs.YtlejnkhaphlooaaGreat
open Go Go.V Go.Proofs Go.IntKind
def certificate_Make (c:List (Int×Int×Int×Int)) (d:Int):Option (((Int×(List Int))×(List Int))×Int):=
((leastcode_Least c d).bind fun a=>
(if (a.2 != 0)=true then
some (((0,[]),[]),a.2)
else
((leastcode_Witness c d).bind fun b=>
(if (b.2 != 0)=true then
some (((0,[]),[]),b.2)
else
some (((a.1.1,a.1.2),b.1),0)))))
theorem certificate_Make_w (u v t x C y e)(b:MS y [e])(o:SlR (eIt4) y (fl [e]) u v t)(m:certificate_Make t x=some C):CallVC Tryz.prog 21 [.agg #[Vl u t v,Vi x]] y fun ae Q=>∃ D af E ag,ae=.tuple #[.agg #[Vi C.1.1.1,Vl D C.1.1.2 af,Vl E C.1.2 ag],Vi C.2]∧Ev [] y Q∧MS Q [Bk D,Bk E,e]∧FR y.heap.size [Bk D,Bk E]∧OwnS eI 3 Q (fl [Bk D,Bk E,e]) D af C.1.1.2∧OwnS eI 3 Q (fl [Bk D,Bk E,e]) E ag C.1.2:=by
 refine Cv hmx Tryz.func21 (by kernel_rfl) R (rs:=[.cell 2 54,.tmp 3]) R (by kernel_rfl) (args:=[.agg #[Vl u t v,Vi x]]) R ?_;have d:Ev [] y y:=Ev.refl _ _;have k:FR y.heap.size []:=FR.nil _;refine Cs (Yb _ R (fun j aC aa n U aE=>?_));replace n:aC.heap[j]? = some (.cells #[Vl u t v,Vi x] 50 (0,0)):=n;refine I1 ?_;have l:=Stp.box (ls:=[e]) U aa;have o:=o.step l;have b:=b.box U aa n;have k:=k.box d.size aa;have d:=d.ext U;refine Xa (z:=.agg #[Vi 0,Z0,Z0]) R R (by kernel_rfl) (fun i al ab g O aF=>?_);replace g:al.heap[i]? = some (.cells #[Vi 0,Z0,Z0] 54 (0,0)):=g;refine I1 ?_;have l:=Stp.box (ls:=[[j],e]) O ab;have o:=o.step l;have n:=O.box n nn;have b:=b.box O ab g;have k:=k.box d.size ab;have d:=d.ext O;refine Xu 1 [(3,Vi 0)] (Xk (Cs (Yl _ _ R (Ra 0 [Vl u t v,Vi x] tagg50 n nn R) ?_)));obtain ⟨c,ad,m⟩:=Bs m;have S:=leastcode_Least_w u v t x _ al (fl [[i],[j],e]) (MS.fold (P:=[]) b) (o.sub fl1) ad;refine Xc 51 #[] #[] _ _ R R R R S ?_;rintro ae aI ⟨a,s,rfl,J,au,Y,r⟩;refine I1 ?_;have l:=Stp.call0 [[i],[j],e] [Bk a] [Bk a,[i],[j],e] J Y R;have o:=o.step l;have n:=J.box n nn;have g:=J.box g nn;have b:=MS.call0 [Bk a] [Bk a,[i],[j],e] b J au Y R;have Z:=FR.call0 [Bk a,[i],[j]] d.size Y k R;have d:=d.ext J;have k:=Z;have r:=OwnS.plain (M':=fl [Bk a,[i],[j],e]) (Pi _) r;refine Xu 3 [(7,.tuple #[.agg #[Vi c.1.1,Vl a c.1.2 s],Vi c.2]),(10,.agg #[Vi c.1.1,Vl a c.1.2 s]),(11,Vi c.2)] (Xa (z:=.agg #[Vi 0,Z0]) R R (by kernel_rfl) (fun p aD ac w H aG=>?_));replace w:aD.heap[p]? = some (.cells #[Vi 0,Z0] 52 (0,0)):=w;refine I1 ?_;have l:=Stp.box (ls:=[Bk a,[i],[j],e]) H ac;have o:=o.step l;have n:=H.box n nn;have g:=H.box g nn;have r:=r.step l H nn2;have b:=b.box H ac w;have k:=k.box d.size ac;have d:=d.ext H;obtain ⟨ak,av,an,F⟩:=Sa [Vi c.1.1,Vl a c.1.2 s] tagg52 w R R R;refine Ys ak _ _ R av (I1 ?_);have l:=Stp.ev' (ls:=[[p],Bk a,[i],[j],e]) F (Mf 0 R);have o:=o.step l;have n:=F.box n (b.apart 3 0 R R R _ mem1);have g:=F.box g (b.apart 2 0 R R R _ mem1);have r:=r.step l F (b.apart 1 0 R R R);have b:=b.ev F;have d:=d.then F (fun A B=>.inr (k.at 0 R A B));have w:=an;refine Xu 1 [(5,Vi c.2)] (Xk (Cq (Cs (Xu 2 [(12,Vi c.2),(13,.bool (c.2 != 0))] (Xk (Ci (c.2 != 0) R m (fun m=>?_) (fun m=>?_)))))))
 · refine Cs (Xd (vs:=[]) (.agg #[Vi 0,Z0,Z0]) R R R (fun _ _=>by kernel_rfl) ?_);refine Xu 1 [(15,Vi c.2)] ?_;obtain ⟨az,aw,ao,ah⟩:=Sa [Vi 0,Z0,Z0] tagg54 g R R R;refine Ys az _ _ R aw (I1 ?_);have b:=b.ev ah;have d:=d.then ah (fun A B=>.inr (k.at 2 R A B));have g:=ao;refine Xu 1 [(3,Vi c.2)] (Xk (Cn [(2,Vp i 0),(3,Vi c.2)] (fun am=>?_)));refine Cr (Kr (Rr (Rv [.agg #[Vi 0,Z0,Z0],Vi c.2] ⟨⟨_,R,Lv (Ra (Mo:=[]) 0 [Vi 0,Z0,Z0] tagg54 g nn R)⟩,R,T0⟩ ?_)));obtain rfl:=Sj m;have N:=b.pick [none,none,some 4] [Bk none,Bk none,e] R;have L:=k.pick [none,none] [Bk none,Bk none] R;exact ⟨none,0,none,0,R,d,N,L,OwnS.nil _ _ _ _,OwnS.nil _ _ _ _⟩
 refine Ck (Kt (Cs (Yl _ _ R (Ra 0 [Vl u t v,Vi x] tagg50 n nn R) ?_)));obtain ⟨h,ad,m⟩:=Bs m;have S:=leastcode_Witness_w u v t x _ ak (fl [[p],Bk a,[i],[j],e]) (MS.fold (P:=[]) b) (o.sub fl1) ad;refine Xc 52 #[] #[] _ _ R R R R S ?_;rintro ae aH ⟨f,q,rfl,G,ar,X,K⟩;refine I1 ?_;have l:=Stp.call0 [[p],Bk a,[i],[j],e] [Bk f] [Bk f,[p],Bk a,[i],[j],e] G X R;have g:=G.box g nn;have r:=r.step l G nn2;have w:=G.box w nn;have b:=MS.call0 [Bk f] [Bk f,[p],Bk a,[i],[j],e] b G ar X R;have Z:=FR.call0 [Bk f,[p],Bk a,[i],[j]] d.size X k R;have d:=d.ext G;have k:=Z;have K:=OwnS.plain (M':=fl [Bk f,[p],Bk a,[i],[j],e]) (Pi _) K;refine Xu 5 [(16,.tuple #[Vl f h.1 q,Vi h.2]),(19,Vl f h.1 q),(20,Vi h.2),(6,Vl f h.1 q),(5,Vi h.2)] (Xk (Cn [(2,Vp i 0),(4,Vp p 0),(5,Vi h.2),(6,Vl f h.1 q)] (fun am=>?_)));refine Cq (Cs (Xu 2 [(21,Vi h.2),(22,.bool (h.2 != 0))] (Xk (Ci (h.2 != 0) R m (fun m=>?_) (fun m=>?_)))))
 · refine Cs (Xd (vs:=[]) (.agg #[Vi 0,Z0,Z0]) R R R (fun _ _=>by kernel_rfl) ?_);refine Xu 1 [(24,Vi h.2)] ?_;obtain ⟨aA,ax,ap,ai⟩:=Sa [Vi 0,Z0,Z0] tagg54 g R R R;refine Ys aA _ _ R ax (I1 ?_);have b:=b.ev ai;have d:=d.then ai (fun A B=>.inr (k.at 3 R A B));have g:=ap;refine Xu 1 [(3,Vi h.2)] (Xk (Cr (Kr (Rr (Rv [.agg #[Vi 0,Z0,Z0],Vi h.2] ⟨⟨_,R,Lv (Ra (Mo:=[]) 0 [Vi 0,Z0,Z0] tagg54 g nn R)⟩,R,T0⟩ ?_)))));obtain rfl:=Sj m;have N:=b.pick [none,none,some 5] [Bk none,Bk none,e] R;have L:=k.pick [none,none] [Bk none,Bk none] R;exact ⟨none,0,none,0,R,d,N,L,OwnS.nil _ _ _ _,OwnS.nil _ _ _ _⟩
 refine Ck (Kt (Cs (Yl _ _ R (Ra 0 [Vi c.1.1,Vl a c.1.2 s] tagg52 w nn R) (Xu 1 [(26,Vl f h.1 q)] (Xd (vs:=[(0,.agg #[Vi c.1.1,Vl a c.1.2 s]),(1,Vl f h.1 q)]) (.agg #[Vi c.1.1,Vl a c.1.2 s,Vl f h.1 q]) R R R (fun _ _=>by kernel_rfl) ?_)))));obtain ⟨aB,ay,aq,I⟩:=Sa [Vi c.1.1,Vl a c.1.2 s,Vl f h.1 q] tagg54 g R R R;refine Ys aB _ _ R ay (I1 ?_);have l:=Stp.ev' (ls:=[Bk f,[p],Bk a,[i],[j],e]) I (Mf 3 R);have r:=r.step l I (b.apart 2 3 R R R);have K:=K.step l I (b.apart 0 3 R R R);have b:=b.ev I;have d:=d.then I (fun A B=>.inr (k.at 3 R A B));have g:=aq;refine Xu 1 [(3,Vi 0)] (Xk (Cr (Rr (Rv [.agg #[Vi c.1.1,Vl a c.1.2 s,Vl f h.1 q],Vi 0] ⟨⟨_,R,Lv (Ra (Mo:=[]) 0 [Vi c.1.1,Vl a c.1.2 s,Vl f h.1 q] tagg54 g nn R)⟩,R,T0⟩ ?_))));obtain rfl:=Sj m;have N:=b.pk [2,0,5] [Bk a,Bk f,e] R;have aj:=Pk (ls:=[Bk f,[p],Bk a,[i],[j],e]) [2,0,5] [Bk a,Bk f,e] R;have L:=k.pk [2,0] [Bk a,Bk f] R;exact ⟨a,s,f,q,R,d,N,L,r.sub aj,K.sub aj⟩
def certificate_Check_L14 (c:List (Int×Int×Int×Int)) (f:Int) (d:List Int) (e:Int) (g:Int):Option (Step Int (Int⊕Unit)):=
match g with
| a=>
(if (decide (a<((c).length:Int)))=true then
((job_Relation c f e a).bind fun b=>
(if (b.2 != 0)=true then
some (.done (.inl b.2))
else
(if (decide (b.1>0))=true then
((idx d e).bind fun h=>
((idx d a).bind fun i=>
(if (decide ((i64.wrap ((i64.wrap (h+b.1))-1))>i))=true then
some (.done (.inl 12))
else
some (.next (i64.wrap (a+1))))))
else
some (.next (i64.wrap (a+1))))))
else
some (.done (.inr ())))
def certificate_Check_L12 (b:List (Int×Int×Int×Int)) (d:Int) (e:List Int) (f:Int):Option (Step Int (Int⊕Unit)):=
match f with
| a=>
(if (decide (a<((b).length:Int)))=true then
((loop (certificate_Check_L14 b d e a) 0).bind fun c=>match c with
| (.inl g)=>some (.done (.inl g))
| (.inr _)=>some (.next (i64.wrap (a+1))))
else
some (.done (.inr ())))
def certificate_Check (a:List (Int×Int×Int×Int)) (b:Int) (d:Int) (e:List Int) (i:List Int):Option Int:=
((rollin_Valid a b d e).bind fun g=>
(if (g != 0)=true then
some g
else
((loop (certificate_Check_L12 a b e) 0).bind fun h=>match h with
| (.inl j)=>some j
| (.inr _)=>((leastcode_Bound a b i).bind fun c=>
(if (c.2 != 0)=true then
some c.2
else
((code_Steps c.1).bind fun f=>
(if (f.2 != 0)=true then
some 17
else
(if (f.1 != d)=true then
some 17
else
some 0))))))))
theorem certificate_Check_w (q r c w B z A u G H E ao y i)(l:MS y [i])(m:SlR (eIt4) y (fl [i]) q r c)(n:SlR eI y (fl [i]) z A u)(o:SlR eI y (fl [i]) G H E)(a:certificate_Check c w B u E=some ao):CallVC Tryz.prog 58 [.agg #[Vl q c r,Vi w],.agg #[Vi B,Vl z u A,Vl G E H]] y fun Y s=>Y=Vi ao∧Ev [] y s:=by
 refine Cv hmx Tryz.func58 (by kernel_rfl) R (rs:=[.tmp 4]) R (by kernel_rfl) (args:=[.agg #[Vl q c r,Vi w],.agg #[Vi B,Vl z u A,Vl G E H]]) R ?_;have e:Ev [] y y:=Ev.refl _ _;have x:FR y.heap.size []:=FR.nil _;refine Cs (Yb _ R (fun d aC ai j ah aJ=>?_));replace j:aC.heap[d]? = some (.cells #[Vl q c r,Vi w] 50 (0,0)):=j;refine I1 ?_;have p:=Stp.box (ls:=[i]) ah ai;have m:=m.step p;have n:=n.step p;have o:=o.step p;have l:=l.box ah ai j;have x:=x.box e.size ai;have e:=e.ext ah;refine Yb _ R (fun b ap aj h ab aK=>?_);replace h:ap.heap[b]? = some (.cells #[Vi B,Vl z u A,Vl G E H] 54 (0,0)):=h;refine I1 ?_;have p:=Stp.box (ls:=[[d],i]) ab aj;have m:=m.step p;have n:=n.step p;have o:=o.step p;have j:=ab.box j nn;have l:=l.box ab aj h;have x:=x.box e.size aj;have e:=e.ext ab;refine Xu 1 [(4,Vi 0)] (Xk (Cq (Cs (Yl _ _ R (Ra 0 [Vl q c r,Vi w] tagg50 j nn R) (Yf (Vp b 0) (Vp b 0) R (Rf tfld54_0 _ _) (Yl _ _ R (Ra 0 [Vi B,Vl z u A] tagg52 h nn R) ?_))))));obtain ⟨O,L,a⟩:=Bs a;have J:=rollin_Valid_w q r c w B z A u _ ap (fl [[b],[d],i]) (MS.fold (P:=[]) l) (m.sub fl1) (n.sub fl1) L;refine Xc 53 #[] #[] _ _ R R R R J ?_;rintro Y aO ⟨rfl,S⟩;refine I1 ?_;have p:=Stp.ext (ls:=[[b],[d],i]) S;have m:=m.step p;have n:=n.step p;have o:=o.step p;have j:=S.box j nn;have h:=S.box h nn;have l:=l.ev S;have e:=e.ext S;refine Xu 1 [(5,Vi O)] (Xk (Cs (Xu 2 [(18,Vi O),(19,.bool (O != 0))] (Xk (Ci (O != 0) R a (fun a=>?_) (fun a=>?_))))))
 · refine Cs (Xu 2 [(20,Vi O),(4,Vi O)] (Xk (Cr (Kr (Rr (Rv [Vi O] ⟨R,T0⟩ ?_))))));obtain rfl:=Sj a;exact ⟨R,e⟩
 refine Ck (Kt (Cq (Cs (Yg d 0 0 (Vl q c r) R R (Rf tfld50_0 _ _) tcell36 j nn R (Xn (vs:=[Vl q c r]) (Vi ((c).length:Int)) R R R (Rl tsl36 _ _ _ _ _) (Xu 1 [(24,Vi 0)] (Xk (Cn [(2,Vp d 0),(3,Vp b 0),(23,Vi ((c).length:Int)),(24,Vi 0)] (fun C=>?_)))))))));refine Cb ?_;have aw:=l.pk [1,0,2] [[d],[b],i] R;have ak:=Pk (ls:=[[b],[d],i]) [1,0,2] [[d],[b],i] R;have m:=m.sub ak;have n:=n.sub ak;have o:=o.sub ak;have l:=aw;have x:=x.pk [1,0] [[d],[b]] R;obtain ⟨aq,af,ac⟩:=Bs a;obtain ⟨X,af⟩:=Lo af;refine Cl (Lr hmx (σ:=Nat×Int) (fun F=>match F with | (_,f)=>[(2,Vp d 0),(3,Vp b 0),(23,Vi ((c).length:Int)),(24,Vi f)]) (fun F s=>match F with | (al,f)=>loopN (certificate_Check_L12 c w u) al f=some aq∧Ev [] y s∧MS s [[d],[b],i]∧FR y.heap.size [[d],[b]]∧SlR (eIt4) s (fl [[d],[b],i]) q r c∧s.heap[d]? = some (.cells #[Vl q c r,Vi w] 50 (0,0))∧SlR eI s (fl [[d],[b],i]) z A u∧SlR eI s (fl [[d],[b],i]) G H E∧s.heap[b]? = some (.cells #[Vi B,Vl z u A,Vl G E H] 54 (0,0))) (fun F=>F.1) (X,0) ⟨R,R,R,R,T0⟩ ⟨af,e,l,x,m,j,n,o,h⟩ ?_);rintro ⟨X,f⟩ C aD ⟨K,e,l,x,m,j,n,o,h⟩;rcases X with _ | X
 · exact (Lz K).elim
 obtain ⟨aL,a,K⟩:=Bs K;refine Cs (Xu 1 [(25,Bd (f<((c).length:Int)))] (Xk (Cn [(2,Vp d 0),(3,Vp b 0),(23,Vi ((c).length:Int)),(24,Vi f),(25,Bd (f<((c).length:Int)))] (fun C=>?_))));refine Cq (Ci (decide (f<((c).length:Int))) R a (fun a=>?_) (fun a=>?_))
 · refine Ck (Kt (Cq (Cb (Cs (Xu 2 [(26,Vi f),(6,Vi f)] (Xk (Cs (Yg d 0 0 (Vl q c r) R R (Rf tfld50_0 _ _) tcell36 j nn R ?_))))))));refine Xn (vs:=[Vl q c r]) (Vi ((c).length:Int)) R R R (Rl tsl36 _ _ _ _ _) (Xu 1 [(30,Vi 0)] (Xk (Cb ?_)));obtain ⟨ar,ag,ad⟩:=Bs a;obtain ⟨Q,ag⟩:=Lo ag;refine Cl (Lr hmx (σ:=Nat×Int) (fun F=>match F with | (_,k)=>[(2,Vp d 0),(3,Vp b 0),(6,Vi f),(23,Vi ((c).length:Int)),(24,Vi f),(29,Vi ((c).length:Int)),(30,Vi k)]) (fun F s=>match F with | (al,k)=>loopN (certificate_Check_L14 c w u f) al k=some ar∧Ev [] y s∧MS s [[d],[b],i]∧FR y.heap.size [[d],[b]]∧SlR (eIt4) s (fl [[d],[b],i]) q r c∧s.heap[d]? = some (.cells #[Vl q c r,Vi w] 50 (0,0))∧SlR eI s (fl [[d],[b],i]) z A u∧SlR eI s (fl [[d],[b],i]) G H E∧s.heap[b]? = some (.cells #[Vi B,Vl z u A,Vl G E H] 54 (0,0))) (fun F=>F.1) (Q,0) ⟨R,R,R,R,R,R,R,T0⟩ ⟨ag,e,l,x,m,j,n,o,h⟩ ?_);rintro ⟨Q,k⟩ C aE ⟨I,e,l,x,m,j,n,o,h⟩;rcases Q with _ | Q
   · exact (Lz I).elim
   obtain ⟨aN,a,I⟩:=Bs I;refine Cs (Xu 1 [(31,Bd (k<((c).length:Int)))] (Xk (Cn [(2,Vp d 0),(3,Vp b 0),(6,Vi f),(23,Vi ((c).length:Int)),(24,Vi f),(29,Vi ((c).length:Int)),(30,Vi k),(31,Bd (k<((c).length:Int)))] (fun C=>?_))));refine Cq (Ci (decide (k<((c).length:Int))) R a (fun a=>?_) (fun a=>?_))
   · refine Ck (Kt (Cq (Cb (Cs (Xu 2 [(32,Vi k),(7,Vi k)] (Xk (Cs (Yl _ _ R (Ra 0 [Vl q c r,Vi w] tagg50 j nn R) (Xu 2 [(35,Vi f),(36,Vi k)] ?_)))))))));obtain ⟨g,L,a⟩:=Bs a;have J:=job_Relation_w q r c w f k _ aE (fl [[d],[b],i]) (MS.fold (P:=[]) l) (m.sub fl1) L;refine Xc 91 #[] #[] _ _ R R R R J ?_;rintro Y Z ⟨rfl,U⟩;refine I1 ?_;have p:=Stp.ext (ls:=[[d],[b],i]) U;have j:=U.box j nn;have m:=m.step p;have h:=U.box h nn;have n:=n.step p;have o:=o.step p;have l:=l.ev U;have e:=e.ext U;refine Xu 5 [(33,.tuple #[Vi g.1,Vi g.2]),(38,Vi g.1),(39,Vi g.2),(8,Vi g.1),(9,Vi g.2)] (Xk (Cq (Cs (Xu 2 [(40,Vi g.2),(41,.bool (g.2 != 0))] (Xk (Cn [(2,Vp d 0),(3,Vp b 0),(6,Vi f),(7,Vi k),(8,Vi g.1),(9,Vi g.2),(23,Vi ((c).length:Int)),(24,Vi f),(29,Vi ((c).length:Int)),(30,Vi k),(41,.bool (g.2 != 0))] (fun C=>?_)))))));refine Ci (g.2 != 0) R a (fun a=>?_) (fun a=>?_)
     · refine Cs (Xu 2 [(42,Vi g.2),(4,Vi g.2)] (Xk (Cr (Kr (Kb (Kr ?_))))));obtain rfl:=Sj a;have D:=Sj I;subst D;have a:=ad;refine Kr (Kb (Kb (Kr ?_)));obtain rfl:=Sj a;have D:=Sj K;subst D;have a:=ac;refine Kr (Kb (Kr (Rr (Rv [Vi g.2] ⟨R,T0⟩ ?_))));obtain rfl:=Sj a;exact ⟨R,e⟩
     refine Ck (Kt (Cq (Cd [] [(0,false),(1,false),(2,false),(3,false),(4,false),(5,false),(6,false),(7,false),(8,false),(9,false),(10,false),(11,false),(12,false),(13,false),(14,false),(15,false),(16,false),(17,false),(18,false),(19,false)] _ (by kernel_rfl) R ?_)));have p:=Stp.ext (ls:=[[d],[b],i]) (Ev.drew Z);have j:=(Ev.drew Z).box j nn;have m:=m.step p;have h:=(Ev.drew Z).box h nn;have n:=n.step p;have o:=o.step p;have l:=l.ev (Ev.drew Z);have e:=e.ext (Ev.drew Z);refine Xu 3 [(43,Vi g.1),(44,Bd (g.1>0)),(45,Bd (g.1>0))] (Xw 45 (decide (g.1>0)) R a (fun a=>?_) (fun a=>?_))
     · refine Yf (Vp b 0) (Vp b 0) R (Rf tfld54_0 _ _) (Yg b 0 1 (Vl z u A) R R (Rf tfld52_1 _ _) tcell22 h nn R (Xu 1 [(49,Vi f)] ?_));obtain ⟨N,az,a⟩:=Bs a;obtain ⟨aF,aH,ax,au,ae⟩:=Ri (Mo:=[]) tsl22 n az;obtain rfl:=ae;refine Yi _ _ _ R ax (Yl _ (Vi N) R (Rc tcell3 au (fun _ a=>by cases a)) ?_);refine Xu 3 [(52,Vi g.1),(53,Vi (i64.wrap (N+g.1))),(54,Vi (i64.wrap ((i64.wrap (N+g.1))-1)))] (Yf (Vp b 0) (Vp b 0) R (Rf tfld54_0 _ _) (Yg b 0 1 (Vl z u A) R R (Rf tfld52_1 _ _) tcell22 h nn R (Xu 1 [(58,Vi k)] ?_)));obtain ⟨aa,aA,a⟩:=Bs a;obtain ⟨aG,aI,ay,av,ae⟩:=Ri (Mo:=[]) tsl22 n aA;obtain rfl:=ae;refine Yi _ _ _ R ay (Yl _ (Vi aa) R (Rc tcell3 av (fun _ a=>by cases a)) ?_);refine Xu 2 [(61,Bd ((i64.wrap ((i64.wrap (N+g.1))-1))>aa)),(62,Bd ((i64.wrap ((i64.wrap (N+g.1))-1))>aa))] (Xk (Cn [(2,Vp d 0),(3,Vp b 0),(6,Vi f),(23,Vi ((c).length:Int)),(24,Vi f),(29,Vi ((c).length:Int)),(30,Vi k),(62,Bd ((i64.wrap ((i64.wrap (N+g.1))-1))>aa))] (fun C=>?_)));refine Ci (decide ((i64.wrap ((i64.wrap (N+g.1))-1))>aa)) R a (fun a=>?_) (fun a=>?_)
       · refine Cs (Xu 1 [(4,Vi 12)] (Xk (Cr (Kb (Kr ?_)))));obtain rfl:=Sj a;have D:=Sj I;subst D;have a:=ad;refine Kr (Kb (Kb (Kr ?_)));obtain rfl:=Sj a;have D:=Sj K;subst D;have a:=ac;refine Kr (Kb (Kr (Rr (Rv [Vi 12] ⟨R,T0⟩ ?_))));obtain rfl:=Sj a;exact ⟨R,e⟩
       refine Ck (Kl (Kt (Cp (Xu 2 [(63,Vi (i64.wrap (k+1))),(30,Vi (i64.wrap (k+1)))] (Xe R ?_)))));obtain rfl:=Sj a;exact Kt ⟨(Q,i64.wrap (k+1)),⟨R,R,R,R,R,R,R,T0⟩,⟨I,e,l,x,m,j,n,o,h⟩,Ns _⟩
     refine Xu 17 [(46,U0),(47,U0),(48,U0),(49,U0),(50,U0),(51,U0),(52,U0),(53,U0),(54,U0),(55,U0),(56,U0),(57,U0),(58,U0),(59,U0),(60,U0),(61,U0),(62,.bool false)] (Xk (Cn [(2,Vp d 0),(3,Vp b 0),(6,Vi f),(23,Vi ((c).length:Int)),(24,Vi f),(29,Vi ((c).length:Int)),(30,Vi k),(62,.bool false)] (fun C=>?_)));refine c_false R (Ck (Kl (Kt (Cp (Xu 2 [(63,Vi (i64.wrap (k+1))),(30,Vi (i64.wrap (k+1)))] (Xe R ?_))))));obtain rfl:=Sj a;exact Kt ⟨(Q,i64.wrap (k+1)),⟨R,R,R,R,R,R,R,T0⟩,⟨I,e,l,x,m,j,n,o,h⟩,Ns _⟩
   refine Ce (Ke ?_);obtain rfl:=Sj a;have D:=Sj I;subst D;have a:=ad;refine Ke (Ki (Kl (Kt (Cn [(2,Vp d 0),(3,Vp b 0),(23,Vi ((c).length:Int)),(24,Vi f)] (fun C=>?_)))));refine Cp (Xu 2 [(64,Vi (i64.wrap (f+1))),(24,Vi (i64.wrap (f+1)))] (Xe R ?_));obtain rfl:=Sj a;exact Kt ⟨(X,i64.wrap (f+1)),⟨R,R,R,R,T0⟩,⟨K,e,l,x,m,j,n,o,h⟩,Ns _⟩
 refine Ce (Ke ?_);obtain rfl:=Sj a;have D:=Sj K;subst D;have a:=ac;refine Ke (Ki (Kt (Cn [(2,Vp d 0),(3,Vp b 0)] (fun C=>?_))));refine Cs (Yl _ _ R (Ra 0 [Vl q c r,Vi w] tagg50 j nn R) (Yg b 0 2 (Vl G E H) R R (Rf tfld54_1 _ _) tcell22 h nn R ?_));obtain ⟨v,L,a⟩:=Bs a;have J:=leastcode_Bound_w q r c w G H E _ aD (fl [[d],[b],i]) (MS.fold (P:=[]) l) (m.sub fl1) (o.sub fl1) L;refine Xc 92 #[] #[] _ _ R R R R J ?_;rintro Y aB ⟨rfl,am⟩;refine I1 ?_;have h:=am.box h nn;have e:=e.ext am;refine Xu 5 [(65,.tuple #[Vi v.1,Vi v.2]),(70,Vi v.1),(71,Vi v.2),(10,Vi v.1),(11,Vi v.2)] (Xk (Cq (Cs (Xu 2 [(72,Vi v.2),(73,.bool (v.2 != 0))] (Xk (Ci (v.2 != 0) R a (fun a=>?_) (fun a=>?_)))))))
 · refine Cs (Xu 2 [(74,Vi v.2),(4,Vi v.2)] (Xk (Cn [(4,Vi v.2)] (fun C=>?_))));refine Cr (Kr (Rr (Rv [Vi v.2] ⟨R,T0⟩ ?_)));obtain rfl:=Sj a;exact ⟨R,e⟩
 refine Ck (Kt (Cq (Cs (Xu 1 [(76,Vi v.1)] ?_))));obtain ⟨t,L,a⟩:=Bs a;have J:=code_Steps_w v.1 _ aB L;refine Xc 81 #[] #[] _ _ R R R R J ?_;rintro Y aQ ⟨rfl,an⟩;refine I1 ?_;have h:=an.box h nn;have e:=e.ext an;refine Xu 5 [(75,.tuple #[Vi t.1,Vi t.2]),(78,Vi t.1),(79,Vi t.2),(12,Vi t.1),(13,Vi t.2)] (Xk (Cn [(3,Vp b 0),(12,Vi t.1),(13,Vi t.2)] (fun C=>?_)));refine Cs (Xu 3 [(80,Vi t.2),(81,.bool (t.2 != 0)),(82,.bool (t.2 != 0))] (Xw 82 (t.2 != 0) R a (fun a=>?_) (fun a=>?_)))
 · refine Xu 6 [(83,U0),(84,U0),(85,U0),(86,U0),(87,U0),(88,.bool true)] (Xk (c_true R (Cs (Xu 1 [(4,Vi 17)] (Xk (Cr (Kr (Rr (Rv [Vi 17] ⟨R,T0⟩ ?_)))))))));obtain rfl:=Sj a;exact ⟨R,e⟩
 refine Xu 1 [(83,Vi t.1)] (Yf (Vp b 0) (Vp b 0) R (Rf tfld54_0 _ _) (Yg b 0 0 (Vi B) R R (Rf tfld52_0 _ _) tcell3 h nn R (Xu 2 [(87,.bool (t.1 != B)),(88,.bool (t.1 != B))] (Xk (Ci (t.1 != B) R a (fun a=>?_) (fun a=>?_))))))
 · refine Cs (Xu 1 [(4,Vi 17)] (Xk (Cr (Kr (Rr (Rv [Vi 17] ⟨R,T0⟩ ?_))))));obtain rfl:=Sj a;exact ⟨R,e⟩
 refine Ck (Kt (Cs (Xu 1 [(4,Vi 0)] (Xk (Cr (Rr (Rv [Vi 0] ⟨R,T0⟩ ?_)))))));obtain rfl:=Sj a;exact ⟨R,e⟩
end Go.Proofs.YtlejnkhaphlooaaGreat
