
/- Walks, printed by program: each function returns what the partial function of the same name returns. Conditions: those of each theorem. -/
import Derived.Test.YtlejnkhaphlooaaGreatGT
set_option linter.unusedVariables false
set_option linter.unusedSimpArgs false
set_option maxRecDepth 4000
namespace Go.Proofs.YtlejnkhaphlooaaGreat
open Go Go.V Go.Proofs Go.IntKind
def r16_valid_L11 (b:List Int) (c:Int):Option (Step Int (Unit⊕Unit)):=
match c with
| a=>
(if (decide (a<((b).length:Int)))=true then
((idx b a).bind fun d=>
(if (decide (d<1))=true then
some (.done (.inl ()))
else
((idx b a).bind fun e=>
(if (decide (e>38400))=true then
some (.done (.inl ()))
else
some (.next (i64.wrap (a+1)))))))
else
some (.done (.inr ())))
def r16_valid_L5 (b:List Int) (c:Int):Option (Step Int (Unit⊕Unit)):=
match c with
| a=>
(if (decide (a<((b).length:Int)))=true then
((idx b a).bind fun d=>
(if (decide (d<0))=true then
some (.done (.inl ()))
else
((idx b a).bind fun e=>
(if (decide (e>38400))=true then
some (.done (.inl ()))
else
some (.next (i64.wrap (a+1)))))))
else
some (.done (.inr ())))
def r16_valid (b:List Int) (c:List Int):Option Int:=
(if (decide (((b).length:Int)>32))=true then
some 3
else
(if (decide (((c).length:Int)>32))=true then
some 3
else
((loop (r16_valid_L5 b) 0).bind fun a=>match a with
| (.inl _)=>some 2
| (.inr _)=>((loop (r16_valid_L11 c) 0).bind fun a=>match a with
| (.inl _)=>some 2
| (.inr _)=>some 0))))
theorem r16_valid_w (h i c d e b I k p)(v:MS k [p])(w:SlR eI k (fl [p]) h i c)(q:SlR eI k (fl [p]) d e b)(a:r16_valid c b=some I):CallVC Tryz.prog 100 [Vl h c i,Vl d b e] k fun ad n=>ad=Vi I∧Ev [] k n:=by
 refine Cv hmx Tryz.func100 (by kernel_rfl) R (rs:=[.tmp 4]) R (by kernel_rfl) (args:=[Vl h c i,Vl d b e]) R ?_;have j:Ev [] k k:=Ev.refl _ _;have u:FR k.heap.size []:=FR.nil _;refine Cs (Xu 1 [(4,Vi 0)] (Xk (Cq (Cs (Xu 1 [(7,Vl h c i)] (Xn (vs:=[Vl h c i]) (Vi ((c).length:Int)) R R R (Rl tsl22 _ _ _ _ _) (Xu 2 [(9,Bd (((c).length:Int)>32)),(10,Bd (((c).length:Int)>32))] (Xw 10 (decide (((c).length:Int)>32)) R a (fun a=>?_) (fun a=>?_)))))))))
 · refine Xu 4 [(11,U0),(12,U0),(13,U0),(14,.bool true)] (Xk (c_true R (Cs (Xu 1 [(4,Vi 3)] (Xk (Cr (Kr (Rr (Rv [Vi 3] ⟨R,T0⟩ ?_)))))))));obtain rfl:=Sj a;exact ⟨R,j⟩
 refine Xu 1 [(11,Vl d b e)] (Xn (vs:=[Vl d b e]) (Vi ((b).length:Int)) R R R (Rl tsl22 _ _ _ _ _) (Xu 2 [(13,Bd (((b).length:Int)>32)),(14,Bd (((b).length:Int)>32))] (Xk (Ci (decide (((b).length:Int)>32)) R a (fun a=>?_) (fun a=>?_)))))
 · refine Cs (Xu 1 [(4,Vi 3)] (Xk (Cr (Kr (Rr (Rv [Vi 3] ⟨R,T0⟩ ?_))))));obtain rfl:=Sj a;exact ⟨R,j⟩
 refine Ck (Kt (Cq (Cs (Xu 1 [(5,Vi 0)] (Xk (Cb ?_))))));obtain ⟨K,G,E⟩:=Bs a;obtain ⟨y,G⟩:=Lo G;refine Cl (Lr hmx (σ:=Nat×Int) (fun m=>match m with | (_,f)=>[(0,Vl h c i),(1,Vl d b e),(5,Vi f)]) (fun m n=>match m with | (H,f)=>loopN (r16_valid_L5 c) H f=some K∧Ev [] k n∧MS n [p]∧FR k.heap.size []∧SlR eI n (fl [p]) h i c∧SlR eI n (fl [p]) d e b) (fun m=>m.1) (y,0) ⟨R,R,R,T0⟩ ⟨G,j,v,u,w,q⟩ ?_);rintro ⟨y,f⟩ o ap ⟨t,j,v,u,w,q⟩;rcases y with _ | y
 · exact (Lz t).elim
 obtain ⟨an,a,t⟩:=Bs t;refine Cq (Cs (Xu 2 [(15,Vi f),(16,Vl h c i)] (Xn (vs:=[Vl h c i]) (Vi ((c).length:Int)) R R R (Rl tsl22 _ _ _ _ _) (Xu 1 [(18,Bd (f<((c).length:Int)))] (Xk (Cn [(0,Vl h c i),(1,Vl d b e),(5,Vi f),(18,Bd (f<((c).length:Int)))] (fun o=>?_)))))));refine Ci (decide (f<((c).length:Int))) R a (fun a=>?_) (fun a=>?_)
 · refine Ck (Kt (Cq (Cb (Cs (Xu 2 [(21,Vl h c i),(22,Vi f)] ?_)))));obtain ⟨C,ab,a⟩:=Bs a;obtain ⟨ag,ak,X,O,r⟩:=Ri (Mo:=[]) tsl22 w ab;obtain rfl:=r;refine Yi _ _ _ R X (Yl _ (Vi C) R (Rc tcell3 O (fun _ a=>by cases a)) ?_);refine Xu 2 [(25,Bd (C<0)),(26,Bd (C<0))] (Xw 26 (decide (C<0)) R a (fun a=>?_) (fun a=>?_))
   · refine Xu 6 [(27,U0),(28,U0),(29,U0),(30,U0),(31,U0),(32,.bool true)] (Xk (Cn [(0,Vl h c i),(1,Vl d b e),(5,Vi f),(32,.bool true)] (fun o=>?_)));refine c_true R (Cs (Xu 1 [(4,Vi 2)] (Xk (Cr (Kb (Kr ?_))))));obtain rfl:=Sj a;have l:=Sj t;subst l;have a:=E;refine Kr (Kb (Kr (Rr (Rv [Vi 2] ⟨R,T0⟩ ?_))));obtain rfl:=Sj a;exact ⟨R,j⟩
   refine Xu 2 [(27,Vl h c i),(28,Vi f)] ?_;obtain ⟨A,ac,a⟩:=Bs a;obtain ⟨ah,al,Y,Q,r⟩:=Ri (Mo:=[]) tsl22 w ac;obtain rfl:=r;refine Yi _ _ _ R Y (Yl _ (Vi A) R (Rc tcell3 Q (fun _ a=>by cases a)) ?_);refine Xu 2 [(31,Bd (A>38400)),(32,Bd (A>38400))] (Xk (Cn [(0,Vl h c i),(1,Vl d b e),(5,Vi f),(32,Bd (A>38400))] (fun o=>?_)));refine Ci (decide (A>38400)) R a (fun a=>?_) (fun a=>?_)
   · refine Cs (Xu 1 [(4,Vi 2)] (Xk (Cr (Kb (Kr ?_)))));obtain rfl:=Sj a;have l:=Sj t;subst l;have a:=E;refine Kr (Kb (Kr (Rr (Rv [Vi 2] ⟨R,T0⟩ ?_))));obtain rfl:=Sj a;exact ⟨R,j⟩
   refine Ck (Kl (Kt (Cp (Xu 3 [(19,Vi f),(20,Vi (i64.wrap (f+1))),(5,Vi (i64.wrap (f+1)))] (Xe R ?_)))));obtain rfl:=Sj a;exact Kt ⟨(y,i64.wrap (f+1)),⟨R,R,R,T0⟩,⟨t,j,v,u,w,q⟩,Ns _⟩
 refine Ce (Ke ?_);obtain rfl:=Sj a;have l:=Sj t;subst l;have a:=E;refine Ke (Ki (Kt (Cn [(1,Vl d b e)] (fun o=>?_))));refine Cq (Cs (Xu 1 [(6,Vi 0)] (Xk (Cb ?_))));obtain ⟨J,F,D⟩:=Bs a;obtain ⟨x,F⟩:=Lo F;refine Cl (Lr hmx (σ:=Nat×Int) (fun m=>match m with | (_,g)=>[(1,Vl d b e),(6,Vi g)]) (fun m n=>match m with | (H,g)=>loopN (r16_valid_L11 b) H g=some J∧Ev [] k n∧MS n [p]∧FR k.heap.size []∧SlR eI n (fl [p]) d e b) (fun m=>m.1) (x,0) ⟨R,R,T0⟩ ⟨F,j,v,u,q⟩ ?_);rintro ⟨x,g⟩ o ao ⟨s,j,v,u,q⟩;rcases x with _ | x
 · exact (Lz s).elim
 obtain ⟨am,a,s⟩:=Bs s;refine Cq (Cs (Xu 2 [(33,Vi g),(34,Vl d b e)] (Xn (vs:=[Vl d b e]) (Vi ((b).length:Int)) R R R (Rl tsl22 _ _ _ _ _) (Xu 1 [(36,Bd (g<((b).length:Int)))] (Xk (Cn [(1,Vl d b e),(6,Vi g),(36,Bd (g<((b).length:Int)))] (fun o=>?_)))))));refine Ci (decide (g<((b).length:Int))) R a (fun a=>?_) (fun a=>?_)
 · refine Ck (Kt (Cq (Cb (Cs (Xu 2 [(39,Vl d b e),(40,Vi g)] ?_)))));obtain ⟨B,Z,a⟩:=Bs a;obtain ⟨ae,ai,S,L,r⟩:=Ri (Mo:=[]) tsl22 q Z;obtain rfl:=r;refine Yi _ _ _ R S (Yl _ (Vi B) R (Rc tcell3 L (fun _ a=>by cases a)) ?_);refine Xu 2 [(43,Bd (B<1)),(44,Bd (B<1))] (Xw 44 (decide (B<1)) R a (fun a=>?_) (fun a=>?_))
   · refine Xu 6 [(45,U0),(46,U0),(47,U0),(48,U0),(49,U0),(50,.bool true)] (Xk (Cn [(1,Vl d b e),(6,Vi g),(50,.bool true)] (fun o=>?_)));refine c_true R (Cs (Xu 1 [(4,Vi 2)] (Xk (Cr (Kb (Kr ?_))))));obtain rfl:=Sj a;have l:=Sj s;subst l;have a:=D;refine Kr (Kb (Kr (Rr (Rv [Vi 2] ⟨R,T0⟩ ?_))));obtain rfl:=Sj a;exact ⟨R,j⟩
   refine Xu 2 [(45,Vl d b e),(46,Vi g)] ?_;obtain ⟨z,aa,a⟩:=Bs a;obtain ⟨af,aj,U,N,r⟩:=Ri (Mo:=[]) tsl22 q aa;obtain rfl:=r;refine Yi _ _ _ R U (Yl _ (Vi z) R (Rc tcell3 N (fun _ a=>by cases a)) ?_);refine Xu 2 [(49,Bd (z>38400)),(50,Bd (z>38400))] (Xk (Cn [(1,Vl d b e),(6,Vi g),(50,Bd (z>38400))] (fun o=>?_)));refine Ci (decide (z>38400)) R a (fun a=>?_) (fun a=>?_)
   · refine Cs (Xu 1 [(4,Vi 2)] (Xk (Cr (Kb (Kr ?_)))));obtain rfl:=Sj a;have l:=Sj s;subst l;have a:=D;refine Kr (Kb (Kr (Rr (Rv [Vi 2] ⟨R,T0⟩ ?_))));obtain rfl:=Sj a;exact ⟨R,j⟩
   refine Ck (Kl (Kt (Cp (Xu 3 [(37,Vi g),(38,Vi (i64.wrap (g+1))),(6,Vi (i64.wrap (g+1)))] (Xe R ?_)))));obtain rfl:=Sj a;exact Kt ⟨(x,i64.wrap (g+1)),⟨R,R,T0⟩,⟨s,j,v,u,q⟩,Ns _⟩
 refine Ce (Ke ?_);obtain rfl:=Sj a;have l:=Sj s;subst l;have a:=D;refine Ke (Ki (Kt (c_norm [] T0 (fun o=>?_))));refine Cs (Xu 1 [(4,Vi 0)] (Xk (Cr (Rr (Rv [Vi 0] ⟨R,T0⟩ ?_)))));obtain rfl:=Sj a;exact ⟨R,j⟩
def r16_Match_L46 (e:List Int) (c:List Bool) (d:Int) (f:(List Int)×Int):Option (Step ((List Int)×Int) (List Int)):=
match f with
| (b,a)=>
(if (decide (a<((e).length:Int)))=true then
((idx (c.set (Int.toNat d) true) a).bind fun g=>
(if g=true then
(if b.length+([a]).length≤4294967296 then
some (.next ((b++[a]),i64.wrap (a+1)))
else none)
else
some (.next (b,i64.wrap (a+1)))))
else
some (.done b))
def r16_Match_L34 (f:List Int) (c:List Int) (d:List Bool) (e:Int) (g:Int×Int):Option (Step (Int×Int) Int):=
match g with
| (b,a)=>
(if (decide (a<((c).length:Int)))=true then
((idx d a).bind fun h=>
(if (!h)=true then
((idx c a).bind fun i=>
((idx f e).bind fun j=>
(if (decide (i≥j))=true then
(if (decide (b<0))=true then
some (.next (a,i64.wrap (a+1)))
else
((idx c a).bind fun k=>
((idx c b).bind fun l=>
(if (decide (k<l))=true then
some (.next (a,i64.wrap (a+1)))
else
some (.next (b,i64.wrap (a+1)))))))
else
some (.next (b,i64.wrap (a+1))))))
else
some (.next (b,i64.wrap (a+1)))))
else
some (.done b))
def r16_Match_L19 (c:List Int) (d:List Bool) (e:Int×Int):Option (Step (Int×Int) Int):=
match e with
| (b,a)=>
(if (decide (a<((c).length:Int)))=true then
((idx c a).bind fun f=>
(if (decide (f>0))=true then
((idx d a).bind fun g=>
(if (!g)=true then
(if (decide (b<0))=true then
some (.next (a,i64.wrap (a+1)))
else
((idx c a).bind fun h=>
((idx c b).bind fun i=>
(if (decide (h>i))=true then
some (.next (a,i64.wrap (a+1)))
else
some (.next (b,i64.wrap (a+1)))))))
else
some (.next (b,i64.wrap (a+1)))))
else
some (.next (b,i64.wrap (a+1)))))
else
some (.done b))
def r16_Match_L17 (g:List Int) (i:List Int) (j:(List Int)×(List Bool)×(List Bool)):Option (Step ((List Int)×(List Bool)×(List Bool)) ((List Int)×(List Int)×Int)):=
match j with
| (f,e,d)=>
((loop (r16_Match_L19 g d) ((-1),0)).bind fun b=>match b with
| a=>(if (decide (a<0))=true then
some (.done (f,([]:List Int),0))
else
((idx d a).bind fun k=>
((loop (r16_Match_L34 g i e a) ((-1),0)).bind fun b=>match b with
| c=>(if (decide (c<0))=true then
((loop (r16_Match_L46 g d a) (([]:List Int),0)).bind fun b=>match b with
| h=>some (.done (([]:List Int),h,14)))
else
((idx e c).bind fun l=>
((idx f a).bind fun m=>
some (.next ((f.set (Int.toNat a) c),(e.set (Int.toNat c) true),(d.set (Int.toNat a) true))))))))))
def r16_Match_L9 (c:(List Int)×Int):Option (Step ((List Int)×Int) (List Int)):=
match c with
| (a,b)=>
(if (decide (b<((a).length:Int)))=true then
((idx a b).bind fun d=>
some (.next ((a.set (Int.toNat b) (-1)),i64.wrap (b+1))))
else
some (.done a))
def r16_Match (a:List Int) (b:List Int):Option ((List Int)×(List Int)×Int):=
((r16_valid a b).bind fun d=>
(if (d != 0)=true then
some ([],[],d)
else
(if (0:Int)≤((a).length:Int)∧(((a).length:Int):Int)≤4294967296 then
((loop r16_Match_L9 ((List.replicate (Int.toNat ((a).length:Int)) 0:List Int),0)).bind fun c=>match c with
| g=>(if (0:Int)≤((b).length:Int)∧(((b).length:Int):Int)≤4294967296 then
(if (0:Int)≤((a).length:Int)∧(((a).length:Int):Int)≤4294967296 then
((loop (r16_Match_L17 a b) (g,(List.replicate (Int.toNat ((b).length:Int)) false:List Bool),(List.replicate (Int.toNat ((a).length:Int)) false:List Bool))).bind fun c=>match c with
| (f,e,h)=>some (f,e,h))
else none)
else none))
else none)))
theorem r16_Match_w (r s h A B p aw U f)(g:MS U [f])(j:SlR eI U (fl [f]) r s h)(q:SlR eI U (fl [f]) A B p)(a:r16_Match h p=some aw):CallVC Tryz.prog 66 [Vl r h s,Vl A p B] U fun bm x=>∃ ao be ap bf,bm=.tuple #[Vl ao aw.1 be,Vl ap aw.2.1 bf,Vi aw.2.2]∧Ev [] U x∧MS x [Bk ao,Bk ap,f]∧FR U.heap.size [Bk ao,Bk ap]∧OwnS eI 3 x (fl [Bk ao,Bk ap,f]) ao be aw.1∧OwnS eI 3 x (fl [Bk ao,Bk ap,f]) ap bf aw.2.1:=by
 refine Cv hmx Tryz.func66 (by kernel_rfl) R (rs:=[.tmp 4,.tmp 5,.tmp 6]) R (by kernel_rfl) (args:=[Vl r h s,Vl A p B]) R ?_;have m:Ev [] U U:=Ev.refl _ _;have n:FR U.heap.size []:=FR.nil _;refine Cs (Xu 3 [(4,Z0),(5,Z0),(6,Vi 0)] (Xk (Cq (Cs (Xu 2 [(18,Vl r h s),(19,Vl A p B)] ?_)))));obtain ⟨am,cy,a⟩:=Bs a;have bU:=r16_valid_w r s h A B p _ U (fl [f]) (MS.fold (P:=[]) g) (j.sub fl1) (q.sub fl1) cy;refine Xc 100 #[] #[] _ _ R R R R bU ?_;rintro bm cN ⟨rfl,a4⟩;refine I1 ?_;have k:=Stp.ext (ls:=[f]) a4;have j:=j.step k;have q:=q.step k;have g:=g.ev a4;have m:=m.ext a4;refine Xu 1 [(7,Vi am)] (Xk (Cs (Xu 2 [(21,Vi am),(22,.bool (am != 0))] (Xk (Ci (am != 0) R a (fun a=>?_) (fun a=>?_))))))
 · refine Cs (Xu 4 [(23,Vi am),(4,Z0),(5,Z0),(6,Vi am)] (Xk (Cn [(4,Z0),(5,Z0),(6,Vi am)] (fun S=>?_))));refine Cr (Kr (Rr (Rv [Z0,Z0,Vi am] ⟨R,R,R,T0⟩ ?_)));obtain rfl:=Sj a;have aH:=g.pick [none,none,some 0] [Bk none,Bk none,f] R;have aG:=n.pick [none,none] [Bk none,Bk none] R;exact ⟨none,0,none,0,R,m,aH,aG,OwnS.nil _ _ _ _,OwnS.nil _ _ _ _⟩
 refine Ck (Kt (Cs (Xu 1 [(24,Vl r h s)] (Xn (vs:=[Vl r h s]) (Vi ((h).length:Int)) R R R (Rl tsl22 _ _ _ _ _) ?_))));have ad:=Gl a;have a:=Gr a;obtain ⟨b,z,cQ,cp,a5,a9,cx⟩:=own_make (e:=eI) tel22 cN ((h).length:Int) ad.1 ad.2 0 (fun _ _=>R);refine Xm _ cQ (xv:=Vi ((h).length:Int)) (yv:=Vi ((h).length:Int)) R R R R cp (I1 ?_);have k:=Stp.push (ls:=[f]) (l:=Bk b) a5 (fun _ a=>by cases a) (fun N O=>(a9 N O).1);have j:=j.step k;have q:=q.step k;have g:=g.push a5 a9;have n:=n.push (fun N O=>Nat.le_trans m.size (a9 N O).1);have m:=m.ext a5;have u:=cx (fl [Bk b,f]);refine Xu 1 [(8,Vl b ((List.replicate (Int.toNat ((h).length:Int)) 0:List Int)) z)] (Xk (Cn [(0,Vl r h s),(1,Vl A p B),(8,Vl b ((List.replicate (Int.toNat ((h).length:Int)) 0:List Int)) z)] (fun S=>?_)));refine Cq (Cs (Xu 1 [(9,Vi 0)] (Xk (Cb ?_))));obtain ⟨bv,a2,bA⟩:=Bs a;obtain ⟨aK,a2⟩:=Lo a2;refine Cl (Lr hmx (σ:=Nat×(List Int)×Int) (fun H=>match H with | (_,X,Y)=>[(0,Vl r h s),(1,Vl A p B),(8,Vl b X z),(9,Vi Y)]) (fun H x=>match H with | (ah,X,Y)=>loopN r16_Match_L9 ah (X,Y)=some bv∧Ev [] U x∧MS x [Bk b,f]∧FR U.heap.size [Bk b]∧SlR eI x (fl [Bk b,f]) r s h∧SlR eI x (fl [Bk b,f]) A B p∧OwnS eI 3 x (fl [Bk b,f]) b z X) (fun H=>H.1) (aK,(List.replicate (Int.toNat ((h).length:Int)) 0:List Int),0) ⟨R,R,R,R,T0⟩ ⟨a2,m,g,n,j,q,u⟩ ?_);rintro ⟨aK,X,Y⟩ S cU ⟨aI,m,g,n,j,q,u⟩;rcases aK with _ | aK
 · exact (Lz aI).elim
 obtain ⟨dD,a,aI⟩:=Bs aI;refine Cq (Cs (Xu 2 [(27,Vi Y),(28,Vl b X z)] (Xn (vs:=[Vl b X z]) (Vi ((X).length:Int)) R R R (Rl tsl22 _ _ _ _ _) (Xu 1 [(30,Bd (Y<((X).length:Int)))] (Xk (Cn [(0,Vl r h s),(1,Vl A p B),(8,Vl b X z),(9,Vi Y),(30,Bd (Y<((X).length:Int)))] (fun S=>?_)))))));refine Ci (decide (Y<((X).length:Int))) R a (fun a=>?_) (fun a=>?_)
 · refine Ck (Kt (Cq (Cb (Cp (Xu 2 [(33,Vl b X z),(34,Vi Y)] ?_)))));obtain ⟨dF,bi,a⟩:=Bs a;obtain ⟨di,c4,bB,b6,dt,C⟩:=Oi (Mo:=[]) tsl22 u bi;obtain rfl:=C;refine Yi _ _ _ R b6 ?_;obtain ⟨cJ,b7,a3,bZ⟩:=own_storeE bB (y:=(-1)) 0 (Vi (-1)) tcell3 u (Mf 0 R) bi R R (fun _ _ _ C=>set_int C);refine Ys cJ _ _ R b7 (I1 ?_);have k:=Stp.ev' (ls:=[Bk b,f]) a3 (Mf 0 R);have j:=j.step k;have q:=q.step k;have g:=g.ev a3;have m:=m.then a3 (fun N O=>.inr (n.at 0 R N O));have u:=bZ;have an:(Vl b X z)=(Vl b ((X.set (Int.toNat Y) (-1))) z):=by simp only [Vl,List.length_set]
   try rw [an]
   refine Xe R (Kl (Kt (Cp (Xu 3 [(31,Vi Y),(32,Vi (i64.wrap (Y+1))),(9,Vi (i64.wrap (Y+1)))] (Xe R ?_)))));obtain rfl:=Sj a;exact Kt ⟨(aK,(X.set (Int.toNat Y) (-1)),i64.wrap (Y+1)),⟨R,R,R,R,T0⟩,⟨aI,m,g,n,j,q,u⟩,Ns _⟩
 refine Ce (Ke ?_);obtain rfl:=Sj a;have ac:=Sj aI;subst ac;have a:=bA;refine Ke (Ki (Kt (Cn [(0,Vl r h s),(1,Vl A p B),(8,Vl b X z)] (fun S=>?_))));refine Cs (Xu 1 [(36,Vl A p B)] (Xn (vs:=[Vl A p B]) (Vi ((p).length:Int)) R R R (Rl tsl22 _ _ _ _ _) ?_));have ad:=Gl a;have a:=Gr a;obtain ⟨i,Q,bn,b8,aQ,a6,cu⟩:=own_make (e:=eBool) tel111 cU ((p).length:Int) ad.1 ad.2 false (fun _ _=>R);refine Xm _ bn (xv:=Vi ((p).length:Int)) (yv:=Vi ((p).length:Int)) R R R R b8 (I1 ?_);have k:=Stp.push (ls:=[Bk b,f]) (l:=Bk i) aQ (fun _ a=>by cases a) (fun N O=>(a6 N O).1);have j:=j.step k;have q:=q.step k;have u:=u.step k aQ nn2;have g:=g.push aQ a6;have n:=n.push (fun N O=>Nat.le_trans m.size (a6 N O).1);have m:=m.ext aQ;have E:=cu (fl [Bk i,Bk b,f]);refine Xu 1 [(10,Vl i ((List.replicate (Int.toNat ((p).length:Int)) false:List Bool)) Q)] (Xk (Cs (Xu 1 [(39,Vl r h s)] (Xn (vs:=[Vl r h s]) (Vi ((h).length:Int)) R R R (Rl tsl22 _ _ _ _ _) ?_))));have ad:=Gl a;have a:=Gr a;obtain ⟨d,I,cK,b9,aB,a7,cv⟩:=own_make (e:=eBool) tel111 bn ((h).length:Int) ad.1 ad.2 false (fun _ _=>R);refine Xm _ cK (xv:=Vi ((h).length:Int)) (yv:=Vi ((h).length:Int)) R R R R b9 (I1 ?_);have k:=Stp.push (ls:=[Bk i,Bk b,f]) (l:=Bk d) aB (fun _ a=>by cases a) (fun N O=>(a7 N O).1);have j:=j.step k;have q:=q.step k;have u:=u.step k aB nn2;have E:=E.step k aB nn2;have g:=g.push aB a7;have n:=n.push (fun N O=>Nat.le_trans m.size (a7 N O).1);have m:=m.ext aB;have t:=cv (fl [Bk d,Bk i,Bk b,f]);refine Xu 1 [(11,Vl d ((List.replicate (Int.toNat ((h).length:Int)) false:List Bool)) I)] (Xk (Cb ?_));have bb:=g.pk [2,1,0,3] [Bk b,Bk i,Bk d,f] R;have aa:=Pk (ls:=[Bk d,Bk i,Bk b,f]) [2,1,0,3] [Bk b,Bk i,Bk d,f] R;have j:=j.sub aa;have q:=q.sub aa;have u:=u.sub aa;have E:=E.sub aa;have t:=t.sub aa;have g:=bb;have n:=n.pk [2,1,0] [Bk b,Bk i,Bk d] R;obtain ⟨br,aY,bh⟩:=Bs a;obtain ⟨aJ,aY⟩:=Lo aY;refine Cl (Lr hmx (σ:=Nat×(List Int)×(List Bool)×(List Bool)) (fun H=>match H with | (_,G,J,D)=>[(0,Vl r h s),(1,Vl A p B),(8,Vl b G z),(10,Vl i J Q),(11,Vl d D I)]) (fun H x=>match H with | (ah,G,J,D)=>loopN (r16_Match_L17 h p) ah (G,J,D)=some br∧Ev [] U x∧MS x [Bk b,Bk i,Bk d,f]∧FR U.heap.size [Bk b,Bk i,Bk d]∧SlR eI x (fl [Bk b,Bk i,Bk d,f]) r s h∧SlR eI x (fl [Bk b,Bk i,Bk d,f]) A B p∧OwnS eI 3 x (fl [Bk b,Bk i,Bk d,f]) b z G∧OwnS eBool 4 x (fl [Bk b,Bk i,Bk d,f]) i Q J∧OwnS eBool 4 x (fl [Bk b,Bk i,Bk d,f]) d I D) (fun H=>H.1) (aJ,X,(List.replicate (Int.toNat ((p).length:Int)) false:List Bool),(List.replicate (Int.toNat ((h).length:Int)) false:List Bool)) ⟨R,R,R,R,R,T0⟩ ⟨aY,m,g,n,j,q,u,E,t⟩ ?_);rintro ⟨aJ,G,J,D⟩ S dE ⟨ar,m,g,n,j,q,u,E,t⟩;rcases aJ with _ | aJ
 · exact (Lz ar).elim
 obtain ⟨dz,a,ar⟩:=Bs ar;refine Cb (Cs (Xu 1 [(12,Vi (-1))] (Xk (Cn [(0,Vl r h s),(1,Vl A p B),(8,Vl b G z),(10,Vl i J Q),(11,Vl d D I),(12,Vi (-1))] (fun S=>?_)))));refine Cq (Cs (Xu 1 [(13,Vi 0)] (Xk (Cb ?_))));obtain ⟨bs,aZ,bw⟩:=Bs a;obtain ⟨ai,aZ⟩:=Lo aZ;refine Cl (Lr hmx (σ:=Nat×Int×Int) (fun H=>match H with | (_,o,v)=>[(0,Vl r h s),(1,Vl A p B),(8,Vl b G z),(10,Vl i J Q),(11,Vl d D I),(12,Vi o),(13,Vi v)]) (fun H x=>match H with | (ah,o,v)=>loopN (r16_Match_L19 h D) ah (o,v)=some bs∧Ev [] U x∧MS x [Bk b,Bk i,Bk d,f]∧FR U.heap.size [Bk b,Bk i,Bk d]∧SlR eI x (fl [Bk b,Bk i,Bk d,f]) r s h∧SlR eI x (fl [Bk b,Bk i,Bk d,f]) A B p∧OwnS eI 3 x (fl [Bk b,Bk i,Bk d,f]) b z G∧OwnS eBool 4 x (fl [Bk b,Bk i,Bk d,f]) i Q J∧OwnS eBool 4 x (fl [Bk b,Bk i,Bk d,f]) d I D) (fun H=>H.1) (ai,(-1),0) ⟨R,R,R,R,R,R,R,T0⟩ ⟨aZ,m,g,n,j,q,u,E,t⟩ ?_);rintro ⟨ai,o,v⟩ S ak ⟨af,m,g,n,j,q,u,E,t⟩;rcases ai with _ | ai
 · exact (Lz af).elim
 obtain ⟨dA,a,af⟩:=Bs af;refine Cq (Cs (Xu 2 [(42,Vi v),(43,Vl r h s)] (Xn (vs:=[Vl r h s]) (Vi ((h).length:Int)) R R R (Rl tsl22 _ _ _ _ _) (Xu 1 [(45,Bd (v<((h).length:Int)))] (Xk (Cn [(0,Vl r h s),(1,Vl A p B),(8,Vl b G z),(10,Vl i J Q),(11,Vl d D I),(12,Vi o),(13,Vi v),(45,Bd (v<((h).length:Int)))] (fun S=>?_)))))));refine Ci (decide (v<((h).length:Int))) R a (fun a=>?_) (fun a=>?_)
 · refine Ck (Kt (Cq (Cb (Cq (Cd [] [(0,false),(1,false),(2,false),(3,false),(4,false),(5,false),(6,false),(7,false),(8,false),(9,false),(10,false),(11,false),(12,false),(13,false),(14,false),(15,false),(16,false),(17,false),(18,false),(19,false),(20,false),(21,false),(22,false),(23,false),(24,false),(25,false),(26,false)] _ (by kernel_rfl) R ?_)))));have k:=Stp.ext (ls:=[Bk b,Bk i,Bk d,f]) (Ev.drew ak);have j:=j.step k;have q:=q.step k;have u:=u.step k (Ev.drew ak) nn2;have E:=E.step k (Ev.drew ak) nn2;have t:=t.step k (Ev.drew ak) nn2;have g:=g.ev (Ev.drew ak);have m:=m.ext (Ev.drew ak);refine Xu 2 [(48,Vl r h s),(49,Vi v)] ?_;obtain ⟨aU,cz,a⟩:=Bs a;obtain ⟨cX,c5,ca,bG,C⟩:=Ri (Mo:=[]) tsl22 j cz;obtain rfl:=C;refine Yi _ _ _ R ca (Yl _ (Vi aU) R (Rc tcell3 bG (fun _ a=>by cases a)) ?_);refine Xu 2 [(52,Bd (aU>0)),(53,Bd (aU>0))] (Xw 53 (decide (aU>0)) R a (fun a=>?_) (fun a=>?_))
   · refine Xu 2 [(54,Vl d D I),(55,Vi v)] ?_;obtain ⟨aL,cA,a⟩:=Bs a;obtain ⟨dj,c6,dq,cb,bH,C⟩:=Oi (Mo:=[]) tsl111 t cA;obtain rfl:=C;refine Yi _ _ _ R cb (Yl _ (.bool aL) R (Rc tcell4 bH (fun _ a=>by cases a)) ?_);refine Xu 3 [(58,.bool (!aL)),(59,.bool (!aL)),(60,.bool (!aL))] (Xw 60 (!aL) R a (fun a=>?_) (fun a=>?_))
     · refine Xu 3 [(61,Vi o),(62,Bd (o<0)),(63,Bd (o<0))] (Xw 63 (decide (o<0)) R a (fun a=>?_) (fun a=>?_))
       · refine Xu 11 [(64,U0),(65,U0),(66,U0),(67,U0),(68,U0),(69,U0),(70,U0),(71,U0),(72,U0),(73,.bool true),(74,.bool true)] (Xk (Cn [(0,Vl r h s),(1,Vl A p B),(8,Vl b G z),(10,Vl i J Q),(11,Vl d D I),(12,Vi o),(13,Vi v),(74,.bool true)] (fun S=>?_)));refine c_true R (Cp (Xu 2 [(75,Vi v),(12,Vi v)] (Xe R (Kl (Kt (Cp (Xu 3 [(46,Vi v),(47,Vi (i64.wrap (v+1))),(13,Vi (i64.wrap (v+1)))] (Xe R ?_))))))));obtain rfl:=Sj a;exact Kt ⟨(ai,v,i64.wrap (v+1)),⟨R,R,R,R,R,R,R,T0⟩,⟨af,m,g,n,j,q,u,E,t⟩,Ns _⟩
       refine Xu 2 [(64,Vl r h s),(65,Vi v)] ?_;obtain ⟨ax,cB,a⟩:=Bs a;obtain ⟨cY,c7,cc,bI,C⟩:=Ri (Mo:=[]) tsl22 j cB;obtain rfl:=C;refine Yi _ _ _ R cc (Yl _ (Vi ax) R (Rc tcell3 bI (fun _ a=>by cases a)) ?_);refine Xu 2 [(68,Vl r h s),(69,Vi o)] ?_;obtain ⟨ay,cC,a⟩:=Bs a;obtain ⟨cZ,c8,cd,bJ,C⟩:=Ri (Mo:=[]) tsl22 j cC;obtain rfl:=C;refine Yi _ _ _ R cd (Yl _ (Vi ay) R (Rc tcell3 bJ (fun _ a=>by cases a)) ?_);refine Xu 3 [(72,Bd (ax>ay)),(73,Bd (ax>ay)),(74,Bd (ax>ay))] (Xk (Cn [(0,Vl r h s),(1,Vl A p B),(8,Vl b G z),(10,Vl i J Q),(11,Vl d D I),(12,Vi o),(13,Vi v),(74,Bd (ax>ay))] (fun S=>?_)));refine Ci (decide (ax>ay)) R a (fun a=>?_) (fun a=>?_)
       · refine Cp (Xu 2 [(75,Vi v),(12,Vi v)] (Xe R (Kl (Kt (Cp (Xu 3 [(46,Vi v),(47,Vi (i64.wrap (v+1))),(13,Vi (i64.wrap (v+1)))] (Xe R ?_)))))));obtain rfl:=Sj a;exact Kt ⟨(ai,v,i64.wrap (v+1)),⟨R,R,R,R,R,R,R,T0⟩,⟨af,m,g,n,j,q,u,E,t⟩,Ns _⟩
       refine Ck (Kl (Kt (Cp (Xu 3 [(46,Vi v),(47,Vi (i64.wrap (v+1))),(13,Vi (i64.wrap (v+1)))] (Xe R ?_)))));obtain rfl:=Sj a;exact Kt ⟨(ai,o,i64.wrap (v+1)),⟨R,R,R,R,R,R,R,T0⟩,⟨af,m,g,n,j,q,u,E,t⟩,Ns _⟩
     refine Xu 14 [(61,U0),(62,U0),(63,U0),(64,U0),(65,U0),(66,U0),(67,U0),(68,U0),(69,U0),(70,U0),(71,U0),(72,U0),(73,U0),(74,.bool false)] (Xk (Cn [(0,Vl r h s),(1,Vl A p B),(8,Vl b G z),(10,Vl i J Q),(11,Vl d D I),(12,Vi o),(13,Vi v),(74,.bool false)] (fun S=>?_)));refine c_false R (Ck (Kl (Kt (Cp (Xu 3 [(46,Vi v),(47,Vi (i64.wrap (v+1))),(13,Vi (i64.wrap (v+1)))] (Xe R ?_))))));obtain rfl:=Sj a;exact Kt ⟨(ai,o,i64.wrap (v+1)),⟨R,R,R,R,R,R,R,T0⟩,⟨af,m,g,n,j,q,u,E,t⟩,Ns _⟩
   refine Xu 21 [(54,U0),(55,U0),(56,U0),(57,U0),(58,U0),(59,.bool false),(60,.bool false),(61,U0),(62,U0),(63,U0),(64,U0),(65,U0),(66,U0),(67,U0),(68,U0),(69,U0),(70,U0),(71,U0),(72,U0),(73,U0),(74,.bool false)] (Xk (Cn [(0,Vl r h s),(1,Vl A p B),(8,Vl b G z),(10,Vl i J Q),(11,Vl d D I),(12,Vi o),(13,Vi v),(74,.bool false)] (fun S=>?_)));refine c_false R (Ck (Kl (Kt (Cp (Xu 3 [(46,Vi v),(47,Vi (i64.wrap (v+1))),(13,Vi (i64.wrap (v+1)))] (Xe R ?_))))));obtain rfl:=Sj a;exact Kt ⟨(ai,o,i64.wrap (v+1)),⟨R,R,R,R,R,R,R,T0⟩,⟨af,m,g,n,j,q,u,E,t⟩,Ns _⟩
 refine Ce (Ke ?_);obtain rfl:=Sj a;have ac:=Sj af;subst ac;have a:=bw;refine Ke (Ki (Kt (Cn [(0,Vl r h s),(1,Vl A p B),(8,Vl b G z),(10,Vl i J Q),(11,Vl d D I),(12,Vi o)] (fun S=>?_))));refine Cq (Cs (Xu 2 [(76,Vi o),(77,Bd (o<0))] (Xk (Ci (decide (o<0)) R a (fun a=>?_) (fun a=>?_)))))
 · refine Cs (Xu 4 [(78,Vl b G z),(4,Vl b G z),(5,Z0),(6,Vi 0)] (Xk (Cr (Kr (Kb ?_)))));obtain rfl:=Sj a;have ac:=Sj ar;subst ac;have k:=Stp.push (ls:=[Bk b,Bk i,Bk d,f]) (l:=Bk none) (Ev.refl [] ak) (fun _ a=>by cases a) (fun _ a=>by cases a);have u:=u.step k (Ev.refl [] _) nn2;have g:=g.push (l:=Bk none) (Ev.refl [] _) (fun _ a=>by cases a);have n:=n.push (l:=Bk none) (fun _ a=>by cases a);have b4:=OwnS.nil eI 3 ak (fl [Bk none,Bk b,Bk i,Bk d,f]);have a:=bh;refine Kr (Kb (Rr (Rv [Vl b G z,Vl none (([]:List Int)) 0,Vi 0] ⟨R,R,R,T0⟩ ?_)));obtain rfl:=Sj a;have aH:=g.pk [1,0,4] [Bk b,Bk none,f] R;have aa:=Pk (ls:=[Bk none,Bk b,Bk i,Bk d,f]) [1,0,4] [Bk b,Bk none,f] R;have aG:=n.pk [1,0] [Bk b,Bk none] R;exact ⟨b,z,none,0,R,m,aH,aG,u.sub aa,b4.sub aa⟩
 refine Ck (Kt (Cs (Xu 2 [(79,Vl d D I),(80,Vi o)] ?_)));obtain ⟨dG,bj,a⟩:=Bs a;obtain ⟨dk,c9,bC,ce,du,C⟩:=Oi (Mo:=[]) tsl111 t bj;obtain rfl:=C;refine Yi _ _ _ R ce ?_;obtain ⟨cL,cf,aC,b0⟩:=own_storeE bC (y:=true) 0 (.bool true) tcell4 t (Mf 2 R) bj R R (fun _ _ _ C=>set_bool C);refine Ys cL _ _ R cf (I1 ?_);have k:=Stp.ev' (ls:=[Bk b,Bk i,Bk d,f]) aC (Mf 2 R);have j:=j.step k;have q:=q.step k;have u:=u.step k aC (g.apart 0 2 R R R);have E:=E.step k aC (g.apart 1 2 R R R);have g:=g.ev aC;have m:=m.then aC (fun N O=>.inr (n.at 2 R N O));have t:=b0;have an:(Vl d D I)=(Vl d ((D.set (Int.toNat o) true)) I):=by simp only [Vl,List.length_set]
 try rw [an]
 refine Xk (Cs (Xu 1 [(14,Vi (-1))] (Xk (Cq (Cs (Xu 1 [(15,Vi 0)] (Xk (Cb ?_))))))));obtain ⟨bt,a0,bx⟩:=Bs a;obtain ⟨aj,a0⟩:=Lo a0;refine Cl (Lr hmx (σ:=Nat×Int×Int) (fun H=>match H with | (_,F,w)=>[(0,Vl r h s),(1,Vl A p B),(8,Vl b G z),(10,Vl i J Q),(11,Vl d ((D.set (Int.toNat o) true)) I),(12,Vi o),(14,Vi F),(15,Vi w)]) (fun H x=>match H with | (ah,F,w)=>loopN (r16_Match_L34 h p J o) ah (F,w)=some bt∧Ev [] U x∧MS x [Bk b,Bk i,Bk d,f]∧FR U.heap.size [Bk b,Bk i,Bk d]∧SlR eI x (fl [Bk b,Bk i,Bk d,f]) r s h∧SlR eI x (fl [Bk b,Bk i,Bk d,f]) A B p∧OwnS eI 3 x (fl [Bk b,Bk i,Bk d,f]) b z G∧OwnS eBool 4 x (fl [Bk b,Bk i,Bk d,f]) i Q J∧OwnS eBool 4 x (fl [Bk b,Bk i,Bk d,f]) d I (D.set (Int.toNat o) true)) (fun H=>H.1) (aj,(-1),0) ⟨R,R,R,R,R,R,R,R,T0⟩ ⟨a0,m,g,n,j,q,u,E,t⟩ ?_);rintro ⟨aj,F,w⟩ S al ⟨ag,m,g,n,j,q,u,E,t⟩;rcases aj with _ | aj
 · exact (Lz ag).elim
 obtain ⟨dB,a,ag⟩:=Bs ag;refine Cq (Cs (Xu 2 [(82,Vi w),(83,Vl A p B)] (Xn (vs:=[Vl A p B]) (Vi ((p).length:Int)) R R R (Rl tsl22 _ _ _ _ _) (Xu 1 [(85,Bd (w<((p).length:Int)))] (Xk (Cn [(0,Vl r h s),(1,Vl A p B),(8,Vl b G z),(10,Vl i J Q),(11,Vl d ((D.set (Int.toNat o) true)) I),(12,Vi o),(14,Vi F),(15,Vi w),(85,Bd (w<((p).length:Int)))] (fun S=>?_)))))));refine Ci (decide (w<((p).length:Int))) R a (fun a=>?_) (fun a=>?_)
 · refine Ck (Kt (Cq (Cb (Cq (Cd [] [(0,false),(1,false),(2,false),(3,false),(4,false),(5,false),(6,false),(7,false),(8,false),(9,false),(10,false),(11,false),(12,false),(13,false),(14,false),(15,false),(16,false),(17,false),(18,false),(19,false),(20,false),(21,false),(22,false),(23,false),(24,false),(25,false),(26,false),(27,false),(28,false),(29,false),(30,false)] _ (by kernel_rfl) R ?_)))));have k:=Stp.ext (ls:=[Bk b,Bk i,Bk d,f]) (Ev.drew al);have j:=j.step k;have q:=q.step k;have u:=u.step k (Ev.drew al) nn2;have E:=E.step k (Ev.drew al) nn2;have t:=t.step k (Ev.drew al) nn2;have g:=g.ev (Ev.drew al);have m:=m.ext (Ev.drew al);refine Xu 2 [(88,Vl i J Q),(89,Vi w)] ?_;obtain ⟨aX,cD,a⟩:=Bs a;obtain ⟨dl,da,dr,cg,bK,C⟩:=Oi (Mo:=[]) tsl111 E cD;obtain rfl:=C;refine Yi _ _ _ R cg (Yl _ (.bool aX) R (Rc tcell4 bK (fun _ a=>by cases a)) ?_);refine Xu 2 [(92,.bool (!aX)),(93,.bool (!aX))] (Xw 93 (!aX) R a (fun a=>?_) (fun a=>?_))
   · refine Xu 2 [(94,Vl A p B),(95,Vi w)] ?_;obtain ⟨aN,cE,a⟩:=Bs a;obtain ⟨c0,db,ch,bL,C⟩:=Ri (Mo:=[]) tsl22 q cE;obtain rfl:=C;refine Yi _ _ _ R ch (Yl _ (Vi aN) R (Rc tcell3 bL (fun _ a=>by cases a)) ?_);refine Xu 2 [(98,Vl r h s),(99,Vi o)] ?_;obtain ⟨aO,cF,a⟩:=Bs a;obtain ⟨c1,dc,ci,bN,C⟩:=Ri (Mo:=[]) tsl22 j cF;obtain rfl:=C;refine Yi _ _ _ R ci (Yl _ (Vi aO) R (Rc tcell3 bN (fun _ a=>by cases a)) ?_);refine Xu 3 [(102,Bd (aN≥aO)),(103,Bd (aN≥aO)),(104,Bd (aN≥aO))] (Xw 104 (decide (aN≥aO)) R a (fun a=>?_) (fun a=>?_))
     · refine Xu 3 [(105,Vi F),(106,Bd (F<0)),(107,Bd (F<0))] (Xw 107 (decide (F<0)) R a (fun a=>?_) (fun a=>?_))
       · refine Xu 11 [(108,U0),(109,U0),(110,U0),(111,U0),(112,U0),(113,U0),(114,U0),(115,U0),(116,U0),(117,.bool true),(118,.bool true)] (Xk (Cn [(0,Vl r h s),(1,Vl A p B),(8,Vl b G z),(10,Vl i J Q),(11,Vl d ((D.set (Int.toNat o) true)) I),(12,Vi o),(14,Vi F),(15,Vi w),(118,.bool true)] (fun S=>?_)));refine c_true R (Cp (Xu 2 [(119,Vi w),(14,Vi w)] (Xe R (Kl (Kt (Cp (Xu 3 [(86,Vi w),(87,Vi (i64.wrap (w+1))),(15,Vi (i64.wrap (w+1)))] (Xe R ?_))))))));obtain rfl:=Sj a;exact Kt ⟨(aj,w,i64.wrap (w+1)),⟨R,R,R,R,R,R,R,R,T0⟩,⟨ag,m,g,n,j,q,u,E,t⟩,Ns _⟩
       refine Xu 2 [(108,Vl A p B),(109,Vi w)] ?_;obtain ⟨az,cG,a⟩:=Bs a;obtain ⟨c2,dd,cj,bO,C⟩:=Ri (Mo:=[]) tsl22 q cG;obtain rfl:=C;refine Yi _ _ _ R cj (Yl _ (Vi az) R (Rc tcell3 bO (fun _ a=>by cases a)) ?_);refine Xu 2 [(112,Vl A p B),(113,Vi F)] ?_;obtain ⟨aA,cH,a⟩:=Bs a;obtain ⟨c3,de,ck,bQ,C⟩:=Ri (Mo:=[]) tsl22 q cH;obtain rfl:=C;refine Yi _ _ _ R ck (Yl _ (Vi aA) R (Rc tcell3 bQ (fun _ a=>by cases a)) ?_);refine Xu 3 [(116,Bd (az<aA)),(117,Bd (az<aA)),(118,Bd (az<aA))] (Xk (Cn [(0,Vl r h s),(1,Vl A p B),(8,Vl b G z),(10,Vl i J Q),(11,Vl d ((D.set (Int.toNat o) true)) I),(12,Vi o),(14,Vi F),(15,Vi w),(118,Bd (az<aA))] (fun S=>?_)));refine Ci (decide (az<aA)) R a (fun a=>?_) (fun a=>?_)
       · refine Cp (Xu 2 [(119,Vi w),(14,Vi w)] (Xe R (Kl (Kt (Cp (Xu 3 [(86,Vi w),(87,Vi (i64.wrap (w+1))),(15,Vi (i64.wrap (w+1)))] (Xe R ?_)))))));obtain rfl:=Sj a;exact Kt ⟨(aj,w,i64.wrap (w+1)),⟨R,R,R,R,R,R,R,R,T0⟩,⟨ag,m,g,n,j,q,u,E,t⟩,Ns _⟩
       refine Ck (Kl (Kt (Cp (Xu 3 [(86,Vi w),(87,Vi (i64.wrap (w+1))),(15,Vi (i64.wrap (w+1)))] (Xe R ?_)))));obtain rfl:=Sj a;exact Kt ⟨(aj,F,i64.wrap (w+1)),⟨R,R,R,R,R,R,R,R,T0⟩,⟨ag,m,g,n,j,q,u,E,t⟩,Ns _⟩
     refine Xu 14 [(105,U0),(106,U0),(107,U0),(108,U0),(109,U0),(110,U0),(111,U0),(112,U0),(113,U0),(114,U0),(115,U0),(116,U0),(117,U0),(118,.bool false)] (Xk (Cn [(0,Vl r h s),(1,Vl A p B),(8,Vl b G z),(10,Vl i J Q),(11,Vl d ((D.set (Int.toNat o) true)) I),(12,Vi o),(14,Vi F),(15,Vi w),(118,.bool false)] (fun S=>?_)));refine c_false R (Ck (Kl (Kt (Cp (Xu 3 [(86,Vi w),(87,Vi (i64.wrap (w+1))),(15,Vi (i64.wrap (w+1)))] (Xe R ?_))))));obtain rfl:=Sj a;exact Kt ⟨(aj,F,i64.wrap (w+1)),⟨R,R,R,R,R,R,R,R,T0⟩,⟨ag,m,g,n,j,q,u,E,t⟩,Ns _⟩
   refine Xu 25 [(94,U0),(95,U0),(96,U0),(97,U0),(98,U0),(99,U0),(100,U0),(101,U0),(102,U0),(103,.bool false),(104,.bool false),(105,U0),(106,U0),(107,U0),(108,U0),(109,U0),(110,U0),(111,U0),(112,U0),(113,U0),(114,U0),(115,U0),(116,U0),(117,U0),(118,.bool false)] (Xk (Cn [(0,Vl r h s),(1,Vl A p B),(8,Vl b G z),(10,Vl i J Q),(11,Vl d ((D.set (Int.toNat o) true)) I),(12,Vi o),(14,Vi F),(15,Vi w),(118,.bool false)] (fun S=>?_)));refine c_false R (Ck (Kl (Kt (Cp (Xu 3 [(86,Vi w),(87,Vi (i64.wrap (w+1))),(15,Vi (i64.wrap (w+1)))] (Xe R ?_))))));obtain rfl:=Sj a;exact Kt ⟨(aj,F,i64.wrap (w+1)),⟨R,R,R,R,R,R,R,R,T0⟩,⟨ag,m,g,n,j,q,u,E,t⟩,Ns _⟩
 refine Ce (Ke ?_);obtain rfl:=Sj a;have ac:=Sj ag;subst ac;have a:=bx;refine Ke (Ki (Kt (Cn [(0,Vl r h s),(1,Vl A p B),(8,Vl b G z),(10,Vl i J Q),(11,Vl d ((D.set (Int.toNat o) true)) I),(12,Vi o),(14,Vi F)] (fun S=>?_))));refine Cq (Cs (Xu 2 [(120,Vi F),(121,Bd (F<0))] (Xk (Ci (decide (F<0)) R a (fun a=>?_) (fun a=>?_)))))
 · refine Cs (Xu 1 [(16,Z0)] (Xk (Cq (Cs (Xu 1 [(17,Vi 0)] (Xk (Cb ?_)))))));have k:=Stp.push (ls:=[Bk b,Bk i,Bk d,f]) (l:=Bk none) (Ev.refl [] al) (fun _ a=>by cases a) (fun _ a=>by cases a);have j:=j.step k;have t:=t.step k (Ev.refl [] _) nn2;have g:=g.push (l:=Bk none) (Ev.refl [] _) (fun _ a=>by cases a);have n:=n.push (l:=Bk none) (fun _ a=>by cases a);have ba:=OwnS.nil eI 3 al (fl [Bk none,Bk b,Bk i,Bk d,f]);have bb:=g.pk [3,0,4] [Bk d,Bk none,f] R;have aa:=Pk (ls:=[Bk none,Bk b,Bk i,Bk d,f]) [3,0,4] [Bk d,Bk none,f] R;have j:=j.sub aa;have t:=t.sub aa;have ba:=ba.sub aa;have g:=bb;have n:=n.pk [3,0] [Bk d,Bk none] R;obtain ⟨bu,a1,bz⟩:=Bs a;obtain ⟨av,a1⟩:=Lo a1;refine Cl (Lr hmx (σ:=Nat×(List Int)×Int×Option Addr×Nat) (fun H=>match H with | (_,Z,L,K,ab)=>[(0,Vl r h s),(11,Vl d ((D.set (Int.toNat o) true)) I),(16,Vl K Z ab),(17,Vi L)]) (fun H x=>match H with | (ah,Z,L,K,ab)=>loopN (r16_Match_L46 h D o) ah (Z,L)=some bu∧Ev [] U x∧MS x [Bk d,Bk K,f]∧FR U.heap.size [Bk d,Bk K]∧SlR eI x (fl [Bk d,Bk K,f]) r s h∧OwnS eBool 4 x (fl [Bk d,Bk K,f]) d I (D.set (Int.toNat o) true)∧OwnS eI 3 x (fl [Bk d,Bk K,f]) K ab Z) (fun H=>H.1) (av,([]:List Int),0,none,0) ⟨R,R,R,R,T0⟩ ⟨a1,m,g,n,j,t,ba⟩ ?_);rintro ⟨av,Z,L,K,ab⟩ S bp ⟨au,m,g,n,j,t,ae⟩;rcases av with _ | av
   · exact (Lz au).elim
   obtain ⟨dC,a,au⟩:=Bs au;refine Cq (Cs (Xu 2 [(122,Vi L),(123,Vl r h s)] (Xn (vs:=[Vl r h s]) (Vi ((h).length:Int)) R R R (Rl tsl22 _ _ _ _ _) (Xu 1 [(125,Bd (L<((h).length:Int)))] (Xk (Cn [(0,Vl r h s),(11,Vl d ((D.set (Int.toNat o) true)) I),(16,Vl K Z ab),(17,Vi L),(125,Bd (L<((h).length:Int)))] (fun S=>?_)))))));refine Ci (decide (L<((h).length:Int))) R a (fun a=>?_) (fun a=>?_)
   · refine Ck (Kt (Cq (Cb (Cs (Xu 2 [(128,Vl d ((D.set (Int.toNat o) true)) I),(129,Vi L)] ?_)))));obtain ⟨bq,cI,a⟩:=Bs a;obtain ⟨dm,df,ds,cl,bS,C⟩:=Oi (Mo:=[]) tsl111 t cI;obtain rfl:=C;refine Yi _ _ _ R cl (Yl _ (.bool bq) R (Rc tcell4 bS (fun _ a=>by cases a)) ?_);refine Xk (Ci bq R a (fun a=>?_) (fun a=>?_))
     · refine Cp (Xu 2 [(132,Vl K Z ab),(133,Vi L)] (Xb (vs:=[(0,Vi L)]) #[Vi L] 3 R R R (by kernel_rfl) (fun bd bo b5 bF aD dy=>?_)));refine I1 ?_;have bY:=g;have k:=Stp.ext (ls:=[Bk d,Bk K,f]) aD;have j:=j.step k;have t:=t.step k aD nn2;have ae:=ae.step k aD nn2;have g:=g.ev aD;have m:=m.ext aD;have ct:SlR eI bo (fl [Bk d,Bk K,f]) (Ad bd 0) 1 ([L]):=ro_of_box bY b5 bF R R (cells_at (cs:=[Vi L]) (CellsOf.cons (c:=[Vi L]) R CellsOf.nil));have ad:=Gl a;have a:=Gr a;obtain ⟨aq,bg,bc,cm,aS,a8,dx,cw⟩:=own_appendN tel22 22 ae (Mf 1 R) ct ad;refine x_builtin (vs:=[Vl K Z ab,Vl (Ad bd 0) ([L]) 1]) _ bc R R R R (run_value _ _ _ _ cm) (I1 ?_);have k:Stp (fl [Bk d,Bk K,f]) bo (fl [Bk d,Bk aq,f]) bc:=Stp.upd 1 aS R (fun N O=>(a8 N O).1);have j:=j.step k;have t:=t.step k aS (g.apart 0 1 R R R);replace g:MS bc [Bk d,Bk aq,f]:=g.upd 1 aS R a8;have bX:FR U.heap.size [Bk d,Bk aq]:=n.upd 1 R m.size (fun N O=>(a8 N O).1);have m:=m.then aS (fun N O=>.inr (n.at 1 R N O));have n:=bX;have ae:=cw (fl [Bk d,Bk aq,f]) k.new;refine Xu 1 [(16,Vl aq ((Z++[L])) bg)] (Xe R (Kl (Kt (Cp (Xu 3 [(126,Vi L),(127,Vi (i64.wrap (L+1))),(17,Vi (i64.wrap (L+1)))] (Xe R ?_))))));obtain rfl:=Sj a;exact Kt ⟨(av,(Z++[L]),i64.wrap (L+1),aq,bg),⟨R,R,R,R,T0⟩,⟨au,m,g,n,j,t,ae⟩,Ns _⟩
     refine Ck (Kl (Kt (Cp (Xu 3 [(126,Vi L),(127,Vi (i64.wrap (L+1))),(17,Vi (i64.wrap (L+1)))] (Xe R ?_)))));obtain rfl:=Sj a;exact Kt ⟨(av,Z,i64.wrap (L+1),K,ab),⟨R,R,R,R,T0⟩,⟨au,m,g,n,j,t,ae⟩,Ns _⟩
   refine Ce (Ke ?_);obtain rfl:=Sj a;have ac:=Sj au;subst ac;have a:=bz;refine Ke (Ki (Kt (Cn [(16,Vl K Z ab)] (fun S=>?_))));refine Cs (Xu 4 [(136,Vl K Z ab),(4,Z0),(5,Vl K Z ab),(6,Vi 14)] (Xk (Cr (Kr (Kb ?_)))));obtain rfl:=Sj a;have ac:=Sj ar;subst ac;have k:=Stp.push (ls:=[Bk d,Bk K,f]) (l:=Bk none) (Ev.refl [] bp) (fun _ a=>by cases a) (fun _ a=>by cases a);have ae:=ae.step k (Ev.refl [] _) nn2;have g:=g.push (l:=Bk none) (Ev.refl [] _) (fun _ a=>by cases a);have n:=n.push (l:=Bk none) (fun _ a=>by cases a);have b3:=OwnS.nil eI 3 bp (fl [Bk none,Bk d,Bk K,f]);have a:=bh;refine Kr (Kb (Rr (Rv [Vl none (([]:List Int)) 0,Vl K Z ab,Vi 14] ⟨R,R,R,T0⟩ ?_)));obtain rfl:=Sj a;have aH:=g.pk [0,2,3] [Bk none,Bk K,f] R;have aa:=Pk (ls:=[Bk none,Bk d,Bk K,f]) [0,2,3] [Bk none,Bk K,f] R;have aG:=n.pk [0,2] [Bk none,Bk K] R;exact ⟨none,0,K,ab,R,m,aH,aG,b3.sub aa,ae.sub aa⟩
 refine Ck (Kt (Cs (Xu 2 [(137,Vl i J Q),(138,Vi F)] ?_)));obtain ⟨dH,bk,a⟩:=Bs a;obtain ⟨dn,dg,bD,cn,dv,C⟩:=Oi (Mo:=[]) tsl111 E bk;obtain rfl:=C;refine Yi _ _ _ R cn ?_;obtain ⟨cO,co,aE,b1⟩:=own_storeE bD (y:=true) 0 (.bool true) tcell4 E (Mf 1 R) bk R R (fun _ _ _ C=>set_bool C);refine Ys cO _ _ R co (I1 ?_);have k:=Stp.ev' (ls:=[Bk b,Bk i,Bk d,f]) aE (Mf 1 R);have j:=j.step k;have q:=q.step k;have u:=u.step k aE (g.apart 0 1 R R R);have t:=t.step k aE (g.apart 2 1 R R R);have g:=g.ev aE;have m:=m.then aE (fun N O=>.inr (n.at 1 R N O));have E:=b1;have an:(Vl i J Q)=(Vl i ((J.set (Int.toNat F) true)) Q):=by simp only [Vl,List.length_set]
 try rw [an]
 refine Xk (Cp (Xu 3 [(140,Vl b G z),(141,Vi o),(142,Vi F)] ?_));obtain ⟨dI,bl,a⟩:=Bs a;obtain ⟨dp,dh,bE,cq,dw,C⟩:=Oi (Mo:=[]) tsl22 u bl;obtain rfl:=C;refine Yi _ _ _ R cq ?_;obtain ⟨cS,cr,aF,b2⟩:=own_storeE bE (y:=F) 0 (Vi F) tcell3 u (Mf 0 R) bl R R (fun _ _ _ C=>set_int C);refine Ys cS _ _ R cr (I1 ?_);have k:=Stp.ev' (ls:=[Bk b,Bk i,Bk d,f]) aF (Mf 0 R);have j:=j.step k;have q:=q.step k;have E:=E.step k aF (g.apart 1 0 R R R);have t:=t.step k aF (g.apart 2 0 R R R);have g:=g.ev aF;have m:=m.then aF (fun N O=>.inr (n.at 0 R N O));have u:=b2;have an:(Vl b G z)=(Vl b ((G.set (Int.toNat o) F)) z):=by simp only [Vl,List.length_set]
 try rw [an]
 refine Xe R (Kl ?_);obtain rfl:=Sj a;exact Kt ⟨(aJ,(G.set (Int.toNat o) F),(J.set (Int.toNat F) true),(D.set (Int.toNat o) true)),⟨R,R,R,R,R,T0⟩,⟨ar,m,g,n,j,q,u,E,t⟩,Ns _⟩
def r16_Fits_L9 (d:List Int) (e:List Int) (b:List Int) (g:(List Bool)×Int):Option (Step ((List Bool)×Int) (Unit⊕Unit)):=
match g with
| (c,a)=>
(if (decide (a<((b).length:Int)))=true then
((idx d a).bind fun h=>
(if (h==0)=true then
((idx b a).bind fun i=>
(if (i !=(-1))=true then
some (.done (.inl ()))
else
some (.next (c,i64.wrap (a+1)))))
else
((idx b a).bind fun j=>
(if (decide (j<0))=true then
some (.done (.inl ()))
else
((idx b a).bind fun k=>
(if (decide (k≥((e).length:Int)))=true then
some (.done (.inl ()))
else
((idx b a).bind fun l=>
((idx c l).bind fun m=>
(if m=true then
some (.done (.inl ()))
else
((idx b a).bind fun n=>
((idx e n).bind fun o=>
((idx d a).bind fun p=>
(if (decide (o<p))=true then
some (.done (.inl ()))
else
((idx b a).bind fun f=>
((idx c f).bind fun q=>
some (.next ((c.set (Int.toNat f) true),i64.wrap (a+1))))))))))))))))))
else
some (.done (.inr ())))
def r16_Fits (b:List Int) (a:List Int) (c:List Int):Option Bool:=
((r16_valid b a).bind fun e=>
(if (e != 0)=true then
some false
else
(if (((c).length:Int)!=((b).length:Int))=true then
some false
else
(if (0:Int)≤((a).length:Int)∧(((a).length:Int):Int)≤4294967296 then
((loop (r16_Fits_L9 b a c) ((List.replicate (Int.toNat ((a).length:Int)) false:List Bool),0)).bind fun d=>match d with
| (.inl _)=>some false
| (.inr _)=>some true)
else none))))
theorem r16_Fits_w (p q g m n b i j c ai z t)(w:MS z [t])(u:SlR eI z (fl [t]) p q g)(v:SlR eI z (fl [t]) m n b)(o:SlR eI z (fl [t]) i j c)(a:r16_Fits g b c=some ai):CallVC Tryz.prog 69 [Vl p g q,Vl m b n,Vl i c j] z fun aj E=>aj=.bool ai∧Ev [] z E:=by
 refine Cv hmx Tryz.func69 (by kernel_rfl) R (rs:=[.tmp 6]) R (by kernel_rfl) (args:=[Vl p g q,Vl m b n,Vl i c j]) R ?_;have k:Ev [] z z:=Ev.refl _ _;have F:FR z.heap.size []:=FR.nil _;refine Cs (Xu 1 [(6,.bool false)] (Xk (Cq (Cs (Xu 2 [(9,Vl p g q),(10,Vl m b n)] ?_)))));obtain ⟨af,aS,a⟩:=Bs a;have ay:=r16_valid_w p q g m n b _ z (fl [t]) (MS.fold (P:=[]) w) (u.sub fl1) (v.sub fl1) aS;refine Xc 100 #[] #[] _ _ R R R R ay ?_;rintro aj a8 ⟨rfl,Z⟩;refine I1 ?_;have s:=Stp.ext (ls:=[t]) Z;have u:=u.step s;have v:=v.step s;have o:=o.step s;have w:=w.ev Z;have k:=k.ext Z;refine Xu 2 [(12,.bool (af != 0)),(13,.bool (af != 0))] (Xw 13 (af != 0) R a (fun a=>?_) (fun a=>?_))
 · refine Xu 6 [(14,U0),(15,U0),(16,U0),(17,U0),(18,U0),(19,.bool true)] (Xk (c_true R (Cs (Xu 1 [(6,.bool false)] (Xk (Cn [(6,.bool false)] (fun C=>?_)))))));refine Cr (Kr (Rr (Rv [.bool false] ⟨R,T0⟩ ?_)));obtain rfl:=Sj a;exact ⟨R,k⟩
 refine Xu 1 [(14,Vl i c j)] (Xn (vs:=[Vl i c j]) (Vi ((c).length:Int)) R R R (Rl tsl22 _ _ _ _ _) (Xu 1 [(16,Vl p g q)] (Xn (vs:=[Vl p g q]) (Vi ((g).length:Int)) R R R (Rl tsl22 _ _ _ _ _) (Xu 2 [(18,.bool (((c).length:Int)!=((g).length:Int))),(19,.bool (((c).length:Int)!=((g).length:Int)))] (Xk (Ci (((c).length:Int)!=((g).length:Int)) R a (fun a=>?_) (fun a=>?_)))))))
 · refine Cs (Xu 1 [(6,.bool false)] (Xk (Cn [(6,.bool false)] (fun C=>?_))));refine Cr (Kr (Rr (Rv [.bool false] ⟨R,T0⟩ ?_)));obtain rfl:=Sj a;exact ⟨R,k⟩
 refine Ck (Kt (Cn [(0,Vl p g q),(1,Vl m b n),(2,Vl i c j)] (fun C=>?_)));refine Cs (Xu 1 [(20,Vl m b n)] (Xn (vs:=[Vl m b n]) (Vi ((b).length:Int)) R R R (Rl tsl22 _ _ _ _ _) ?_));have ag:=Gl a;have a:=Gr a;obtain ⟨h,x,a9,aN,aa,ab,aQ⟩:=own_make (e:=eBool) tel111 a8 ((b).length:Int) ag.1 ag.2 false (fun _ _=>R);refine Xm _ a9 (xv:=Vi ((b).length:Int)) (yv:=Vi ((b).length:Int)) R R R R aN (I1 ?_);have s:=Stp.push (ls:=[t]) (l:=Bk h) aa (fun _ a=>by cases a) (fun I J=>(ab I J).1);have u:=u.step s;have v:=v.step s;have o:=o.step s;have w:=w.push aa ab;have F:=F.push (fun I J=>Nat.le_trans k.size (ab I J).1);have k:=k.ext aa;have D:=aQ (fl [Bk h,t]);refine Xu 1 [(7,Vl h ((List.replicate (Int.toNat ((b).length:Int)) false:List Bool)) x)] (Xk (Cq (Cs (Xu 1 [(8,Vi 0)] (Xk (Cb ?_))))));obtain ⟨ak,X,G⟩:=Bs a;obtain ⟨H,X⟩:=Lo X;refine Cl (Lr hmx (σ:=Nat×(List Bool)×Int) (fun K=>match K with | (_,r,d)=>[(0,Vl p g q),(1,Vl m b n),(2,Vl i c j),(7,Vl h r x),(8,Vi d)]) (fun K E=>match K with | (a6,r,d)=>loopN (r16_Fits_L9 g b c) a6 (r,d)=some ak∧Ev [] z E∧MS E [Bk h,t]∧FR z.heap.size [Bk h]∧SlR eI E (fl [Bk h,t]) p q g∧SlR eI E (fl [Bk h,t]) m n b∧SlR eI E (fl [Bk h,t]) i j c∧OwnS eBool 4 E (fl [Bk h,t]) h x r) (fun K=>K.1) (H,(List.replicate (Int.toNat ((b).length:Int)) false:List Bool),0) ⟨R,R,R,R,R,T0⟩ ⟨X,k,w,F,u,v,o,D⟩ ?_);rintro ⟨H,r,d⟩ C Q ⟨A,k,w,F,u,v,o,D⟩;rcases H with _ | H
 · exact (Lz A).elim
 obtain ⟨bB,a,A⟩:=Bs A;refine Cq (Cs (Xu 2 [(23,Vi d),(24,Vl i c j)] (Xn (vs:=[Vl i c j]) (Vi ((c).length:Int)) R R R (Rl tsl22 _ _ _ _ _) (Xu 1 [(26,Bd (d<((c).length:Int)))] (Xk (Cn [(0,Vl p g q),(1,Vl m b n),(2,Vl i c j),(7,Vl h r x),(8,Vi d),(26,Bd (d<((c).length:Int)))] (fun C=>?_)))))));refine Ci (decide (d<((c).length:Int))) R a (fun a=>?_) (fun a=>?_)
 · refine Ck (Kt (Cq (Cb (Cq (Cs (Xu 2 [(29,Vl p g q),(30,Vi d)] ?_))))));obtain ⟨ac,aU,a⟩:=Bs a;obtain ⟨bc,bl,aA,am,f⟩:=Ri (Mo:=[]) tsl22 u aU;obtain rfl:=f;refine Yi _ _ _ R aA (Yl _ (Vi ac) R (Rc tcell3 am (fun _ a=>by cases a)) ?_);refine Xu 1 [(33,.bool (ac==0))] (Xk (Ci (ac==0) R a (fun a=>?_) (fun a=>?_)))
   · refine Cq (Cs (Xu 2 [(34,Vl i c j),(35,Vi d)] ?_));obtain ⟨ad,aX,a⟩:=Bs a;obtain ⟨bd,bm,aB,an,f⟩:=Ri (Mo:=[]) tsl22 o aX;obtain rfl:=f;refine Yi _ _ _ R aB (Yl _ (Vi ad) R (Rc tcell3 an (fun _ a=>by cases a)) ?_);refine Xu 1 [(38,.bool (ad !=(-1)))] (Xk (Ci (ad !=(-1)) R a (fun a=>?_) (fun a=>?_)))
     · refine Cs (Xu 1 [(6,.bool false)] (Xk (Cn [(6,.bool false)] (fun C=>?_))));refine Cr (Kr (Kr (Kb (Kr ?_))));obtain rfl:=Sj a;have B:=Sj A;subst B;have a:=G;refine Kr (Kb (Kr (Rr (Rv [.bool false] ⟨R,T0⟩ ?_))));obtain rfl:=Sj a;exact ⟨R,k⟩
     refine Ck (Kt (Ce (Ke (Ki (Kt (Cp (Xu 3 [(27,Vi d),(28,Vi (i64.wrap (d+1))),(8,Vi (i64.wrap (d+1)))] (Xe R ?_))))))));obtain rfl:=Sj a;exact Kt ⟨(H,r,i64.wrap (d+1)),⟨R,R,R,R,R,T0⟩,⟨A,k,w,F,u,v,o,D⟩,Ns _⟩
   refine Ck (Kt (Cq (Cq (Cd [] [(0,false),(1,false),(2,false),(3,false),(4,false),(5,false),(6,false),(7,false),(8,false),(9,false),(10,false),(11,false),(12,false),(13,false),(14,false),(15,false),(16,false),(17,false),(18,false),(19,false),(20,false),(21,false),(22,false),(23,false),(24,false),(25,false),(26,false),(27,false),(28,false),(29,false),(30,false),(31,false),(32,false),(33,false),(34,false),(35,false),(36,false)] _ (by kernel_rfl) R ?_))));have s:=Stp.ext (ls:=[Bk h,t]) (Ev.drew Q);have u:=u.step s;have v:=v.step s;have o:=o.step s;have D:=D.step s (Ev.drew Q) nn2;have w:=w.ev (Ev.drew Q);have k:=k.ext (Ev.drew Q);refine Xu 2 [(39,Vl i c j),(40,Vi d)] ?_;obtain ⟨S,aY,a⟩:=Bs a;obtain ⟨be,bn,aC,ao,f⟩:=Ri (Mo:=[]) tsl22 o aY;obtain rfl:=f;refine Yi _ _ _ R aC (Yl _ (Vi S) R (Rc tcell3 ao (fun _ a=>by cases a)) ?_);refine Xu 2 [(43,Bd (S<0)),(44,Bd (S<0))] (Xw 44 (decide (S<0)) R a (fun a=>?_) (fun a=>?_))
   · refine Xu 31 [(45,U0),(46,U0),(47,U0),(48,U0),(49,U0),(50,U0),(51,U0),(52,.bool true),(53,.bool true),(54,U0),(55,U0),(56,U0),(57,U0),(58,U0),(59,U0),(60,U0),(61,.bool true),(62,.bool true),(63,U0),(64,U0),(65,U0),(66,U0),(67,U0),(68,U0),(69,U0),(70,U0),(71,U0),(72,U0),(73,U0),(74,U0),(75,.bool true)] (Xk (Cn [(0,Vl p g q),(1,Vl m b n),(2,Vl i c j),(7,Vl h r x),(8,Vi d),(75,.bool true)] (fun C=>?_)));refine c_true R (Cs (Xu 1 [(6,.bool false)] (Xk (Cr (Kr (Kb (Kr ?_)))))));obtain rfl:=Sj a;have B:=Sj A;subst B;have a:=G;refine Kr (Kb (Kr (Rr (Rv [.bool false] ⟨R,T0⟩ ?_))));obtain rfl:=Sj a;exact ⟨R,k⟩
   refine Xu 2 [(45,Vl i c j),(46,Vi d)] ?_;obtain ⟨L,aZ,a⟩:=Bs a;obtain ⟨bf,bo,aD,ap,f⟩:=Ri (Mo:=[]) tsl22 o aZ;obtain rfl:=f;refine Yi _ _ _ R aD (Yl _ (Vi L) R (Rc tcell3 ap (fun _ a=>by cases a)) ?_);refine Xu 1 [(49,Vl m b n)] (Xn (vs:=[Vl m b n]) (Vi ((b).length:Int)) R R R (Rl tsl22 _ _ _ _ _) (Xu 3 [(51,Bd (L≥((b).length:Int))),(52,Bd (L≥((b).length:Int))),(53,Bd (L≥((b).length:Int)))] (Xw 53 (decide (L≥((b).length:Int))) R a (fun a=>?_) (fun a=>?_))))
   · refine Xu 22 [(54,U0),(55,U0),(56,U0),(57,U0),(58,U0),(59,U0),(60,U0),(61,.bool true),(62,.bool true),(63,U0),(64,U0),(65,U0),(66,U0),(67,U0),(68,U0),(69,U0),(70,U0),(71,U0),(72,U0),(73,U0),(74,U0),(75,.bool true)] (Xk (Cn [(0,Vl p g q),(1,Vl m b n),(2,Vl i c j),(7,Vl h r x),(8,Vi d),(75,.bool true)] (fun C=>?_)));refine c_true R (Cs (Xu 1 [(6,.bool false)] (Xk (Cr (Kr (Kb (Kr ?_)))))));obtain rfl:=Sj a;have B:=Sj A;subst B;have a:=G;refine Kr (Kb (Kr (Rr (Rv [.bool false] ⟨R,T0⟩ ?_))));obtain rfl:=Sj a;exact ⟨R,k⟩
   refine Xu 3 [(54,Vl h r x),(55,Vl i c j),(56,Vi d)] ?_;obtain ⟨ba,a0,a⟩:=Bs a;obtain ⟨bg,bp,aE,aq,f⟩:=Ri (Mo:=[]) tsl22 o a0;obtain rfl:=f;refine Yi _ _ _ R aE (Yl _ (Vi ba) R (Rc tcell3 aq (fun _ a=>by cases a)) ?_);obtain ⟨U,a1,a⟩:=Bs a;obtain ⟨bw,bq,bz,aF,ar,f⟩:=Oi (Mo:=[]) tsl111 D a1;obtain rfl:=f;refine Yi _ _ _ R aF (Yl _ (.bool U) R (Rc tcell4 ar (fun _ a=>by cases a)) ?_);refine Xu 2 [(61,.bool U),(62,.bool U)] (Xw 62 U R a (fun a=>?_) (fun a=>?_))
   · refine Xu 13 [(63,U0),(64,U0),(65,U0),(66,U0),(67,U0),(68,U0),(69,U0),(70,U0),(71,U0),(72,U0),(73,U0),(74,U0),(75,.bool true)] (Xk (Cn [(0,Vl p g q),(1,Vl m b n),(2,Vl i c j),(7,Vl h r x),(8,Vi d),(75,.bool true)] (fun C=>?_)));refine c_true R (Cs (Xu 1 [(6,.bool false)] (Xk (Cr (Kr (Kb (Kr ?_)))))));obtain rfl:=Sj a;have B:=Sj A;subst B;have a:=G;refine Kr (Kb (Kr (Rr (Rv [.bool false] ⟨R,T0⟩ ?_))));obtain rfl:=Sj a;exact ⟨R,k⟩
   refine Xu 3 [(63,Vl m b n),(64,Vl i c j),(65,Vi d)] ?_;obtain ⟨bb,a2,a⟩:=Bs a;obtain ⟨bh,br,aG,au,f⟩:=Ri (Mo:=[]) tsl22 o a2;obtain rfl:=f;refine Yi _ _ _ R aG (Yl _ (Vi bb) R (Rc tcell3 au (fun _ a=>by cases a)) ?_);obtain ⟨N,a3,a⟩:=Bs a;obtain ⟨bi,bs,aH,av,f⟩:=Ri (Mo:=[]) tsl22 v a3;obtain rfl:=f;refine Yi _ _ _ R aH (Yl _ (Vi N) R (Rc tcell3 av (fun _ a=>by cases a)) ?_);refine Xu 2 [(70,Vl p g q),(71,Vi d)] ?_;obtain ⟨O,a4,a⟩:=Bs a;obtain ⟨bj,bt,aI,aw,f⟩:=Ri (Mo:=[]) tsl22 u a4;obtain rfl:=f;refine Yi _ _ _ R aI (Yl _ (Vi O) R (Rc tcell3 aw (fun _ a=>by cases a)) ?_);refine Xu 2 [(74,Bd (N<O)),(75,Bd (N<O))] (Xk (Cn [(0,Vl p g q),(1,Vl m b n),(2,Vl i c j),(7,Vl h r x),(8,Vi d),(75,Bd (N<O))] (fun C=>?_)));refine Ci (decide (N<O)) R a (fun a=>?_) (fun a=>?_)
   · refine Cs (Xu 1 [(6,.bool false)] (Xk (Cr (Kr (Kb (Kr ?_))))));obtain rfl:=Sj a;have B:=Sj A;subst B;have a:=G;refine Kr (Kb (Kr (Rr (Rv [.bool false] ⟨R,T0⟩ ?_))));obtain rfl:=Sj a;exact ⟨R,k⟩
   refine Ck (Kt (Cp (Xu 3 [(76,Vl h r x),(77,Vl i c j),(78,Vi d)] ?_)));obtain ⟨ae,a5,a⟩:=Bs a;obtain ⟨bk,bu,aJ,ax,f⟩:=Ri (Mo:=[]) tsl22 o a5;obtain rfl:=f;refine Yi _ _ _ R aJ (Yl _ (Vi ae) R (Rc tcell3 ax (fun _ a=>by cases a)) ?_);obtain ⟨bC,ah,a⟩:=Bs a;obtain ⟨bx,bv,al,aK,bA,f⟩:=Oi (Mo:=[]) tsl111 D ah;obtain rfl:=f;refine Yi _ _ _ R aK ?_;obtain ⟨a7,aL,Y,az⟩:=own_storeE al (y:=true) 0 (.bool true) tcell4 D (Mf 0 R) ah R R (fun _ _ _ f=>set_bool f);refine Ys a7 _ _ R aL (I1 ?_);have s:=Stp.ev' (ls:=[Bk h,t]) Y (Mf 0 R);have u:=u.step s;have v:=v.step s;have o:=o.step s;have w:=w.ev Y;have k:=k.then Y (fun I J=>.inr (F.at 0 R I J));have D:=az;have aO:(Vl h r x)=(Vl h ((r.set (Int.toNat ae) true)) x):=by simp only [Vl,List.length_set]
   try rw [aO]
   refine Xe R (Kl (Kt (Cp (Xu 3 [(27,Vi d),(28,Vi (i64.wrap (d+1))),(8,Vi (i64.wrap (d+1)))] (Xe R ?_)))));obtain rfl:=Sj a;exact Kt ⟨(H,(r.set (Int.toNat ae) true),i64.wrap (d+1)),⟨R,R,R,R,R,T0⟩,⟨A,k,w,F,u,v,o,D⟩,Ns _⟩
 refine Ce (Ke ?_);obtain rfl:=Sj a;have B:=Sj A;subst B;have a:=G;refine Ke (Ki (Kt (c_norm [] T0 (fun C=>?_))));refine Cs (Xu 1 [(6,.bool true)] (Xk (Cr (Rr (Rv [.bool true] ⟨R,T0⟩ ?_)))));obtain rfl:=Sj a;exact ⟨R,k⟩
end Go.Proofs.YtlejnkhaphlooaaGreat
