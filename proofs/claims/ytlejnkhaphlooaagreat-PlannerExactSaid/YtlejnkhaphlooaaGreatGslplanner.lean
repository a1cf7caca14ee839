
/- Walks, printed by program: each function returns what the partial function of the same name returns. Conditions: those of each theorem. -/
import Derived.Test.YtlejnkhaphlooaaGreatGT
import Derived.Test.YtlejnkhaphlooaaGreatGcmp
set_option linter.unusedVariables false
set_option linter.unusedSimpArgs false
set_option maxRecDepth 4000
namespace Go.Proofs.YtlejnkhaphlooaaGreat
open Go Go.V Go.Proofs Go.IntKind
def planner_Schemes_1 (a:Int) (b:Int) (c:Int) (h:Int) (d:Int) (e:Int) (f:Int) (i:Int):Option Int:=
((cmp_Or_int_ ([i64.wrap (b-e),i64.wrap (c-f),i64.wrap (a-d)])).bind fun g=>
some g)
theorem planner_Schemes_1_w (a b d o e f g p x n)(q:planner_Schemes_1 a b d o e f g p=some x):CallVC Tryz.prog 49 [.agg #[Vi a,Vi b,Vi d,Vi o],.agg #[Vi e,Vi f,Vi g,Vi p]] n fun y K=>y=Vi x∧Ev [] n K:=by
 refine Cv hmx Tryz.func49 (by kernel_rfl) R (rs:=[.tmp 4]) R (by kernel_rfl) (args:=[.agg #[Vi a,Vi b,Vi d,Vi o],.agg #[Vi e,Vi f,Vi g,Vi p]]) R ?_;have h:Ev [] n n:=Ev.refl _ _;have j:MS n [[]]:=⟨List.pairwise_singleton _ _,fun Y w Q A=>by simp only [List.mem_singleton] at w; subst w; cases A⟩
 refine Cs (Yb _ R (fun k L F i u S=>?_));replace i:L.heap[k]? = some (.cells #[Vi a,Vi b,Vi d,Vi o] 48 (0,0)):=i;refine I1 ?_;have j:=j.box u F i;have h:=h.ext u;refine Yb _ R (fun l N G m r U=>?_);replace m:N.heap[l]? = some (.cells #[Vi e,Vi f,Vi g,Vi p] 48 (0,0)):=m;refine I1 ?_;have i:=r.box i nn;have j:=j.box r G m;have h:=h.ext r;refine Xu 1 [(4,Vi 0)] (Xk (Cs (Yg k 0 1 (Vi b) R R (Rf tfld48_1 _ _) tcell3 i nn R (Yg l 0 1 (Vi f) R R (Rf tfld48_1 _ _) tcell3 m nn R (Xu 1 [(9,Vi (i64.wrap (b-f)))] (Yg k 0 2 (Vi d) R R (Rf tfld48_2 _ _) tcell3 i nn R ?_))))));refine Yg l 0 2 (Vi g) R R (Rf tfld48_2 _ _) tcell3 m nn R (Xu 1 [(14,Vi (i64.wrap (d-g)))] (Yg k 0 0 (Vi a) R R (Rf tfld48_0 _ _) tcell3 i nn R (Yg l 0 0 (Vi e) R R (Rf tfld48_0 _ _) tcell3 m nn R (Xu 1 [(19,Vi (i64.wrap (a-e)))] (Xb (vs:=[(0,Vi (i64.wrap (b-f))),(1,Vi (i64.wrap (d-g))),(2,Vi (i64.wrap (a-e)))]) #[Vi (i64.wrap (b-f)),Vi (i64.wrap (d-g)),Vi (i64.wrap (a-e))] 3 R R R (by kernel_rfl) (fun t z H B v X=>?_))))));refine I1 ?_;have E:=j;have j:=j.ev v;have h:=h.ext v;have I:SlR eI z (fl [[l],[k],[]]) (Ad t 0) 3 ([i64.wrap (b-f),i64.wrap (d-g),i64.wrap (a-e)]):=ro_of_box E H B R R (cells_at (cs:=[Vi (i64.wrap (b-f)),Vi (i64.wrap (d-g)),Vi (i64.wrap (a-e))]) (CellsOf.cons (c:=[Vi (i64.wrap (b-f))]) R (CellsOf.cons (c:=[Vi (i64.wrap (d-g))]) R (CellsOf.cons (c:=[Vi (i64.wrap (a-e))]) R CellsOf.nil))));obtain ⟨s,J,q⟩:=Bs q;have C:=cmp_Or_int__w (Ad t 0) 3 ([i64.wrap (b-f),i64.wrap (d-g),i64.wrap (a-e)]) _ z (fl [[l],[k],[]]) (MS.fold (P:=[]) j) (I.sub fl1) J;refine Xc 50 #[] #[] _ _ R R R R C ?_;rintro y Z ⟨rfl,D⟩;refine I1 ?_;have h:=h.ext D;refine Xu 1 [(4,Vi s)] (Xk (Cn [(4,Vi s)] (fun O=>?_)));refine Cr (Rr (Rv [Vi s] ⟨R,T0⟩ ?_));obtain rfl:=Sj q;exact ⟨R,h⟩
def slices_insertionSortCmpFunc_humpyard_api_Scheme__L4 (g:Int) (h:(List (Int×Int×Int×Int))×Int):Option (Step ((List (Int×Int×Int×Int))×Int) (List (Int×Int×Int×Int))):=
match h with
| (b,a)=>
(if (decide (a>g))=true then
((idx b a).bind fun e=>
((idx b (i64.wrap (a-1))).bind fun f=>
((planner_Schemes_1 e.1 e.2.1 e.2.2.1 e.2.2.2 f.1 f.2.1 f.2.2.1 f.2.2.2).bind fun i=>
(if (decide (i<0))=true then
((idx b (i64.wrap (a-1))).bind fun c=>
((idx b a).bind fun d=>
((idx b a).bind fun j=>
((idx (b.set (Int.toNat a) (c.1,c.2.1,c.2.2.1,c.2.2.2)) (i64.wrap (a-1))).bind fun k=>
some (.next (((b.set (Int.toNat a) (c.1,c.2.1,c.2.2.1,c.2.2.2)).set (Int.toNat (i64.wrap (a-1))) (d.1,d.2.1,d.2.2.1,d.2.2.2)),i64.wrap (a-1)))))))
else
some (.done b)))))
else
some (.done b))
def slices_insertionSortCmpFunc_humpyard_api_Scheme__L2 (e:Int) (f:Int) (g:(List (Int×Int×Int×Int))×Int):Option (Step ((List (Int×Int×Int×Int))×Int) (List (Int×Int×Int×Int))):=
match g with
| (b,a)=>
(if (decide (a<f))=true then
((loop (slices_insertionSortCmpFunc_humpyard_api_Scheme__L4 e) (b,a)).bind fun c=>match c with
| d=>some (.next (d,i64.wrap (a+1))))
else
some (.done b))
def slices_insertionSortCmpFunc_humpyard_api_Scheme_ (d:List (Int×Int×Int×Int)) (a:Int) (e:Int):Option (List (Int×Int×Int×Int)):=
((loop (slices_insertionSortCmpFunc_humpyard_api_Scheme__L2 a e) (d,i64.wrap (a+1))).bind fun b=>match b with
| c=>some c)
theorem slices_insertionSortCmpFunc_humpyard_api_Scheme__w (b h H j m ah o p)(l:MS o [Bk b,p])(i:OwnS (eIt4) 48 o (fl [Bk b,p]) b h H)(d:slices_insertionSortCmpFunc_humpyard_api_Scheme_ H j m=some ah):CallVC Tryz.prog 107 [Vl b H h,Vi j,Vi m,(.func (.func 49) #[] #[])] o fun ai s=>ai=.tuple #[]∧Ev (fl [Bk b]) o s∧OwnS (eIt4) 48 s (fl [Bk b,p]) b h ah∧MS s [Bk b,p]∧FR o.heap.size []∧NP (fl [Bk b]) o.heap.size [Bk b]:=by
 refine Cv hmx Tryz.func107 (by kernel_rfl) R (rs:=[]) R (by kernel_rfl) (args:=[Vl b H h,Vi j,Vi m,(.func (.func 49) #[] #[])]) R ?_;have k:Ev (fl [Bk b]) o o:=Ev.refl _ _;have u:FR o.heap.size []:=FR.nil _;have t:NP (fl [Bk b]) o.heap.size [Bk b]:=NP.init _ _;refine Cs (Xu 3 [(10,Vi j),(11,Vi (i64.wrap (j+1))),(8,Vi (i64.wrap (j+1)))] (Xk (Cb ?_)));obtain ⟨aj,N,ap⟩:=Bs d;obtain ⟨D,N⟩:=Lo N;refine Cl (Lr hmx (σ:=Nat×(List (Int×Int×Int×Int))×Int) (fun r=>match r with | (_,z,g)=>[(0,Vl b z h),(1,Vi j),(2,Vi m),(3,(.func (.func 49) #[] #[])),(8,Vi g)]) (fun r s=>match r with | (Y,z,g)=>loopN (slices_insertionSortCmpFunc_humpyard_api_Scheme__L2 j m) Y (z,g)=some aj∧Ev (fl [Bk b]) o s∧MS s [Bk b,p]∧FR o.heap.size []∧NP (fl [Bk b]) o.heap.size [Bk b]∧OwnS (eIt4) 48 s (fl [Bk b,p]) b h z) (fun r=>r.1) (D,H,i64.wrap (j+1)) ⟨R,R,R,R,R,T0⟩ ⟨N,k,l,u,t,i⟩ ?_);rintro ⟨D,z,g⟩ x bd ⟨B,k,l,u,t,i⟩;rcases D with _ | D
 · exact (Lz B).elim
 obtain ⟨bb,d,B⟩:=Bs B;refine Cq (Cs (Xu 3 [(12,Vi g),(13,Vi m),(14,Bd (g<m))] (Xk (Cn [(0,Vl b z h),(1,Vi j),(2,Vi m),(3,(.func (.func 49) #[] #[])),(8,Vi g),(14,Bd (g<m))] (fun x=>?_)))));refine Ci (decide (g<m)) R d (fun d=>?_) (fun d=>?_)
 · refine Ck (Kt (Cq (Cb (Cs (Xu 2 [(17,Vi g),(9,Vi g)] (Xk (Cb ?_)))))));obtain ⟨ak,O,Z⟩:=Bs d;obtain ⟨G,O⟩:=Lo O;refine Cl (Lr hmx (σ:=Nat×(List (Int×Int×Int×Int))×Int) (fun r=>match r with | (_,f,c)=>[(0,Vl b f h),(1,Vi j),(2,Vi m),(3,(.func (.func 49) #[] #[])),(8,Vi g),(9,Vi c)]) (fun r s=>match r with | (Y,f,c)=>loopN (slices_insertionSortCmpFunc_humpyard_api_Scheme__L4 j) Y (f,c)=some ak∧Ev (fl [Bk b]) o s∧MS s [Bk b,p]∧FR o.heap.size []∧NP (fl [Bk b]) o.heap.size [Bk b]∧OwnS (eIt4) 48 s (fl [Bk b,p]) b h f) (fun r=>r.1) (G,z,g) ⟨R,R,R,R,R,R,T0⟩ ⟨O,k,l,u,t,i⟩ ?_);rintro ⟨G,f,c⟩ x I ⟨C,k,l,u,t,i⟩;rcases G with _ | G
   · exact (Lz C).elim
   obtain ⟨bc,d,C⟩:=Bs C;refine Cq (Cq (Cd [] [(0,false),(1,false),(2,false),(3,false),(4,false),(5,false),(6,false),(7,false),(8,false),(9,false),(10,false),(11,false),(12,false),(13,false),(14,true),(15,false),(16,false)] _ (by kernel_rfl) R ?_));have E:=Stp.ext (ls:=[Bk b,p]) (Ev.drew I);have i:=i.step E (Ev.drew I) nn2;have l:=l.ev (Ev.drew I);have k:=k.ext (Ev.drew I);refine Xu 4 [(18,Vi c),(19,Vi j),(20,Bd (c>j)),(21,Bd (c>j))] (Xw 21 (decide (c>j)) R d (fun d=>?_) (fun d=>?_))
   · refine Xu 3 [(22,(.func (.func 49) #[] #[])),(23,Vl b f h),(24,Vi c)] ?_;obtain ⟨v,aO,d⟩:=Bs d;obtain ⟨an,a1,a7,aJ,aw,q⟩:=Oi (Mo:=[]) tsl44 i aO;obtain ⟨_,_,rfl,rfl,⟨_,_,rfl,rfl,⟨_,_,rfl,rfl,rfl⟩⟩⟩:=q;refine Yi _ _ _ R aJ (Yl ((Px an ((Int.toNat c)*(eIt4).n))) (.agg #[Vi v.1,Vi v.2.1,Vi v.2.2.1,Vi v.2.2.2]) R (reads_agg tagg48 aw (fun _ d=>by cases d)) ?_);refine Xu 3 [(27,Vl b f h),(28,Vi c),(29,Vi (i64.wrap (c-1)))] ?_;obtain ⟨w,aQ,d⟩:=Bs d;obtain ⟨ao,a2,a8,aK,ax,q⟩:=Oi (Mo:=[]) tsl44 i aQ;obtain ⟨_,_,rfl,rfl,⟨_,_,rfl,rfl,⟨_,_,rfl,rfl,rfl⟩⟩⟩:=q;refine Yi _ _ _ R aK (Yl ((Px ao ((Int.toNat (i64.wrap (c-1)))*(eIt4).n))) (.agg #[Vi w.1,Vi w.2.1,Vi w.2.2.1,Vi w.2.2.2]) R (reads_agg tagg48 ax (fun _ d=>by cases d)) ?_);obtain ⟨L,aN,d⟩:=Bs d;have ay:=planner_Schemes_1_w v.1 v.2.1 v.2.2.1 v.2.2.2 w.1 w.2.1 w.2.2.1 w.2.2.2 _ (I).drew aN;refine Xc 49 #[] #[] _ _ R R R R ay ?_;rintro ai K ⟨rfl,J⟩;refine I1 ?_;have E:=Stp.ext (ls:=[Bk b,p]) J;have i:=i.step E J nn2;have l:=l.ev J;have k:=k.ext J;refine Xu 2 [(33,Bd (L<0)),(34,Bd (L<0))] (Xk (Cn [(0,Vl b f h),(1,Vi j),(2,Vi m),(3,(.func (.func 49) #[] #[])),(8,Vi g),(9,Vi c),(34,Bd (L<0))] (fun x=>?_)));refine Ci (decide (L<0)) R d (fun d=>?_) (fun d=>?_)
     · refine Ck (Kt (Cq (Cb (Cd (Bk b) [(0,true),(1,true),(2,false),(3,false),(4,false),(5,true),(6,true),(7,true),(8,true),(9,true),(10,true),(11,true),(12,true),(13,true),(14,true),(15,false),(16,true),(17,true)] _ (by kernel_rfl) R ?_))));have E:=Stp.ext (ls:=[Bk b,p]) (Ev.drew K);have i:=i.step E (Ev.drew K) nn2;have l:=l.ev (Ev.drew K);have k:=k.ext (Ev.drew K);refine Xu 8 [(37,Vl b f h),(38,Vi c),(39,Vl b f h),(40,Vi c),(41,Vi (i64.wrap (c-1))),(42,Vl b f h),(43,Vi c),(44,Vi (i64.wrap (c-1)))] ?_;obtain ⟨a,ab,d⟩:=Bs d;obtain ⟨al,aX,a5,aD,au,q⟩:=Oi (Mo:=[]) tsl44 i ab;obtain ⟨_,_,rfl,rfl,⟨_,_,rfl,rfl,⟨_,_,rfl,rfl,rfl⟩⟩⟩:=q;refine Yi _ _ _ R aD (Yl ((Px al ((Int.toNat (i64.wrap (c-1)))*(eIt4).n))) (.agg #[Vi a.1,Vi a.2.1,Vi a.2.2.1,Vi a.2.2.2]) R (reads_agg tagg48 au (fun _ d=>by cases d)) ?_);refine Xu 2 [(47,Vl b f h),(48,Vi c)] ?_;obtain ⟨e,ac,d⟩:=Bs d;obtain ⟨am,aY,a6,aE,av,q⟩:=Oi (Mo:=[]) tsl44 i ac;obtain ⟨_,_,rfl,rfl,⟨_,_,rfl,rfl,⟨_,_,rfl,rfl,rfl⟩⟩⟩:=q;refine Yi _ _ _ R aE (Yl ((Px am ((Int.toNat c)*(eIt4).n))) (.agg #[Vi e.1,Vi e.2.1,Vi e.2.2.1,Vi e.2.2.2]) R (reads_agg tagg48 av (fun _ d=>by cases d)) ?_);obtain ⟨be,ad,d⟩:=Bs d;obtain ⟨a3,aZ,aq,aF,a9,q⟩:=Oi (Mo:=[]) tsl44 i ad;obtain ⟨_,_,rfl,rfl,⟨_,_,rfl,rfl,⟨_,_,rfl,rfl,rfl⟩⟩⟩:=q;refine Yi _ _ _ R aF ?_;have U:=ab;have X:=ac;obtain ⟨aS,aG,Q,aB⟩:=own_storeAE aq (y:=(a.1,a.2.1,a.2.2.1,a.2.2.2)) [Vi a.1,Vi a.2.1,Vi a.2.2.1,Vi a.2.2.2] tagg48 i (Mf 0 R) ad R R (fun _ _=>⟨[Vi a.1],[Vi a.2.1,Vi a.2.2.1,Vi a.2.2.2],R,R,⟨[Vi a.2.1],[Vi a.2.2.1,Vi a.2.2.2],R,R,⟨[Vi a.2.2.1],[Vi a.2.2.2],R,R,R⟩⟩⟩);refine Ys aS _ _ R aG (⟨.inr Q,?_⟩);have l:=l.ev Q;have k:=k.then Q (t.at 0 R);have i:=aB;have S:(Vl b f h)=(Vl b ((f.set (Int.toNat c) (a.1,a.2.1,a.2.2.1,a.2.2.2))) h):=by simp only [Vl,List.length_set]
       try rw [S]
       obtain ⟨_,U⟩:∃ A,idx (f.set (Int.toNat c) (a.1,a.2.1,a.2.2.1,a.2.2.2)) (i64.wrap (c-1))=some A:=idx_set_any U _ _;obtain ⟨_,X⟩:∃ A,idx (f.set (Int.toNat c) (a.1,a.2.1,a.2.2.1,a.2.2.2)) c=some A:=idx_set_any X _ _;obtain ⟨bf,ae,d⟩:=Bs d;obtain ⟨a4,a0,ar,aH,ba,q⟩:=Oi (Mo:=[]) tsl44 i ae;obtain ⟨_,_,rfl,rfl,⟨_,_,rfl,rfl,⟨_,_,rfl,rfl,rfl⟩⟩⟩:=q;refine Yi _ _ _ R aH ?_;have af:=U;have ag:=X;obtain ⟨aU,aI,aa,aC⟩:=own_storeAE ar (y:=(e.1,e.2.1,e.2.2.1,e.2.2.2)) [Vi e.1,Vi e.2.1,Vi e.2.2.1,Vi e.2.2.2] tagg48 i (Mf 0 R) ae R R (fun _ _=>⟨[Vi e.1],[Vi e.2.1,Vi e.2.2.1,Vi e.2.2.2],R,R,⟨[Vi e.2.1],[Vi e.2.2.1,Vi e.2.2.2],R,R,⟨[Vi e.2.2.1],[Vi e.2.2.2],R,R,R⟩⟩⟩);refine Ys aU _ _ R aI (I1 ?_);have l:=l.ev aa;have k:=k.then aa (t.at 0 R);have i:=aC;have S:(Vl b ((f.set (Int.toNat c) (a.1,a.2.1,a.2.2.1,a.2.2.2))) h)=(Vl b (((f.set (Int.toNat c) (a.1,a.2.1,a.2.2.1,a.2.2.2)).set (Int.toNat (i64.wrap (c-1))) (e.1,e.2.1,e.2.2.1,e.2.2.2))) h):=by simp only [Vl,List.length_set]
       try rw [S]
       obtain ⟨_,af⟩:∃ A,idx ((f.set (Int.toNat c) (a.1,a.2.1,a.2.2.1,a.2.2.2)).set (Int.toNat (i64.wrap (c-1))) (e.1,e.2.1,e.2.2.1,e.2.2.2)) (i64.wrap (c-1))=some A:=idx_set_any af _ _;obtain ⟨_,ag⟩:∃ A,idx ((f.set (Int.toNat c) (a.1,a.2.1,a.2.2.1,a.2.2.2)).set (Int.toNat (i64.wrap (c-1))) (e.1,e.2.1,e.2.2.1,e.2.2.2)) c=some A:=idx_set_any ag _ _;refine Xe R (Kl (Kt (Cn [(0,Vl b (((f.set (Int.toNat c) (a.1,a.2.1,a.2.2.1,a.2.2.2)).set (Int.toNat (i64.wrap (c-1))) (e.1,e.2.1,e.2.2.1,e.2.2.2))) h),(1,Vi j),(2,Vi m),(3,(.func (.func 49) #[] #[])),(8,Vi g),(9,Vi c)] (fun x=>?_))));refine Cp (Xu 3 [(35,Vi c),(36,Vi (i64.wrap (c-1))),(9,Vi (i64.wrap (c-1)))] (Xe R ?_));obtain rfl:=Sj d;exact Kt ⟨(G,((f.set (Int.toNat c) (a.1,a.2.1,a.2.2.1,a.2.2.2)).set (Int.toNat (i64.wrap (c-1))) (e.1,e.2.1,e.2.2.1,e.2.2.2)),i64.wrap (c-1)),⟨R,R,R,R,R,R,T0⟩,⟨C,k,l,u,t,i⟩,Ns _⟩
     refine Ce (Ke ?_);obtain rfl:=Sj d;have F:=Sj C;subst F;have d:=Z;refine Ke (Ki (Kl (Kt (Cn [(0,Vl b f h),(1,Vi j),(2,Vi m),(3,(.func (.func 49) #[] #[])),(8,Vi g)] (fun x=>?_)))));refine Cp (Xu 3 [(15,Vi g),(16,Vi (i64.wrap (g+1))),(8,Vi (i64.wrap (g+1)))] (Xe R ?_));obtain rfl:=Sj d;exact Kt ⟨(D,f,i64.wrap (g+1)),⟨R,R,R,R,R,T0⟩,⟨B,k,l,u,t,i⟩,Ns _⟩
   refine Xu 13 [(22,U0),(23,U0),(24,U0),(25,U0),(26,U0),(27,U0),(28,U0),(29,U0),(30,U0),(31,U0),(32,U0),(33,U0),(34,.bool false)] (Xk (Cn [(0,Vl b f h),(1,Vi j),(2,Vi m),(3,(.func (.func 49) #[] #[])),(8,Vi g),(9,Vi c),(34,.bool false)] (fun x=>?_)));refine c_false R (Ce (Ke ?_));obtain rfl:=Sj d;have F:=Sj C;subst F;have d:=Z;refine Ke (Ki (Kl (Kt (Cn [(0,Vl b f h),(1,Vi j),(2,Vi m),(3,(.func (.func 49) #[] #[])),(8,Vi g)] (fun x=>?_)))));refine Cp (Xu 3 [(15,Vi g),(16,Vi (i64.wrap (g+1))),(8,Vi (i64.wrap (g+1)))] (Xe R ?_));obtain rfl:=Sj d;exact Kt ⟨(D,f,i64.wrap (g+1)),⟨R,R,R,R,R,T0⟩,⟨B,k,l,u,t,i⟩,Ns _⟩
 refine Ce (Ke ?_);obtain rfl:=Sj d;have F:=Sj B;subst F;have d:=ap;refine Ke (Ki (r_normal (Rv [] T0 ?_)));obtain rfl:=Sj d;have aA:=l.pk [0,1] [Bk b,p] R;have aL:=Pk (ls:=[Bk b,p]) [0,1] [Bk b,p] R;have az:=u.pick [] [] R;exact ⟨R,k,i.sub aL,aA,az,(NP.cons (t.at 0 R) (NP.nil _ _))⟩
def slices_stableCmpFunc_humpyard_api_Scheme__L12 (b:Int) (a:Int) (c:Unit):Option (Step Unit Unit):=
(if (decide ((i64.wrap (2*a))≤b))=true then
none
else
some (.done ()))
def slices_stableCmpFunc_humpyard_api_Scheme__L9 (b:Int) (d:Int):Option (Step Int Unit):=
match d with
| a=>
(if (decide (a<b))=true then
((loop (slices_stableCmpFunc_humpyard_api_Scheme__L12 b a) ()).bind fun c=>match c with
| _=>(if (decide ((i64.wrap (0+a))<b))=true then
none
else
some (.next (i64.wrap (a*2)))))
else
some (.done ()))
def slices_stableCmpFunc_humpyard_api_Scheme__L3 (e:Int) (f:(List (Int×Int×Int×Int))×Int×Int):Option (Step ((List (Int×Int×Int×Int))×Int×Int) ((List (Int×Int×Int×Int))×Int)):=
match f with
| (b,c,a)=>
(if (decide (a≤e))=true then
((slices_insertionSortCmpFunc_humpyard_api_Scheme_ b c a).bind fun d=>
(if d.length=b.length then
some (.next (d,a,i64.wrap (a+20)))
else none))
else
some (.done (b,c)))
def slices_stableCmpFunc_humpyard_api_Scheme_ (f:List (Int×Int×Int×Int)) (b:Int):Option (List (Int×Int×Int×Int)):=
((loop (slices_stableCmpFunc_humpyard_api_Scheme__L3 b) (f,0,20)).bind fun a=>match a with
| (c,e)=>((slices_insertionSortCmpFunc_humpyard_api_Scheme_ c e b).bind fun d=>
(if d.length=c.length then
((loop (slices_stableCmpFunc_humpyard_api_Scheme__L9 b) 20).bind fun a=>match a with
| _=>some d)
else none)))
theorem slices_stableCmpFunc_humpyard_api_Scheme__w (a f E e ae g c)(k:MS g [Bk a,c])(o:OwnS (eIt4) 48 g (fl [Bk a,c]) a f E)(b:slices_stableCmpFunc_humpyard_api_Scheme_ E e=some ae):CallVC Tryz.prog 78 [Vl a E f,Vi e,(.func (.func 49) #[] #[])] g fun Z l=>Z=.tuple #[]∧Ev (fl [Bk a]) g l∧OwnS (eIt4) 48 l (fl [Bk a,c]) a f ae∧MS l [Bk a,c]∧FR g.heap.size []∧NP (fl [Bk a]) g.heap.size [Bk a]:=by
 refine Cv hmx Tryz.func78 (by kernel_rfl) R (rs:=[]) R (by kernel_rfl) (args:=[Vl a E f,Vi e,(.func (.func 49) #[] #[])]) R ?_;have j:Ev (fl [Bk a]) g g:=Ev.refl _ _;have s:FR g.heap.size []:=FR.nil _;have n:NP (fl [Bk a]) g.heap.size [Bk a]:=NP.init _ _;refine Cs (Xu 1 [(6,Vi 20)] (Xk (Cs (Xu 3 [(10,Vi 20),(7,Vi 0),(8,Vi 20)] (Xk (Cq (Cb ?_)))))));obtain ⟨ah,K,ak⟩:=Bs b;obtain ⟨C,K⟩:=Lo K;refine Cl (Lr hmx (σ:=Nat×(List (Int×Int×Int×Int))×Int×Int) (fun i=>match i with | (_,m,r,h)=>[(0,Vl a m f),(1,Vi e),(2,(.func (.func 49) #[] #[])),(6,Vi 20),(7,Vi r),(8,Vi h)]) (fun i l=>match i with | (B,m,r,h)=>loopN (slices_stableCmpFunc_humpyard_api_Scheme__L3 e) B (m,r,h)=some ah∧Ev (fl [Bk a]) g l∧MS l [Bk a,c]∧FR g.heap.size []∧NP (fl [Bk a]) g.heap.size [Bk a]∧OwnS (eIt4) 48 l (fl [Bk a,c]) a f m) (fun i=>i.1) (C,E,0,20) ⟨R,R,R,R,R,R,T0⟩ ⟨K,j,k,s,n,o⟩ ?_);rintro ⟨C,m,r,h⟩ u w ⟨y,j,k,s,n,o⟩;rcases C with _ | C
 · exact (Lz y).elim
 obtain ⟨aA,b,y⟩:=Bs y;refine Cq (Cs (Xu 3 [(11,Vi h),(12,Vi e),(13,Bd (h≤e))] (Xk (Cn [(0,Vl a m f),(1,Vi e),(2,(.func (.func 49) #[] #[])),(6,Vi 20),(7,Vi r),(8,Vi h),(13,Bd (h≤e))] (fun u=>?_)))));refine Ci (decide (h≤e)) R b (fun b=>?_) (fun b=>?_)
 · refine Ck (Kt (Cb (Cs (Xu 4 [(14,Vl a m f),(15,Vi r),(16,Vi h),(17,(.func (.func 49) #[] #[]))] ?_))));obtain ⟨af,v,b⟩:=Bs b;have O:MS w ([Bk a]++[c]):=k.pk [0,1] _ R;have X:∀ p∈fl ([Bk a]++[c]),p∈fl [Bk a,c]:=Pk [0,1] _ R;have U:∀ p∈fl ([Bk a]++[(fl [c])]),p∈fl [Bk a,c]:=fun p v=>X p (Fu p v)
   have I:=slices_insertionSortCmpFunc_humpyard_api_Scheme__w a f m r h _ w (fl [c]) (O.fold (P:=[Bk a])) (o.sub U) v;refine Xc 107 #[] #[] _ _ R R R R I ?_;rintro Z ax ⟨rfl,aa,au,ap,an,ac⟩;refine I1 ?_;have Q:MS w ([Bk a]++[c]):=k.pk [0,1] _ R;replace k:MS ax [Bk a,c]:=(MS.call (P:=[Bk a]) (R:=[c]) (res:=[]) (par:=[Bk a]) Q aa ap an ac).pick [some 0,some 1] _ R;have x:∀ q∈fl [Bk a],q∈(fl [Bk a])∨g.heap.size≤q:=NP.mem (ls:=[Bk a]) (n.pk [0] _ R);have S:NP (fl [Bk a]) g.heap.size [Bk a]:=(NP.cons (fun q H=>(ac.at 0 R q H).elim (fun b=>x q b) (fun b=>.inr (Nat.le_trans j.size b))) (NP.nil _ _))
   have j:=j.then aa x;have n:=S;have o:=OwnS.plain (M':=fl [Bk a,c]) (Pp (Pi _) (Pp (Pi _) (Pp (Pi _) (Pi _)))) au;have N:=Gl b;have b:=Gr b;have Y:(Vl a m f)=(Vl a af f):=by simp only [Vl,N]
   try rw [Y]
   refine Xk (Cs (Xu 2 [(19,Vi h),(7,Vi h)] (Xk (Cp (Xu 4 [(20,Vi h),(21,Vi 20),(22,Vi (i64.wrap (h+20))),(8,Vi (i64.wrap (h+20)))] (Xe R (Kl ?_)))))));obtain rfl:=Sj b;exact Kt ⟨(C,af,h,i64.wrap (h+20)),⟨R,R,R,R,R,R,T0⟩,⟨y,j,k,s,n,o⟩,Ns _⟩
 refine Ce (Ke ?_);obtain rfl:=Sj b;have A:=Sj y;subst A;have b:=ak;refine Ke (Ki (Kt (Cn [(0,Vl a m f),(1,Vi e),(2,(.func (.func 49) #[] #[])),(6,Vi 20),(7,Vi r)] (fun u=>?_))));refine Cs (Xu 4 [(23,Vl a m f),(24,Vi r),(25,Vi e),(26,(.func (.func 49) #[] #[]))] ?_);obtain ⟨t,v,b⟩:=Bs b;have O:MS w ([Bk a]++[c]):=k.pk [0,1] _ R;have X:∀ p∈fl ([Bk a]++[c]),p∈fl [Bk a,c]:=Pk [0,1] _ R;have U:∀ p∈fl ([Bk a]++[(fl [c])]),p∈fl [Bk a,c]:=fun p v=>X p (Fu p v)
 have I:=slices_insertionSortCmpFunc_humpyard_api_Scheme__w a f m r e _ w (fl [c]) (O.fold (P:=[Bk a])) (o.sub U) v;refine Xc 107 #[] #[] _ _ R R R R I ?_;rintro Z ay ⟨rfl,ab,av,aq,ao,ad⟩;refine I1 ?_;have Q:MS w ([Bk a]++[c]):=k.pk [0,1] _ R;replace k:MS ay [Bk a,c]:=(MS.call (P:=[Bk a]) (R:=[c]) (res:=[]) (par:=[Bk a]) Q ab aq ao ad).pick [some 0,some 1] _ R;have x:∀ q∈fl [Bk a],q∈(fl [Bk a])∨g.heap.size≤q:=NP.mem (ls:=[Bk a]) (n.pk [0] _ R);have S:NP (fl [Bk a]) g.heap.size [Bk a]:=(NP.cons (fun q H=>(ad.at 0 R q H).elim (fun b=>x q b) (fun b=>.inr (Nat.le_trans j.size b))) (NP.nil _ _))
 have j:=j.then ab x;have n:=S;have o:=OwnS.plain (M':=fl [Bk a,c]) (Pp (Pi _) (Pp (Pi _) (Pp (Pi _) (Pi _)))) av;have N:=Gl b;have b:=Gr b;have Y:(Vl a m f)=(Vl a t f):=by simp only [Vl,N]
 try rw [Y]
 refine Xk (Cb ?_);obtain ⟨ai,L,al⟩:=Bs b;obtain ⟨D,L⟩:=Lo L;refine Cl (Lr hmx (σ:=Nat×Int) (fun i=>match i with | (_,d)=>[(0,Vl a t f),(1,Vi e),(2,(.func (.func 49) #[] #[])),(6,Vi d)]) (fun i l=>match i with | (B,d)=>loopN (slices_stableCmpFunc_humpyard_api_Scheme__L9 e) B d=some ai∧Ev (fl [Bk a]) g l∧MS l [Bk a,c]∧FR g.heap.size []∧NP (fl [Bk a]) g.heap.size [Bk a]∧OwnS (eIt4) 48 l (fl [Bk a,c]) a f t) (fun i=>i.1) (D,20) ⟨R,R,R,R,T0⟩ ⟨L,j,k,s,n,o⟩ ?_);rintro ⟨D,d⟩ u aD ⟨z,j,k,s,n,o⟩;rcases D with _ | D
 · exact (Lz z).elim
 obtain ⟨aB,b,z⟩:=Bs z;refine Cq (Cs (Xu 3 [(28,Vi d),(29,Vi e),(30,Bd (d<e))] (Xk (Cn [(0,Vl a t f),(1,Vi e),(2,(.func (.func 49) #[] #[])),(6,Vi d),(30,Bd (d<e))] (fun u=>?_)))));refine Ci (decide (d<e)) R b (fun b=>?_) (fun b=>?_)
 · refine Ck (Kt (Cb (Cs (Xu 4 [(31,Vi d),(32,Vi (i64.wrap (2*d))),(7,Vi 0),(8,Vi (i64.wrap (2*d)))] (Xk (Cq (Cb ?_)))))));obtain ⟨ag,J,aj⟩:=Bs b;obtain ⟨G,J⟩:=Lo J;refine Cl (Lr hmx (σ:=Nat×Unit) (fun i=>match i with | (_,_)=>[(0,Vl a t f),(1,Vi e),(2,(.func (.func 49) #[] #[])),(6,Vi d),(7,Vi 0),(8,Vi (i64.wrap (2*d)))]) (fun i l=>match i with | (B,_)=>loopN (slices_stableCmpFunc_humpyard_api_Scheme__L12 e d) B ()=some ag∧Ev (fl [Bk a]) g l∧MS l [Bk a,c]∧FR g.heap.size []∧NP (fl [Bk a]) g.heap.size [Bk a]∧OwnS (eIt4) 48 l (fl [Bk a,c]) a f t) (fun i=>i.1) (G,()) ⟨R,R,R,R,R,R,T0⟩ ⟨J,j,k,s,n,o⟩ ?_);rintro ⟨G,_⟩ u aC ⟨F,j,k,s,n,o⟩;rcases G with _ | G
   · exact (Lz F).elim
   obtain ⟨az,b,F⟩:=Bs F;refine Cq (Cs (Xu 3 [(33,Vi (i64.wrap (2*d))),(34,Vi e),(35,Bd ((i64.wrap (2*d))≤e))] (Xk (Cn [(0,Vl a t f),(1,Vi e),(2,(.func (.func 49) #[] #[])),(6,Vi d),(7,Vi 0),(8,Vi (i64.wrap (2*d))),(35,Bd ((i64.wrap (2*d))≤e))] (fun u=>?_)))));refine Ci (decide ((i64.wrap (2*d))≤e)) R b (fun b=>?_) (fun b=>?_)
   · refine Ck (Kt (Cb (Cs ?_)));cases b
   refine Ce (Ke ?_);obtain rfl:=Sj b;have A:=Sj F;subst A;have b:=aj;refine Ke (Ki (Kt (Cn [(0,Vl a t f),(1,Vi e),(2,(.func (.func 49) #[] #[])),(6,Vi d),(7,Vi 0)] (fun u=>?_))));refine Cq (Cs (Xu 4 [(49,Vi 0),(50,Vi d),(51,Vi (i64.wrap (0+d))),(9,Vi (i64.wrap (0+d)))] (Xk (Cs (Xu 3 [(52,Vi (i64.wrap (0+d))),(53,Vi e),(54,Bd ((i64.wrap (0+d))<e))] (Xk (Ci (decide ((i64.wrap (0+d))<e)) R b (fun b=>?_) (fun b=>?_))))))))
   · refine Cp ?_;cases b
   refine Ck (Kt (Cp (Xu 3 [(61,Vi d),(62,Vi (i64.wrap (d*2))),(6,Vi (i64.wrap (d*2)))] (Xe R (Kl ?_)))));obtain rfl:=Sj b;exact Kt ⟨(D,i64.wrap (d*2)),⟨R,R,R,R,T0⟩,⟨z,j,k,s,n,o⟩,Ns _⟩
 refine Ce (Ke ?_);obtain rfl:=Sj b;have A:=Sj z;subst A;have b:=al;refine Ke (Ki (r_normal (Rv [] T0 ?_)));obtain rfl:=Sj b;have ar:=k.pk [0,1] [Bk a,c] R;have aw:=Pk (ls:=[Bk a,c]) [0,1] [Bk a,c] R;have am:=s.pick [] [] R;exact ⟨R,j,o.sub aw,ar,am,(NP.cons (n.at 0 R) (NP.nil _ _))⟩
def slices_SortStableFunc_humpyard_api_Scheme_humpyard_api_Scheme_ (a:List (Int×Int×Int×Int)):Option (List (Int×Int×Int×Int)):=
((slices_stableCmpFunc_humpyard_api_Scheme_ a ((a).length:Int)).bind fun b=>
(if b.length=a.length then
some b
else none))
theorem slices_SortStableFunc_humpyard_api_Scheme_humpyard_api_Scheme__w (a e d r c b)(j:MS c [Bk a,b])(l:OwnS (eIt4) 48 c (fl [Bk a,b]) a e d)(f:slices_SortStableFunc_humpyard_api_Scheme_humpyard_api_Scheme_ d=some r):CallVC Tryz.prog 48 [Vl a d e,(.func (.func 49) #[] #[])] c fun s n=>s=.tuple #[]∧Ev (fl [Bk a]) c n∧OwnS (eIt4) 48 n (fl [Bk a,b]) a e r∧MS n [Bk a,b]∧FR c.heap.size []∧NP (fl [Bk a]) c.heap.size [Bk a]:=by
 refine Cv hmx Tryz.func48 (by kernel_rfl) R (rs:=[]) R (by kernel_rfl) (args:=[Vl a d e,(.func (.func 49) #[] #[])]) R ?_;have i:Ev (fl [Bk a]) c c:=Ev.refl _ _;have x:FR c.heap.size []:=FR.nil _;have k:NP (fl [Bk a]) c.heap.size [Bk a]:=NP.init _ _;refine Cp (Xu 2 [(4,Vl a d e),(5,Vl a d e)] (Xn (vs:=[Vl a d e]) (Vi ((d).length:Int)) R R R (Rl tsl44 _ _ _ _ _) (Xu 1 [(7,(.func (.func 49) #[] #[]))] ?_)));obtain ⟨K,m,f⟩:=Bs f;have C:MS c ([Bk a]++[b]):=j.pk [0,1] _ R;have G:∀ g∈fl ([Bk a]++[b]),g∈fl [Bk a,b]:=Pk [0,1] _ R;have F:∀ g∈fl ([Bk a]++[(fl [b])]),g∈fl [Bk a,b]:=fun g m=>G g (Fu g m)
 have u:=slices_stableCmpFunc_humpyard_api_Scheme__w a e d ((d).length:Int) _ c (fl [b]) (C.fold (P:=[Bk a])) (l.sub F) m;refine Xc 78 #[] #[] _ _ R R R R u ?_;rintro s J ⟨rfl,p,B,z,w,q⟩;refine I1 ?_;have D:MS c ([Bk a]++[b]):=j.pk [0,1] _ R;replace j:MS J [Bk a,b]:=(MS.call (P:=[Bk a]) (R:=[b]) (res:=[]) (par:=[Bk a]) D p z w q).pick [some 0,some 1] _ R;have o:∀ h∈fl [Bk a],h∈(fl [Bk a])∨c.heap.size≤h:=NP.mem (ls:=[Bk a]) (k.pk [0] _ R);have E:NP (fl [Bk a]) c.heap.size [Bk a]:=(NP.cons (fun h t=>(q.at 0 R h t).elim (fun f=>o h f) (fun f=>.inr (Nat.le_trans i.size f))) (NP.nil _ _))
 have i:=i.then p o;have k:=E;have l:=OwnS.plain (M':=fl [Bk a,b]) (Pp (Pi _) (Pp (Pi _) (Pp (Pi _) (Pi _)))) B;have y:=Gl f;have f:=Gr f;have H:(Vl a d e)=(Vl a K e):=by simp only [Vl,y]
 try rw [H]
 refine Xe R (r_normal (Rv [] T0 ?_));obtain rfl:=Sj f;have A:=j.pk [0,1] [Bk a,b] R;have I:=Pk (ls:=[Bk a,b]) [0,1] [Bk a,b] R;have v:=x.pick [] [] R;exact ⟨R,i,l.sub I,A,v,(NP.cons (k.at 0 R) (NP.nil _ _))⟩
end Go.Proofs.YtlejnkhaphlooaaGreat
