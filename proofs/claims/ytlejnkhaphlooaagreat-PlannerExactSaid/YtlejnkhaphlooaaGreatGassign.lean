
/- Walks, printed by program: each function returns what the partial function of the same name returns. Conditions: those of each theorem. -/
import Derived.Test.YtlejnkhaphlooaaGreatGT
import Derived.Test.YtlejnkhaphlooaaGreatGslassign
import Derived.Test.YtlejnkhaphlooaaGreatGslices
set_option linter.unusedVariables false
set_option linter.unusedSimpArgs false
set_option maxRecDepth 4000
namespace Go.Proofs.YtlejnkhaphlooaaGreat
open Go Go.V Go.Proofs Go.IntKind
def assign_check_L9 (b:List Int) (d:Int):Option (Step Int (Unit⊕Unit)):=
match d with
| a=>
(if (decide (a<((b).length:Int)))=true then
((idx b a).bind fun c=>
(if (decide (c<1))=true then
some (.done (.inl ()))
else
(if (decide (c>38400))=true then
some (.done (.inl ()))
else
some (.next (i64.wrap (a+1))))))
else
some (.done (.inr ())))
def assign_check_L5 (b:List Int) (d:Int):Option (Step Int (Unit⊕Unit)):=
match d with
| a=>
(if (decide (a<((b).length:Int)))=true then
((idx b a).bind fun c=>
(if (decide (c<0))=true then
some (.done (.inl ()))
else
(if (decide (c>38400))=true then
some (.done (.inl ()))
else
some (.next (i64.wrap (a+1))))))
else
some (.done (.inr ())))
def assign_check (b:List Int) (c:List Int):Option Int:=
(if (decide (((b).length:Int)>32))=true then
some 3
else
(if (decide (((c).length:Int)>32))=true then
some 3
else
((loop (assign_check_L5 b) 0).bind fun a=>match a with
| (.inl _)=>some 2
| (.inr _)=>((loop (assign_check_L9 c) 0).bind fun a=>match a with
| (.inl _)=>some 2
| (.inr _)=>some 0))))
theorem assign_check_w (h i c d e b G g q)(w:MS g [q])(z:SlR eI g (fl [q]) h i c)(t:SlR eI g (fl [q]) d e b)(a:assign_check c b=some G):CallVC Tryz.prog 71 [Vl h c i,Vl d b e] g fun S n=>S=Vi G∧Ev [] g n:=by
 refine Cv hmx Tryz.func71 (by kernel_rfl) R (rs:=[.tmp 4]) R (by kernel_rfl) (args:=[Vl h c i,Vl d b e]) R ?_;have f:Ev [] g g:=Ev.refl _ _;have v:FR g.heap.size []:=FR.nil _;refine Cs (Xu 1 [(4,Vi 0)] (Xk (Cq (Cs (Xu 1 [(9,Vl h c i)] (Xn (vs:=[Vl h c i]) (Vi ((c).length:Int)) R R R (Rl tsl22 _ _ _ _ _) (Xu 2 [(11,Bd (((c).length:Int)>32)),(12,Bd (((c).length:Int)>32))] (Xw 12 (decide (((c).length:Int)>32)) R a (fun a=>?_) (fun a=>?_)))))))))
 · refine Xu 4 [(13,U0),(14,U0),(15,U0),(16,.bool true)] (Xk (c_true R (Cs (Xu 1 [(4,Vi 3)] (Xk (Cr (Kr (Rr (Rv [Vi 3] ⟨R,T0⟩ ?_)))))))));obtain rfl:=Sj a;exact ⟨R,f⟩
 refine Xu 1 [(13,Vl d b e)] (Xn (vs:=[Vl d b e]) (Vi ((b).length:Int)) R R R (Rl tsl22 _ _ _ _ _) (Xu 2 [(15,Bd (((b).length:Int)>32)),(16,Bd (((b).length:Int)>32))] (Xk (Ci (decide (((b).length:Int)>32)) R a (fun a=>?_) (fun a=>?_)))))
 · refine Cs (Xu 1 [(4,Vi 3)] (Xk (Cr (Kr (Rr (Rv [Vi 3] ⟨R,T0⟩ ?_))))));obtain rfl:=Sj a;exact ⟨R,f⟩
 refine Ck (Kt (Cq (Cs (Xu 1 [(17,Vl h c i)] (Xn (vs:=[Vl h c i]) (Vi ((c).length:Int)) R R R (Rl tsl22 _ _ _ _ _) (Xu 1 [(19,Vi 0)] (Xk (Cn [(1,Vl d b e),(17,Vl h c i),(18,Vi ((c).length:Int)),(19,Vi 0)] (fun u=>?_)))))))));refine Cb ?_;obtain ⟨H,D,A⟩:=Bs a;obtain ⟨x,D⟩:=Lo D;refine Cl (Lr hmx (σ:=Nat×Int) (fun k=>match k with | (_,l)=>[(1,Vl d b e),(17,Vl h c i),(18,Vi ((c).length:Int)),(19,Vi l)]) (fun k n=>match k with | (F,l)=>loopN (assign_check_L5 c) F l=some H∧Ev [] g n∧MS n [q]∧FR g.heap.size []∧SlR eI n (fl [q]) d e b∧SlR eI n (fl [q]) h i c) (fun k=>k.1) (x,0) ⟨R,R,R,R,T0⟩ ⟨D,f,w,v,t,z⟩ ?_);rintro ⟨x,l⟩ u ac ⟨r,f,w,v,t,z⟩;rcases x with _ | x
 · exact (Lz r).elim
 obtain ⟨aa,a,r⟩:=Bs r;refine Cs (Xu 1 [(20,Bd (l<((c).length:Int)))] (Xk (Cn [(1,Vl d b e),(17,Vl h c i),(18,Vi ((c).length:Int)),(19,Vi l),(20,Bd (l<((c).length:Int)))] (fun u=>?_))));refine Cq (Ci (decide (l<((c).length:Int))) R a (fun a=>?_) (fun a=>?_))
 · refine Ck (Kt (Cq (Cb (Cs ?_))));obtain ⟨p,Q,a⟩:=Bs a;obtain ⟨X,Z,N,K,C⟩:=Ri (Mo:=[]) tsl22 z Q;obtain rfl:=C;refine Yi _ _ _ R N (Yl _ (Vi p) R (Rc tcell3 K (fun _ a=>by cases a)) ?_);refine Xu 1 [(6,Vi p)] (Xk (Cs (Xu 3 [(23,Vi p),(24,Bd (p<0)),(25,Bd (p<0))] (Xw 25 (decide (p<0)) R a (fun a=>?_) (fun a=>?_)))))
   · refine Xu 3 [(26,U0),(27,U0),(28,.bool true)] (Xk (c_true R (Cs (Xu 1 [(4,Vi 2)] (Xk (Cr (Kb (Kr ?_))))))));obtain rfl:=Sj a;have j:=Sj r;subst j;have a:=A;refine Kr (Kb (Kr (Rr (Rv [Vi 2] ⟨R,T0⟩ ?_))));obtain rfl:=Sj a;exact ⟨R,f⟩
   refine Xu 3 [(26,Vi p),(27,Bd (p>38400)),(28,Bd (p>38400))] (Xk (Ci (decide (p>38400)) R a (fun a=>?_) (fun a=>?_)))
   · refine Cs (Xu 1 [(4,Vi 2)] (Xk (Cr (Kb (Kr ?_)))));obtain rfl:=Sj a;have j:=Sj r;subst j;have a:=A;refine Kr (Kb (Kr (Rr (Rv [Vi 2] ⟨R,T0⟩ ?_))));obtain rfl:=Sj a;exact ⟨R,f⟩
   refine Ck (Kl (Kt (Cp (Xu 2 [(29,Vi (i64.wrap (l+1))),(19,Vi (i64.wrap (l+1)))] (Xe R ?_)))));obtain rfl:=Sj a;exact Kt ⟨(x,i64.wrap (l+1)),⟨R,R,R,R,T0⟩,⟨r,f,w,v,t,z⟩,Ns _⟩
 refine Ce (Ke ?_);obtain rfl:=Sj a;have j:=Sj r;subst j;have a:=A;refine Ke (Ki (Kt (Cn [(1,Vl d b e)] (fun u=>?_))));refine Cq (Cs (Xu 1 [(30,Vl d b e)] (Xn (vs:=[Vl d b e]) (Vi ((b).length:Int)) R R R (Rl tsl22 _ _ _ _ _) (Xu 1 [(32,Vi 0)] (Xk (Cb ?_))))));obtain ⟨I,E,B⟩:=Bs a;obtain ⟨y,E⟩:=Lo E;refine Cl (Lr hmx (σ:=Nat×Int) (fun k=>match k with | (_,m)=>[(30,Vl d b e),(31,Vi ((b).length:Int)),(32,Vi m)]) (fun k n=>match k with | (F,m)=>loopN (assign_check_L9 b) F m=some I∧Ev [] g n∧MS n [q]∧FR g.heap.size []∧SlR eI n (fl [q]) d e b) (fun k=>k.1) (y,0) ⟨R,R,R,T0⟩ ⟨E,f,w,v,t⟩ ?_);rintro ⟨y,m⟩ u ad ⟨s,f,w,v,t⟩;rcases y with _ | y
 · exact (Lz s).elim
 obtain ⟨ab,a,s⟩:=Bs s;refine Cs (Xu 1 [(33,Bd (m<((b).length:Int)))] (Xk (Cn [(30,Vl d b e),(31,Vi ((b).length:Int)),(32,Vi m),(33,Bd (m<((b).length:Int)))] (fun u=>?_))));refine Cq (Ci (decide (m<((b).length:Int))) R a (fun a=>?_) (fun a=>?_))
 · refine Ck (Kt (Cq (Cb (Cs ?_))));obtain ⟨o,O,a⟩:=Bs a;obtain ⟨U,Y,L,J,C⟩:=Ri (Mo:=[]) tsl22 t O;obtain rfl:=C;refine Yi _ _ _ R L (Yl _ (Vi o) R (Rc tcell3 J (fun _ a=>by cases a)) ?_);refine Xu 1 [(8,Vi o)] (Xk (Cs (Xu 3 [(36,Vi o),(37,Bd (o<1)),(38,Bd (o<1))] (Xw 38 (decide (o<1)) R a (fun a=>?_) (fun a=>?_)))))
   · refine Xu 3 [(39,U0),(40,U0),(41,.bool true)] (Xk (c_true R (Cs (Xu 1 [(4,Vi 2)] (Xk (Cr (Kb (Kr ?_))))))));obtain rfl:=Sj a;have j:=Sj s;subst j;have a:=B;refine Kr (Kb (Kr (Rr (Rv [Vi 2] ⟨R,T0⟩ ?_))));obtain rfl:=Sj a;exact ⟨R,f⟩
   refine Xu 3 [(39,Vi o),(40,Bd (o>38400)),(41,Bd (o>38400))] (Xk (Ci (decide (o>38400)) R a (fun a=>?_) (fun a=>?_)))
   · refine Cs (Xu 1 [(4,Vi 2)] (Xk (Cr (Kb (Kr ?_)))));obtain rfl:=Sj a;have j:=Sj s;subst j;have a:=B;refine Kr (Kb (Kr (Rr (Rv [Vi 2] ⟨R,T0⟩ ?_))));obtain rfl:=Sj a;exact ⟨R,f⟩
   refine Ck (Kl (Kt (Cp (Xu 2 [(42,Vi (i64.wrap (m+1))),(32,Vi (i64.wrap (m+1)))] (Xe R ?_)))));obtain rfl:=Sj a;exact Kt ⟨(y,i64.wrap (m+1)),⟨R,R,R,T0⟩,⟨s,f,w,v,t⟩,Ns _⟩
 refine Ce (Ke ?_);obtain rfl:=Sj a;have j:=Sj s;subst j;have a:=B;refine Ke (Ki (Kt (c_norm [] T0 (fun u=>?_))));refine Cs (Xu 1 [(4,Vi 0)] (Xk (Cr (Rr (Rv [Vi 0] ⟨R,T0⟩ ?_)))));obtain rfl:=Sj a;exact ⟨R,f⟩
def assign_order_L5 (c:List Int) (d:(List Int)×Int):Option (Step ((List Int)×Int) (List Int)):=
match d with
| (b,a)=>
(if (decide (a<((c).length:Int)))=true then
((idx c a).bind fun e=>
(if (decide (e>0))=true then
(if b.length+([a]).length≤4294967296 then
some (.next ((b++[a]),i64.wrap (a+1)))
else none)
else
some (.next (b,i64.wrap (a+1)))))
else
some (.done b))
def assign_order (b:List Int):Option (List Int):=
((loop (assign_order_L5 b) (([]:List Int),0)).bind fun d=>match d with
| a=>((slices_SortStableFunc_int_int_ a b).bind fun c=>
(if c.length=a.length then
some c
else none)))
theorem assign_order_w (r s g aa q e)(h:MS q [e])(n:SlR eI q (fl [e]) r s g)(b:assign_order g=some aa):CallVC Tryz.prog 117 [Vl r g s] q fun ai w=>∃ B af,ai=Vl B aa af∧Ev [] q w∧MS w [Bk B,e]∧FR q.heap.size [Bk B]∧OwnS eI 3 w (fl [Bk B,e]) B af aa:=by
 refine Cv hmx Tryz.func117 (by kernel_rfl) R (rs:=[.tmp 2]) R (by kernel_rfl) (args:=[Vl r g s]) R ?_;have j:Ev [] q q:=Ev.refl _ _;have m:FR q.heap.size []:=FR.nil _;refine Cs (Yb _ R (fun d ac Y p N aX=>?_));replace p:ac.heap[d]? = some (.cells #[Vl r g s] 22 (0,0)):=p;refine I1 ?_;have v:=Stp.box (ls:=[e]) N Y;have n:=n.step v;have h:=h.box N Y p;have m:=m.box j.size Y;have j:=j.ext N;refine Xu 1 [(2,Z0)] (Xk (Cs (Xu 1 [(3,Z0)] (Xk (Cq (Cs (Yl _ (Vl r g s) R (Rb tcell22 p nn 0 _ R) (Xn (vs:=[Vl r g s]) (Vi ((g).length:Int)) R R R (Rl tsl22 _ _ _ _ _) (Xu 1 [(8,Vi 0)] ?_)))))))));refine Xk (Cb ?_);have v:=Stp.push (ls:=[[d],e]) (l:=Bk none) (Ev.refl [] ac) (fun _ b=>by cases b) (fun _ b=>by cases b);have n:=n.step v;have p:=(Ev.refl [] _).box p nn;have h:=h.push (l:=Bk none) (Ev.refl [] _) (fun _ b=>by cases b);have m:=m.push (l:=Bk none) (fun _ b=>by cases b);have U:=OwnS.nil eI 3 ac (fl [Bk none,[d],e]);have X:=h.pk [1,0,2] [[d],Bk none,e] R;have G:=Pk (ls:=[Bk none,[d],e]) [1,0,2] [[d],Bk none,e] R;have n:=n.sub G;have U:=U.sub G;have h:=X;have m:=m.pk [1,0] [[d],Bk none] R;obtain ⟨ak,L,al⟩:=Bs b;obtain ⟨z,L⟩:=Lo L;refine Cl (Lr hmx (σ:=Nat×(List Int)×Int×Option Addr×Nat) (fun D=>match D with | (_,k,f,a,i)=>[(1,Vp d 0),(3,Vl a k i),(6,Vl r g s),(7,Vi ((g).length:Int)),(8,Vi f)]) (fun D w=>match D with | (aK,k,f,a,i)=>loopN (assign_order_L5 g) aK (k,f)=some ak∧Ev [] q w∧MS w [[d],Bk a,e]∧FR q.heap.size [[d],Bk a]∧SlR eI w (fl [[d],Bk a,e]) r s g∧w.heap[d]? = some (.cells #[Vl r g s] 22 (0,0))∧OwnS eI 3 w (fl [[d],Bk a,e]) a i k) (fun D=>D.1) (z,([]:List Int),0,none,0) ⟨R,R,R,R,R,T0⟩ ⟨L,j,h,m,n,p,U⟩ ?_);rintro ⟨z,k,f,a,i⟩ I ad ⟨y,j,h,m,n,p,u⟩;rcases z with _ | z
 · exact (Lz y).elim
 obtain ⟨aY,b,y⟩:=Bs y;refine Cs (Xu 1 [(9,Bd (f<((g).length:Int)))] (Xk (Cn [(1,Vp d 0),(3,Vl a k i),(6,Vl r g s),(7,Vi ((g).length:Int)),(8,Vi f),(9,Bd (f<((g).length:Int)))] (fun I=>?_))));refine Cq (Ci (decide (f<((g).length:Int))) R b (fun b=>?_) (fun b=>?_))
 · refine Ck (Kt (Cq (Cb (Cs (Xu 1 [(10,Vi f)] ?_)))));obtain ⟨E,aI,b⟩:=Bs b;obtain ⟨aN,aO,aC,ao,am⟩:=Ri (Mo:=[]) tsl22 n aI;obtain rfl:=am;refine Yi _ _ _ R aC (Yl _ (Vi E) R (Rc tcell3 ao (fun _ b=>by cases b)) ?_);refine Xu 2 [(4,Vi f),(5,Vi E)] (Xk (Cs (Xu 2 [(13,Vi E),(14,Bd (E>0))] (Xk (Ci (decide (E>0)) R b (fun b=>?_) (fun b=>?_))))))
   · refine Cp (Xu 2 [(15,Vl a k i),(16,Vi f)] (Xb (vs:=[(0,Vi f)]) #[Vi f] 3 R R R (by kernel_rfl) (fun ae aj aB an C aU=>?_)));refine I1 ?_;have ay:=h;have v:=Stp.ext (ls:=[[d],Bk a,e]) C;have p:=C.box p nn;have n:=n.step v;have u:=u.step v C nn2;have h:=h.ev C;have j:=j.ext C;have aE:SlR eI aj (fl [[d],Bk a,e]) (Ad ae 0) 1 ([f]):=ro_of_box ay aB an R R (cells_at (cs:=[Vi f]) (CellsOf.cons (c:=[Vi f]) R CellsOf.nil));have au:=Gl b;have b:=Gr b;obtain ⟨x,J,ab,aD,F,Q,aQ,aH⟩:=own_appendN tel22 22 u (Mf 1 R) aE au;refine x_builtin (vs:=[Vl a k i,Vl (Ad ae 0) ([f]) 1]) _ ab R R R R (run_value _ _ _ _ aD) (I1 ?_);have v:Stp (fl [[d],Bk a,e]) aj (fl [[d],Bk x,e]) ab:=Stp.upd 1 F R (fun o t=>(Q o t).1);have p:=F.box p (h.apart 0 1 R R R _ mem1);have n:=n.step v;replace h:MS ab [[d],Bk x,e]:=h.upd 1 F R Q;have O:FR q.heap.size [[d],Bk x]:=m.upd 1 R j.size (fun o t=>(Q o t).1);have j:=j.then F (fun o t=>.inr (m.at 1 R o t));have m:=O;have u:=aH (fl [[d],Bk x,e]) v.new;refine Xu 1 [(3,Vl x ((k++[f])) J)] (Xe R (Kl (Kt (Cn [(1,Vp d 0),(3,Vl x ((k++[f])) J),(6,Vl r g s),(7,Vi ((g).length:Int)),(8,Vi f)] (fun I=>?_)))));refine Cp (Xu 2 [(19,Vi (i64.wrap (f+1))),(8,Vi (i64.wrap (f+1)))] (Xe R ?_));obtain rfl:=Sj b;exact Kt ⟨(z,(k++[f]),i64.wrap (f+1),x,J),⟨R,R,R,R,R,T0⟩,⟨y,j,h,m,n,p,u⟩,Ns _⟩
   refine Ck (Kl (Kt (Cp (Xu 2 [(19,Vi (i64.wrap (f+1))),(8,Vi (i64.wrap (f+1)))] (Xe R ?_)))));obtain rfl:=Sj b;exact Kt ⟨(z,k,i64.wrap (f+1),a,i),⟨R,R,R,R,R,T0⟩,⟨y,j,h,m,n,p,u⟩,Ns _⟩
 refine Ce (Ke ?_);obtain rfl:=Sj b;have aJ:=Sj y;subst aJ;have b:=al;refine Ke (Ki (Kt (Cn [(1,Vp d 0),(3,Vl a k i)] (fun I=>?_))));refine Cs (Xu 1 [(20,Vl a k i)] (x_makeFunc 132 #[] #[Vp d 0] R R R R ?_));obtain ⟨H,Z,b⟩:=Bs b;have X:MS ad ([Bk a,[d]]++[e]):=h.pk [1,0,2] _ R;have aF:∀ A∈fl ([Bk a,[d]]++[e]),A∈fl [[d],Bk a,e]:=Pk [1,0,2] _ R;have ah:∀ A∈fl ([Bk a,[d]]++[(fl [e])]),A∈fl [[d],Bk a,e]:=fun A Z=>aF A (Fu A Z)
 have ap:=slices_SortStableFunc_int_int__w a i k d r s g _ ad (fl [e]) (X.fold (P:=[Bk a,[d]])) (u.sub ah) (n.sub ah) p Z;refine Xc 131 #[] #[] _ _ R R R R ap ?_;rintro ai aL ⟨rfl,ag,az,aS,aw,ar,S⟩;refine I1 ?_;have aA:MS ad ([Bk a,[d]]++[e]):=h.pk [1,0,2] _ R;replace h:MS aL [[d],Bk a,e]:=(MS.call (P:=[Bk a,[d]]) (R:=[e]) (res:=[]) (par:=[Bk a,[d]]) aA ag aw ar S).pick [some 1,some 0,some 2] _ R;have K:∀ o∈fl [Bk a,[d]],q.heap.size≤o:=FR.mem (ls:=[Bk a,[d]]) (m.pk [1,0] _ R);have O:FR q.heap.size [[d],Bk a]:=(FR.cons (fun o t=>(S.at 1 R o t).elim (fun b=>K o b) (fun b=>Nat.le_trans j.size b)) (FR.cons (fun o t=>(S.at 0 R o t).elim (fun b=>K o b) (fun b=>Nat.le_trans j.size b)) (FR.nil _)))
 have j:=j.then ag (fun o t=>.inr (K o t));have m:=O;have u:=OwnS.plain (M':=fl [[d],Bk a,e]) (Pi _) az;have av:=Gl b;have b:=Gr b;have aG:(Vl a k i)=(Vl a H i):=by simp only [Vl,av]
 try rw [aG]
 refine Xk (Cs (Xu 2 [(23,Vl a H i),(2,Vl a H i)] (Xk (Cr (Rr (Rv [Vl a H i] ⟨R,T0⟩ ?_))))));obtain rfl:=Sj b;have ax:=h.pk [1,2] [Bk a,e] R;have G:=Pk (ls:=[[d],Bk a,e]) [1,2] [Bk a,e] R;have aq:=m.pk [1] [Bk a] R;exact ⟨a,i,R,j,ax,aq,u.sub G⟩
def assign_Match_L23 (f:List Int) (c:List Int) (e:List Bool) (h:Int) (g:Int×Int):Option (Step (Int×Int) Int):=
match g with
| (b,a)=>
(if (decide (a<((c).length:Int)))=true then
((idx c a).bind fun d=>
((idx e a).bind fun i=>
(if (!i)=true then
((idx f h).bind fun j=>
(if (decide (d≥j))=true then
(if (decide (b<0))=true then
some (.next (a,i64.wrap (a+1)))
else
((idx c b).bind fun k=>
(if (decide (d<k))=true then
some (.next (a,i64.wrap (a+1)))
else
some (.next (b,i64.wrap (a+1))))))
else
some (.next (b,i64.wrap (a+1)))))
else
some (.next (b,i64.wrap (a+1))))))
else
some (.done b))
def assign_Match_L18 (i:List Int) (j:List Int) (c:(List Int)) (k:(List Int)×(List Bool)×Int):Option (Step ((List Int)×(List Bool)×Int) ((List Int)⊕(List Int))):=
match k with
| (e,d,a)=>
(if (decide (a<((c).length:Int)))=true then
((idx c a).bind fun f=>
((loop (assign_Match_L23 i j d f) ((-1),0)).bind fun h=>match h with
| b=>(if (decide (b<0))=true then
(if 0≤(0:Int)∧(0:Int)≤i64.wrap (a+1)∧i64.wrap (a+1)≤(c.length:Int) then
((slices_Clone_int_int_ ((c.drop (Int.toNat (0:Int))).take (Int.toNat (i64.wrap (a+1))-Int.toNat (0:Int)))).bind fun g=>
(if g≠[]∧g.length≤4294967296 then
some (.done (.inl (sortI g)))
else none))
else none)
else
((idx d b).bind fun l=>
((idx e f).bind fun m=>
some (.next ((e.set (Int.toNat f) b),(d.set (Int.toNat b) true),i64.wrap (a+1))))))))
else
some (.done (.inr e)))
def assign_Match_L9 (c:List Int) (d:(List Int)×Int):Option (Step ((List Int)×Int) (List Int)):=
match d with
| (b,a)=>
(if (decide (a<(((List.replicate (Int.toNat ((c).length:Int)) 0:List Int)).length:Int)))=true then
((idx b a).bind fun e=>
some (.next ((b.set (Int.toNat a) (-1)),i64.wrap (a+1))))
else
some (.done b))
def assign_Match (a:List Int) (b:List Int):Option ((List Int)×(List Int)×Int):=
((assign_check a b).bind fun d=>
(if (d != 0)=true then
some ([],[],d)
else
(if (0:Int)≤((a).length:Int)∧(((a).length:Int):Int)≤4294967296 then
((loop (assign_Match_L9 a) ((List.replicate (Int.toNat ((a).length:Int)) 0:List Int),0)).bind fun c=>match c with
| g=>(if (0:Int)≤((b).length:Int)∧(((b).length:Int):Int)≤4294967296 then
((assign_order a).bind fun h=>
((loop (assign_Match_L18 a b h) (g,(List.replicate (Int.toNat ((b).length:Int)) false:List Bool),0)).bind fun c=>match c with
| (.inl e)=>some ([],e,14)
| (.inr f)=>some (f,[],0)))
else none))
else none)))
theorem assign_Match_w (z A j p q h am N d)(i:MS N [d])(s:SlR eI N (fl [d]) z A j)(t:SlR eI N (fl [d]) p q h)(a:assign_Match j h=some am):CallVC Tryz.prog 88 [Vl z j A,Vl p h q] N fun aB B=>∃ aj aZ ak a0,aB=.tuple #[Vl aj am.1 aZ,Vl ak am.2.1 a0,Vi am.2.2]∧Ev [] N B∧MS B [Bk aj,Bk ak,d]∧FR N.heap.size [Bk aj,Bk ak]∧OwnS eI 3 B (fl [Bk aj,Bk ak,d]) aj aZ am.1∧OwnS eI 3 B (fl [Bk aj,Bk ak,d]) ak a0 am.2.1:=by
 refine Cv hmx Tryz.func88 (by kernel_rfl) R (rs:=[.tmp 4,.tmp 5,.tmp 6]) R (by kernel_rfl) (args:=[Vl z j A,Vl p h q]) R ?_;have n:Ev [] N N:=Ev.refl _ _;have r:FR N.heap.size []:=FR.nil _;refine Cs (Xu 3 [(4,Z0),(5,Z0),(6,Vi 0)] (Xk (Cq (Cs (Xu 2 [(16,Vl z j A),(17,Vl p h q)] ?_)))));obtain ⟨af,ax,a⟩:=Bs a;have ag:=assign_check_w z A j p q h _ N (fl [d]) (MS.fold (P:=[]) i) (s.sub fl1) (t.sub fl1) ax;refine Xc 71 #[] #[] _ _ R R R R ag ?_;rintro aB bZ ⟨rfl,aL⟩;refine I1 ?_;have x:=Stp.ext (ls:=[d]) aL;have s:=s.step x;have t:=t.step x;have i:=i.ev aL;have n:=n.ext aL;refine Xu 1 [(7,Vi af)] (Xk (Cs (Xu 2 [(19,Vi af),(20,.bool (af != 0))] (Xk (Ci (af != 0) R a (fun a=>?_) (fun a=>?_))))))
 · refine Cs (Xu 4 [(21,Vi af),(4,Z0),(5,Z0),(6,Vi af)] (Xk (Cn [(4,Z0),(5,Z0),(6,Vi af)] (fun O=>?_))));refine Cr (Kr (Rr (Rv [Z0,Z0,Vi af] ⟨R,R,R,T0⟩ ?_)));obtain rfl:=Sj a;have av:=i.pick [none,none,some 0] [Bk none,Bk none,d] R;have au:=r.pick [none,none] [Bk none,Bk none] R;exact ⟨none,0,none,0,R,n,av,au,OwnS.nil _ _ _ _,OwnS.nil _ _ _ _⟩
 refine Ck (Kt (Cs (Xu 1 [(22,Vl z j A)] (Xn (vs:=[Vl z j A]) (Vi ((j).length:Int)) R R R (Rl tsl22 _ _ _ _ _) ?_))));have ab:=Gl a;have a:=Gr a;obtain ⟨b,u,b0,bH,aN,aU,bK⟩:=own_make (e:=eI) tel22 bZ ((j).length:Int) ab.1 ab.2 0 (fun _ _=>R);refine Xm _ b0 (xv:=Vi ((j).length:Int)) (yv:=Vi ((j).length:Int)) R R R R bH (I1 ?_);have x:=Stp.push (ls:=[d]) (l:=Bk b) aN (fun _ a=>by cases a) (fun Q S=>(aU Q S).1);have s:=s.step x;have t:=t.step x;have i:=i.push aN aU;have r:=r.push (fun Q S=>Nat.le_trans n.size (aU Q S).1);have n:=n.ext aN;have w:=bK (fl [Bk b,d]);refine Xu 1 [(4,Vl b ((List.replicate (Int.toNat ((j).length:Int)) 0:List Int)) u)] (Xk (Cn [(0,Vl z j A),(1,Vl p h q),(4,Vl b ((List.replicate (Int.toNat ((j).length:Int)) 0:List Int)) u)] (fun O=>?_)));refine Cq (Cs (Xu 1 [(25,Vl b ((List.replicate (Int.toNat ((j).length:Int)) 0:List Int)) u)] (Xn (vs:=[Vl b ((List.replicate (Int.toNat ((j).length:Int)) 0:List Int)) u]) (Vi (((List.replicate (Int.toNat ((j).length:Int)) 0:List Int)).length:Int)) R R R (Rl tsl22 _ _ _ _ _) (Xu 1 [(27,Vi 0)] (Xk (Cb ?_))))));obtain ⟨bc,aJ,be⟩:=Bs a;obtain ⟨aA,aJ⟩:=Lo aJ;refine Cl (Lr hmx (σ:=Nat×(List Int)×Int) (fun J=>match J with | (_,Y,L)=>[(0,Vl z j A),(1,Vl p h q),(4,Vl b Y u),(26,Vi (((List.replicate (Int.toNat ((j).length:Int)) 0:List Int)).length:Int)),(27,Vi L)]) (fun J B=>match J with | (ay,Y,L)=>loopN (assign_Match_L9 j) ay (Y,L)=some bc∧Ev [] N B∧MS B [Bk b,d]∧FR N.heap.size [Bk b]∧SlR eI B (fl [Bk b,d]) z A j∧SlR eI B (fl [Bk b,d]) p q h∧OwnS eI 3 B (fl [Bk b,d]) b u Y) (fun J=>J.1) (aA,(List.replicate (Int.toNat ((j).length:Int)) 0:List Int),0) ⟨R,R,R,R,R,T0⟩ ⟨aJ,n,i,r,s,t,w⟩ ?_);rintro ⟨aA,Y,L⟩ O b1 ⟨aw,n,i,r,s,t,w⟩;rcases aA with _ | aA
 · exact (Lz aw).elim
 obtain ⟨cp,a,aw⟩:=Bs aw;refine Cs (Xu 1 [(28,.bool (decide (L<(((List.replicate (Int.toNat ((j).length:Int)) 0:List Int)).length:Int))))] (Xk (Cn [(0,Vl z j A),(1,Vl p h q),(4,Vl b Y u),(26,Vi (((List.replicate (Int.toNat ((j).length:Int)) 0:List Int)).length:Int)),(27,Vi L),(28,.bool (decide (L<(((List.replicate (Int.toNat ((j).length:Int)) 0:List Int)).length:Int))))] (fun O=>?_))));refine Cq (Ci (decide (L<(((List.replicate (Int.toNat ((j).length:Int)) 0:List Int)).length:Int))) R a (fun a=>?_) (fun a=>?_))
 · refine Ck (Kt (Cq (Cb (Cs (Xu 2 [(29,Vi L),(8,Vi L)] (Xk (Cp (Xu 2 [(30,Vl b Y u),(31,Vi L)] ?_))))))));obtain ⟨cu,a5,a⟩:=Bs a;obtain ⟨cd,b5,bf,bt,ck,F⟩:=Oi (Mo:=[]) tsl22 w a5;obtain rfl:=F;refine Yi _ _ _ R bt ?_;obtain ⟨bU,bu,aK,bq⟩:=own_storeE bf (y:=(-1)) 0 (Vi (-1)) tcell3 w (Mf 0 R) a5 R R (fun _ _ _ F=>set_int F);refine Ys bU _ _ R bu (I1 ?_);have x:=Stp.ev' (ls:=[Bk b,d]) aK (Mf 0 R);have s:=s.step x;have t:=t.step x;have i:=i.ev aK;have n:=n.then aK (fun Q S=>.inr (r.at 0 R Q S));have w:=bq;have ah:(Vl b Y u)=(Vl b ((Y.set (Int.toNat L) (-1))) u):=by simp only [Vl,List.length_set]
   try rw [ah]
   refine Xe R (Kl (Kt (Cp (Xu 2 [(33,Vi (i64.wrap (L+1))),(27,Vi (i64.wrap (L+1)))] (Xe R ?_)))));obtain rfl:=Sj a;exact Kt ⟨(aA,(Y.set (Int.toNat L) (-1)),i64.wrap (L+1)),⟨R,R,R,R,R,T0⟩,⟨aw,n,i,r,s,t,w⟩,Ns _⟩
 refine Ce (Ke ?_);obtain rfl:=Sj a;have ai:=Sj aw;subst ai;have a:=be;refine Ke (Ki (Kt (Cn [(0,Vl z j A),(1,Vl p h q),(4,Vl b Y u)] (fun O=>?_))));refine Cs (Xu 1 [(34,Vl p h q)] (Xn (vs:=[Vl p h q]) (Vi ((h).length:Int)) R R R (Rl tsl22 _ _ _ _ _) ?_));have ab:=Gl a;have a:=Gr a;obtain ⟨c,K,a8,bv,aD,aS,bI⟩:=own_make (e:=eBool) tel111 b1 ((h).length:Int) ab.1 ab.2 false (fun _ _=>R);refine Xm _ a8 (xv:=Vi ((h).length:Int)) (yv:=Vi ((h).length:Int)) R R R R bv (I1 ?_);have x:=Stp.push (ls:=[Bk b,d]) (l:=Bk c) aD (fun _ a=>by cases a) (fun Q S=>(aS Q S).1);have s:=s.step x;have t:=t.step x;have w:=w.step x aD nn2;have i:=i.push aD aS;have r:=r.push (fun Q S=>Nat.le_trans n.size (aS Q S).1);have n:=n.ext aD;have H:=bI (fl [Bk c,Bk b,d]);refine Xu 1 [(9,Vl c ((List.replicate (Int.toNat ((h).length:Int)) false:List Bool)) K)] (Xk (Cs (Xu 1 [(37,Vl z j A)] ?_)));obtain ⟨k,ax,a⟩:=Bs a;have ag:=assign_order_w z A j _ a8 (fl [Bk c,Bk b,d]) (MS.fold (P:=[]) i) (s.sub fl1) ax;refine Xc 117 #[] #[] _ _ R R R R ag ?_;rintro aB cq ⟨g,C,rfl,ao,bo,aO,E⟩;refine I1 ?_;have x:=Stp.call0 [Bk c,Bk b,d] [Bk g] [Bk g,Bk c,Bk b,d] ao aO R;have s:=s.step x;have t:=t.step x;have w:=w.step x ao nn2;have H:=H.step x ao nn2;have i:=MS.call0 [Bk g] [Bk g,Bk c,Bk b,d] i ao bo aO R;have aQ:=FR.call0 [Bk g,Bk c,Bk b] n.size aO r R;have n:=n.ext ao;have r:=aQ;have E:=OwnS.plain (M':=fl [Bk g,Bk c,Bk b,d]) (Pi _) E;refine Xu 1 [(10,Vl g k C)] (Xk (Cq (Cs (Xu 1 [(39,Vl g k C)] (Xn (vs:=[Vl g k C]) (Vi ((k).length:Int)) R R R (Rl tsl22 _ _ _ _ _) (Xu 1 [(41,Vi 0)] (Xk (Cb ?_))))))));have aX:=i.pk [2,1,0,3] [Bk b,Bk c,Bk g,d] R;have Z:=Pk (ls:=[Bk g,Bk c,Bk b,d]) [2,1,0,3] [Bk b,Bk c,Bk g,d] R;have s:=s.sub Z;have t:=t.sub Z;have w:=w.sub Z;have H:=H.sub Z;have E:=E.sub Z;have i:=aX;have r:=r.pk [2,1,0] [Bk b,Bk c,Bk g] R;obtain ⟨ba,aH,a1⟩:=Bs a;obtain ⟨az,aH⟩:=Lo aH;refine Cl (Lr hmx (σ:=Nat×(List Int)×(List Bool)×Int) (fun J=>match J with | (_,D,G,o)=>[(0,Vl z j A),(1,Vl p h q),(4,Vl b D u),(9,Vl c G K),(10,Vl g k C),(39,Vl g k C),(40,Vi ((k).length:Int)),(41,Vi o)]) (fun J B=>match J with | (ay,D,G,o)=>loopN (assign_Match_L18 j h k) ay (D,G,o)=some ba∧Ev [] N B∧MS B [Bk b,Bk c,Bk g,d]∧FR N.heap.size [Bk b,Bk c,Bk g]∧SlR eI B (fl [Bk b,Bk c,Bk g,d]) z A j∧SlR eI B (fl [Bk b,Bk c,Bk g,d]) p q h∧OwnS eI 3 B (fl [Bk b,Bk c,Bk g,d]) b u D∧OwnS eBool 4 B (fl [Bk b,Bk c,Bk g,d]) c K G∧OwnS eI 3 B (fl [Bk b,Bk c,Bk g,d]) g C k) (fun J=>J.1) (az,Y,(List.replicate (Int.toNat ((h).length:Int)) false:List Bool),0) ⟨R,R,R,R,R,R,R,R,T0⟩ ⟨aH,n,i,r,s,t,w,H,E⟩ ?_);rintro ⟨az,D,G,o⟩ O ct ⟨al,n,i,r,s,t,w,H,E⟩;rcases az with _ | az
 · exact (Lz al).elim
 obtain ⟨cn,a,al⟩:=Bs al;refine Cs (Xu 1 [(42,Bd (o<((k).length:Int)))] (Xk (Cn [(0,Vl z j A),(1,Vl p h q),(4,Vl b D u),(9,Vl c G K),(10,Vl g k C),(39,Vl g k C),(40,Vi ((k).length:Int)),(41,Vi o),(42,Bd (o<((k).length:Int)))] (fun O=>?_))));refine Cq (Ci (decide (o<((k).length:Int))) R a (fun a=>?_) (fun a=>?_))
 · refine Ck (Kt (Cq (Cb (Cs (Xu 1 [(43,Vi o)] ?_)))));obtain ⟨U,bL,a⟩:=Bs a;obtain ⟨ce,b6,ci,bw,bi,F⟩:=Oi (Mo:=[]) tsl22 E bL;obtain rfl:=F;refine Yi _ _ _ R bw (Yl _ (Vi U) R (Rc tcell3 bi (fun _ a=>by cases a)) ?_);refine Xu 2 [(11,Vi o),(12,Vi U)] (Xk (Cs (Xu 1 [(13,Vi (-1))] (Xk (Cq (Cs (Xu 1 [(46,Vl p h q)] (Xn (vs:=[Vl p h q]) (Vi ((h).length:Int)) R R R (Rl tsl22 _ _ _ _ _) (Xu 1 [(48,Vi 0)] ?_)))))))));refine Xk (Cb ?_);obtain ⟨bb,aI,bd⟩:=Bs a;obtain ⟨ad,aI⟩:=Lo aI;refine Cl (Lr hmx (σ:=Nat×Int×Int) (fun J=>match J with | (_,v,m)=>[(0,Vl z j A),(1,Vl p h q),(4,Vl b D u),(9,Vl c G K),(10,Vl g k C),(11,Vi o),(12,Vi U),(13,Vi v),(39,Vl g k C),(40,Vi ((k).length:Int)),(41,Vi o),(46,Vl p h q),(47,Vi ((h).length:Int)),(48,Vi m)]) (fun J B=>match J with | (ay,v,m)=>loopN (assign_Match_L23 j h G U) ay (v,m)=some bb∧Ev [] N B∧MS B [Bk b,Bk c,Bk g,d]∧FR N.heap.size [Bk b,Bk c,Bk g]∧SlR eI B (fl [Bk b,Bk c,Bk g,d]) z A j∧SlR eI B (fl [Bk b,Bk c,Bk g,d]) p q h∧OwnS eI 3 B (fl [Bk b,Bk c,Bk g,d]) b u D∧OwnS eBool 4 B (fl [Bk b,Bk c,Bk g,d]) c K G∧OwnS eI 3 B (fl [Bk b,Bk c,Bk g,d]) g C k) (fun J=>J.1) (ad,(-1),0) ⟨R,R,R,R,R,R,R,R,R,R,R,R,R,R,T0⟩ ⟨aI,n,i,r,s,t,w,H,E⟩ ?_);rintro ⟨ad,v,m⟩ O a9 ⟨ac,n,i,r,s,t,w,H,E⟩;rcases ad with _ | ad
   · exact (Lz ac).elim
   obtain ⟨co,a,ac⟩:=Bs ac;refine Cs (Xu 1 [(49,Bd (m<((h).length:Int)))] (Xk (Cn [(0,Vl z j A),(1,Vl p h q),(4,Vl b D u),(9,Vl c G K),(10,Vl g k C),(11,Vi o),(12,Vi U),(13,Vi v),(39,Vl g k C),(40,Vi ((k).length:Int)),(41,Vi o),(46,Vl p h q),(47,Vi ((h).length:Int)),(48,Vi m),(49,Bd (m<((h).length:Int)))] (fun O=>?_))));refine Cq (Ci (decide (m<((h).length:Int))) R a (fun a=>?_) (fun a=>?_))
   · refine Ck (Kt (Cq (Cb (Cs (Xu 1 [(50,Vi m)] ?_)))));obtain ⟨X,bN,a⟩:=Bs a;obtain ⟨b2,b7,bx,bj,F⟩:=Ri (Mo:=[]) tsl22 t bN;obtain rfl:=F;refine Yi _ _ _ R bx (Yl _ (Vi X) R (Rc tcell3 bj (fun _ a=>by cases a)) ?_);refine Xu 2 [(14,Vi m),(15,Vi X)] (Xk (Cs (Xu 2 [(53,Vl c G K),(54,Vi m)] ?_)));obtain ⟨aE,bO,a⟩:=Bs a;obtain ⟨cf,b8,cj,bz,bk,F⟩:=Oi (Mo:=[]) tsl111 H bO;obtain rfl:=F;refine Yi _ _ _ R bz (Yl _ (.bool aE) R (Rc tcell4 bk (fun _ a=>by cases a)) ?_);refine Xu 2 [(57,.bool (!aE)),(58,.bool (!aE))] (Xw 58 (!aE) R a (fun a=>?_) (fun a=>?_))
     · refine Xu 3 [(59,Vi X),(60,Vl z j A),(61,Vi U)] ?_;obtain ⟨aC,bQ,a⟩:=Bs a;obtain ⟨b3,b9,bA,bl,F⟩:=Ri (Mo:=[]) tsl22 s bQ;obtain rfl:=F;refine Yi _ _ _ R bA (Yl _ (Vi aC) R (Rc tcell3 bl (fun _ a=>by cases a)) ?_);refine Xu 3 [(64,Bd (X≥aC)),(65,Bd (X≥aC)),(66,Bd (X≥aC))] (Xw 66 (decide (X≥aC)) R a (fun a=>?_) (fun a=>?_))
       · refine Xu 3 [(67,Vi v),(68,Bd (v<0)),(69,Bd (v<0))] (Xw 69 (decide (v<0)) R a (fun a=>?_) (fun a=>?_))
         · refine Xu 8 [(70,U0),(71,U0),(72,U0),(73,U0),(74,U0),(75,U0),(76,.bool true),(77,.bool true)] (Xk (Cn [(0,Vl z j A),(1,Vl p h q),(4,Vl b D u),(9,Vl c G K),(10,Vl g k C),(11,Vi o),(12,Vi U),(13,Vi v),(14,Vi m),(39,Vl g k C),(40,Vi ((k).length:Int)),(41,Vi o),(46,Vl p h q),(47,Vi ((h).length:Int)),(48,Vi m),(77,.bool true)] (fun O=>?_)));refine c_true R (Cp (Xu 2 [(78,Vi m),(13,Vi m)] (Xe R (Kl (Kt (Cp (Xu 2 [(79,Vi (i64.wrap (m+1))),(48,Vi (i64.wrap (m+1)))] (Xe R ?_))))))));obtain rfl:=Sj a;exact Kt ⟨(ad,m,i64.wrap (m+1)),⟨R,R,R,R,R,R,R,R,R,R,R,R,R,R,T0⟩,⟨ac,n,i,r,s,t,w,H,E⟩,Ns _⟩
         refine Xu 3 [(70,Vi X),(71,Vl p h q),(72,Vi v)] ?_;obtain ⟨an,bS,a⟩:=Bs a;obtain ⟨b4,ca,bB,bm,F⟩:=Ri (Mo:=[]) tsl22 t bS;obtain rfl:=F;refine Yi _ _ _ R bB (Yl _ (Vi an) R (Rc tcell3 bm (fun _ a=>by cases a)) ?_);refine Xu 3 [(75,Bd (X<an)),(76,Bd (X<an)),(77,Bd (X<an))] (Xk (Cn [(0,Vl z j A),(1,Vl p h q),(4,Vl b D u),(9,Vl c G K),(10,Vl g k C),(11,Vi o),(12,Vi U),(13,Vi v),(14,Vi m),(39,Vl g k C),(40,Vi ((k).length:Int)),(41,Vi o),(46,Vl p h q),(47,Vi ((h).length:Int)),(48,Vi m),(77,Bd (X<an))] (fun O=>?_)));refine Ci (decide (X<an)) R a (fun a=>?_) (fun a=>?_)
         · refine Cp (Xu 2 [(78,Vi m),(13,Vi m)] (Xe R (Kl (Kt (Cp (Xu 2 [(79,Vi (i64.wrap (m+1))),(48,Vi (i64.wrap (m+1)))] (Xe R ?_)))))));obtain rfl:=Sj a;exact Kt ⟨(ad,m,i64.wrap (m+1)),⟨R,R,R,R,R,R,R,R,R,R,R,R,R,R,T0⟩,⟨ac,n,i,r,s,t,w,H,E⟩,Ns _⟩
         refine Ck (Kl (Kt (Cp (Xu 2 [(79,Vi (i64.wrap (m+1))),(48,Vi (i64.wrap (m+1)))] (Xe R ?_)))));obtain rfl:=Sj a;exact Kt ⟨(ad,v,i64.wrap (m+1)),⟨R,R,R,R,R,R,R,R,R,R,R,R,R,R,T0⟩,⟨ac,n,i,r,s,t,w,H,E⟩,Ns _⟩
       refine Xu 11 [(67,U0),(68,U0),(69,U0),(70,U0),(71,U0),(72,U0),(73,U0),(74,U0),(75,U0),(76,U0),(77,.bool false)] (Xk (Cn [(0,Vl z j A),(1,Vl p h q),(4,Vl b D u),(9,Vl c G K),(10,Vl g k C),(11,Vi o),(12,Vi U),(13,Vi v),(14,Vi m),(39,Vl g k C),(40,Vi ((k).length:Int)),(41,Vi o),(46,Vl p h q),(47,Vi ((h).length:Int)),(48,Vi m),(77,.bool false)] (fun O=>?_)));refine c_false R (Ck (Kl (Kt (Cp (Xu 2 [(79,Vi (i64.wrap (m+1))),(48,Vi (i64.wrap (m+1)))] (Xe R ?_))))));obtain rfl:=Sj a;exact Kt ⟨(ad,v,i64.wrap (m+1)),⟨R,R,R,R,R,R,R,R,R,R,R,R,R,R,T0⟩,⟨ac,n,i,r,s,t,w,H,E⟩,Ns _⟩
     refine Xu 19 [(59,U0),(60,U0),(61,U0),(62,U0),(63,U0),(64,U0),(65,.bool false),(66,.bool false),(67,U0),(68,U0),(69,U0),(70,U0),(71,U0),(72,U0),(73,U0),(74,U0),(75,U0),(76,U0),(77,.bool false)] (Xk (Cn [(0,Vl z j A),(1,Vl p h q),(4,Vl b D u),(9,Vl c G K),(10,Vl g k C),(11,Vi o),(12,Vi U),(13,Vi v),(14,Vi m),(39,Vl g k C),(40,Vi ((k).length:Int)),(41,Vi o),(46,Vl p h q),(47,Vi ((h).length:Int)),(48,Vi m),(77,.bool false)] (fun O=>?_)));refine c_false R (Ck (Kl (Kt (Cp (Xu 2 [(79,Vi (i64.wrap (m+1))),(48,Vi (i64.wrap (m+1)))] (Xe R ?_))))));obtain rfl:=Sj a;exact Kt ⟨(ad,v,i64.wrap (m+1)),⟨R,R,R,R,R,R,R,R,R,R,R,R,R,R,T0⟩,⟨ac,n,i,r,s,t,w,H,E⟩,Ns _⟩
   refine Ce (Ke ?_);obtain rfl:=Sj a;have ai:=Sj ac;subst ai;have a:=bd;refine Ke (Ki (Kt (Cn [(0,Vl z j A),(1,Vl p h q),(4,Vl b D u),(9,Vl c G K),(10,Vl g k C),(11,Vi o),(12,Vi U),(13,Vi v),(39,Vl g k C),(40,Vi ((k).length:Int)),(41,Vi o)] (fun O=>?_))));refine Cq (Cs (Xu 2 [(80,Vi v),(81,Bd (v<0))] (Xk (Ci (decide (v<0)) R a (fun a=>?_) (fun a=>?_)))))
   · refine Cs (Xu 3 [(82,Vl g k C),(83,Vi o),(84,Vi (i64.wrap (o+1)))] ?_);have aX:=i.pk [0,1,3] [Bk b,Bk c,d] R;have Z:=Pk (ls:=[Bk b,Bk c,Bk g,d]) [0,1,3] [Bk b,Bk c,d] R;have E:=E.ro Z (pick_out i 2 R [some 0,some 1,some 3] [Bk b,Bk c,d] R R);have i:=aX;have r:=r.pk [0,1] [Bk b,Bk c] R;have ab:=Gl a;have a:=Gr a;obtain ⟨aF,aG,bC,aY⟩:=SlR.sliced (P:=Tryz.prog) (Mo:=[]) tsl22 E none (some (i64.wrap (o+1))) ab;replace aY:SlR eI a9 (fl [Bk b,Bk c,d]) aF aG ((k.drop (Int.toNat (0:Int))).take (Int.toNat (i64.wrap (o+1))-Int.toNat (0:Int))):=aY;refine x_slice (xv:=Vl g k C) (lv:=none) (hv:=(some (Vi (i64.wrap (o+1))))) (mv:=none) (Vl aF (((k.drop (Int.toNat (0:Int))).take (Int.toNat (i64.wrap (o+1))-Int.toNat (0:Int)))) aG) R R R R R R bC ?_;obtain ⟨ae,ax,a⟩:=Bs a;have ag:=slices_Clone_int_int__w aF aG ((k.drop (Int.toNat (0:Int))).take (Int.toNat (i64.wrap (o+1))-Int.toNat (0:Int))) _ a9 (fl [Bk b,Bk c,d]) (MS.fold (P:=[]) i) (aY.sub fl1) ax;refine Xc 118 #[] #[] _ _ R R R R ag ?_;rintro aB cr ⟨I,aa,rfl,a2,bp,a4,ar⟩;refine I1 ?_;have i:=MS.call0 [Bk I] [Bk I,Bk b,Bk c,d] i a2 bp a4 R;have aQ:=FR.call0 [Bk I,Bk b,Bk c] n.size a4 r R;have n:=n.ext a2;have r:=aQ;have ar:=OwnS.plain (M':=fl [Bk I,Bk b,Bk c,d]) (Pi _) ar;refine Xu 1 [(5,Vl I ae aa)] (Xk (Cs (Xu 1 [(87,Vl I ae aa)] ?_)));have ab:=Gl a;have a:=Gr a;have ag:=sortI_w (P:=Tryz.prog) Lsort (f:=119) R ⟨_,Tryz.func119,by kernel_rfl,R⟩ (T:=3) ar ab;refine Xc 119 #[] #[] _ _ R R R R ag ?_;rintro aB cs ⟨rfl,a3,bn,bJ⟩;refine I1 ?_;have i:=i.ev a3;have n:=n.then a3 (fun Q S=>.inr (r.at 0 R Q S));have ar:=bJ (fl [Bk I,Bk b,Bk c,d]);have ah:(Vl I ae aa)=(Vl I ((sortI ae)) aa):=by simp only [Vl,bn]
     try rw [ah]
     refine Xk (Cs (Xu 4 [(89,Vl I ((sortI ae)) aa),(4,Z0),(5,Vl I ((sortI ae)) aa),(6,Vi 14)] (Xk (Cn [(4,Z0),(5,Vl I ((sortI ae)) aa),(6,Vi 14)] (fun O=>?_)))));refine Cr (Kr (Kb (Kr ?_)));obtain rfl:=Sj a;have ai:=Sj al;subst ai;have a:=a1;refine Kr (Kb (Kr (Rr (Rv [Z0,Vl I ((sortI ae)) aa,Vi 14] ⟨R,R,R,T0⟩ ?_))));obtain rfl:=Sj a;have av:=i.pick [none,some 0,some 3] [Bk none,Bk I,d] R;have Z:=Ps (ls:=[Bk I,Bk b,Bk c,d]) [none,some 0,some 3] [Bk none,Bk I,d] R;have au:=r.pick [none,some 0] [Bk none,Bk I] R;exact ⟨none,0,I,aa,R,n,av,au,OwnS.nil _ _ _ _,ar.sub Z⟩
   refine Ck (Kt (Cs (Xu 2 [(90,Vl c G K),(91,Vi v)] ?_)));obtain ⟨cv,a6,a⟩:=Bs a;obtain ⟨cg,cb,bg,bD,cl,F⟩:=Oi (Mo:=[]) tsl111 H a6;obtain rfl:=F;refine Yi _ _ _ R bD ?_;obtain ⟨bX,bE,ap,br⟩:=own_storeE bg (y:=true) 0 (.bool true) tcell4 H (Mf 1 R) a6 R R (fun _ _ _ F=>set_bool F);refine Ys bX _ _ R bE (I1 ?_);have x:=Stp.ev' (ls:=[Bk b,Bk c,Bk g,d]) ap (Mf 1 R);have s:=s.step x;have t:=t.step x;have w:=w.step x ap (i.apart 0 1 R R R);have E:=E.step x ap (i.apart 2 1 R R R);have i:=i.ev ap;have n:=n.then ap (fun Q S=>.inr (r.at 1 R Q S));have H:=br;have ah:(Vl c G K)=(Vl c ((G.set (Int.toNat v) true)) K):=by simp only [Vl,List.length_set]
   try rw [ah]
   refine Xk (Cp (Xu 3 [(93,Vl b D u),(94,Vi U),(95,Vi v)] ?_));obtain ⟨cw,a7,a⟩:=Bs a;obtain ⟨ch,cc,bh,bF,cm,F⟩:=Oi (Mo:=[]) tsl22 w a7;obtain rfl:=F;refine Yi _ _ _ R bF ?_;obtain ⟨bY,bG,aq,bs⟩:=own_storeE bh (y:=v) 0 (Vi v) tcell3 w (Mf 0 R) a7 R R (fun _ _ _ F=>set_int F);refine Ys bY _ _ R bG (I1 ?_);have x:=Stp.ev' (ls:=[Bk b,Bk c,Bk g,d]) aq (Mf 0 R);have s:=s.step x;have t:=t.step x;have H:=H.step x aq (i.apart 1 0 R R R);have E:=E.step x aq (i.apart 2 0 R R R);have i:=i.ev aq;have n:=n.then aq (fun Q S=>.inr (r.at 0 R Q S));have w:=bs;have ah:(Vl b D u)=(Vl b ((D.set (Int.toNat U) v)) u):=by simp only [Vl,List.length_set]
   try rw [ah]
   refine Xe R (Kl (Kt (Cp (Xu 2 [(97,Vi (i64.wrap (o+1))),(41,Vi (i64.wrap (o+1)))] (Xe R ?_)))));obtain rfl:=Sj a;exact Kt ⟨(az,(D.set (Int.toNat U) v),(G.set (Int.toNat v) true),i64.wrap (o+1)),⟨R,R,R,R,R,R,R,R,T0⟩,⟨al,n,i,r,s,t,w,H,E⟩,Ns _⟩
 refine Ce (Ke ?_);obtain rfl:=Sj a;have ai:=Sj al;subst ai;have a:=a1;refine Ke (Ki (Kt (Cn [(4,Vl b D u)] (fun O=>?_))));refine Cs (Xu 4 [(98,Vl b D u),(4,Vl b D u),(5,Z0),(6,Vi 0)] (Xk (Cr (Rr (Rv [Vl b D u,Z0,Vi 0] ⟨R,R,R,T0⟩ ?_)))));obtain rfl:=Sj a;have av:=i.pick [some 0,none,some 3] [Bk b,Bk none,d] R;have Z:=Ps (ls:=[Bk b,Bk c,Bk g,d]) [some 0,none,some 3] [Bk b,Bk none,d] R;have au:=r.pick [some 0,none] [Bk b,Bk none] R;exact ⟨b,u,none,0,R,n,av,au,w.sub Z,OwnS.nil _ _ _ _⟩
def assign_Fits_L9 (d:List Int) (e:List Int) (f:List Int) (g:(List Bool)×Int):Option (Step ((List Bool)×Int) (Unit⊕Unit)):=
match g with
| (c,b)=>
(if (decide (b<((f).length:Int)))=true then
((idx f b).bind fun a=>
((idx d b).bind fun h=>
(if (h==0)=true then
(if (a !=(-1))=true then
some (.done (.inl ()))
else
some (.next (c,i64.wrap (b+1))))
else
(if (decide (a<0))=true then
some (.done (.inl ()))
else
(if (decide (a≥((e).length:Int)))=true then
some (.done (.inl ()))
else
((idx c a).bind fun i=>
(if i=true then
some (.done (.inl ()))
else
((idx e a).bind fun j=>
((idx d b).bind fun k=>
(if (decide (j<k))=true then
some (.done (.inl ()))
else
((idx c a).bind fun l=>
some (.next ((c.set (Int.toNat a) true),i64.wrap (b+1))))))))))))))
else
some (.done (.inr ())))
def assign_Fits (b:List Int) (a:List Int) (c:List Int):Option Bool:=
((assign_check b a).bind fun e=>
(if (e != 0)=true then
some false
else
(if (((c).length:Int)!=((b).length:Int))=true then
some false
else
(if (0:Int)≤((a).length:Int)∧(((a).length:Int):Int)≤4294967296 then
((loop (assign_Fits_L9 b a c) ((List.replicate (Int.toNat ((a).length:Int)) false:List Bool),0)).bind fun d=>match d with
| (.inl _)=>some false
| (.inr _)=>some true)
else none))))
theorem assign_Fits_w (m n d j k c p q b af A s)(x:MS A [s])(t:SlR eI A (fl [s]) m n d)(u:SlR eI A (fl [s]) j k c)(z:SlR eI A (fl [s]) p q b)(a:assign_Fits d c b=some af):CallVC Tryz.prog 59 [Vl m d n,Vl j c k,Vl p b q] A fun ag F=>ag=.bool af∧Ev [] A F:=by
 refine Cv hmx Tryz.func59 (by kernel_rfl) R (rs:=[.tmp 6]) R (by kernel_rfl) (args:=[Vl m d n,Vl j c k,Vl p b q]) R ?_;have i:Ev [] A A:=Ev.refl _ _;have G:FR A.heap.size []:=FR.nil _;refine Cs (Xu 1 [(6,.bool false)] (Xk (Cq (Cs (Xu 2 [(10,Vl m d n),(11,Vl j c k)] ?_)))));obtain ⟨ac,aC,a⟩:=Bs a;have ao:=assign_check_w m n d j k c _ A (fl [s]) (MS.fold (P:=[]) x) (t.sub fl1) (u.sub fl1) aC;refine Xc 71 #[] #[] _ _ R R R R ao ?_;rintro ag aK ⟨rfl,Y⟩;refine I1 ?_;have r:=Stp.ext (ls:=[s]) Y;have t:=t.step r;have u:=u.step r;have z:=z.step r;have x:=x.ev Y;have i:=i.ext Y;refine Xu 2 [(13,.bool (ac != 0)),(14,.bool (ac != 0))] (Xw 14 (ac != 0) R a (fun a=>?_) (fun a=>?_))
 · refine Xu 6 [(15,U0),(16,U0),(17,U0),(18,U0),(19,U0),(20,.bool true)] (Xk (c_true R (Cs (Xu 1 [(6,.bool false)] (Xk (Cn [(6,.bool false)] (fun D=>?_)))))));refine Cr (Kr (Rr (Rv [.bool false] ⟨R,T0⟩ ?_)));obtain rfl:=Sj a;exact ⟨R,i⟩
 refine Xu 1 [(15,Vl p b q)] (Xn (vs:=[Vl p b q]) (Vi ((b).length:Int)) R R R (Rl tsl22 _ _ _ _ _) (Xu 1 [(17,Vl m d n)] (Xn (vs:=[Vl m d n]) (Vi ((d).length:Int)) R R R (Rl tsl22 _ _ _ _ _) (Xu 2 [(19,.bool (((b).length:Int)!=((d).length:Int))),(20,.bool (((b).length:Int)!=((d).length:Int)))] (Xk (Ci (((b).length:Int)!=((d).length:Int)) R a (fun a=>?_) (fun a=>?_)))))))
 · refine Cs (Xu 1 [(6,.bool false)] (Xk (Cn [(6,.bool false)] (fun D=>?_))));refine Cr (Kr (Rr (Rv [.bool false] ⟨R,T0⟩ ?_)));obtain rfl:=Sj a;exact ⟨R,i⟩
 refine Ck (Kt (Cn [(0,Vl m d n),(1,Vl j c k),(2,Vl p b q)] (fun D=>?_)));refine Cs (Xu 1 [(21,Vl j c k)] (Xn (vs:=[Vl j c k]) (Vi ((c).length:Int)) R R R (Rl tsl22 _ _ _ _ _) ?_));have ad:=Gl a;have a:=Gr a;obtain ⟨g,v,aL,az,Z,aa,aB⟩:=own_make (e:=eBool) tel111 aK ((c).length:Int) ad.1 ad.2 false (fun _ _=>R);refine Xm _ aL (xv:=Vi ((c).length:Int)) (yv:=Vi ((c).length:Int)) R R R R az (I1 ?_);have r:=Stp.push (ls:=[s]) (l:=Bk g) Z (fun _ a=>by cases a) (fun J K=>(aa J K).1);have t:=t.step r;have u:=u.step r;have z:=z.step r;have x:=x.push Z aa;have G:=G.push (fun J K=>Nat.le_trans i.size (aa J K).1);have i:=i.ext Z;have E:=aB (fl [Bk g,s]);refine Xu 1 [(7,Vl g ((List.replicate (Int.toNat ((c).length:Int)) false:List Bool)) v)] (Xk (Cq (Cs (Xu 1 [(24,Vl p b q)] (Xn (vs:=[Vl p b q]) (Vi ((b).length:Int)) R R R (Rl tsl22 _ _ _ _ _) (Xu 1 [(26,Vi 0)] (Xk (Cb ?_))))))));obtain ⟨ah,U,H⟩:=Bs a;obtain ⟨I,U⟩:=Lo U;refine Cl (Lr hmx (σ:=Nat×(List Bool)×Int) (fun L=>match L with | (_,o,h)=>[(0,Vl m d n),(1,Vl j c k),(7,Vl g o v),(24,Vl p b q),(25,Vi ((b).length:Int)),(26,Vi h)]) (fun L F=>match L with | (aI,o,h)=>loopN (assign_Fits_L9 d c b) aI (o,h)=some ah∧Ev [] A F∧MS F [Bk g,s]∧FR A.heap.size [Bk g]∧SlR eI F (fl [Bk g,s]) m n d∧SlR eI F (fl [Bk g,s]) j k c∧OwnS eBool 4 F (fl [Bk g,s]) g v o∧SlR eI F (fl [Bk g,s]) p q b) (fun L=>L.1) (I,(List.replicate (Int.toNat ((c).length:Int)) false:List Bool),0) ⟨R,R,R,R,R,R,T0⟩ ⟨U,i,x,G,t,u,E,z⟩ ?_);rintro ⟨I,o,h⟩ D Q ⟨B,i,x,G,t,u,E,z⟩;rcases I with _ | I
 · exact (Lz B).elim
 obtain ⟨a6,a,B⟩:=Bs B;refine Cs (Xu 1 [(27,Bd (h<((b).length:Int)))] (Xk (Cn [(0,Vl m d n),(1,Vl j c k),(7,Vl g o v),(24,Vl p b q),(25,Vi ((b).length:Int)),(26,Vi h),(27,Bd (h<((b).length:Int)))] (fun D=>?_))));refine Cq (Ci (decide (h<((b).length:Int))) R a (fun a=>?_) (fun a=>?_))
 · refine Ck (Kt (Cq (Cb (Cs (Xu 1 [(28,Vi h)] ?_)))));obtain ⟨f,aD,a⟩:=Bs a;obtain ⟨aN,aU,aq,aj,w⟩:=Ri (Mo:=[]) tsl22 z aD;obtain rfl:=w;refine Yi _ _ _ R aq (Yl _ (Vi f) R (Rc tcell3 aj (fun _ a=>by cases a)) ?_);refine Xu 2 [(8,Vi h),(9,Vi f)] (Xk (Cq (Cs (Xu 2 [(31,Vl m d n),(32,Vi h)] ?_))));obtain ⟨ab,aE,a⟩:=Bs a;obtain ⟨aO,aX,ar,ak,w⟩:=Ri (Mo:=[]) tsl22 t aE;obtain rfl:=w;refine Yi _ _ _ R ar (Yl _ (Vi ab) R (Rc tcell3 ak (fun _ a=>by cases a)) ?_);refine Xu 1 [(35,.bool (ab==0))] (Xk (Ci (ab==0) R a (fun a=>?_) (fun a=>?_)))
   · refine Cq (Cs (Xu 2 [(36,Vi f),(37,.bool (f !=(-1)))] (Xk (Cn [(0,Vl m d n),(1,Vl j c k),(7,Vl g o v),(24,Vl p b q),(25,Vi ((b).length:Int)),(26,Vi h),(37,.bool (f !=(-1)))] (fun D=>?_)))));refine Ci (f !=(-1)) R a (fun a=>?_) (fun a=>?_)
     · refine Cs (Xu 1 [(6,.bool false)] (Xk (Cr (Kr (Kr (Kb (Kr ?_)))))));obtain rfl:=Sj a;have C:=Sj B;subst C;have a:=H;refine Kr (Kb (Kr (Rr (Rv [.bool false] ⟨R,T0⟩ ?_))));obtain rfl:=Sj a;exact ⟨R,i⟩
     refine Ck (Kt (Ce (Ke (Ki (Kt (Cp (Xu 2 [(66,Vi (i64.wrap (h+1))),(26,Vi (i64.wrap (h+1)))] (Xe R ?_))))))));obtain rfl:=Sj a;exact Kt ⟨(I,o,i64.wrap (h+1)),⟨R,R,R,R,R,R,T0⟩,⟨B,i,x,G,t,u,E,z⟩,Ns _⟩
   refine Ck (Kt (Cq (Cq (Cd [] [(0,false),(1,false),(2,false),(3,false),(4,false),(5,false),(6,false),(7,false),(8,false),(9,false),(10,false),(11,false),(12,false),(13,false),(14,false),(15,false),(16,false),(17,false),(18,false),(19,false),(20,false),(21,false),(22,false),(23,false),(24,false)] _ (by kernel_rfl) R ?_))));have r:=Stp.ext (ls:=[Bk g,s]) (Ev.drew Q);have t:=t.step r;have u:=u.step r;have E:=E.step r (Ev.drew Q) nn2;have z:=z.step r;have x:=x.ev (Ev.drew Q);have i:=i.ext (Ev.drew Q);refine Xu 3 [(38,Vi f),(39,Bd (f<0)),(40,Bd (f<0))] (Xw 40 (decide (f<0)) R a (fun a=>?_) (fun a=>?_))
   · refine Xu 22 [(41,U0),(42,U0),(43,U0),(44,U0),(45,.bool true),(46,.bool true),(47,U0),(48,U0),(49,U0),(50,U0),(51,.bool true),(52,.bool true),(53,U0),(54,U0),(55,U0),(56,U0),(57,U0),(58,U0),(59,U0),(60,U0),(61,U0),(62,.bool true)] (Xk (Cn [(0,Vl m d n),(1,Vl j c k),(7,Vl g o v),(9,Vi f),(24,Vl p b q),(25,Vi ((b).length:Int)),(26,Vi h),(62,.bool true)] (fun D=>?_)));refine c_true R (Cs (Xu 1 [(6,.bool false)] (Xk (Cr (Kr (Kb (Kr ?_)))))));obtain rfl:=Sj a;have C:=Sj B;subst C;have a:=H;refine Kr (Kb (Kr (Rr (Rv [.bool false] ⟨R,T0⟩ ?_))));obtain rfl:=Sj a;exact ⟨R,i⟩
   refine Xu 2 [(41,Vi f),(42,Vl j c k)] (Xn (vs:=[Vl j c k]) (Vi ((c).length:Int)) R R R (Rl tsl22 _ _ _ _ _) (Xu 3 [(44,Bd (f≥((c).length:Int))),(45,Bd (f≥((c).length:Int))),(46,Bd (f≥((c).length:Int)))] (Xw 46 (decide (f≥((c).length:Int))) R a (fun a=>?_) (fun a=>?_))))
   · refine Xu 16 [(47,U0),(48,U0),(49,U0),(50,U0),(51,.bool true),(52,.bool true),(53,U0),(54,U0),(55,U0),(56,U0),(57,U0),(58,U0),(59,U0),(60,U0),(61,U0),(62,.bool true)] (Xk (Cn [(0,Vl m d n),(1,Vl j c k),(7,Vl g o v),(9,Vi f),(24,Vl p b q),(25,Vi ((b).length:Int)),(26,Vi h),(62,.bool true)] (fun D=>?_)));refine c_true R (Cs (Xu 1 [(6,.bool false)] (Xk (Cr (Kr (Kb (Kr ?_)))))));obtain rfl:=Sj a;have C:=Sj B;subst C;have a:=H;refine Kr (Kb (Kr (Rr (Rv [.bool false] ⟨R,T0⟩ ?_))));obtain rfl:=Sj a;exact ⟨R,i⟩
   refine Xu 2 [(47,Vl g o v),(48,Vi f)] ?_;obtain ⟨S,aF,a⟩:=Bs a;obtain ⟨a2,aY,a4,au,al,w⟩:=Oi (Mo:=[]) tsl111 E aF;obtain rfl:=w;refine Yi _ _ _ R au (Yl _ (.bool S) R (Rc tcell4 al (fun _ a=>by cases a)) ?_);refine Xu 2 [(51,.bool S),(52,.bool S)] (Xw 52 S R a (fun a=>?_) (fun a=>?_))
   · refine Xu 10 [(53,U0),(54,U0),(55,U0),(56,U0),(57,U0),(58,U0),(59,U0),(60,U0),(61,U0),(62,.bool true)] (Xk (Cn [(0,Vl m d n),(1,Vl j c k),(7,Vl g o v),(9,Vi f),(24,Vl p b q),(25,Vi ((b).length:Int)),(26,Vi h),(62,.bool true)] (fun D=>?_)));refine c_true R (Cs (Xu 1 [(6,.bool false)] (Xk (Cr (Kr (Kb (Kr ?_)))))));obtain rfl:=Sj a;have C:=Sj B;subst C;have a:=H;refine Kr (Kb (Kr (Rr (Rv [.bool false] ⟨R,T0⟩ ?_))));obtain rfl:=Sj a;exact ⟨R,i⟩
   refine Xu 2 [(53,Vl j c k),(54,Vi f)] ?_;obtain ⟨N,aG,a⟩:=Bs a;obtain ⟨aQ,aZ,av,am,w⟩:=Ri (Mo:=[]) tsl22 u aG;obtain rfl:=w;refine Yi _ _ _ R av (Yl _ (Vi N) R (Rc tcell3 am (fun _ a=>by cases a)) ?_);refine Xu 2 [(57,Vl m d n),(58,Vi h)] ?_;obtain ⟨O,aH,a⟩:=Bs a;obtain ⟨aS,a0,aw,an,w⟩:=Ri (Mo:=[]) tsl22 t aH;obtain rfl:=w;refine Yi _ _ _ R aw (Yl _ (Vi O) R (Rc tcell3 an (fun _ a=>by cases a)) ?_);refine Xu 2 [(61,Bd (N<O)),(62,Bd (N<O))] (Xk (Cn [(0,Vl m d n),(1,Vl j c k),(7,Vl g o v),(9,Vi f),(24,Vl p b q),(25,Vi ((b).length:Int)),(26,Vi h),(62,Bd (N<O))] (fun D=>?_)));refine Ci (decide (N<O)) R a (fun a=>?_) (fun a=>?_)
   · refine Cs (Xu 1 [(6,.bool false)] (Xk (Cr (Kr (Kb (Kr ?_))))));obtain rfl:=Sj a;have C:=Sj B;subst C;have a:=H;refine Kr (Kb (Kr (Rr (Rv [.bool false] ⟨R,T0⟩ ?_))));obtain rfl:=Sj a;exact ⟨R,i⟩
   refine Ck (Kt (Cp (Xu 2 [(63,Vl g o v),(64,Vi f)] ?_)));obtain ⟨a7,ae,a⟩:=Bs a;obtain ⟨a3,a1,ai,ax,a5,w⟩:=Oi (Mo:=[]) tsl111 E ae;obtain rfl:=w;refine Yi _ _ _ R ax ?_;obtain ⟨aJ,ay,X,ap⟩:=own_storeE ai (y:=true) 0 (.bool true) tcell4 E (Mf 0 R) ae R R (fun _ _ _ w=>set_bool w);refine Ys aJ _ _ R ay (I1 ?_);have r:=Stp.ev' (ls:=[Bk g,s]) X (Mf 0 R);have t:=t.step r;have u:=u.step r;have z:=z.step r;have x:=x.ev X;have i:=i.then X (fun J K=>.inr (G.at 0 R J K));have E:=ap;have aA:(Vl g o v)=(Vl g ((o.set (Int.toNat f) true)) v):=by simp only [Vl,List.length_set]
   try rw [aA]
   refine Xe R (Kl (Kt (Cp (Xu 2 [(66,Vi (i64.wrap (h+1))),(26,Vi (i64.wrap (h+1)))] (Xe R ?_)))));obtain rfl:=Sj a;exact Kt ⟨(I,(o.set (Int.toNat f) true),i64.wrap (h+1)),⟨R,R,R,R,R,R,T0⟩,⟨B,i,x,G,t,u,E,z⟩,Ns _⟩
 refine Ce (Ke ?_);obtain rfl:=Sj a;have C:=Sj B;subst C;have a:=H;refine Ke (Ki (Kt (c_norm [] T0 (fun D=>?_))));refine Cs (Xu 1 [(6,.bool true)] (Xk (Cr (Rr (Rv [.bool true] ⟨R,T0⟩ ?_)))));obtain rfl:=Sj a;exact ⟨R,i⟩
end Go.Proofs.YtlejnkhaphlooaaGreat
