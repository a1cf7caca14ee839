
/- Walks, printed by program: each function returns what the partial function of the same name returns. Conditions: those of each theorem. -/
import Derived.Test.YtlejnkhaphlooaaGreatGT
set_option linter.unusedVariables false
set_option linter.unusedSimpArgs false
set_option maxRecDepth 4000
namespace Go.Proofs.YtlejnkhaphlooaaGreat
open Go Go.V Go.Proofs Go.IntKind
def assign_order_1 (b:Int) (c:Int) (a:List Int):Option Int:=
((idx a c).bind fun d=>
((idx a b).bind fun e=>
some (i64.wrap (d-e))))
theorem assign_order_1_w (i j b e f d p a m)(D:MS a [[b],m])(h:SlR eI a (fl [[b],m]) e f d)(g:a.heap[b]? = some (.cells #[Vl e d f] 22 (0,0)))(c:assign_order_1 i j d=some p):CallVC Tryz.prog 132 [Vi i,Vi j,Vp b 0] a fun y q=>y=Vi p∧Ev [b] a q∧q.heap[b]? = some (.cells #[Vl e d f] 22 (0,0)):=by
 refine Cv hmx Tryz.func132 (by kernel_rfl) R (rs:=[.tmp 5]) R (by kernel_rfl) (args:=[Vi i,Vi j,Vp b 0]) R ?_;have o:Ev [b] a a:=Ev.refl _ _;refine Cs (Xu 1 [(5,Vi 0)] (Xk (Cq (Cd [] [(0,false),(1,false),(2,false),(3,false),(4,false),(5,false),(6,false),(7,false),(8,false),(9,false)] _ (by kernel_rfl) R ?_))));have v:=Stp.ext (ls:=[[b],m]) (Ev.drew a);have h:=h.step v;have g:=(Ev.drew a).box g nn;have o:=o.ext (Ev.drew a);refine Yl _ (Vl e d f) R (Rb tcell22 g nn 0 _ R) (Xu 1 [(7,Vi j)] ?_);obtain ⟨k,w,c⟩:=Bs c;obtain ⟨z,B,t,r,n⟩:=Ri (Mo:=[]) tsl22 h w;obtain rfl:=n;refine Yi _ _ _ R t (Yl _ (Vi k) R (Rc tcell3 r (fun _ c=>by cases c)) ?_);refine Yl _ (Vl e d f) R (Rb tcell22 g nn 0 _ R) (Xu 1 [(11,Vi i)] ?_);obtain ⟨l,x,c⟩:=Bs c;obtain ⟨A,C,u,s,n⟩:=Ri (Mo:=[]) tsl22 h x;obtain rfl:=n;refine Yi _ _ _ R u (Yl _ (Vi l) R (Rc tcell3 s (fun _ c=>by cases c)) ?_);refine Xu 2 [(14,Vi (i64.wrap (k-l))),(5,Vi (i64.wrap (k-l)))] (Xk (Cr (Rr (Rv [Vi (i64.wrap (k-l))] ⟨R,T0⟩ ?_))));obtain rfl:=Sj c;exact ⟨R,o,g⟩
def slices_insertionSortCmpFunc_int__L6 (d:Int) (e:List Int) (f:(List Int)×Int):Option (Step ((List Int)×Int) (List Int)):=
match f with
| (b,a)=>
(if (decide (a>d))=true then
((idx b a).bind fun j=>
((idx b (i64.wrap (a-1))).bind fun g=>
((assign_order_1 j g e).bind fun h=>
(if (decide (h<0))=true then
((idx b (i64.wrap (a-1))).bind fun c=>
((idx b a).bind fun i=>
((idx b a).bind fun k=>
((idx (b.set (Int.toNat a) c) (i64.wrap (a-1))).bind fun l=>
some (.next (((b.set (Int.toNat a) c).set (Int.toNat (i64.wrap (a-1))) i),i64.wrap (a-1)))))))
else
some (.done b)))))
else
some (.done b))
def slices_insertionSortCmpFunc_int__L4 (e:Int) (f:Int) (g:List Int) (h:(List Int)×Int):Option (Step ((List Int)×Int) (List Int)):=
match h with
| (b,a)=>
(if (decide (a<f))=true then
((loop (slices_insertionSortCmpFunc_int__L6 e g) (b,a)).bind fun c=>match c with
| d=>some (.next (d,i64.wrap (a+1))))
else
some (.done b))
def slices_insertionSortCmpFunc_int_ (d:List Int) (a:Int) (e:Int) (f:List Int):Option (List Int):=
((loop (slices_insertionSortCmpFunc_int__L4 a e f) (d,i64.wrap (a+1))).bind fun b=>match b with
| c=>some c)
theorem slices_insertionSortCmpFunc_int__w (a h S k p b z A w aq l e)(j:MS l [Bk a,[b],e])(i:OwnS eI 3 l (fl [Bk a,[b],e]) a h S)(o:SlR eI l (fl [Bk a,[b],e]) z A w)(m:l.heap[b]? = some (.cells #[Vl z w A] 22 (0,0)))(c:slices_insertionSortCmpFunc_int_ S k p w=some aq):CallVC Tryz.prog 136 [Vl a S h,Vi k,Vi p,(.func (.func 132) #[] #[Vp b 0])] l fun ar q=>ar=.tuple #[]∧Ev (fl [Bk a,[b]]) l q∧OwnS eI 3 q (fl [Bk a,[b],e]) a h aq∧q.heap[b]? = some (.cells #[Vl z w A] 22 (0,0))∧MS q [Bk a,[b],e]∧FR l.heap.size []∧NP (fl [Bk a,[b]]) l.heap.size [Bk a,[b]]:=by
 refine Cv hmx Tryz.func136 (by kernel_rfl) R (rs:=[]) R (by kernel_rfl) (args:=[Vl a S h,Vi k,Vi p,(.func (.func 132) #[] #[Vp b 0])]) R ?_;have n:Ev (fl [Bk a,[b]]) l l:=Ev.refl _ _;have B:FR l.heap.size []:=FR.nil _;have t:NP (fl [Bk a,[b]]) l.heap.size [Bk a,[b]]:=NP.init _ _;refine Cs (Xu 3 [(10,Vi k),(11,Vi (i64.wrap (k+1))),(8,Vi (i64.wrap (k+1)))] (Xk (Cb ?_)));obtain ⟨au,aa,aw⟩:=Bs c;obtain ⟨J,aa⟩:=Lo aa;refine Cl (Lr hmx (σ:=Nat×(List Int)×Int) (fun x=>match x with | (_,F,g)=>[(0,Vl a F h),(1,Vi k),(2,Vi p),(3,(.func (.func 132) #[] #[Vp b 0])),(8,Vi g)]) (fun x q=>match x with | (af,F,g)=>loopN (slices_insertionSortCmpFunc_int__L4 k p w) af (F,g)=some au∧Ev (fl [Bk a,[b]]) l q∧MS q [Bk a,[b],e]∧FR l.heap.size []∧NP (fl [Bk a,[b]]) l.heap.size [Bk a,[b]]∧OwnS eI 3 q (fl [Bk a,[b],e]) a h F∧SlR eI q (fl [Bk a,[b],e]) z A w∧q.heap[b]? = some (.cells #[Vl z w A] 22 (0,0))) (fun x=>x.1) (J,S,i64.wrap (k+1)) ⟨R,R,R,R,R,T0⟩ ⟨aa,n,j,B,t,i,o,m⟩ ?_);rintro ⟨J,F,g⟩ E bu ⟨H,n,j,B,t,i,o,m⟩;rcases J with _ | J
 · exact (Lz H).elim
 obtain ⟨bs,c,H⟩:=Bs H;refine Cq (Cs (Xu 3 [(12,Vi g),(13,Vi p),(14,Bd (g<p))] (Xk (Cn [(0,Vl a F h),(1,Vi k),(2,Vi p),(3,(.func (.func 132) #[] #[Vp b 0])),(8,Vi g),(14,Bd (g<p))] (fun E=>?_)))));refine Ci (decide (g<p)) R c (fun c=>?_) (fun c=>?_)
 · refine Ck (Kt (Cq (Cb (Cs (Xu 2 [(17,Vi g),(9,Vi g)] (Xk (Cb ?_)))))));obtain ⟨av,ab,ai⟩:=Bs c;obtain ⟨Q,ab⟩:=Lo ab;refine Cl (Lr hmx (σ:=Nat×(List Int)×Int) (fun x=>match x with | (_,f,d)=>[(0,Vl a f h),(1,Vi k),(2,Vi p),(3,(.func (.func 132) #[] #[Vp b 0])),(8,Vi g),(9,Vi d)]) (fun x q=>match x with | (af,f,d)=>loopN (slices_insertionSortCmpFunc_int__L6 k w) af (f,d)=some av∧Ev (fl [Bk a,[b]]) l q∧MS q [Bk a,[b],e]∧FR l.heap.size []∧NP (fl [Bk a,[b]]) l.heap.size [Bk a,[b]]∧OwnS eI 3 q (fl [Bk a,[b],e]) a h f∧SlR eI q (fl [Bk a,[b],e]) z A w∧q.heap[b]? = some (.cells #[Vl z w A] 22 (0,0))) (fun x=>x.1) (Q,F,g) ⟨R,R,R,R,R,R,T0⟩ ⟨ab,n,j,B,t,i,o,m⟩ ?_);rintro ⟨Q,f,d⟩ E C ⟨I,n,j,B,t,i,o,m⟩;rcases Q with _ | Q
   · exact (Lz I).elim
   obtain ⟨bt,c,I⟩:=Bs I;refine Cq (Cq (Cd [] [(0,false),(1,false),(2,false),(3,false),(4,false),(5,false),(6,false),(7,false),(8,false),(9,false),(10,false),(11,false),(12,false),(13,false),(14,true),(15,false),(16,false)] _ (by kernel_rfl) R ?_));have u:=Stp.ext (ls:=[Bk a,[b],e]) (Ev.drew C);have i:=i.step u (Ev.drew C) nn2;have m:=(Ev.drew C).box m nn;have o:=o.step u;have j:=j.ev (Ev.drew C);have n:=n.ext (Ev.drew C);refine Xu 4 [(18,Vi d),(19,Vi k),(20,Bd (d>k)),(21,Bd (d>k))] (Xw 21 (decide (d>k)) R c (fun c=>?_) (fun c=>?_))
   · refine Xu 3 [(22,(.func (.func 132) #[] #[Vp b 0])),(23,Vl a f h),(24,Vi d)] ?_;obtain ⟨ah,a7,c⟩:=Bs c;obtain ⟨bl,bf,bp,a0,aE,r⟩:=Oi (Mo:=[]) tsl22 i a7;obtain rfl:=r;refine Yi _ _ _ R a0 (Yl _ (Vi ah) R (Rc tcell3 aE (fun _ c=>by cases c)) ?_);refine Xu 3 [(27,Vl a f h),(28,Vi d),(29,Vi (i64.wrap (d-1)))] ?_;obtain ⟨ag,a6,c⟩:=Bs c;obtain ⟨bg,ba,bm,aO,aB,r⟩:=Oi (Mo:=[]) tsl22 i a6;obtain rfl:=r;refine Yi _ _ _ R aO (Yl _ (Vi ag) R (Rc tcell3 aB (fun _ c=>by cases c)) ?_);obtain ⟨Z,N,c⟩:=Bs c;have aL:MS (C).drew ([[b]]++[Bk a,e]):=j.pk [1,0,2] _ R;have a2:∀ s∈fl ([[b]]++[Bk a,e]),s∈fl [Bk a,[b],e]:=Pk [1,0,2] _ R;have a1:∀ s∈fl ([[b]]++[(fl [Bk a,e])]),s∈fl [Bk a,[b],e]:=fun s N=>a2 s (Fu s N)
     have aF:=assign_order_1_w ah ag b z A w _ (C).drew (fl [Bk a,e]) (aL.fold (P:=[[b]])) (o.sub a1) m N;refine Xc 132 #[] #[Vp b 0] [Vi ah,Vi ag,Vp b 0] _ R R R R aF ?_;rintro ar U ⟨rfl,X,aK⟩;refine I1 ?_;have aN:MS (C).drew ([[b]]++[Bk a,e]):=j.pk [1,0,2] _ R;have aj:∀ s∈fl ([[b]]++[Bk a,e]),s∈fl [Bk a,[b],e]:=Pk [1,0,2] _ R;have a4:=Stp.call (LS:=[Bk a,[b],e]) (res:=[]) (par:=[[b]]) (R:=[Bk a,e]) X (fun K aA=>aj K (fl_left' (P:=[[b]]) K aA)) (FR.nil _) (NP.init _ _) (fun s N=>aj s (fl_right' (P:=[[b]]) s N));have a3:∀ s∈fl [Bk a,[b],e],s∈fl ([]++([[b]]++[Bk a,e])):=Pk [1,0,2] _ R;have u:=a4.res a3;have i:=i.step u X (MS.outs (P:=[[b]]) aN 0 R);have o:=o.step u;have j:=j.ev X;have ax:∀ K∈fl [[b]],K∈(fl [Bk a,[b]])∨l.heap.size≤K:=NP.mem (ls:=[[b]]) (t.pk [1] _ R);have n:=n.then X ax;have m:=aK;refine Xu 2 [(33,Bd (Z<0)),(34,Bd (Z<0))] (Xk (Cn [(0,Vl a f h),(1,Vi k),(2,Vi p),(3,(.func (.func 132) #[] #[Vp b 0])),(8,Vi g),(9,Vi d),(34,Bd (Z<0))] (fun E=>?_)));refine Ci (decide (Z<0)) R c (fun c=>?_) (fun c=>?_)
     · refine Ck (Kt (Cq (Cb (Cd (Bk a) [(0,true),(1,true),(2,false),(3,false),(4,false),(5,true),(6,true),(7,true),(8,true),(9,true),(10,true),(11,true),(12,true),(13,true),(14,true),(15,false),(16,true),(17,true)] _ (by kernel_rfl) R ?_))));have u:=Stp.ext (ls:=[Bk a,[b],e]) (Ev.drew U);have i:=i.step u (Ev.drew U) nn2;have m:=(Ev.drew U).box m nn;have o:=o.step u;have j:=j.ev (Ev.drew U);have n:=n.ext (Ev.drew U);refine Xu 8 [(37,Vl a f h),(38,Vi d),(39,Vl a f h),(40,Vi d),(41,Vi (i64.wrap (d-1))),(42,Vl a f h),(43,Vi d),(44,Vi (i64.wrap (d-1)))] ?_;obtain ⟨v,ak,c⟩:=Bs c;obtain ⟨bh,bb,bn,aQ,aC,r⟩:=Oi (Mo:=[]) tsl22 i ak;obtain rfl:=r;refine Yi _ _ _ R aQ (Yl _ (Vi v) R (Rc tcell3 aC (fun _ c=>by cases c)) ?_);refine Xu 2 [(47,Vl a f h),(48,Vi d)] ?_;obtain ⟨D,al,c⟩:=Bs c;obtain ⟨bi,bc,bo,aS,aD,r⟩:=Oi (Mo:=[]) tsl22 i al;obtain rfl:=r;refine Yi _ _ _ R aS (Yl _ (Vi D) R (Rc tcell3 aD (fun _ c=>by cases c)) ?_);obtain ⟨bv,am,c⟩:=Bs c;obtain ⟨bj,bd,ay,aU,bq,r⟩:=Oi (Mo:=[]) tsl22 i am;obtain rfl:=r;refine Yi _ _ _ R aU ?_;have ad:=ak;have ae:=al;obtain ⟨a8,aX,L,aI⟩:=own_storeE ay (y:=v) 0 (Vi v) tcell3 i (Mf 0 R) am R R (fun _ _ _ r=>set_int r);refine Ys a8 _ _ R aX (⟨.inr L,?_⟩);have u:=Stp.ev' (ls:=[Bk a,[b],e]) L (Mf 0 R);have m:=L.box m (j.apart 1 0 R R R _ mem1);have o:=o.step u;have j:=j.ev L;have n:=n.then L (t.at 0 R);have i:=aI;have ac:(Vl a f h)=(Vl a ((f.set (Int.toNat d) v)) h):=by simp only [Vl,List.length_set]
       try rw [ac]
       obtain ⟨_,ad⟩:∃ G,idx (f.set (Int.toNat d) v) (i64.wrap (d-1))=some G:=idx_set_any ad _ _;obtain ⟨_,ae⟩:∃ G,idx (f.set (Int.toNat d) v) d=some G:=idx_set_any ae _ _;obtain ⟨bw,an,c⟩:=Bs c;obtain ⟨bk,be,az,aY,br,r⟩:=Oi (Mo:=[]) tsl22 i an;obtain rfl:=r;refine Yi _ _ _ R aY ?_;have ao:=ad;have ap:=ae;obtain ⟨a9,aZ,Y,aJ⟩:=own_storeE az (y:=D) 0 (Vi D) tcell3 i (Mf 0 R) an R R (fun _ _ _ r=>set_int r);refine Ys a9 _ _ R aZ (I1 ?_);have u:=Stp.ev' (ls:=[Bk a,[b],e]) Y (Mf 0 R);have m:=Y.box m (j.apart 1 0 R R R _ mem1);have o:=o.step u;have j:=j.ev Y;have n:=n.then Y (t.at 0 R);have i:=aJ;have ac:(Vl a ((f.set (Int.toNat d) v)) h)=(Vl a (((f.set (Int.toNat d) v).set (Int.toNat (i64.wrap (d-1))) D)) h):=by simp only [Vl,List.length_set]
       try rw [ac]
       obtain ⟨_,ao⟩:∃ G,idx ((f.set (Int.toNat d) v).set (Int.toNat (i64.wrap (d-1))) D) (i64.wrap (d-1))=some G:=idx_set_any ao _ _;obtain ⟨_,ap⟩:∃ G,idx ((f.set (Int.toNat d) v).set (Int.toNat (i64.wrap (d-1))) D) d=some G:=idx_set_any ap _ _;refine Xe R (Kl (Kt (Cn [(0,Vl a (((f.set (Int.toNat d) v).set (Int.toNat (i64.wrap (d-1))) D)) h),(1,Vi k),(2,Vi p),(3,(.func (.func 132) #[] #[Vp b 0])),(8,Vi g),(9,Vi d)] (fun E=>?_))));refine Cp (Xu 3 [(35,Vi d),(36,Vi (i64.wrap (d-1))),(9,Vi (i64.wrap (d-1)))] (Xe R ?_));obtain rfl:=Sj c;exact Kt ⟨(Q,((f.set (Int.toNat d) v).set (Int.toNat (i64.wrap (d-1))) D),i64.wrap (d-1)),⟨R,R,R,R,R,R,T0⟩,⟨I,n,j,B,t,i,o,m⟩,Ns _⟩
     refine Ce (Ke ?_);obtain rfl:=Sj c;have O:=Sj I;subst O;have c:=ai;refine Ke (Ki (Kl (Kt (Cn [(0,Vl a f h),(1,Vi k),(2,Vi p),(3,(.func (.func 132) #[] #[Vp b 0])),(8,Vi g)] (fun E=>?_)))));refine Cp (Xu 3 [(15,Vi g),(16,Vi (i64.wrap (g+1))),(8,Vi (i64.wrap (g+1)))] (Xe R ?_));obtain rfl:=Sj c;exact Kt ⟨(J,f,i64.wrap (g+1)),⟨R,R,R,R,R,T0⟩,⟨H,n,j,B,t,i,o,m⟩,Ns _⟩
   refine Xu 13 [(22,U0),(23,U0),(24,U0),(25,U0),(26,U0),(27,U0),(28,U0),(29,U0),(30,U0),(31,U0),(32,U0),(33,U0),(34,.bool false)] (Xk (Cn [(0,Vl a f h),(1,Vi k),(2,Vi p),(3,(.func (.func 132) #[] #[Vp b 0])),(8,Vi g),(9,Vi d),(34,.bool false)] (fun E=>?_)));refine c_false R (Ce (Ke ?_));obtain rfl:=Sj c;have O:=Sj I;subst O;have c:=ai;refine Ke (Ki (Kl (Kt (Cn [(0,Vl a f h),(1,Vi k),(2,Vi p),(3,(.func (.func 132) #[] #[Vp b 0])),(8,Vi g)] (fun E=>?_)))));refine Cp (Xu 3 [(15,Vi g),(16,Vi (i64.wrap (g+1))),(8,Vi (i64.wrap (g+1)))] (Xe R ?_));obtain rfl:=Sj c;exact Kt ⟨(J,f,i64.wrap (g+1)),⟨R,R,R,R,R,T0⟩,⟨H,n,j,B,t,i,o,m⟩,Ns _⟩
 refine Ce (Ke ?_);obtain rfl:=Sj c;have O:=Sj H;subst O;have c:=aw;refine Ke (Ki (r_normal (Rv [] T0 ?_)));obtain rfl:=Sj c;have aH:=j.pk [0,1,2] [Bk a,[b],e] R;have a5:=Pk (ls:=[Bk a,[b],e]) [0,1,2] [Bk a,[b],e] R;have aG:=B.pick [] [] R;exact ⟨R,n,i.sub a5,m,aH,aG,(NP.cons (t.at 0 R) (NP.cons (t.at 1 R) (NP.nil _ _)))⟩
def slices_stableCmpFunc_int__L14 (b:Int) (a:Int) (c:Unit):Option (Step Unit Unit):=
(if (decide ((i64.wrap (2*a))≤b))=true then
none
else
some (.done ()))
def slices_stableCmpFunc_int__L11 (b:Int) (d:Int):Option (Step Int Unit):=
match d with
| a=>
(if (decide (a<b))=true then
((loop (slices_stableCmpFunc_int__L14 b a) ()).bind fun c=>match c with
| _=>(if (decide ((i64.wrap (0+a))<b))=true then
none
else
some (.next (i64.wrap (a*2)))))
else
some (.done ()))
def slices_stableCmpFunc_int__L5 (e:Int) (f:List Int) (g:(List Int)×Int×Int):Option (Step ((List Int)×Int×Int) ((List Int)×Int)):=
match g with
| (b,c,a)=>
(if (decide (a≤e))=true then
((slices_insertionSortCmpFunc_int_ b c a f).bind fun d=>
(if d.length=b.length then
some (.next (d,a,i64.wrap (a+20)))
else none))
else
some (.done (b,c)))
def slices_stableCmpFunc_int_ (g:List Int) (b:Int) (d:List Int):Option (List Int):=
((loop (slices_stableCmpFunc_int__L5 b d) (g,0,20)).bind fun a=>match a with
| (c,f)=>((slices_insertionSortCmpFunc_int_ c f b d).bind fun e=>
(if e.length=c.length then
((loop (slices_stableCmpFunc_int__L11 b) 20).bind fun a=>match a with
| _=>some e)
else none)))
theorem slices_stableCmpFunc_int__w (a j O f b v w u aq h d)(o:MS h [Bk a,[b],d])(t:OwnS eI 3 h (fl [Bk a,[b],d]) a j O)(q:SlR eI h (fl [Bk a,[b],d]) v w u)(s:h.heap[b]? = some (.cells #[Vl v u w] 22 (0,0)))(c:slices_stableCmpFunc_int_ O f u=some aq):CallVC Tryz.prog 146 [Vl a O j,Vi f,(.func (.func 132) #[] #[Vp b 0])] h fun an k=>an=.tuple #[]∧Ev (fl [Bk a,[b]]) h k∧OwnS eI 3 k (fl [Bk a,[b],d]) a j aq∧k.heap[b]? = some (.cells #[Vl v u w] 22 (0,0))∧MS k [Bk a,[b],d]∧FR h.heap.size []∧NP (fl [Bk a,[b]]) h.heap.size [Bk a,[b]]:=by
 refine Cv hmx Tryz.func146 (by kernel_rfl) R (rs:=[]) R (by kernel_rfl) (args:=[Vl a O j,Vi f,(.func (.func 132) #[] #[Vp b 0])]) R ?_;have m:Ev (fl [Bk a,[b]]) h h:=Ev.refl _ _;have A:FR h.heap.size []:=FR.nil _;have p:NP (fl [Bk a,[b]]) h.heap.size [Bk a,[b]]:=NP.init _ _;refine Cs (Xu 1 [(6,Vi 20)] (Xk (Cs (Xu 3 [(10,Vi 20),(7,Vi 0),(8,Vi 20)] (Xk (Cq (Cb ?_)))))));obtain ⟨aw,ab,az⟩:=Bs c;obtain ⟨N,ab⟩:=Lo ab;refine Cl (Lr hmx (σ:=Nat×(List Int)×Int×Int) (fun n=>match n with | (_,r,z,l)=>[(0,Vl a r j),(1,Vi f),(2,(.func (.func 132) #[] #[Vp b 0])),(6,Vi 20),(7,Vi z),(8,Vi l)]) (fun n k=>match n with | (K,r,z,l)=>loopN (slices_stableCmpFunc_int__L5 f u) K (r,z,l)=some aw∧Ev (fl [Bk a,[b]]) h k∧MS k [Bk a,[b],d]∧FR h.heap.size []∧NP (fl [Bk a,[b]]) h.heap.size [Bk a,[b]]∧OwnS eI 3 k (fl [Bk a,[b],d]) a j r∧SlR eI k (fl [Bk a,[b],d]) v w u∧k.heap[b]? = some (.cells #[Vl v u w] 22 (0,0))) (fun n=>n.1) (N,O,0,20) ⟨R,R,R,R,R,R,T0⟩ ⟨ab,m,o,A,p,t,q,s⟩ ?_);rintro ⟨N,r,z,l⟩ C E ⟨G,m,o,A,p,t,q,s⟩;rcases N with _ | N
 · exact (Lz G).elim
 obtain ⟨aO,c,G⟩:=Bs G;refine Cq (Cs (Xu 3 [(11,Vi l),(12,Vi f),(13,Bd (l≤f))] (Xk (Cn [(0,Vl a r j),(1,Vi f),(2,(.func (.func 132) #[] #[Vp b 0])),(6,Vi 20),(7,Vi z),(8,Vi l),(13,Bd (l≤f))] (fun C=>?_)))));refine Ci (decide (l≤f)) R c (fun c=>?_) (fun c=>?_)
 · refine Ck (Kt (Cb (Cs (Xu 4 [(14,Vl a r j),(15,Vi z),(16,Vi l),(17,(.func (.func 132) #[] #[Vp b 0]))] ?_))));obtain ⟨ar,y,c⟩:=Bs c;have af:MS E ([Bk a,[b]]++[d]):=o.pk [0,1,2] _ R;have ai:∀ g∈fl ([Bk a,[b]]++[d]),g∈fl [Bk a,[b],d]:=Pk [0,1,2] _ R;have H:∀ g∈fl ([Bk a,[b]]++[(fl [d])]),g∈fl [Bk a,[b],d]:=fun g y=>ai g (Fu g y)
   have Y:=slices_insertionSortCmpFunc_int__w a j r z l b v w u _ E (fl [d]) (af.fold (P:=[Bk a,[b]])) (t.sub H) (q.sub H) s y;refine Xc 136 #[] #[] _ _ R R R R Y ?_;rintro an aK ⟨rfl,ad,aG,aH,aC,ap,U⟩;refine I1 ?_;have ag:MS E ([Bk a,[b]]++[d]):=o.pk [0,1,2] _ R;have I:∀ g∈fl ([Bk a,[b]]++[d]),g∈fl [Bk a,[b],d]:=Pk [0,1,2] _ R;have am:=Stp.call (LS:=[Bk a,[b],d]) (res:=[]) (par:=[Bk a,[b]]) (R:=[d]) ad (fun i x=>I i (fl_left' (P:=[Bk a,[b]]) i x)) ap U (fun g y=>I g (fl_right' (P:=[Bk a,[b]]) g y));have ak:∀ g∈fl [Bk a,[b],d],g∈fl ([]++([Bk a,[b]]++[d])):=Pk [0,1,2] _ R;have al:=am.res ak;have q:=q.step al;replace o:MS aK [Bk a,[b],d]:=(MS.call (P:=[Bk a,[b]]) (R:=[d]) (res:=[]) (par:=[Bk a,[b]]) ag ad aC ap U).pick [some 0,some 1,some 2] _ R;have D:∀ i∈fl [Bk a,[b]],i∈(fl [Bk a,[b]])∨h.heap.size≤i:=NP.mem (ls:=[Bk a,[b]]) (p.pk [0,1] _ R);have ah:NP (fl [Bk a,[b]]) h.heap.size [Bk a,[b]]:=(NP.cons (fun i x=>(U.at 0 R i x).elim (fun c=>D i c) (fun c=>.inr (Nat.le_trans m.size c))) (NP.cons (fun i x=>(U.at 1 R i x).elim (fun c=>D i c) (fun c=>.inr (Nat.le_trans m.size c))) (NP.nil _ _)))
   have m:=m.then ad D;have p:=ah;have s:=aH;have t:=OwnS.plain (M':=fl [Bk a,[b],d]) (Pi _) aG;have ae:=Gl c;have c:=Gr c;have aj:(Vl a r j)=(Vl a ar j):=by simp only [Vl,ae]
   try rw [aj]
   refine Xk (Cs (Xu 2 [(19,Vi l),(7,Vi l)] (Xk (Cp (Xu 4 [(20,Vi l),(21,Vi 20),(22,Vi (i64.wrap (l+20))),(8,Vi (i64.wrap (l+20)))] (Xe R (Kl ?_)))))));obtain rfl:=Sj c;exact Kt ⟨(N,ar,l,i64.wrap (l+20)),⟨R,R,R,R,R,R,T0⟩,⟨G,m,o,A,p,t,q,s⟩,Ns _⟩
 refine Ce (Ke ?_);obtain rfl:=Sj c;have J:=Sj G;subst J;have c:=az;refine Ke (Ki (Kt (Cn [(0,Vl a r j),(1,Vi f),(2,(.func (.func 132) #[] #[Vp b 0])),(6,Vi 20),(7,Vi z)] (fun C=>?_))));refine Cs (Xu 4 [(23,Vl a r j),(24,Vi z),(25,Vi f),(26,(.func (.func 132) #[] #[Vp b 0]))] ?_);obtain ⟨B,y,c⟩:=Bs c;have af:MS E ([Bk a,[b]]++[d]):=o.pk [0,1,2] _ R;have ai:∀ g∈fl ([Bk a,[b]]++[d]),g∈fl [Bk a,[b],d]:=Pk [0,1,2] _ R;have H:∀ g∈fl ([Bk a,[b]]++[(fl [d])]),g∈fl [Bk a,[b],d]:=fun g y=>ai g (Fu g y)
 have Y:=slices_insertionSortCmpFunc_int__w a j r z f b v w u _ E (fl [d]) (af.fold (P:=[Bk a,[b]])) (t.sub H) (q.sub H) s y;refine Xc 136 #[] #[] _ _ R R R R Y ?_;rintro an aJ ⟨rfl,ac,aE,aF,aB,ao,S⟩;refine I1 ?_;have ag:MS E ([Bk a,[b]]++[d]):=o.pk [0,1,2] _ R;have I:∀ g∈fl ([Bk a,[b]]++[d]),g∈fl [Bk a,[b],d]:=Pk [0,1,2] _ R;have am:=Stp.call (LS:=[Bk a,[b],d]) (res:=[]) (par:=[Bk a,[b]]) (R:=[d]) ac (fun i x=>I i (fl_left' (P:=[Bk a,[b]]) i x)) ao S (fun g y=>I g (fl_right' (P:=[Bk a,[b]]) g y));have ak:∀ g∈fl [Bk a,[b],d],g∈fl ([]++([Bk a,[b]]++[d])):=Pk [0,1,2] _ R;have al:=am.res ak;have q:=q.step al;replace o:MS aJ [Bk a,[b],d]:=(MS.call (P:=[Bk a,[b]]) (R:=[d]) (res:=[]) (par:=[Bk a,[b]]) ag ac aB ao S).pick [some 0,some 1,some 2] _ R;have D:∀ i∈fl [Bk a,[b]],i∈(fl [Bk a,[b]])∨h.heap.size≤i:=NP.mem (ls:=[Bk a,[b]]) (p.pk [0,1] _ R);have ah:NP (fl [Bk a,[b]]) h.heap.size [Bk a,[b]]:=(NP.cons (fun i x=>(S.at 0 R i x).elim (fun c=>D i c) (fun c=>.inr (Nat.le_trans m.size c))) (NP.cons (fun i x=>(S.at 1 R i x).elim (fun c=>D i c) (fun c=>.inr (Nat.le_trans m.size c))) (NP.nil _ _)))
 have m:=m.then ac D;have p:=ah;have s:=aF;have t:=OwnS.plain (M':=fl [Bk a,[b],d]) (Pi _) aE;have ae:=Gl c;have c:=Gr c;have aj:(Vl a r j)=(Vl a B j):=by simp only [Vl,ae]
 try rw [aj]
 refine Xk (Cb ?_);obtain ⟨au,Z,ax⟩:=Bs c;obtain ⟨L,Z⟩:=Lo Z;refine Cl (Lr hmx (σ:=Nat×Int) (fun n=>match n with | (_,e)=>[(0,Vl a B j),(1,Vi f),(2,(.func (.func 132) #[] #[Vp b 0])),(6,Vi e)]) (fun n k=>match n with | (K,e)=>loopN (slices_stableCmpFunc_int__L11 f) K e=some au∧Ev (fl [Bk a,[b]]) h k∧MS k [Bk a,[b],d]∧FR h.heap.size []∧NP (fl [Bk a,[b]]) h.heap.size [Bk a,[b]]∧OwnS eI 3 k (fl [Bk a,[b],d]) a j B∧SlR eI k (fl [Bk a,[b],d]) v w u∧k.heap[b]? = some (.cells #[Vl v u w] 22 (0,0))) (fun n=>n.1) (L,20) ⟨R,R,R,R,T0⟩ ⟨Z,m,o,A,p,t,q,s⟩ ?_);rintro ⟨L,e⟩ C aQ ⟨F,m,o,A,p,t,q,s⟩;rcases L with _ | L
 · exact (Lz F).elim
 obtain ⟨aL,c,F⟩:=Bs F;refine Cq (Cs (Xu 3 [(28,Vi e),(29,Vi f),(30,Bd (e<f))] (Xk (Cn [(0,Vl a B j),(1,Vi f),(2,(.func (.func 132) #[] #[Vp b 0])),(6,Vi e),(30,Bd (e<f))] (fun C=>?_)))));refine Ci (decide (e<f)) R c (fun c=>?_) (fun c=>?_)
 · refine Ck (Kt (Cb (Cs (Xu 4 [(31,Vi e),(32,Vi (i64.wrap (2*e))),(7,Vi 0),(8,Vi (i64.wrap (2*e)))] (Xk (Cq (Cb ?_)))))));obtain ⟨av,aa,ay⟩:=Bs c;obtain ⟨X,aa⟩:=Lo aa;refine Cl (Lr hmx (σ:=Nat×Unit) (fun n=>match n with | (_,_)=>[(0,Vl a B j),(1,Vi f),(2,(.func (.func 132) #[] #[Vp b 0])),(6,Vi e),(7,Vi 0),(8,Vi (i64.wrap (2*e)))]) (fun n k=>match n with | (K,_)=>loopN (slices_stableCmpFunc_int__L14 f e) K ()=some av∧Ev (fl [Bk a,[b]]) h k∧MS k [Bk a,[b],d]∧FR h.heap.size []∧NP (fl [Bk a,[b]]) h.heap.size [Bk a,[b]]∧OwnS eI 3 k (fl [Bk a,[b],d]) a j B∧SlR eI k (fl [Bk a,[b],d]) v w u∧k.heap[b]? = some (.cells #[Vl v u w] 22 (0,0))) (fun n=>n.1) (X,()) ⟨R,R,R,R,R,R,T0⟩ ⟨aa,m,o,A,p,t,q,s⟩ ?_);rintro ⟨X,_⟩ C aS ⟨Q,m,o,A,p,t,q,s⟩;rcases X with _ | X
   · exact (Lz Q).elim
   obtain ⟨aN,c,Q⟩:=Bs Q;refine Cq (Cs (Xu 3 [(33,Vi (i64.wrap (2*e))),(34,Vi f),(35,Bd ((i64.wrap (2*e))≤f))] (Xk (Cn [(0,Vl a B j),(1,Vi f),(2,(.func (.func 132) #[] #[Vp b 0])),(6,Vi e),(7,Vi 0),(8,Vi (i64.wrap (2*e))),(35,Bd ((i64.wrap (2*e))≤f))] (fun C=>?_)))));refine Ci (decide ((i64.wrap (2*e))≤f)) R c (fun c=>?_) (fun c=>?_)
   · refine Ck (Kt (Cb (Cs ?_)));cases c
   refine Ce (Ke ?_);obtain rfl:=Sj c;have J:=Sj Q;subst J;have c:=ay;refine Ke (Ki (Kt (Cn [(0,Vl a B j),(1,Vi f),(2,(.func (.func 132) #[] #[Vp b 0])),(6,Vi e),(7,Vi 0)] (fun C=>?_))));refine Cq (Cs (Xu 4 [(49,Vi 0),(50,Vi e),(51,Vi (i64.wrap (0+e))),(9,Vi (i64.wrap (0+e)))] (Xk (Cs (Xu 3 [(52,Vi (i64.wrap (0+e))),(53,Vi f),(54,Bd ((i64.wrap (0+e))<f))] (Xk (Ci (decide ((i64.wrap (0+e))<f)) R c (fun c=>?_) (fun c=>?_))))))))
   · refine Cp ?_;cases c
   refine Ck (Kt (Cp (Xu 3 [(61,Vi e),(62,Vi (i64.wrap (e*2))),(6,Vi (i64.wrap (e*2)))] (Xe R (Kl ?_)))));obtain rfl:=Sj c;exact Kt ⟨(L,i64.wrap (e*2)),⟨R,R,R,R,T0⟩,⟨F,m,o,A,p,t,q,s⟩,Ns _⟩
 refine Ce (Ke ?_);obtain rfl:=Sj c;have J:=Sj F;subst J;have c:=ax;refine Ke (Ki (r_normal (Rv [] T0 ?_)));obtain rfl:=Sj c;have aD:=o.pk [0,1,2] [Bk a,[b],d] R;have aI:=Pk (ls:=[Bk a,[b],d]) [0,1,2] [Bk a,[b],d] R;have aA:=A.pick [] [] R;exact ⟨R,m,t.sub aI,s,aD,aA,(NP.cons (p.at 0 R) (NP.cons (p.at 1 R) (NP.nil _ _)))⟩
def slices_SortStableFunc_int_int_ (a:List Int) (c:List Int):Option (List Int):=
((slices_stableCmpFunc_int_ a ((a).length:Int) c).bind fun b=>
(if b.length=a.length then
some b
else none))
theorem slices_SortStableFunc_int_int__w (a g f b l m k y d c)(n:MS d [Bk a,[b],c])(u:OwnS eI 3 d (fl [Bk a,[b],c]) a g f)(N:SlR eI d (fl [Bk a,[b],c]) l m k)(s:d.heap[b]? = some (.cells #[Vl l k m] 22 (0,0)))(e:slices_SortStableFunc_int_int_ f k=some y):CallVC Tryz.prog 131 [Vl a f g,(.func (.func 132) #[] #[Vp b 0])] d fun z p=>z=.tuple #[]∧Ev (fl [Bk a,[b]]) d p∧OwnS eI 3 p (fl [Bk a,[b],c]) a g y∧p.heap[b]? = some (.cells #[Vl l k m] 22 (0,0))∧MS p [Bk a,[b],c]∧FR d.heap.size []∧NP (fl [Bk a,[b]]) d.heap.size [Bk a,[b]]:=by
 refine Cv hmx Tryz.func131 (by kernel_rfl) R (rs:=[]) R (by kernel_rfl) (args:=[Vl a f g,(.func (.func 132) #[] #[Vp b 0])]) R ?_;have j:Ev (fl [Bk a,[b]]) d d:=Ev.refl _ _;have D:FR d.heap.size []:=FR.nil _;have o:NP (fl [Bk a,[b]]) d.heap.size [Bk a,[b]]:=NP.init _ _;refine Cp (Xu 2 [(4,Vl a f g),(5,Vl a f g)] (Xn (vs:=[Vl a f g]) (Vi ((f).length:Int)) R R R (Rl tsl22 _ _ _ _ _) (Xu 1 [(7,(.func (.func 132) #[] #[Vp b 0]))] ?_)));obtain ⟨X,v,e⟩:=Bs e;have J:MS d ([Bk a,[b]]++[c]):=n.pk [0,1,2] _ R;have O:∀ i∈fl ([Bk a,[b]]++[c]),i∈fl [Bk a,[b],c]:=Pk [0,1,2] _ R;have x:∀ i∈fl ([Bk a,[b]]++[(fl [c])]),i∈fl [Bk a,[b],c]:=fun i v=>O i (Fu i v)
 have A:=slices_stableCmpFunc_int__w a g f ((f).length:Int) b l m k _ d (fl [c]) (J.fold (P:=[Bk a,[b]])) (u.sub x) (N.sub x) s v;refine Xc 146 #[] #[] _ _ R R R R A ?_;rintro z U ⟨rfl,w,H,I,F,C,t⟩;refine I1 ?_;have K:MS d ([Bk a,[b]]++[c]):=n.pk [0,1,2] _ R;replace n:MS U [Bk a,[b],c]:=(MS.call (P:=[Bk a,[b]]) (R:=[c]) (res:=[]) (par:=[Bk a,[b]]) K w F C t).pick [some 0,some 1,some 2] _ R;have q:∀ h∈fl [Bk a,[b]],h∈(fl [Bk a,[b]])∨d.heap.size≤h:=NP.mem (ls:=[Bk a,[b]]) (o.pk [0,1] _ R);have L:NP (fl [Bk a,[b]]) d.heap.size [Bk a,[b]]:=(NP.cons (fun h r=>(t.at 0 R h r).elim (fun e=>q h e) (fun e=>.inr (Nat.le_trans j.size e))) (NP.cons (fun h r=>(t.at 1 R h r).elim (fun e=>q h e) (fun e=>.inr (Nat.le_trans j.size e))) (NP.nil _ _)))
 have j:=j.then w q;have o:=L;have s:=I;have u:=OwnS.plain (M':=fl [Bk a,[b],c]) (Pi _) H;have E:=Gl e;have e:=Gr e;have Q:(Vl a f g)=(Vl a X g):=by simp only [Vl,E]
 try rw [Q]
 refine Xe R (r_normal (Rv [] T0 ?_));obtain rfl:=Sj e;have G:=n.pk [0,1,2] [Bk a,[b],c] R;have S:=Pk (ls:=[Bk a,[b],c]) [0,1,2] [Bk a,[b],c] R;have B:=D.pick [] [] R;exact ⟨R,j,u.sub S,s,G,B,(NP.cons (o.at 0 R) (NP.cons (o.at 1 R) (NP.nil _ _)))⟩
end Go.Proofs.YtlejnkhaphlooaaGreat
