
/- Walks, printed by program: each function returns what the partial function of the same name returns. Conditions: those of each theorem. -/
import Derived.Test.YtlejnkhaphlooaaGreatGT
set_option linter.unusedVariables false
set_option linter.unusedSimpArgs false
set_option maxRecDepth 4000
namespace Go.Proofs.YtlejnkhaphlooaaGreat
open Go Go.V Go.Proofs Go.IntKind
def slices_Clone_humpyard_api_Item_humpyard_api_Item_ (a:List (Int×Int×Int×Int)):Option (List (Int×Int×Int×Int)):=
(if ([]:List (Int×Int×Int×Int)).length+a.length≤4294967296 then
some (([]:List (Int×Int×Int×Int))++a)
else none)
theorem slices_Clone_humpyard_api_Item_humpyard_api_Item__w (h j e p g a)(n:MS g [a])(q:SlR (eIt4) g (fl [a]) h j e)(d:slices_Clone_humpyard_api_Item_humpyard_api_Item_ e=some p):CallVC Tryz.prog 87 [Vl h e j] g fun U B=>∃ o E,U=Vl o p E∧Ev [] g B∧MS B [Bk o,a]∧FR g.heap.size [Bk o]∧OwnS (eIt4) 76 B (fl [Bk o,a]) o E p:=by
 refine Cv hmx Tryz.func87 (by kernel_rfl) R (rs:=[.tmp 2]) R (by kernel_rfl) (args:=[Vl h e j]) R ?_;have i:Ev [] g g:=Ev.refl _ _;have k:FR g.heap.size []:=FR.nil _;refine Cs (Xu 1 [(2,Z0)] (Xk (Cq (Cs (Xu 1 [(3,Vl h e j)] (x_binop (.bool h.isNone) (Vl h e j) (Z0) R R R R (vb_slnil tuns36 _ _ _) (Xk (c_cond h.isNone R (fun b=>?_) (fun b=>?_)))))))))
 · have K:=SlR.nil_of q b;replace d:(if ([]:List (Int×Int×Int×Int)).length+e.length≤4294967296 then
some (([]:List (Int×Int×Int×Int))++e)
else none)=some p:=d
   replace d:some ([])=some p:=by rw [K] at d; simpa using d
   refine Cs (Xu 1 [(2,Z0)] (Xk (Cr (Kr (Rr (Rv [Z0] ⟨R,T0⟩ ?_))))));obtain rfl:=Sj d;have w:=n.pick [none,some 0] [Bk none,a] R;have v:=k.pick [none] [Bk none] R;exact ⟨none,0,R,i,w,v,OwnS.nil _ _ _ _⟩
 refine Ck (Kt (Cs (Xb (vs:=[]) #[] 76 R R R (by kernel_rfl) (fun H C L F t Y=>?_))));refine I1 ?_;obtain ⟨m,s⟩:∃ G,G=some (⟨H,0,none⟩:Addr):=⟨_,R⟩
 have Q:∀ a,OwnS (eIt4) 76 C a m 0 ([]:List (Int×Int×Int×Int)):=fun a=>s ▸ own_of_box F (by decide) R R (cells_at (cs:=[]) CellsOf.nil)
 have x:∀ c∈Bk m,g.heap.size≤c∧c<C.heap.size:=by subst s; intro c b; simp only [Bk,blk,List.mem_singleton] at b; subst b; exact ⟨Nat.le_of_eq L.symm,lt_of_heap F⟩
 have A:=Stp.push (ls:=[a]) (l:=Bk m) t (fun _ d=>by cases d) (fun c b=>(x c b).1);have q:=q.step A;have n:=n.push t x;have k:=k.push (fun c b=>Nat.le_trans i.size (x c b).1);have i:=i.ext t;have z:=Q (fl [Bk m,a]);rw [← s];refine Xu 1 [(6,Vl h e j)] ?_;have J:=Gl d;have d:=Gr d;obtain ⟨f,r,D,N,u,y,X,S⟩:=own_appendN tel36 36 z (Mf 0 R) q J;refine x_builtin (vs:=[Vl m (([]:List (Int×Int×Int×Int))) 0,Vl h e j]) _ D R R R R (run_value _ _ _ _ N) (I1 ?_);have A:Stp (fl [Bk m,a]) C (fl [Bk f,a]) D:=Stp.upd 0 u R (fun c b=>(y c b).1);replace n:MS D [Bk f,a]:=n.upd 0 u R y;have I:FR g.heap.size [Bk f]:=k.upd 0 R i.size (fun c b=>(y c b).1);have i:=i.then u (fun c b=>.inr (k.at 0 R c b));have k:=I;have z:=S (fl [Bk f,a]) A.new;refine Xu 1 [(2,Vl f ((([]:List (Int×Int×Int×Int))++e)) r)] (Xk (Cr (Rr (Rv [Vl f ((([]:List (Int×Int×Int×Int))++e)) r] ⟨R,T0⟩ ?_))));obtain rfl:=Sj d;have w:=n.pk [0,1] [Bk f,a] R;have O:=Pk (ls:=[Bk f,a]) [0,1] [Bk f,a] R;have v:=k.pk [0] [Bk f] R;exact ⟨f,r,R,i,w,v,z.sub O⟩
def slices_Max_int_int__L5 (c:List Int) (e:Int×Int):Option (Step (Int×Int) Int):=
match e with
| (b,a)=>
(if (decide (a<((c).length:Int)))=true then
((idx c a).bind fun d=>
some (.next (if d>b then d else b,i64.wrap (a+1))))
else
some (.done b))
def slices_Max_int_int_ (a:List Int):Option Int:=
(if (decide (((a).length:Int)<1))=true then
none
else
((idx a 0).bind fun d=>
((loop (slices_Max_int_int__L5 a) (d,1)).bind fun b=>match b with
| c=>some c)))
theorem slices_Max_int_int__w (e f b v g n)(s:MS g [n])(j:SlR eI g (fl [n]) e f b)(a:slices_Max_int_int_ b=some v):CallVC Tryz.prog 83 [Vl e b f] g fun G m=>G=Vi v∧Ev [] g m:=by
 refine Cv hmx Tryz.func83 (by kernel_rfl) R (rs:=[.tmp 2]) R (by kernel_rfl) (args:=[Vl e b f]) R ?_;have o:Ev [] g g:=Ev.refl _ _;have r:FR g.heap.size []:=FR.nil _;refine Cs (Xu 1 [(2,Vi 0)] (Xk (Cq (Cs (Xu 1 [(5,Vl e b f)] (Xn (vs:=[Vl e b f]) (Vi ((b).length:Int)) R R R (Rl tsl22 _ _ _ _ _) (Xu 1 [(7,Bd (((b).length:Int)<1))] (Xk (Ci (decide (((b).length:Int)<1)) R a (fun a=>?_) (fun a=>?_))))))))))
 · refine Cp ?_;cases a
 refine Ck (Kt (Cs (Xu 1 [(9,Vl e b f)] ?_)));obtain ⟨t,C,a⟩:=Bs a;obtain ⟨H,J,A,y,p⟩:=Ri (Mo:=[]) tsl22 j C;obtain rfl:=p;refine Yi _ _ _ R A (Yl _ (Vi t) R (Rc tcell3 y (fun _ a=>by cases a)) ?_);refine Xu 1 [(3,Vi t)] (Xk (Cq (Cs (Xu 1 [(4,Vi 1)] (Xk (Cb ?_))))));obtain ⟨w,q,x⟩:=Bs a;obtain ⟨k,q⟩:=Lo q;refine Cl (Lr hmx (σ:=Nat×Int×Int) (fun l=>match l with | (_,c,d)=>[(0,Vl e b f),(3,Vi c),(4,Vi d)]) (fun l m=>match l with | (F,c,d)=>loopN (slices_Max_int_int__L5 b) F (c,d)=some w∧Ev [] g m∧MS m [n]∧FR g.heap.size []∧SlR eI m (fl [n]) e f b) (fun l=>l.1) (k,t,1) ⟨R,R,R,T0⟩ ⟨q,o,s,r,j⟩ ?_);rintro ⟨k,c,d⟩ u N ⟨i,o,s,r,j⟩;rcases k with _ | k
 · exact (Lz i).elim
 obtain ⟨L,a,i⟩:=Bs i;refine Cq (Cs (Xu 2 [(12,Vi d),(13,Vl e b f)] (Xn (vs:=[Vl e b f]) (Vi ((b).length:Int)) R R R (Rl tsl22 _ _ _ _ _) (Xu 1 [(15,Bd (d<((b).length:Int)))] (Xk (Cn [(0,Vl e b f),(3,Vi c),(4,Vi d),(15,Bd (d<((b).length:Int)))] (fun u=>?_)))))));refine Ci (decide (d<((b).length:Int))) R a (fun a=>?_) (fun a=>?_)
 · refine Ck (Kt (Cq (Cb (Cp (Xu 3 [(18,Vi c),(19,Vl e b f),(20,Vi d)] ?_)))));obtain ⟨h,D,a⟩:=Bs a;obtain ⟨I,K,B,z,p⟩:=Ri (Mo:=[]) tsl22 j D;obtain rfl:=p;refine Yi _ _ _ R B (Yl _ (Vi h) R (Rc tcell3 z (fun _ a=>by cases a)) ?_);refine x_max (vs:=[Vi c,Vi h]) (Vi (if h>c then h else c)) R R R (fun _ _=>R) (Xu 1 [(3,Vi (if h>c then h else c))] (Xe R (Kl (Kt (Cp (Xu 3 [(16,Vi d),(17,Vi (i64.wrap (d+1))),(4,Vi (i64.wrap (d+1)))] (Xe R ?_)))))));obtain rfl:=Sj a;exact Kt ⟨(k,if h>c then h else c,i64.wrap (d+1)),⟨R,R,R,T0⟩,⟨i,o,s,r,j⟩,Ns _⟩
 refine Ce (Ke ?_);obtain rfl:=Sj a;have E:=Sj i;subst E;have a:=x;refine Ke (Ki (Kt (Cn [(3,Vi c)] (fun u=>?_))));refine Cs (Xu 2 [(24,Vi c),(2,Vi c)] (Xk (Cr (Rr (Rv [Vi c] ⟨R,T0⟩ ?_)))));obtain rfl:=Sj a;exact ⟨R,o⟩
def slices_Index_int_int__L2 (b:List Int) (c:Int) (d:Int):Option (Step Int (Int⊕Unit)):=
match d with
| a=>
(if (decide (a<((b).length:Int)))=true then
((idx b a).bind fun e=>
(if (c==e)=true then
some (.done (.inl a))
else
some (.next (i64.wrap (a+1)))))
else
some (.done (.inr ())))
def slices_Index_int_int_ (b:List Int) (c:Int):Option Int:=
((loop (slices_Index_int_int__L2 b c) 0).bind fun a=>match a with
| (.inl d)=>some d
| (.inr _)=>some (-1))
theorem slices_Index_int_int__w (d e b f v g m)(q:MS g [m])(n:SlR eI g (fl [m]) d e b)(a:slices_Index_int_int_ b f=some v):CallVC Tryz.prog 82 [Vl d b e,Vi f] g fun C l=>C=Vi v∧Ev [] g l:=by
 refine Cv hmx Tryz.func82 (by kernel_rfl) R (rs:=[.tmp 4]) R (by kernel_rfl) (args:=[Vl d b e,Vi f]) R ?_;have i:Ev [] g g:=Ev.refl _ _;have p:FR g.heap.size []:=FR.nil _;refine Cs (Xu 1 [(4,Vi 0)] (Xk (Cq (Cs (Xu 1 [(6,Vl d b e)] (Xn (vs:=[Vl d b e]) (Vi ((b).length:Int)) R R R (Rl tsl22 _ _ _ _ _) (Xu 1 [(8,Vi 0)] (Xk (Cb ?_)))))))));obtain ⟨w,o,u⟩:=Bs a;obtain ⟨j,o⟩:=Lo o;refine Cl (Lr hmx (σ:=Nat×Int) (fun k=>match k with | (_,c)=>[(0,Vl d b e),(1,Vi f),(7,Vi ((b).length:Int)),(8,Vi c)]) (fun k l=>match k with | (B,c)=>loopN (slices_Index_int_int__L2 b f) B c=some w∧Ev [] g l∧MS l [m]∧FR g.heap.size []∧SlR eI l (fl [m]) d e b) (fun k=>k.1) (j,0) ⟨R,R,R,R,T0⟩ ⟨o,i,q,p,n⟩ ?_);rintro ⟨j,c⟩ t G ⟨h,i,q,p,n⟩;rcases j with _ | j
 · exact (Lz h).elim
 obtain ⟨F,a,h⟩:=Bs h;refine Cs (Xu 1 [(9,Bd (c<((b).length:Int)))] (Xk (Cn [(0,Vl d b e),(1,Vi f),(7,Vi ((b).length:Int)),(8,Vi c),(9,Bd (c<((b).length:Int)))] (fun t=>?_))));refine Cq (Ci (decide (c<((b).length:Int))) R a (fun a=>?_) (fun a=>?_))
 · refine Ck (Kt (Cq (Cb (Cs (Xu 2 [(10,Vi c),(5,Vi c)] (Xk (Cs (Xu 3 [(11,Vi f),(12,Vl d b e),(13,Vi c)] ?_))))))));obtain ⟨s,A,a⟩:=Bs a;obtain ⟨D,E,z,y,x⟩:=Ri (Mo:=[]) tsl22 n A;obtain rfl:=x;refine Yi _ _ _ R z (Yl _ (Vi s) R (Rc tcell3 y (fun _ a=>by cases a)) ?_);refine Xu 1 [(16,.bool (f==s))] (Xk (Ci (f==s) R a (fun a=>?_) (fun a=>?_)))
   · refine Cs (Xu 2 [(17,Vi c),(4,Vi c)] (Xk (Cr (Kb (Kr ?_)))));obtain rfl:=Sj a;have r:=Sj h;subst r;have a:=u;refine Kr (Kb (Kr (Rr (Rv [Vi c] ⟨R,T0⟩ ?_))));obtain rfl:=Sj a;exact ⟨R,i⟩
   refine Ck (Kl (Kt (Cp (Xu 2 [(18,Vi (i64.wrap (c+1))),(8,Vi (i64.wrap (c+1)))] (Xe R ?_)))));obtain rfl:=Sj a;exact Kt ⟨(j,i64.wrap (c+1)),⟨R,R,R,R,T0⟩,⟨h,i,q,p,n⟩,Ns _⟩
 refine Ce (Ke ?_);obtain rfl:=Sj a;have r:=Sj h;subst r;have a:=u;refine Ke (Ki (Kt (c_norm [] T0 (fun t=>?_))));refine Cs (Xu 1 [(4,Vi (-1))] (Xk (Cr (Rr (Rv [Vi (-1)] ⟨R,T0⟩ ?_)))));obtain rfl:=Sj a;exact ⟨R,i⟩
def slices_Clone_int_int_ (a:List Int):Option (List Int):=
(if ([]:List Int).length+a.length≤4294967296 then
some (([]:List Int)++a)
else none)
theorem slices_Clone_int_int__w (h j e p g a)(n:MS g [a])(q:SlR eI g (fl [a]) h j e)(d:slices_Clone_int_int_ e=some p):CallVC Tryz.prog 118 [Vl h e j] g fun U B=>∃ o E,U=Vl o p E∧Ev [] g B∧MS B [Bk o,a]∧FR g.heap.size [Bk o]∧OwnS eI 3 B (fl [Bk o,a]) o E p:=by
 refine Cv hmx Tryz.func118 (by kernel_rfl) R (rs:=[.tmp 2]) R (by kernel_rfl) (args:=[Vl h e j]) R ?_;have i:Ev [] g g:=Ev.refl _ _;have k:FR g.heap.size []:=FR.nil _;refine Cs (Xu 1 [(2,Z0)] (Xk (Cq (Cs (Xu 1 [(3,Vl h e j)] (x_binop (.bool h.isNone) (Vl h e j) (Z0) R R R R (vb_slnil tuns22 _ _ _) (Xk (c_cond h.isNone R (fun b=>?_) (fun b=>?_)))))))))
 · have K:=SlR.nil_of q b;replace d:(if ([]:List Int).length+e.length≤4294967296 then
some (([]:List Int)++e)
else none)=some p:=d
   replace d:some ([])=some p:=by rw [K] at d; simpa using d
   refine Cs (Xu 1 [(2,Z0)] (Xk (Cr (Kr (Rr (Rv [Z0] ⟨R,T0⟩ ?_))))));obtain rfl:=Sj d;have w:=n.pick [none,some 0] [Bk none,a] R;have v:=k.pick [none] [Bk none] R;exact ⟨none,0,R,i,w,v,OwnS.nil _ _ _ _⟩
 refine Ck (Kt (Cs (Xb (vs:=[]) #[] 3 R R R (by kernel_rfl) (fun H C L F t Y=>?_))));refine I1 ?_;obtain ⟨m,s⟩:∃ G,G=some (⟨H,0,none⟩:Addr):=⟨_,R⟩
 have Q:∀ a,OwnS eI 3 C a m 0 ([]:List Int):=fun a=>s ▸ own_of_box F (by decide) R R (cells_at (cs:=[]) CellsOf.nil)
 have x:∀ c∈Bk m,g.heap.size≤c∧c<C.heap.size:=by subst s; intro c b; simp only [Bk,blk,List.mem_singleton] at b; subst b; exact ⟨Nat.le_of_eq L.symm,lt_of_heap F⟩
 have A:=Stp.push (ls:=[a]) (l:=Bk m) t (fun _ d=>by cases d) (fun c b=>(x c b).1);have q:=q.step A;have n:=n.push t x;have k:=k.push (fun c b=>Nat.le_trans i.size (x c b).1);have i:=i.ext t;have z:=Q (fl [Bk m,a]);rw [← s];refine Xu 1 [(6,Vl h e j)] ?_;have J:=Gl d;have d:=Gr d;obtain ⟨f,r,D,N,u,y,X,S⟩:=own_appendN tel22 22 z (Mf 0 R) q J;refine x_builtin (vs:=[Vl m (([]:List Int)) 0,Vl h e j]) _ D R R R R (run_value _ _ _ _ N) (I1 ?_);have A:Stp (fl [Bk m,a]) C (fl [Bk f,a]) D:=Stp.upd 0 u R (fun c b=>(y c b).1);replace n:MS D [Bk f,a]:=n.upd 0 u R y;have I:FR g.heap.size [Bk f]:=k.upd 0 R i.size (fun c b=>(y c b).1);have i:=i.then u (fun c b=>.inr (k.at 0 R c b));have k:=I;have z:=S (fl [Bk f,a]) A.new;refine Xu 1 [(2,Vl f ((([]:List Int)++e)) r)] (Xk (Cr (Rr (Rv [Vl f ((([]:List Int)++e)) r] ⟨R,T0⟩ ?_))));obtain rfl:=Sj d;have w:=n.pk [0,1] [Bk f,a] R;have O:=Pk (ls:=[Bk f,a]) [0,1] [Bk f,a] R;have v:=k.pk [0] [Bk f] R;exact ⟨f,r,R,i,w,v,z.sub O⟩
def slices_Index_string_string__L2 (b:List (List UInt8)) (c:List UInt8) (d:Int):Option (Step Int (Int⊕Unit)):=
match d with
| a=>
(if (decide (a<((b).length:Int)))=true then
((idx b a).bind fun e=>
(if (c==e)=true then
some (.done (.inl a))
else
some (.next (i64.wrap (a+1)))))
else
some (.done (.inr ())))
def slices_Index_string_string_ (b:List (List UInt8)) (c:List UInt8):Option Int:=
((loop (slices_Index_string_string__L2 b c) 0).bind fun a=>match a with
| (.inl d)=>some d
| (.inr _)=>some (-1))
theorem slices_Index_string_string__w (e f b d v g m)(r:MS g [m])(n:SlR eStr g (fl [m]) e f b)(a:slices_Index_string_string_ b d=some v):CallVC Tryz.prog 75 [Vl e b f,Vs d] g fun C l=>C=Vi v∧Ev [] g l:=by
 refine Cv hmx Tryz.func75 (by kernel_rfl) R (rs:=[.tmp 4]) R (by kernel_rfl) (args:=[Vl e b f,Vs d]) R ?_;have i:Ev [] g g:=Ev.refl _ _;have q:FR g.heap.size []:=FR.nil _;refine Cs (Xu 1 [(4,Vi 0)] (Xk (Cq (Cs (Xu 1 [(6,Vl e b f)] (Xn (vs:=[Vl e b f]) (Vi ((b).length:Int)) R R R (Rl tsl29 _ _ _ _ _) (Xu 1 [(8,Vi 0)] (Xk (Cb ?_)))))))));obtain ⟨w,p,u⟩:=Bs a;obtain ⟨j,p⟩:=Lo p;refine Cl (Lr hmx (σ:=Nat×Int) (fun k=>match k with | (_,c)=>[(0,Vl e b f),(1,Vs d),(7,Vi ((b).length:Int)),(8,Vi c)]) (fun k l=>match k with | (B,c)=>loopN (slices_Index_string_string__L2 b d) B c=some w∧Ev [] g l∧MS l [m]∧FR g.heap.size []∧SlR eStr l (fl [m]) e f b) (fun k=>k.1) (j,0) ⟨R,R,R,R,T0⟩ ⟨p,i,r,q,n⟩ ?_);rintro ⟨j,c⟩ t G ⟨h,i,r,q,n⟩;rcases j with _ | j
 · exact (Lz h).elim
 obtain ⟨F,a,h⟩:=Bs h;refine Cs (Xu 1 [(9,Bd (c<((b).length:Int)))] (Xk (Cn [(0,Vl e b f),(1,Vs d),(7,Vi ((b).length:Int)),(8,Vi c),(9,Bd (c<((b).length:Int)))] (fun t=>?_))));refine Cq (Ci (decide (c<((b).length:Int))) R a (fun a=>?_) (fun a=>?_))
 · refine Ck (Kt (Cq (Cb (Cs (Xu 2 [(10,Vi c),(5,Vi c)] (Xk (Cs (Xu 3 [(11,Vs d),(12,Vl e b f),(13,Vi c)] ?_))))))));obtain ⟨o,A,a⟩:=Bs a;obtain ⟨D,E,z,y,x⟩:=Ri (Mo:=[]) tsl29 n A;obtain rfl:=x;refine Yi _ _ _ R z (Yl _ (Vs o) R (Rc tcell9 y (fun _ a=>by cases a)) ?_);refine x_binop (.bool (d==o)) (Vs d) (Vs o) R R R R (bin_seq) (Xk (Ci (d==o) R a (fun a=>?_) (fun a=>?_)))
   · refine Cs (Xu 2 [(17,Vi c),(4,Vi c)] (Xk (Cr (Kb (Kr ?_)))));obtain rfl:=Sj a;have s:=Sj h;subst s;have a:=u;refine Kr (Kb (Kr (Rr (Rv [Vi c] ⟨R,T0⟩ ?_))));obtain rfl:=Sj a;exact ⟨R,i⟩
   refine Ck (Kl (Kt (Cp (Xu 2 [(18,Vi (i64.wrap (c+1))),(8,Vi (i64.wrap (c+1)))] (Xe R ?_)))));obtain rfl:=Sj a;exact Kt ⟨(j,i64.wrap (c+1)),⟨R,R,R,R,T0⟩,⟨h,i,r,q,n⟩,Ns _⟩
 refine Ce (Ke ?_);obtain rfl:=Sj a;have s:=Sj h;subst s;have a:=u;refine Ke (Ki (Kt (c_norm [] T0 (fun t=>?_))));refine Cs (Xu 1 [(4,Vi (-1))] (Xk (Cr (Rr (Rv [Vi (-1)] ⟨R,T0⟩ ?_)))));obtain rfl:=Sj a;exact ⟨R,i⟩
end Go.Proofs.YtlejnkhaphlooaaGreat
