
/- Walks, printed by program: each function returns what the partial function of the same name returns. Conditions: those of each theorem. -/
import Derived.Test.YtlejnkhaphlooaaGreatGT
set_option linter.unusedVariables false
set_option linter.unusedSimpArgs false
set_option maxRecDepth 4000
namespace Go.Proofs.YtlejnkhaphlooaaGreat
open Go Go.V Go.Proofs Go.IntKind
def r12_form (a:Int) (b:Int):Option Bool:=
(if (decide (a≥0))=true then
(if (decide (a<13))=true then
(if (decide (b≥0))=true then
some (decide (b≤12))
else
some false)
else
some false)
else
some false)
theorem r12_form_w (c a h d)(b:r12_form c a=some h):CallVC Tryz.prog 123 [Vi c,Vi a] d fun j k=>j=.bool h∧Ev [] d k:=by
 refine Cv hmx Tryz.func123 (by kernel_rfl) R (rs:=[.tmp 4]) R (by kernel_rfl) (args:=[Vi c,Vi a]) R ?_;have e:Ev [] d d:=Ev.refl _ _;have m:MS d [[]]:=⟨List.pairwise_singleton _ _,fun n g l i=>by simp only [List.mem_singleton] at g; subst g; cases i⟩
 refine Cs (Xu 1 [(4,.bool false)] (Xk (Cs (Xu 3 [(5,Vi c),(6,Bd (c≥0)),(7,Bd (c≥0))] (Xw 7 (decide (c≥0)) R b (fun b=>?_) (fun b=>?_))))))
 · refine Xu 4 [(8,Vi c),(9,Bd (c<13)),(10,Bd (c<13)),(11,Bd (c<13))] (Xw 11 (decide (c<13)) R b (fun b=>?_) (fun b=>?_))
   · refine Xu 4 [(12,Vi a),(13,Bd (a≥0)),(14,Bd (a≥0)),(15,Bd (a≥0))] (Xw 15 (decide (a≥0)) R b (fun b=>?_) (fun b=>?_))
     · refine Xu 4 [(16,Vi a),(17,Bd (a≤12)),(18,Bd (a≤12)),(4,Bd (a≤12))] (Xk (Cn [(4,Bd (a≤12))] (fun f=>?_)));refine Cr (Rr (Rv [Bd (a≤12)] ⟨R,T0⟩ ?_));obtain rfl:=Sj b;exact ⟨R,e⟩
     refine Xu 4 [(16,U0),(17,U0),(18,.bool false),(4,.bool false)] (Xk (Cn [(4,.bool false)] (fun f=>?_)));refine Cr (Rr (Rv [.bool false] ⟨R,T0⟩ ?_));obtain rfl:=Sj b;exact ⟨R,e⟩
   refine Xu 8 [(12,U0),(13,U0),(14,.bool false),(15,.bool false),(16,U0),(17,U0),(18,.bool false),(4,.bool false)] (Xk (Cn [(4,.bool false)] (fun f=>?_)));refine Cr (Rr (Rv [.bool false] ⟨R,T0⟩ ?_));obtain rfl:=Sj b;exact ⟨R,e⟩
 refine Xu 12 [(8,U0),(9,U0),(10,.bool false),(11,.bool false),(12,U0),(13,U0),(14,.bool false),(15,.bool false),(16,U0),(17,U0),(18,.bool false),(4,.bool false)] (Xk (Cn [(4,.bool false)] (fun f=>?_)));refine Cr (Rr (Rv [.bool false] ⟨R,T0⟩ ?_));obtain rfl:=Sj b;exact ⟨R,e⟩
def r12_Is_L4 (c:Int×Int):Option (Step (Int×Int) Int):=
match c with
| (b,a)=>
(if (decide (a>0))=true then
some (.next (i64.wrap (b+(Int.tmod a 2)),i64.wrap (Int.tdiv a 2)))
else
some (.done b))
def r12_Is (b:Int) (a:Int) (c:Int):Option Bool:=
((r12_form a c).bind fun f=>
(if (!f)=true then
some false
else
(if (decide (b<0))=true then
some false
else
(if (decide (b≥4096))=true then
some false
else
(if 0≤a then
(if i64.wrap (1*2 ^ (min (Int.toNat (a)) i64.bits))≠0 then
(if 0≤a then
(if ((Int.tmod b (i64.wrap (1*2 ^ (min (Int.toNat (a)) i64.bits))))!=(i64.wrap ((i64.wrap (1*2 ^ (min (Int.toNat (a)) i64.bits)))-1)))=true then
some false
else
(if 0≤a then
((loop r12_Is_L4 (0,Int.fdiv b (2 ^ (min (Int.toNat (a)) i64.bits)))).bind fun d=>match d with
| e=>some (decide (e≤c)))
else none))
else none)
else none)
else none)))))
theorem r12_Is_w (c b e t h)(a:r12_Is c b e=some t):CallVC Tryz.prog 124 [Vi c,Vi b,Vi e] h fun u n=>u=.bool t∧Ev [] h n:=by
 refine Cv hmx Tryz.func124 (by kernel_rfl) R (rs:=[.tmp 6]) R (by kernel_rfl) (args:=[Vi c,Vi b,Vi e]) R ?_;have g:Ev [] h h:=Ev.refl _ _;have i:MS h [[]]:=⟨List.pairwise_singleton _ _,fun D s C x=>by simp only [List.mem_singleton] at s; subst s; cases x⟩
 have p:FR h.heap.size []:=FR.nil _;refine Cs (Xu 1 [(6,.bool false)] (Xk (Cq (Cq (Cd [] [(0,false),(1,false),(2,true),(3,false),(4,false),(5,false),(6,false),(7,false),(8,false),(9,false),(10,false),(11,false),(12,false),(13,false),(14,false),(15,false),(16,false),(17,false),(18,false),(19,false),(20,false),(21,false)] _ (by kernel_rfl) R ?_)))));have i:=i.ev (Ev.drew h);have g:=g.ext (Ev.drew h);refine Xu 2 [(9,Vi b),(10,Vi e)] ?_;obtain ⟨q,z,a⟩:=Bs a;have y:=r12_form_w b e _ (h).drew z;refine Xc 123 #[] #[] _ _ R R R R y ?_;rintro u F ⟨rfl,r⟩;refine I1 ?_;have i:=i.ev r;have g:=g.ext r;refine Xu 2 [(12,.bool (!q)),(13,.bool (!q))] (Xw 13 (!q) R a (fun a=>?_) (fun a=>?_))
 · refine Xu 17 [(14,U0),(15,U0),(16,.bool true),(17,.bool true),(18,U0),(19,U0),(20,.bool true),(21,.bool true),(22,U0),(23,U0),(24,U0),(25,U0),(26,U0),(27,U0),(28,U0),(29,U0),(30,.bool true)] (Xk (Cn [(0,Vi c),(1,Vi b),(2,Vi e),(30,.bool true)] (fun j=>?_)));refine c_true R (Cs (Xu 1 [(6,.bool false)] (Xk (Cr (Kr (Rr (Rv [.bool false] ⟨R,T0⟩ ?_)))))));obtain rfl:=Sj a;exact ⟨R,g⟩
 refine Xu 4 [(14,Vi c),(15,Bd (c<0)),(16,Bd (c<0)),(17,Bd (c<0))] (Xw 17 (decide (c<0)) R a (fun a=>?_) (fun a=>?_))
 · refine Xu 13 [(18,U0),(19,U0),(20,.bool true),(21,.bool true),(22,U0),(23,U0),(24,U0),(25,U0),(26,U0),(27,U0),(28,U0),(29,U0),(30,.bool true)] (Xk (Cn [(0,Vi c),(1,Vi b),(2,Vi e),(30,.bool true)] (fun j=>?_)));refine c_true R (Cs (Xu 1 [(6,.bool false)] (Xk (Cr (Kr (Rr (Rv [.bool false] ⟨R,T0⟩ ?_)))))));obtain rfl:=Sj a;exact ⟨R,g⟩
 refine Xu 4 [(18,Vi c),(19,Bd (c≥4096)),(20,Bd (c≥4096)),(21,Bd (c≥4096))] (Xw 21 (decide (c≥4096)) R a (fun a=>?_) (fun a=>?_))
 · refine Xu 9 [(22,U0),(23,U0),(24,U0),(25,U0),(26,U0),(27,U0),(28,U0),(29,U0),(30,.bool true)] (Xk (Cn [(0,Vi c),(1,Vi b),(2,Vi e),(30,.bool true)] (fun j=>?_)));refine c_true R (Cs (Xu 1 [(6,.bool false)] (Xk (Cr (Kr (Rr (Rv [.bool false] ⟨R,T0⟩ ?_)))))));obtain rfl:=Sj a;exact ⟨R,g⟩
 refine Xu 2 [(22,Vi c),(23,Vi b)] (x_binop (Vi (i64.wrap (1*2 ^ (min (Int.toNat (b)) i64.bits)))) (Vi 1) (Vi b) R R R R (vb_shl (Gl a)) ?_);have a:=Gr a;refine x_binop (Vi (Int.tmod c (i64.wrap (1*2 ^ (min (Int.toNat (b)) i64.bits))))) (Vi c) (Vi (i64.wrap (1*2 ^ (min (Int.toNat (b)) i64.bits)))) R R R R (vb_rem (Gl a)) ?_;have a:=Gr a;refine Xu 1 [(26,Vi b)] (x_binop (Vi (i64.wrap (1*2 ^ (min (Int.toNat (b)) i64.bits)))) (Vi 1) (Vi b) R R R R (vb_shl (Gl a)) ?_);have a:=Gr a;refine Xu 3 [(28,Vi (i64.wrap ((i64.wrap (1*2 ^ (min (Int.toNat (b)) i64.bits)))-1))),(29,.bool ((Int.tmod c (i64.wrap (1*2 ^ (min (Int.toNat (b)) i64.bits))))!=(i64.wrap ((i64.wrap (1*2 ^ (min (Int.toNat (b)) i64.bits)))-1)))),(30,.bool ((Int.tmod c (i64.wrap (1*2 ^ (min (Int.toNat (b)) i64.bits))))!=(i64.wrap ((i64.wrap (1*2 ^ (min (Int.toNat (b)) i64.bits)))-1))))] (Xk (Cn [(0,Vi c),(1,Vi b),(2,Vi e),(30,.bool ((Int.tmod c (i64.wrap (1*2 ^ (min (Int.toNat (b)) i64.bits))))!=(i64.wrap ((i64.wrap (1*2 ^ (min (Int.toNat (b)) i64.bits)))-1))))] (fun j=>?_)));refine Ci ((Int.tmod c (i64.wrap (1*2 ^ (min (Int.toNat (b)) i64.bits))))!=(i64.wrap ((i64.wrap (1*2 ^ (min (Int.toNat (b)) i64.bits)))-1))) R a (fun a=>?_) (fun a=>?_)
 · refine Cs (Xu 1 [(6,.bool false)] (Xk (Cr (Kr (Rr (Rv [.bool false] ⟨R,T0⟩ ?_))))));obtain rfl:=Sj a;exact ⟨R,g⟩
 refine Ck (Kt (Cs (Xu 1 [(7,Vi 0)] (Xk (Cq (Cs (Xu 2 [(31,Vi c),(32,Vi b)] (x_binop (Vi (Int.fdiv c (2 ^ (min (Int.toNat (b)) i64.bits)))) (Vi c) (Vi b) R R R R (vb_shr (Gl a)) ?_))))))));have a:=Gr a;refine Xu 1 [(8,Vi (Int.fdiv c (2 ^ (min (Int.toNat (b)) i64.bits))))] (Xk (Cb ?_));obtain ⟨v,o,w⟩:=Bs a;obtain ⟨l,o⟩:=Lo o;refine Cl (Lr hmx (σ:=Nat×Int×Int) (fun m=>match m with | (_,f,d)=>[(2,Vi e),(7,Vi f),(8,Vi d)]) (fun m n=>match m with | (B,f,d)=>loopN r12_Is_L4 B (f,d)=some v∧Ev [] h n∧MS n [[]]∧FR h.heap.size []) (fun m=>m.1) (l,0,Int.fdiv c (2 ^ (min (Int.toNat (b)) i64.bits))) ⟨R,R,R,T0⟩ ⟨o,g,i,p⟩ ?_);rintro ⟨l,f,d⟩ j G ⟨k,g,i,p⟩;rcases l with _ | l
 · exact (Lz k).elim
 obtain ⟨E,a,k⟩:=Bs k;refine Cq (Cs (Xu 2 [(34,Vi d),(35,Bd (d>0))] (Xk (Cn [(2,Vi e),(7,Vi f),(8,Vi d),(35,Bd (d>0))] (fun j=>?_)))));refine Ci (decide (d>0)) R a (fun a=>?_) (fun a=>?_)
 · refine Ck (Kt (Cq (Cb (Cp (Xu 5 [(38,Vi f),(39,Vi d),(40,Vi (Int.tmod d 2)),(41,Vi (i64.wrap (f+(Int.tmod d 2)))),(7,Vi (i64.wrap (f+(Int.tmod d 2))))] (Xe R (Kl (Kt (Cp ?_)))))))));refine Xu 3 [(36,Vi d),(37,Vi (i64.wrap (Int.tdiv d 2))),(8,Vi (i64.wrap (Int.tdiv d 2)))] (Xe R ?_);obtain rfl:=Sj a;exact Kt ⟨(l,i64.wrap (f+(Int.tmod d 2)),i64.wrap (Int.tdiv d 2)),⟨R,R,R,T0⟩,⟨k,g,i,p⟩,Ns _⟩
 refine Ce (Ke ?_);obtain rfl:=Sj a;have A:=Sj k;subst A;have a:=w;refine Ke (Ki (Kt (Cn [(2,Vi e),(7,Vi f)] (fun j=>?_))));refine Cs (Xu 4 [(42,Vi f),(43,Vi e),(44,Bd (f≤e)),(6,Bd (f≤e))] (Xk (Cr (Rr (Rv [Bd (f≤e)] ⟨R,T0⟩ ?_)))));obtain rfl:=Sj a;exact ⟨R,g⟩
def r12_Next_L4 (b:Int) (c:Int) (d:Int):Option (Step Int (Int⊕Unit)):=
match d with
| a=>
(if (decide (a<4096))=true then
((r12_Is a b c).bind fun e=>
(if e=true then
some (.done (.inl a))
else
some (.next (i64.wrap (a+1)))))
else
some (.done (.inr ())))
def r12_Next (a:Int) (b:Int) (c:Int):Option (Int×Int):=
((r12_form b c).bind fun f=>
(if (!f)=true then
some (0,2)
else
(if (decide (a<0))=true then
some (0,2)
else
((loop (r12_Next_L4 b c) a).bind fun d=>match d with
| (.inl e)=>some (e,0)
| (.inr _)=>some (0,15)))))
theorem r12_Next_w (d e f s g)(a:r12_Next d e f=some s):CallVC Tryz.prog 93 [Vi d,Vi e,Vi f] g fun t m=>t=.tuple #[Vi s.1,Vi s.2]∧Ev [] g m:=by
 refine Cv hmx Tryz.func93 (by kernel_rfl) R (rs:=[.tmp 6,.tmp 7]) R (by kernel_rfl) (args:=[Vi d,Vi e,Vi f]) R ?_;have c:Ev [] g g:=Ev.refl _ _;have h:MS g [[]]:=⟨List.pairwise_singleton _ _,fun F y E A=>by simp only [List.mem_singleton] at y; subst y; cases A⟩
 have p:FR g.heap.size []:=FR.nil _;refine Cs (Xu 2 [(6,Vi 0),(7,Vi 0)] (Xk (Cq (Cs (Xu 2 [(9,Vi e),(10,Vi f)] ?_)))));obtain ⟨u,q,a⟩:=Bs a;have n:=r12_form_w e f _ g q;refine Xc 123 #[] #[] _ _ R R R R n ?_;rintro t H ⟨rfl,w⟩;refine I1 ?_;have h:=h.ev w;have c:=c.ext w;refine Xu 2 [(12,.bool (!u)),(13,.bool (!u))] (Xw 13 (!u) R a (fun a=>?_) (fun a=>?_))
 · refine Xu 3 [(14,U0),(15,U0),(16,.bool true)] (Xk (c_true R (Cs (Xu 2 [(6,Vi 0),(7,Vi 2)] (Xk (Cr (Kr (Rr (Rv [Vi 0,Vi 2] ⟨R,R,T0⟩ ?_)))))))));obtain rfl:=Sj a;exact ⟨R,c⟩
 refine Xu 3 [(14,Vi d),(15,Bd (d<0)),(16,Bd (d<0))] (Xk (Ci (decide (d<0)) R a (fun a=>?_) (fun a=>?_)))
 · refine Cs (Xu 2 [(6,Vi 0),(7,Vi 2)] (Xk (Cn [(6,Vi 0),(7,Vi 2)] (fun l=>?_))));refine Cr (Kr (Rr (Rv [Vi 0,Vi 2] ⟨R,R,T0⟩ ?_)));obtain rfl:=Sj a;exact ⟨R,c⟩
 refine Ck (Kt (Cq (Cs (Xu 2 [(17,Vi d),(8,Vi d)] (Xk (Cn [(1,Vi e),(2,Vi f),(8,Vi d)] (fun l=>?_)))))));refine Cb ?_;obtain ⟨z,o,v⟩:=Bs a;obtain ⟨j,o⟩:=Lo o;refine Cl (Lr hmx (σ:=Nat×Int) (fun k=>match k with | (_,b)=>[(1,Vi e),(2,Vi f),(8,Vi b)]) (fun k m=>match k with | (B,b)=>loopN (r12_Next_L4 e f) B b=some z∧Ev [] g m∧MS m [[]]∧FR g.heap.size []) (fun k=>k.1) (j,d) ⟨R,R,R,T0⟩ ⟨o,c,h,p⟩ ?_);rintro ⟨j,b⟩ l C ⟨i,c,h,p⟩;rcases j with _ | j
 · exact (Lz i).elim
 obtain ⟨G,a,i⟩:=Bs i;refine Cq (Cs (Xu 2 [(18,Vi b),(19,Bd (b<4096))] (Xk (Cn [(1,Vi e),(2,Vi f),(8,Vi b),(19,Bd (b<4096))] (fun l=>?_)))));refine Ci (decide (b<4096)) R a (fun a=>?_) (fun a=>?_)
 · refine Ck (Kt (Cq (Cb (Cs (Xu 3 [(22,Vi b),(23,Vi e),(24,Vi f)] ?_)))));obtain ⟨D,q,a⟩:=Bs a;have n:=r12_Is_w b e f _ C q;refine Xc 124 #[] #[] _ _ R R R R n ?_;rintro t I ⟨rfl,x⟩;refine I1 ?_;have h:=h.ev x;have c:=c.ext x;refine Xk (Ci D R a (fun a=>?_) (fun a=>?_))
   · refine Cs (Xu 3 [(26,Vi b),(6,Vi b),(7,Vi 0)] (Xk (Cr (Kb (Kr ?_)))));obtain rfl:=Sj a;have r:=Sj i;subst r;have a:=v;refine Kr (Kb (Kr (Rr (Rv [Vi b,Vi 0] ⟨R,R,T0⟩ ?_))));obtain rfl:=Sj a;exact ⟨R,c⟩
   refine Ck (Kl (Kt (Cp (Xu 3 [(20,Vi b),(21,Vi (i64.wrap (b+1))),(8,Vi (i64.wrap (b+1)))] (Xe R ?_)))));obtain rfl:=Sj a;exact Kt ⟨(j,i64.wrap (b+1)),⟨R,R,R,T0⟩,⟨i,c,h,p⟩,Ns _⟩
 refine Ce (Ke ?_);obtain rfl:=Sj a;have r:=Sj i;subst r;have a:=v;refine Ke (Ki (Kt (c_norm [] T0 (fun l=>?_))));refine Cs (Xu 2 [(6,Vi 0),(7,Vi 15)] (Xk (Cr (Rr (Rv [Vi 0,Vi 15] ⟨R,R,T0⟩ ?_)))));obtain rfl:=Sj a;exact ⟨R,c⟩
def r12_Long_L1 (c:Int×Int):Option (Step (Int×Int) Int):=
match c with
| (a,b)=>
(if (decide (a>0))=true then
some (.next (i64.wrap (Int.tdiv a 2),i64.wrap (b+1)))
else
some (.done b))
def r12_Long (c:Int):Option Int:=
((loop r12_Long_L1 (c,0)).bind fun a=>match a with
| b=>some b)
theorem r12_Long_w (i p d)(c:r12_Long i=some p):CallVC Tryz.prog 95 [Vi i] d fun v j=>v=Vi p∧Ev [] d j:=by
 refine Cv hmx Tryz.func95 (by kernel_rfl) R (rs:=[.tmp 2]) R (by kernel_rfl) (args:=[Vi i]) R ?_;have h:Ev [] d d:=Ev.refl _ _;have m:MS d [[]]:=⟨List.pairwise_singleton _ _,fun x o w s=>by simp only [List.mem_singleton] at o; subst o; cases s⟩
 have l:FR d.heap.size []:=FR.nil _;refine Cs (Xu 1 [(2,Vi 0)] (Xk (Cs (Xu 1 [(3,Vi 0)] (Xk (Cq (Cb ?_)))))));obtain ⟨q,k,r⟩:=Bs c;obtain ⟨f,k⟩:=Lo k;refine Cl (Lr hmx (σ:=Nat×Int×Int) (fun g=>match g with | (_,a,b)=>[(0,Vi a),(3,Vi b)]) (fun g j=>match g with | (u,a,b)=>loopN r12_Long_L1 u (a,b)=some q∧Ev [] d j∧MS j [[]]∧FR d.heap.size []) (fun g=>g.1) (f,i,0) ⟨R,R,T0⟩ ⟨k,h,m,l⟩ ?_);rintro ⟨f,a,b⟩ n z ⟨e,h,m,l⟩;rcases f with _ | f
 · exact (Lz e).elim
 obtain ⟨y,c,e⟩:=Bs e;refine Cq (Cs (Xu 2 [(4,Vi a),(5,Bd (a>0))] (Xk (Cn [(0,Vi a),(3,Vi b),(5,Bd (a>0))] (fun n=>?_)))));refine Ci (decide (a>0)) R c (fun c=>?_) (fun c=>?_)
 · refine Ck (Kt (Cq (Cb (Cp (Xu 3 [(8,Vi b),(9,Vi (i64.wrap (b+1))),(3,Vi (i64.wrap (b+1)))] (Xe R (Kl (Kt (Cp ?_)))))))));refine Xu 3 [(6,Vi a),(7,Vi (i64.wrap (Int.tdiv a 2))),(0,Vi (i64.wrap (Int.tdiv a 2)))] (Xe R ?_);obtain rfl:=Sj c;exact Kt ⟨(f,i64.wrap (Int.tdiv a 2),i64.wrap (b+1)),⟨R,R,T0⟩,⟨e,h,m,l⟩,Ns _⟩
 refine Ce (Ke ?_);obtain rfl:=Sj c;have t:=Sj e;subst t;have c:=r;refine Ke (Ki (Kt (Cn [(3,Vi b)] (fun n=>?_))));refine Cs (Xu 2 [(10,Vi b),(2,Vi b)] (Xk (Cr (Rr (Rv [Vi b] ⟨R,T0⟩ ?_)))));obtain rfl:=Sj c;exact ⟨R,h⟩
end Go.Proofs.YtlejnkhaphlooaaGreat
