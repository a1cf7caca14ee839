
/- Walks, printed by program: each function returns what the partial function of the same name returns. Conditions: those of each theorem. -/
import Derived.Test.YtlejnkhaphlooaaGreatGT
set_option linter.unusedVariables false
set_option linter.unusedSimpArgs false
set_option maxRecDepth 4000
namespace Go.Proofs.YtlejnkhaphlooaaGreat
open Go Go.V Go.Proofs Go.IntKind
def code_in (a:Int) (b:Int) (c:Int):Option Bool:=
(if (decide (a≥b))=true then
some (decide (a≤c))
else
some false)
theorem code_in_w (a c b h e)(d:code_in a c b=some h):CallVC Tryz.prog 112 [Vi a,Vi c,Vi b] e fun j k=>j=.bool h∧Ev [] e k:=by
 refine Cv hmx Tryz.func112 (by kernel_rfl) R (rs:=[.tmp 6]) R (by kernel_rfl) (args:=[Vi a,Vi c,Vi b]) R ?_;have f:Ev [] e e:=Ev.refl _ _;have m:MS e [[]]:=⟨List.pairwise_singleton _ _,fun n g l i=>by simp only [List.mem_singleton] at g; subst g; cases i⟩
 refine Cs (Xu 1 [(6,.bool false)] (Xk (Cs (Xu 4 [(7,Vi a),(8,Vi c),(9,Bd (a≥c)),(10,Bd (a≥c))] (Xw 10 (decide (a≥c)) R d (fun d=>?_) (fun d=>?_))))))
 · refine Xu 5 [(11,Vi a),(12,Vi b),(13,Bd (a≤b)),(14,Bd (a≤b)),(6,Bd (a≤b))] (Xk (Cr (Rr (Rv [Bd (a≤b)] ⟨R,T0⟩ ?_))));obtain rfl:=Sj d;exact ⟨R,f⟩
 refine Xu 5 [(11,U0),(12,U0),(13,U0),(14,.bool false),(6,.bool false)] (Xk (Cr (Rr (Rv [.bool false] ⟨R,T0⟩ ?_))));obtain rfl:=Sj d;exact ⟨R,f⟩
def code_form (a:Int) (b:Int):Option Bool:=
((code_in a 0 12).bind fun c=>
(if c=true then
((code_in b 0 12).bind fun d=>
some d)
else
some false))
theorem code_form_w (d e k c)(a:code_form d e=some k):CallVC Tryz.prog 113 [Vi d,Vi e] c fun h p=>h=.bool k∧Ev [] c p:=by
 refine Cv hmx Tryz.func113 (by kernel_rfl) R (rs:=[.tmp 4]) R (by kernel_rfl) (args:=[Vi d,Vi e]) R ?_;have b:Ev [] c c:=Ev.refl _ _;have s:MS c [[]]:=⟨List.pairwise_singleton _ _,fun t j r m=>by simp only [List.mem_singleton] at j; subst j; cases m⟩
 refine Cs (Xu 1 [(4,.bool false)] (Xk (Cs (Xu 1 [(5,Vi d)] ?_))));obtain ⟨l,g,a⟩:=Bs a;have f:=code_in_w d 0 12 _ c g;refine Xc 112 #[] #[] _ _ R R R R f ?_;rintro h q ⟨rfl,n⟩;refine I1 ?_;have b:=b.ext n;refine Xu 1 [(7,.bool l)] (Xw 7 l R a (fun a=>?_) (fun a=>?_))
 · refine Xu 1 [(8,Vi e)] ?_;obtain ⟨i,g,a⟩:=Bs a;have f:=code_in_w e 0 12 _ q g;refine Xc 112 #[] #[] _ _ R R R R f ?_;rintro h u ⟨rfl,o⟩;refine I1 ?_;have b:=b.ext o;refine Xu 2 [(10,.bool i),(4,.bool i)] (Xk (Cr (Rr (Rv [.bool i] ⟨R,T0⟩ ?_))));obtain rfl:=Sj a;exact ⟨R,b⟩
 refine Xu 4 [(8,U0),(9,U0),(10,.bool false),(4,.bool false)] (Xk (Cr (Rr (Rv [.bool false] ⟨R,T0⟩ ?_))));obtain rfl:=Sj a;exact ⟨R,b⟩
def code_missed (a:Int):Option Int:=
(if 0≤a then
some (i64.wrap ((i64.wrap (1*2 ^ (min (Int.toNat (a)) i64.bits)))-1))
else none)
theorem code_missed_w (a e b)(c:code_missed a=some e):CallVC Tryz.prog 114 [Vi a] b fun h i=>h=Vi e∧Ev [] b i:=by
 refine Cv hmx Tryz.func114 (by kernel_rfl) R (rs:=[.tmp 2]) R (by kernel_rfl) (args:=[Vi a]) R ?_;have g:Ev [] b b:=Ev.refl _ _;have k:MS b [[]]:=⟨List.pairwise_singleton _ _,fun l d j f=>by simp only [List.mem_singleton] at d; subst d; cases f⟩
 refine Cs (Xu 1 [(2,Vi 0)] (Xk (Cs (Xu 1 [(3,Vi a)] (x_binop (Vi (i64.wrap (1*2 ^ (min (Int.toNat (a)) i64.bits)))) (Vi 1) (Vi a) R R R R (vb_shl (Gl c)) ?_)))));have c:=Gr c;refine Xu 2 [(5,Vi (i64.wrap ((i64.wrap (1*2 ^ (min (Int.toNat (a)) i64.bits)))-1))),(2,Vi (i64.wrap ((i64.wrap (1*2 ^ (min (Int.toNat (a)) i64.bits)))-1)))] (Xk (Cr (Rr (Rv [Vi (i64.wrap ((i64.wrap (1*2 ^ (min (Int.toNat (a)) i64.bits)))-1))] ⟨R,T0⟩ ?_))));obtain rfl:=Sj c;exact ⟨R,g⟩
def code_ones_L1 (c:Int×Int):Option (Step (Int×Int) Int):=
match c with
| (a,b)=>
(if (a != 0)=true then
some (.next (i64.wrap ↑(BitVec.ofInt i64.bits a&&&BitVec.ofInt i64.bits (i64.wrap (a-1))).toNat,i64.wrap (b+1)))
else
some (.done b))
def code_ones (c:Int):Option Int:=
((loop code_ones_L1 (c,0)).bind fun a=>match a with
| b=>some b)
theorem code_ones_w (i p d)(c:code_ones i=some p):CallVC Tryz.prog 115 [Vi i] d fun v j=>v=Vi p∧Ev [] d j:=by
 refine Cv hmx Tryz.func115 (by kernel_rfl) R (rs:=[.tmp 2]) R (by kernel_rfl) (args:=[Vi i]) R ?_;have h:Ev [] d d:=Ev.refl _ _;have m:MS d [[]]:=⟨List.pairwise_singleton _ _,fun x o w s=>by simp only [List.mem_singleton] at o; subst o; cases s⟩
 have l:FR d.heap.size []:=FR.nil _;refine Cs (Xu 1 [(2,Vi 0)] (Xk (Cs (Xu 1 [(3,Vi 0)] (Xk (Cq (Cb ?_)))))));obtain ⟨q,k,r⟩:=Bs c;obtain ⟨f,k⟩:=Lo k;refine Cl (Lr hmx (σ:=Nat×Int×Int) (fun g=>match g with | (_,a,b)=>[(0,Vi a),(3,Vi b)]) (fun g j=>match g with | (u,a,b)=>loopN code_ones_L1 u (a,b)=some q∧Ev [] d j∧MS j [[]]∧FR d.heap.size []) (fun g=>g.1) (f,i,0) ⟨R,R,T0⟩ ⟨k,h,m,l⟩ ?_);rintro ⟨f,a,b⟩ n z ⟨e,h,m,l⟩;rcases f with _ | f
 · exact (Lz e).elim
 obtain ⟨y,c,e⟩:=Bs e;refine Cq (Cs (Xu 2 [(4,Vi a),(5,.bool (a != 0))] (Xk (Cn [(0,Vi a),(3,Vi b),(5,.bool (a != 0))] (fun n=>?_)))));refine Ci (a != 0) R c (fun c=>?_) (fun c=>?_)
 · refine Ck (Kt (Cq (Cb (Cp (Xu 3 [(10,Vi b),(11,Vi (i64.wrap (b+1))),(3,Vi (i64.wrap (b+1)))] (Xe R (Kl (Kt (Cp ?_)))))))));refine Xu 5 [(6,Vi a),(7,Vi a),(8,Vi (i64.wrap (a-1))),(9,Vi (i64.wrap ↑(BitVec.ofInt i64.bits a&&&BitVec.ofInt i64.bits (i64.wrap (a-1))).toNat)),(0,Vi (i64.wrap ↑(BitVec.ofInt i64.bits a&&&BitVec.ofInt i64.bits (i64.wrap (a-1))).toNat))] (Xe R ?_);obtain rfl:=Sj c;exact Kt ⟨(f,i64.wrap ↑(BitVec.ofInt i64.bits a&&&BitVec.ofInt i64.bits (i64.wrap (a-1))).toNat,i64.wrap (b+1)),⟨R,R,T0⟩,⟨e,h,m,l⟩,Ns _⟩
 refine Ce (Ke ?_);obtain rfl:=Sj c;have t:=Sj e;subst t;have c:=r;refine Ke (Ki (Kt (Cn [(3,Vi b)] (fun n=>?_))));refine Cs (Xu 2 [(12,Vi b),(2,Vi b)] (Xk (Cr (Rr (Rv [Vi b] ⟨R,T0⟩ ?_)))));obtain rfl:=Sj c;exact ⟨R,h⟩
def code_Next_L9 (b:Int) (c:Int):Option (Step Int (Unit⊕Int)):=
match c with
| a=>
((code_ones a).bind fun d=>
(if (decide (d>b))=true then
(if (decide ((i64.wrap (a+(i64.wrap ↑(BitVec.ofInt i64.bits a&&&BitVec.ofInt i64.bits (i64.wrap (0-a))).toNat)))≥4096))=true then
some (.done (.inl ()))
else
some (.next (i64.wrap (a+(i64.wrap ↑(BitVec.ofInt i64.bits a&&&BitVec.ofInt i64.bits (i64.wrap (0-a))).toNat)))))
else
some (.done (.inr a))))
def code_Next_J5 (a:Int) (e:Int) (f:Int):Option (Int×Int):=
((loop (code_Next_L9 e) f).bind fun d=>match d with
| (.inl _)=>some (0,15)
| (.inr b)=>(if 0≤a then
((code_missed a).bind fun c=>
(if (decide ((i64.wrap ↑(BitVec.ofInt i64.bits (i64.wrap (b*2 ^ (min (Int.toNat (a)) i64.bits))) ||| BitVec.ofInt i64.bits c).toNat)<4096))=true then
some (i64.wrap ↑(BitVec.ofInt i64.bits (i64.wrap (b*2 ^ (min (Int.toNat (a)) i64.bits))) ||| BitVec.ofInt i64.bits c).toNat,0)
else
some (0,15)))
else none))
def code_Next (b:Int) (a:Int) (c:Int):Option (Int×Int):=
((code_form a c).bind fun e=>
(if (!e)=true then
some (0,2)
else
(if (decide (b<0))=true then
some (0,2)
else
(if (decide (b≥4096))=true then
some (0,15)
else
((code_missed a).bind fun d=>
(if (decide (b>d))=true then
(if 0≤a then
(if 0≤a then
code_Next_J5 a c (Int.fdiv (i64.wrap ((i64.wrap ((i64.wrap (b-d))+(i64.wrap (1*2 ^ (min (Int.toNat (a)) i64.bits)))))-1)) (2 ^ (min (Int.toNat (a)) i64.bits)))
else none)
else none)
else
code_Next_J5 a c 0))))))
theorem code_Next_w (d c f u i)(a:code_Next d c f=some u):CallVC Tryz.prog 111 [Vi d,Vi c,Vi f] i fun t n=>t=.tuple #[Vi u.1,Vi u.2]∧Ev [] i n:=by
 refine Cv hmx Tryz.func111 (by kernel_rfl) R (rs:=[.tmp 6,.tmp 7]) R (by kernel_rfl) (args:=[Vi d,Vi c,Vi f]) R ?_;have e:Ev [] i i:=Ev.refl _ _;have g:MS i [[]]:=⟨List.pairwise_singleton _ _,fun N E L H=>by simp only [List.mem_singleton] at E; subst E; cases H⟩
 have o:FR i.heap.size []:=FR.nil _;refine Cs (Xu 2 [(6,Vi 0),(7,Vi 0)] (Xk (Cq (Cs (Xu 2 [(11,Vi c),(12,Vi f)] ?_)))));obtain ⟨y,m,a⟩:=Bs a;have l:=code_form_w c f _ i m;refine Xc 113 #[] #[] _ _ R R R R l ?_;rintro t J ⟨rfl,C⟩;refine I1 ?_;have g:=g.ev C;have e:=e.ext C;refine Xu 2 [(14,.bool (!y)),(15,.bool (!y))] (Xw 15 (!y) R a (fun a=>?_) (fun a=>?_))
 · refine Xu 3 [(16,U0),(17,U0),(18,.bool true)] (Xk (c_true R (Cs (Xu 2 [(6,Vi 0),(7,Vi 2)] (Xk (Cr (Kr (Rr (Rv [Vi 0,Vi 2] ⟨R,R,T0⟩ ?_)))))))));obtain rfl:=Sj a;exact ⟨R,e⟩
 refine Xu 3 [(16,Vi d),(17,Bd (d<0)),(18,Bd (d<0))] (Xk (Ci (decide (d<0)) R a (fun a=>?_) (fun a=>?_)))
 · refine Cs (Xu 2 [(6,Vi 0),(7,Vi 2)] (Xk (Cn [(6,Vi 0),(7,Vi 2)] (fun q=>?_))));refine Cr (Kr (Rr (Rv [Vi 0,Vi 2] ⟨R,R,T0⟩ ?_)));obtain rfl:=Sj a;exact ⟨R,e⟩
 refine Ck (Kt (Cq (Cs (Xu 2 [(19,Vi d),(20,Bd (d≥4096))] (Xk (Cn [(0,Vi d),(1,Vi c),(2,Vi f),(20,Bd (d≥4096))] (fun q=>?_)))))));refine Ci (decide (d≥4096)) R a (fun a=>?_) (fun a=>?_)
 · refine Cs (Xu 2 [(6,Vi 0),(7,Vi 15)] (Xk (Cr (Kr (Rr (Rv [Vi 0,Vi 15] ⟨R,R,T0⟩ ?_))))));obtain rfl:=Sj a;exact ⟨R,e⟩
 refine Ck (Kt (Cs (Xu 1 [(8,Vi 0)] (Xk (c_join (σ:=Int) (fun j=>match j with | s=>[(1,Vi c),(2,Vi f),(8,Vi s)]) (fun j n=>match j with | s=>code_Next_J5 c f s=some u∧Ev [] i n∧MS n [[]]∧FR i.heap.size []) ?_ ?_)))))
 · refine Cs (Xu 1 [(21,Vi c)] ?_);obtain ⟨h,m,a⟩:=Bs a;have l:=code_missed_w c _ J m;refine Xc 114 #[] #[] _ _ R R R R l ?_;rintro t S ⟨rfl,D⟩;refine I1 ?_;have g:=g.ev D;have e:=e.ext D;refine Xu 1 [(9,Vi h)] (Xk (Cs (Xu 3 [(23,Vi d),(24,Vi h),(25,Bd (d>h))] (Xk (Ci (decide (d>h)) R a (fun a=>?_) (fun a=>?_))))))
   · refine Cp (Xu 4 [(26,Vi d),(27,Vi h),(28,Vi (i64.wrap (d-h))),(29,Vi c)] (x_binop (Vi (i64.wrap (1*2 ^ (min (Int.toNat (c)) i64.bits)))) (Vi 1) (Vi c) R R R R (vb_shl (Gl a)) ?_));have a:=Gr a;refine Xu 3 [(31,Vi (i64.wrap ((i64.wrap (d-h))+(i64.wrap (1*2 ^ (min (Int.toNat (c)) i64.bits)))))),(32,Vi (i64.wrap ((i64.wrap ((i64.wrap (d-h))+(i64.wrap (1*2 ^ (min (Int.toNat (c)) i64.bits)))))-1))),(33,Vi c)] (x_binop (Vi (Int.fdiv (i64.wrap ((i64.wrap ((i64.wrap (d-h))+(i64.wrap (1*2 ^ (min (Int.toNat (c)) i64.bits)))))-1)) (2 ^ (min (Int.toNat (c)) i64.bits)))) (Vi (i64.wrap ((i64.wrap ((i64.wrap (d-h))+(i64.wrap (1*2 ^ (min (Int.toNat (c)) i64.bits)))))-1))) (Vi c) R R R R (vb_shr (Gl a)) ?_);have a:=Gr a;refine Xu 1 [(8,Vi (Int.fdiv (i64.wrap ((i64.wrap ((i64.wrap (d-h))+(i64.wrap (1*2 ^ (min (Int.toNat (c)) i64.bits)))))-1)) (2 ^ (min (Int.toNat (c)) i64.bits))))] (Xe R ?_);exact Kt ⟨Int.fdiv (i64.wrap ((i64.wrap ((i64.wrap (d-h))+(i64.wrap (1*2 ^ (min (Int.toNat (c)) i64.bits)))))-1)) (2 ^ (min (Int.toNat (c)) i64.bits)),⟨R,R,R,T0⟩,a,e,g,o⟩
   refine Ck ?_;exact Kt ⟨0,⟨R,R,R,T0⟩,a,e,g,o⟩
 rintro s q U ⟨a,e,g,o⟩;refine Cq (Cb ?_);obtain ⟨G,v,z⟩:=Bs a;obtain ⟨r,v⟩:=Lo v;refine Cl (Lr hmx (σ:=Nat×Int) (fun j=>match j with | (_,b)=>[(1,Vi c),(2,Vi f),(8,Vi b)]) (fun j n=>match j with | (I,b)=>loopN (code_Next_L9 f) I b=some G∧Ev [] i n∧MS n [[]]∧FR i.heap.size []) (fun j=>j.1) (r,s) ⟨R,R,R,T0⟩ ⟨v,e,g,o⟩ ?_);rintro ⟨r,b⟩ q K ⟨p,e,g,o⟩;rcases r with _ | r
 · exact (Lz p).elim
 obtain ⟨O,a,p⟩:=Bs p;refine Cq (Cs (Xu 1 [(35,Vi b)] ?_));obtain ⟨x,m,a⟩:=Bs a;have l:=code_ones_w b _ K m;refine Xc 115 #[] #[] _ _ R R R R l ?_;rintro t F ⟨rfl,A⟩;refine I1 ?_;have g:=g.ev A;have e:=e.ext A;refine Xu 2 [(37,Vi f),(38,Bd (x>f))] (Xk (Cn [(1,Vi c),(2,Vi f),(8,Vi b),(38,Bd (x>f))] (fun q=>?_)));refine Ci (decide (x>f)) R a (fun a=>?_) (fun a=>?_)
 · refine Ck (Kt (Cb (Cs (Xu 7 [(39,Vi b),(40,Vi b),(41,Vi b),(42,Vi (i64.wrap (0-b))),(43,Vi (i64.wrap ↑(BitVec.ofInt i64.bits b&&&BitVec.ofInt i64.bits (i64.wrap (0-b))).toNat)),(44,Vi (i64.wrap (b+(i64.wrap ↑(BitVec.ofInt i64.bits b&&&BitVec.ofInt i64.bits (i64.wrap (0-b))).toNat)))),(8,Vi (i64.wrap (b+(i64.wrap ↑(BitVec.ofInt i64.bits b&&&BitVec.ofInt i64.bits (i64.wrap (0-b))).toNat))))] (Xk (Cs (Xu 2 [(45,Vi (i64.wrap (b+(i64.wrap ↑(BitVec.ofInt i64.bits b&&&BitVec.ofInt i64.bits (i64.wrap (0-b))).toNat)))),(46,.bool (decide ((i64.wrap (b+(i64.wrap ↑(BitVec.ofInt i64.bits b&&&BitVec.ofInt i64.bits (i64.wrap (0-b))).toNat)))≥4096)))] (Xk (Ci (decide ((i64.wrap (b+(i64.wrap ↑(BitVec.ofInt i64.bits b&&&BitVec.ofInt i64.bits (i64.wrap (0-b))).toNat)))≥4096)) R a (fun a=>?_) (fun a=>?_))))))))))
   · refine Cs (Xu 2 [(6,Vi 0),(7,Vi 15)] (Xk (Cr (Kb ?_))));obtain rfl:=Sj a;have w:=Sj p;subst w;have a:=z;refine Kr (Kb (Kr (Rr (Rv [Vi 0,Vi 15] ⟨R,R,T0⟩ ?_))));obtain rfl:=Sj a;exact ⟨R,e⟩
   refine Ck (Kl ?_);obtain rfl:=Sj a;exact Kt ⟨(r,i64.wrap (b+(i64.wrap ↑(BitVec.ofInt i64.bits b&&&BitVec.ofInt i64.bits (i64.wrap (0-b))).toNat))),⟨R,R,R,T0⟩,⟨p,e,g,o⟩,Ns _⟩
 refine Ce (Ke ?_);obtain rfl:=Sj a;have w:=Sj p;subst w;have a:=z;refine Ke (Ki (Kt (Cn [(1,Vi c),(8,Vi b)] (fun q=>?_))));refine Cq (Cq (Cd [] [(0,false),(1,false),(2,false),(3,false),(4,false),(5,false),(6,false)] _ (by kernel_rfl) R ?_));have e:=e.ext (Ev.drew F);refine Xu 2 [(47,Vi b),(48,Vi c)] (x_binop (Vi (i64.wrap (b*2 ^ (min (Int.toNat (c)) i64.bits)))) (Vi b) (Vi c) R R R R (vb_shl (Gl a)) ?_);have a:=Gr a;refine Xu 1 [(50,Vi c)] ?_;obtain ⟨k,m,a⟩:=Bs a;have l:=code_missed_w c _ (F).drew m;refine Xc 114 #[] #[] _ _ R R R R l ?_;rintro t Q ⟨rfl,B⟩;refine ⟨.inr B,?_⟩;have e:=e.ext B;refine Xu 2 [(52,Vi (i64.wrap ↑(BitVec.ofInt i64.bits (i64.wrap (b*2 ^ (min (Int.toNat (c)) i64.bits))) ||| BitVec.ofInt i64.bits k).toNat)),(10,Vi (i64.wrap ↑(BitVec.ofInt i64.bits (i64.wrap (b*2 ^ (min (Int.toNat (c)) i64.bits))) ||| BitVec.ofInt i64.bits k).toNat))] (Xk (Cs (Xu 2 [(53,Vi (i64.wrap ↑(BitVec.ofInt i64.bits (i64.wrap (b*2 ^ (min (Int.toNat (c)) i64.bits))) ||| BitVec.ofInt i64.bits k).toNat)),(54,.bool (decide ((i64.wrap ↑(BitVec.ofInt i64.bits (i64.wrap (b*2 ^ (min (Int.toNat (c)) i64.bits))) ||| BitVec.ofInt i64.bits k).toNat)<4096)))] (Xk (Ci (decide ((i64.wrap ↑(BitVec.ofInt i64.bits (i64.wrap (b*2 ^ (min (Int.toNat (c)) i64.bits))) ||| BitVec.ofInt i64.bits k).toNat)<4096)) R a (fun a=>?_) (fun a=>?_))))))
 · refine Cs (Xu 3 [(55,Vi (i64.wrap ↑(BitVec.ofInt i64.bits (i64.wrap (b*2 ^ (min (Int.toNat (c)) i64.bits))) ||| BitVec.ofInt i64.bits k).toNat)),(6,Vi (i64.wrap ↑(BitVec.ofInt i64.bits (i64.wrap (b*2 ^ (min (Int.toNat (c)) i64.bits))) ||| BitVec.ofInt i64.bits k).toNat)),(7,Vi 0)] (Xk (Cr (Kr (Rr (Rv [Vi (i64.wrap ↑(BitVec.ofInt i64.bits (i64.wrap (b*2 ^ (min (Int.toNat (c)) i64.bits))) ||| BitVec.ofInt i64.bits k).toNat),Vi 0] ⟨R,R,T0⟩ ?_))))));obtain rfl:=Sj a;exact ⟨R,e⟩
 refine Ck (Kt (Cs (Xu 2 [(6,Vi 0),(7,Vi 15)] (Xk (Cr (Rr (Rv [Vi 0,Vi 15] ⟨R,R,T0⟩ ?_)))))));obtain rfl:=Sj a;exact ⟨R,e⟩
def code_Steps_L4 (c:Int×Int):Option (Step (Int×Int) Int):=
match c with
| (a,b)=>
(if (decide (a>0))=true then
some (.next (Int.fdiv a (2 ^ (min (Int.toNat (1)) i64.bits)),i64.wrap (b+1)))
else
some (.done b))
def code_Steps (a:Int):Option (Int×Int):=
((code_in a 0 4095).bind fun d=>
(if (!d)=true then
some (0,2)
else
((loop code_Steps_L4 (a,0)).bind fun b=>match b with
| c=>some (c,0))))
theorem code_Steps_w (f n d)(a:code_Steps f=some n):CallVC Tryz.prog 81 [Vi f] d fun r k=>r=.tuple #[Vi n.1,Vi n.2]∧Ev [] d k:=by
 refine Cv hmx Tryz.func81 (by kernel_rfl) R (rs:=[.tmp 2,.tmp 3]) R (by kernel_rfl) (args:=[Vi f]) R ?_;have e:Ev [] d d:=Ev.refl _ _;have g:MS d [[]]:=⟨List.pairwise_singleton _ _,fun B q A v=>by simp only [List.mem_singleton] at q; subst q; cases v⟩
 have m:FR d.heap.size []:=FR.nil _;refine Cs (Xu 2 [(2,Vi 0),(3,Vi 0)] (Xk (Cq (Cs (Xu 1 [(5,Vi f)] ?_)))));obtain ⟨s,x,a⟩:=Bs a;have w:=code_in_w f 0 4095 _ d x;refine Xc 112 #[] #[] _ _ R R R R w ?_;rintro r D ⟨rfl,p⟩;refine I1 ?_;have g:=g.ev p;have e:=e.ext p;refine Xu 1 [(7,.bool (!s))] (Xk (Ci (!s) R a (fun a=>?_) (fun a=>?_)))
 · refine Cs (Xu 2 [(2,Vi 0),(3,Vi 2)] (Xk (Cr (Kr (Rr (Rv [Vi 0,Vi 2] ⟨R,R,T0⟩ ?_))))));obtain rfl:=Sj a;exact ⟨R,e⟩
 refine Ck (Kt (Cs (Xu 1 [(4,Vi 0)] (Xk (Cq (Cb ?_))))));obtain ⟨t,l,u⟩:=Bs a;obtain ⟨i,l⟩:=Lo l;refine Cl (Lr hmx (σ:=Nat×Int×Int) (fun j=>match j with | (_,b,c)=>[(0,Vi b),(4,Vi c)]) (fun j k=>match j with | (z,b,c)=>loopN code_Steps_L4 z (b,c)=some t∧Ev [] d k∧MS k [[]]∧FR d.heap.size []) (fun j=>j.1) (i,f,0) ⟨R,R,T0⟩ ⟨l,e,g,m⟩ ?_);rintro ⟨i,b,c⟩ o E ⟨h,e,g,m⟩;rcases i with _ | i
 · exact (Lz h).elim
 obtain ⟨C,a,h⟩:=Bs h;refine Cq (Cs (Xu 2 [(8,Vi b),(9,Bd (b>0))] (Xk (Cn [(0,Vi b),(4,Vi c),(9,Bd (b>0))] (fun o=>?_)))));refine Ci (decide (b>0)) R a (fun a=>?_) (fun a=>?_)
 · refine Ck (Kt (Cq (Cb (Cp (Xu 3 [(12,Vi c),(13,Vi (i64.wrap (c+1))),(4,Vi (i64.wrap (c+1)))] (Xe R (Kl (Kt (Cp ?_)))))))));refine Xu 3 [(10,Vi b),(11,Vi (Int.fdiv b (2 ^ (min (Int.toNat (1)) i64.bits)))),(0,Vi (Int.fdiv b (2 ^ (min (Int.toNat (1)) i64.bits))))] (Xe R ?_);obtain rfl:=Sj a;exact Kt ⟨(i,Int.fdiv b (2 ^ (min (Int.toNat (1)) i64.bits)),i64.wrap (c+1)),⟨R,R,T0⟩,⟨h,e,g,m⟩,Ns _⟩
 refine Ce (Ke ?_);obtain rfl:=Sj a;have y:=Sj h;subst y;have a:=u;refine Ke (Ki (Kt (Cn [(4,Vi c)] (fun o=>?_))));refine Cs (Xu 3 [(14,Vi c),(2,Vi c),(3,Vi 0)] (Xk (Cr (Rr (Rv [Vi c,Vi 0] ⟨R,R,T0⟩ ?_)))));obtain rfl:=Sj a;exact ⟨R,e⟩
def code_Is (b:Int) (a:Int) (c:Int):Option Bool:=
((code_form a c).bind fun d=>
(if d=true then
((code_in b 0 4095).bind fun e=>
(if e=true then
((code_missed a).bind fun f=>
((code_missed a).bind fun g=>
(if ((i64.wrap ↑(BitVec.ofInt i64.bits b&&&BitVec.ofInt i64.bits f).toNat)==g)=true then
(if 0≤a then
((code_ones (Int.fdiv b (2 ^ (min (Int.toNat (a)) i64.bits)))).bind fun h=>
some (decide (h≤c)))
else none)
else
some false)))
else
some false))
else
some false))
theorem code_Is_w (b d e p i)(a:code_Is b d e=some p):CallVC Tryz.prog 85 [Vi b,Vi d,Vi e] i fun h x=>h=.bool p∧Ev [] i x:=by
 refine Cv hmx Tryz.func85 (by kernel_rfl) R (rs:=[.tmp 6]) R (by kernel_rfl) (args:=[Vi b,Vi d,Vi e]) R ?_;have c:Ev [] i i:=Ev.refl _ _;have D:MS i [[]]:=⟨List.pairwise_singleton _ _,fun E o C r=>by simp only [List.mem_singleton] at o; subst o; cases r⟩
 refine Cs (Xu 1 [(6,.bool false)] (Xk (Cs (Xu 2 [(7,Vi d),(8,Vi e)] ?_))));obtain ⟨q,g,a⟩:=Bs a;have f:=code_form_w d e _ i g;refine Xc 113 #[] #[] _ _ R R R R f ?_;rintro h y ⟨rfl,t⟩;refine I1 ?_;have c:=c.ext t;refine Xu 1 [(10,.bool q)] (Xw 10 q R a (fun a=>?_) (fun a=>?_))
 · refine Xu 1 [(11,Vi b)] ?_;obtain ⟨n,g,a⟩:=Bs a;have f:=code_in_w b 0 4095 _ y g;refine Xc 112 #[] #[] _ _ R R R R f ?_;rintro h z ⟨rfl,u⟩;refine I1 ?_;have c:=c.ext u;refine Xu 2 [(13,.bool n),(14,.bool n)] (Xw 14 n R a (fun a=>?_) (fun a=>?_))
   · refine Xu 2 [(15,Vi b),(16,Vi d)] ?_;obtain ⟨j,g,a⟩:=Bs a;have f:=code_missed_w d _ z g;refine Xc 114 #[] #[] _ _ R R R R f ?_;rintro h A ⟨rfl,v⟩;refine I1 ?_;have c:=c.ext v;refine Xu 2 [(18,Vi (i64.wrap ↑(BitVec.ofInt i64.bits b&&&BitVec.ofInt i64.bits j).toNat)),(19,Vi d)] ?_;obtain ⟨l,g,a⟩:=Bs a;have f:=code_missed_w d _ A g;refine Xc 114 #[] #[] _ _ R R R R f ?_;rintro h B ⟨rfl,w⟩;refine I1 ?_;have c:=c.ext w;refine Xu 3 [(21,.bool ((i64.wrap ↑(BitVec.ofInt i64.bits b&&&BitVec.ofInt i64.bits j).toNat)==l)),(22,.bool ((i64.wrap ↑(BitVec.ofInt i64.bits b&&&BitVec.ofInt i64.bits j).toNat)==l)),(23,.bool ((i64.wrap ↑(BitVec.ofInt i64.bits b&&&BitVec.ofInt i64.bits j).toNat)==l))] (Xw 23 ((i64.wrap ↑(BitVec.ofInt i64.bits b&&&BitVec.ofInt i64.bits j).toNat)==l) R a (fun a=>?_) (fun a=>?_))
     · refine Xu 2 [(24,Vi b),(25,Vi d)] (x_binop (Vi (Int.fdiv b (2 ^ (min (Int.toNat (d)) i64.bits)))) (Vi b) (Vi d) R R R R (vb_shr (Gl a)) ?_);have a:=Gr a;obtain ⟨k,g,a⟩:=Bs a;have f:=code_ones_w (Int.fdiv b (2 ^ (min (Int.toNat (d)) i64.bits))) _ B g;refine Xc 115 #[] #[] _ _ R R R R f ?_;rintro h F ⟨rfl,s⟩;refine I1 ?_;have c:=c.ext s;refine Xu 4 [(28,Vi e),(29,Bd (k≤e)),(30,Bd (k≤e)),(6,Bd (k≤e))] (Xk (Cn [(6,Bd (k≤e))] (fun m=>?_)));refine Cr (Rr (Rv [Bd (k≤e)] ⟨R,T0⟩ ?_));obtain rfl:=Sj a;exact ⟨R,c⟩
     refine Xu 8 [(24,U0),(25,U0),(26,U0),(27,U0),(28,U0),(29,U0),(30,.bool false),(6,.bool false)] (Xk (Cn [(6,.bool false)] (fun m=>?_)));refine Cr (Rr (Rv [.bool false] ⟨R,T0⟩ ?_));obtain rfl:=Sj a;exact ⟨R,c⟩
   refine Xu 17 [(15,U0),(16,U0),(17,U0),(18,U0),(19,U0),(20,U0),(21,U0),(22,.bool false),(23,.bool false),(24,U0),(25,U0),(26,U0),(27,U0),(28,U0),(29,U0),(30,.bool false),(6,.bool false)] (Xk (Cn [(6,.bool false)] (fun m=>?_)));refine Cr (Rr (Rv [.bool false] ⟨R,T0⟩ ?_));obtain rfl:=Sj a;exact ⟨R,c⟩
 refine Xu 21 [(11,U0),(12,U0),(13,.bool false),(14,.bool false),(15,U0),(16,U0),(17,U0),(18,U0),(19,U0),(20,U0),(21,U0),(22,.bool false),(23,.bool false),(24,U0),(25,U0),(26,U0),(27,U0),(28,U0),(29,U0),(30,.bool false),(6,.bool false)] (Xk (Cn [(6,.bool false)] (fun m=>?_)));refine Cr (Rr (Rv [.bool false] ⟨R,T0⟩ ?_));obtain rfl:=Sj a;exact ⟨R,c⟩
end Go.Proofs.YtlejnkhaphlooaaGreat
