
/- Walks, printed by program: each function returns what the partial function of the same name returns. Conditions: those of each theorem. -/
import Derived.Test.YtlejnkhaphlooaaGreatGT
import Derived.Test.YtlejnkhaphlooaaGreatGwagonnumber
set_option linter.unusedVariables false
set_option linter.unusedSimpArgs false
set_option maxRecDepth 4000
namespace Go.Proofs.YtlejnkhaphlooaaGreat
open Go Go.V Go.Proofs Go.IntKind
def consist_axles (a:Int):Option Int:=
(if (a==2)=true then
some 2
else
(if (a==3)=true then
some 6
else
some 4))
theorem consist_axles_w (a f c)(b:consist_axles a=some f):CallVC Tryz.prog 73 [Vi a] c fun h i=>h=Vi f∧Ev [] c i:=by
 refine Cv hmx Tryz.func73 (by kernel_rfl) R (rs:=[.tmp 2]) R (by kernel_rfl) (args:=[Vi a]) R ?_;have d:Ev [] c c:=Ev.refl _ _;have k:MS c [[]]:=⟨List.pairwise_singleton _ _,fun l e j g=>by simp only [List.mem_singleton] at e; subst e; cases g⟩
 refine Cs (Xu 1 [(2,Vi 0)] (Xk (Cq (Cs (Xu 1 [(3,Vi a)] (Xk (Cb (Cs (Xu 2 [(5,.bool (a==2)),(4,.bool (a==2))] ?_)))))))));refine Xk (Ci (a==2) R b (fun b=>?_) (fun b=>?_))
 · refine Cs (Xu 1 [(2,Vi 2)] (Xk (Cr (Kb (Kr (Rr (Rv [Vi 2] ⟨R,T0⟩ ?_)))))));obtain rfl:=Sj b;exact ⟨R,d⟩
 refine Cs (Xu 2 [(7,.bool (a==3)),(6,.bool (a==3))] (Xk (Ci (a==3) R b (fun b=>?_) (fun b=>?_))))
 · refine Cs (Xu 1 [(2,Vi 6)] (Xk (Cr (Kb (Kr (Rr (Rv [Vi 6] ⟨R,T0⟩ ?_)))))));obtain rfl:=Sj b;exact ⟨R,d⟩
 refine Ck (Kl (Kt (Cs (Xu 1 [(2,Vi 4)] (Xk (Cr (Rr (Rv [Vi 4] ⟨R,T0⟩ ?_))))))));obtain rfl:=Sj b;exact ⟨R,d⟩
def consist_name_L2 (c:List UInt8) (d:Int):Option (Step Int (Unit⊕Unit)):=
match d with
| b=>
(if (decide (b<(c.length:Int)))=true then
((sAt c b).bind fun a=>
(if (decide (a<97))=true then
(if (decide (a<48))=true then
some (.done (.inl ()))
else
(if (decide (a>57))=true then
some (.done (.inl ()))
else
some (.next (i64.wrap (b+1)))))
else
(if (decide (a>122))=true then
(if (decide (a<48))=true then
some (.done (.inl ()))
else
(if (decide (a>57))=true then
some (.done (.inl ()))
else
some (.next (i64.wrap (b+1)))))
else
some (.next (i64.wrap (b+1))))))
else
some (.done (.inr ())))
def consist_name (a:List UInt8):Option Bool:=
((loop (consist_name_L2 a) 0).bind fun b=>match b with
| (.inl _)=>some false
| (.inr _)=>(if (decide ((a.length:Int)>0))=true then
some (decide ((a.length:Int)≤12))
else
some false))
theorem consist_name_w (b r h)(a:consist_name b=some r):CallVC Tryz.prog 74 [Vs b] h fun w o=>w=.bool r∧Ev [] h o:=by
 refine Cv hmx Tryz.func74 (by kernel_rfl) R (rs:=[.tmp 2]) R (by kernel_rfl) (args:=[Vs b]) R ?_;have e:Ev [] h h:=Ev.refl _ _;have m:MS h [[]]:=⟨List.pairwise_singleton _ _,fun y q x t=>by simp only [List.mem_singleton] at q; subst q; cases t⟩
 have l:FR h.heap.size []:=FR.nil _;refine Cs (Xu 1 [(2,.bool false)] (Xk (Cq (Cs (Xu 1 [(3,Vi 0)] (Xk (Cb ?_)))))));obtain ⟨s,p,k⟩:=Bs a;obtain ⟨j,p⟩:=Lo p;refine Cl (Lr hmx (σ:=Nat×Int) (fun n=>match n with | (_,d)=>[(0,Vs b),(3,Vi d)]) (fun n o=>match n with | (v,d)=>loopN (consist_name_L2 b) v d=some s∧Ev [] h o∧MS o [[]]∧FR h.heap.size []) (fun n=>n.1) (j,0) ⟨R,R,T0⟩ ⟨p,e,m,l⟩ ?_);rintro ⟨j,d⟩ i A ⟨f,e,m,l⟩;rcases j with _ | j
 · exact (Lz f).elim
 obtain ⟨z,a,f⟩:=Bs f;refine Cq (Cs (Xu 2 [(5,Vi d),(6,Vs b)] (Xn (vs:=[Vs b]) (Vi (b.length:Int)) R R R (reads_slen tstr9 _) (Xu 1 [(8,Bd (d<(b.length:Int)))] (Xk (Cn [(0,Vs b),(3,Vi d),(8,Bd (d<(b.length:Int)))] (fun i=>?_)))))));refine Ci (decide (d<(b.length:Int))) R a (fun a=>?_) (fun a=>?_)
 · refine Ck (Kt (Cq (Cb (Cs (Xu 2 [(11,Vs b),(12,Vi d)] ?_)))));obtain ⟨c,u,a⟩:=Bs a;refine x_index (xv:=Vs b) (yv:=Vi d) (.int .u8 c) R R R R (reads_sindex tstr9 u) (Xu 1 [(4,.int .u8 c)] (Xk (Cs (Xu 3 [(14,.int .u8 c),(15,Bd (c<97)),(16,Bd (c<97))] (Xw 16 (decide (c<97)) R a (fun a=>?_) (fun a=>?_))))))
   · refine Xu 7 [(17,U0),(18,U0),(19,.bool true),(20,.bool true),(21,.int .u8 c),(22,Bd (c<48)),(23,Bd (c<48))] (Xw 23 (decide (c<48)) R a (fun a=>?_) (fun a=>?_))
     · refine Xu 4 [(24,U0),(25,U0),(26,.bool true),(27,.bool true)] (Xk (Cn [(0,Vs b),(3,Vi d),(27,.bool true)] (fun i=>?_)));refine c_true R (Cs (Xu 1 [(2,.bool false)] (Xk (Cr (Kb (Kr ?_))))));obtain rfl:=Sj a;have g:=Sj f;subst g;have a:=k;refine Kr (Kb (Kr (Rr (Rv [.bool false] ⟨R,T0⟩ ?_))));obtain rfl:=Sj a;exact ⟨R,e⟩
     refine Xu 4 [(24,.int .u8 c),(25,Bd (c>57)),(26,Bd (c>57)),(27,Bd (c>57))] (Xk (Cn [(0,Vs b),(3,Vi d),(27,Bd (c>57))] (fun i=>?_)));refine Ci (decide (c>57)) R a (fun a=>?_) (fun a=>?_)
     · refine Cs (Xu 1 [(2,.bool false)] (Xk (Cr (Kb (Kr ?_)))));obtain rfl:=Sj a;have g:=Sj f;subst g;have a:=k;refine Kr (Kb (Kr (Rr (Rv [.bool false] ⟨R,T0⟩ ?_))));obtain rfl:=Sj a;exact ⟨R,e⟩
     refine Ck (Kl (Kt (Cp (Xu 3 [(9,Vi d),(10,Vi (i64.wrap (d+1))),(3,Vi (i64.wrap (d+1)))] (Xe R ?_)))));obtain rfl:=Sj a;exact Kt ⟨(j,i64.wrap (d+1)),⟨R,R,T0⟩,⟨f,e,m,l⟩,Ns _⟩
   refine Xu 4 [(17,.int .u8 c),(18,Bd (c>122)),(19,Bd (c>122)),(20,Bd (c>122))] (Xw 20 (decide (c>122)) R a (fun a=>?_) (fun a=>?_))
   · refine Xu 3 [(21,.int .u8 c),(22,Bd (c<48)),(23,Bd (c<48))] (Xw 23 (decide (c<48)) R a (fun a=>?_) (fun a=>?_))
     · refine Xu 4 [(24,U0),(25,U0),(26,.bool true),(27,.bool true)] (Xk (Cn [(0,Vs b),(3,Vi d),(27,.bool true)] (fun i=>?_)));refine c_true R (Cs (Xu 1 [(2,.bool false)] (Xk (Cr (Kb (Kr ?_))))));obtain rfl:=Sj a;have g:=Sj f;subst g;have a:=k;refine Kr (Kb (Kr (Rr (Rv [.bool false] ⟨R,T0⟩ ?_))));obtain rfl:=Sj a;exact ⟨R,e⟩
     refine Xu 4 [(24,.int .u8 c),(25,Bd (c>57)),(26,Bd (c>57)),(27,Bd (c>57))] (Xk (Cn [(0,Vs b),(3,Vi d),(27,Bd (c>57))] (fun i=>?_)));refine Ci (decide (c>57)) R a (fun a=>?_) (fun a=>?_)
     · refine Cs (Xu 1 [(2,.bool false)] (Xk (Cr (Kb (Kr ?_)))));obtain rfl:=Sj a;have g:=Sj f;subst g;have a:=k;refine Kr (Kb (Kr (Rr (Rv [.bool false] ⟨R,T0⟩ ?_))));obtain rfl:=Sj a;exact ⟨R,e⟩
     refine Ck (Kl (Kt (Cp (Xu 3 [(9,Vi d),(10,Vi (i64.wrap (d+1))),(3,Vi (i64.wrap (d+1)))] (Xe R ?_)))));obtain rfl:=Sj a;exact Kt ⟨(j,i64.wrap (d+1)),⟨R,R,T0⟩,⟨f,e,m,l⟩,Ns _⟩
   refine Xu 7 [(21,U0),(22,U0),(23,U0),(24,U0),(25,U0),(26,U0),(27,.bool false)] (Xk (Cn [(0,Vs b),(3,Vi d),(27,.bool false)] (fun i=>?_)));refine c_false R (Ck (Kl (Kt (Cp (Xu 3 [(9,Vi d),(10,Vi (i64.wrap (d+1))),(3,Vi (i64.wrap (d+1)))] (Xe R ?_))))));obtain rfl:=Sj a;exact Kt ⟨(j,i64.wrap (d+1)),⟨R,R,T0⟩,⟨f,e,m,l⟩,Ns _⟩
 refine Ce (Ke ?_);obtain rfl:=Sj a;have g:=Sj f;subst g;have a:=k;refine Ke (Ki (Kt (Cn [(0,Vs b)] (fun i=>?_))));refine Cs (Xu 1 [(28,Vs b)] (Xn (vs:=[Vs b]) (Vi (b.length:Int)) R R R (reads_slen tstr9 _) (Xu 2 [(30,Bd ((b.length:Int)>0)),(31,Bd ((b.length:Int)>0))] (Xw 31 (decide ((b.length:Int)>0)) R a (fun a=>?_) (fun a=>?_)))))
 · refine Xu 1 [(32,Vs b)] (Xn (vs:=[Vs b]) (Vi (b.length:Int)) R R R (reads_slen tstr9 _) (Xu 3 [(34,Bd ((b.length:Int)≤12)),(35,Bd ((b.length:Int)≤12)),(2,Bd ((b.length:Int)≤12))] (Xk (Cr (Rr (Rv [Bd ((b.length:Int)≤12)] ⟨R,T0⟩ ?_))))));obtain rfl:=Sj a;exact ⟨R,e⟩
 refine Xu 5 [(32,U0),(33,U0),(34,U0),(35,.bool false),(2,.bool false)] (Xk (Cr (Rr (Rv [.bool false] ⟨R,T0⟩ ?_))));obtain rfl:=Sj a;exact ⟨R,e⟩
def consist_Valid_J10 (a:List UInt8) (b:Bool):Option Int:=
(if b=true then
some 2
else
((consist_name a).bind fun c=>
(if (!c)=true then
some 7
else
some 0)))
def consist_Valid_J9 (d:Int) (b:Int) (c:Int) (a:List UInt8) (e:Bool):Option Int:=
(if e=true then
some 2
else
(if (decide (b<0))=true then
consist_Valid_J10 a true
else
(if (decide (b>d))=true then
consist_Valid_J10 a true
else
(if (decide (c<0))=true then
consist_Valid_J10 a true
else
consist_Valid_J10 a (decide (c>9))))))
def consist_Valid_J6 (e:Int) (g:Int) (a:Int) (b:Int) (c:Int) (d:List UInt8) (h:Int×Int) (f:Int):Option Int:=
((consist_axles h.1).bind fun i=>
(if (g != i)=true then
some 1
else
(if (decide (e<f))=true then
consist_Valid_J9 a b c d true
else
(if (decide (e>400))=true then
consist_Valid_J9 a b c d true
else
(if (decide (a<50))=true then
consist_Valid_J9 a b c d true
else
consist_Valid_J9 a b c d (decide (a>2000)))))))
def consist_Valid (h:List UInt8) (b:Int) (c:Int) (d:Int) (e:Int) (f:Int) (i:Bool) (g:List UInt8):Option Int:=
((wagonnumber_Kind h).bind fun a=>
(if (a.2 != 0)=true then
some a.2
else
(if (a.1==3)=true then
consist_Valid_J6 b c d e f g a 120
else
consist_Valid_J6 b c d e f g a 80)))
theorem consist_Valid_w (r j l e i h t n w o)(a:consist_Valid r j l e i h t n=some w):CallVC Tryz.prog 43 [.agg #[Vs r,Vi j,Vi l,Vi e,Vi i,Vi h,.bool t,Vs n]] o fun A m=>A=Vi w∧Ev [] o m:=by
 refine Cv hmx Tryz.func43 (by kernel_rfl) R (rs:=[.tmp 2]) R (by kernel_rfl) (args:=[.agg #[Vs r,Vi j,Vi l,Vi e,Vi i,Vi h,.bool t,Vs n]]) R ?_;have c:Ev [] o o:=Ev.refl _ _;have f:MS o [[]]:=⟨List.pairwise_singleton _ _,fun Q G N J=>by simp only [List.mem_singleton] at G; subst G; cases J⟩
 have k:FR o.heap.size []:=FR.nil _;refine Cs (Yb _ R (fun d I H b F O=>?_));replace b:I.heap[d]? = some (.cells #[Vs r,Vi j,Vi l,Vi e,Vi i,Vi h,.bool t,Vs n] 34 (0,0)):=b;refine I1 ?_;have f:=f.box F H b;have k:=k.box c.size H;have c:=c.ext F;refine Xu 1 [(2,Vi 0)] (Xk (Cs (Yg d 0 0 (Vs r) R R (Rf tfld34_0 _ _) tcell9 b nn R ?_)));obtain ⟨g,v,a⟩:=Bs a;have u:=wagonnumber_Kind_w r _ I v;refine Xc 72 #[] #[] _ _ R R R R u ?_;rintro A U ⟨rfl,E⟩;refine I1 ?_;have b:=E.box b nn;have f:=f.ev E;have c:=c.ext E;refine Xu 5 [(6,.tuple #[Vi g.1,Vi g.2]),(10,Vi g.1),(11,Vi g.2),(3,Vi g.1),(4,Vi g.2)] (Xk (Cq (Cs (Xu 2 [(12,Vi g.2),(13,.bool (g.2 != 0))] (Xk (Ci (g.2 != 0) R a (fun a=>?_) (fun a=>?_)))))))
 · refine Cs (Xu 2 [(14,Vi g.2),(2,Vi g.2)] (Xk (Cn [(2,Vi g.2)] (fun s=>?_))));refine Cr (Kr (Rr (Rv [Vi g.2] ⟨R,T0⟩ ?_)));obtain rfl:=Sj a;exact ⟨R,c⟩
 refine Ck (Kt (Cs (Xu 1 [(5,Vi 80)] (Xk (Cn [(1,Vp d 0),(3,Vi g.1),(5,Vi 80)] (fun s=>?_))))));refine c_join (σ:=Int) (fun p=>match p with | q=>[(1,Vp d 0),(3,Vi g.1),(5,Vi q)]) (fun p m=>match p with | q=>consist_Valid_J6 j l e i h n g q=some w∧Ev [] o m∧MS m [[d],[]]∧FR o.heap.size [[d]]∧m.heap[d]? = some (.cells #[Vs r,Vi j,Vi l,Vi e,Vi i,Vi h,.bool t,Vs n] 34 (0,0))) ?_ ?_
 · refine Cs (Xu 2 [(15,Vi g.1),(16,.bool (g.1==3))] (Xk (Ci (g.1==3) R a (fun a=>?_) (fun a=>?_))))
   · refine Cp (Xu 1 [(5,Vi 120)] (Xe R ?_));exact Kt ⟨120,⟨R,R,R,T0⟩,a,c,f,k,b⟩
   refine Ck ?_;exact Kt ⟨80,⟨R,R,R,T0⟩,a,c,f,k,b⟩
 rintro q s B ⟨a,c,f,k,b⟩;refine Cq (Cb (Cq (Cd [] [(0,false),(1,false),(2,false),(3,false),(4,false),(5,false)] _ (by kernel_rfl) R ?_)));have b:=(Ev.drew B).box b nn;have f:=f.ev (Ev.drew B);have c:=c.ext (Ev.drew B);refine Yg d 0 2 (Vi l) R R (Rf tfld34_2 _ _) tcell3 b nn R (Xu 1 [(20,Vi g.1)] ?_);obtain ⟨D,v,a⟩:=Bs a;have u:=consist_axles_w g.1 _ (B).drew v;refine Xc 73 #[] #[] _ _ R R R R u ?_;rintro A X ⟨rfl,z⟩;refine ⟨.inr z,?_⟩;have b:=z.box b nn;have f:=f.ev z;have c:=c.ext z;refine Xu 2 [(22,.bool (l != D)),(17,.bool (l != D))] (Xk (Cn [(1,Vp d 0),(5,Vi q),(17,.bool (l != D))] (fun s=>?_)));refine Ci (l != D) R a (fun a=>?_) (fun a=>?_)
 · refine Cs (Xu 1 [(2,Vi 1)] (Xk (Cr (Kb (Kr (Rr (Rv [Vi 1] ⟨R,T0⟩ ?_)))))));obtain rfl:=Sj a;exact ⟨R,c⟩
 refine c_join (σ:=Bool) (fun p=>match p with | x=>[(1,Vp d 0),(23,.bool x)]) (fun p m=>match p with | x=>consist_Valid_J9 e i h n x=some w∧Ev [] o m∧MS m [[d],[]]∧FR o.heap.size [[d]]∧m.heap[d]? = some (.cells #[Vs r,Vi j,Vi l,Vi e,Vi i,Vi h,.bool t,Vs n] 34 (0,0))) ?_ ?_
 · refine Cp (Yg d 0 1 (Vi j) R R (Rf tfld34_1 _ _) tcell3 b nn R (Xu 3 [(26,Vi q),(27,Bd (j<q)),(28,Bd (j<q))] (Xw 28 (decide (j<q)) R a (fun a=>?_) (fun a=>?_))))
   · refine Xu 15 [(29,U0),(30,U0),(31,U0),(32,.bool true),(33,.bool true),(34,U0),(35,U0),(36,U0),(37,.bool true),(38,.bool true),(39,U0),(40,U0),(41,U0),(42,.bool true),(23,.bool true)] (Xe R ?_);exact Kt ⟨true,⟨R,R,T0⟩,a,c,f,k,b⟩
   refine Yg d 0 1 (Vi j) R R (Rf tfld34_1 _ _) tcell3 b nn R (Xu 3 [(31,Bd (j>400)),(32,Bd (j>400)),(33,Bd (j>400))] (Xw 33 (decide (j>400)) R a (fun a=>?_) (fun a=>?_)))
   · refine Xu 10 [(34,U0),(35,U0),(36,U0),(37,.bool true),(38,.bool true),(39,U0),(40,U0),(41,U0),(42,.bool true),(23,.bool true)] (Xe R ?_);exact Kt ⟨true,⟨R,R,T0⟩,a,c,f,k,b⟩
   refine Yg d 0 3 (Vi e) R R (Rf tfld34_3 _ _) tcell3 b nn R (Xu 3 [(36,Bd (e<50)),(37,Bd (e<50)),(38,Bd (e<50))] (Xw 38 (decide (e<50)) R a (fun a=>?_) (fun a=>?_)))
   · refine Xu 5 [(39,U0),(40,U0),(41,U0),(42,.bool true),(23,.bool true)] (Xe R ?_);exact Kt ⟨true,⟨R,R,T0⟩,a,c,f,k,b⟩
   refine Yg d 0 3 (Vi e) R R (Rf tfld34_3 _ _) tcell3 b nn R (Xu 3 [(41,Bd (e>2000)),(42,Bd (e>2000)),(23,Bd (e>2000))] (Xe R ?_));exact Kt ⟨decide (e>2000),⟨R,R,T0⟩,a,c,f,k,b⟩
 rintro x s Y ⟨a,c,f,k,b⟩;refine Ci x R a (fun a=>?_) (fun a=>?_)
 · refine Cs (Xu 1 [(2,Vi 2)] (Xk (Cn [(2,Vi 2)] (fun s=>?_))));refine Cr (Kb (Kr (Rr (Rv [Vi 2] ⟨R,T0⟩ ?_))));obtain rfl:=Sj a;exact ⟨R,c⟩
 refine c_join (σ:=Bool) (fun p=>match p with | y=>[(1,Vp d 0),(43,.bool y)]) (fun p m=>match p with | y=>consist_Valid_J10 n y=some w∧Ev [] o m∧MS m [[d],[]]∧FR o.heap.size [[d]]∧m.heap[d]? = some (.cells #[Vs r,Vi j,Vi l,Vi e,Vi i,Vi h,.bool t,Vs n] 34 (0,0))) ?_ ?_
 · refine Cp (Yg d 0 4 (Vi i) R R (Rf tfld34_4 _ _) tcell3 b nn R (Xu 2 [(46,Bd (i<0)),(47,Bd (i<0))] (Xw 47 (decide (i<0)) R a (fun a=>?_) (fun a=>?_))))
   · refine Xu 17 [(48,U0),(49,U0),(50,U0),(51,U0),(52,U0),(53,.bool true),(54,.bool true),(55,U0),(56,U0),(57,U0),(58,.bool true),(59,.bool true),(60,U0),(61,U0),(62,U0),(63,.bool true),(43,.bool true)] (Xe R ?_);exact Kt ⟨true,⟨R,R,T0⟩,a,c,f,k,b⟩
   refine Yg d 0 4 (Vi i) R R (Rf tfld34_4 _ _) tcell3 b nn R (Yg d 0 3 (Vi e) R R (Rf tfld34_3 _ _) tcell3 b nn R (Xu 3 [(52,Bd (i>e)),(53,Bd (i>e)),(54,Bd (i>e))] (Xw 54 (decide (i>e)) R a (fun a=>?_) (fun a=>?_))))
   · refine Xu 10 [(55,U0),(56,U0),(57,U0),(58,.bool true),(59,.bool true),(60,U0),(61,U0),(62,U0),(63,.bool true),(43,.bool true)] (Xe R ?_);exact Kt ⟨true,⟨R,R,T0⟩,a,c,f,k,b⟩
   refine Yg d 0 5 (Vi h) R R (Rf tfld34_5 _ _) tcell3 b nn R (Xu 3 [(57,Bd (h<0)),(58,Bd (h<0)),(59,Bd (h<0))] (Xw 59 (decide (h<0)) R a (fun a=>?_) (fun a=>?_)))
   · refine Xu 5 [(60,U0),(61,U0),(62,U0),(63,.bool true),(43,.bool true)] (Xe R ?_);exact Kt ⟨true,⟨R,R,T0⟩,a,c,f,k,b⟩
   refine Yg d 0 5 (Vi h) R R (Rf tfld34_5 _ _) tcell3 b nn R (Xu 3 [(62,Bd (h>9)),(63,Bd (h>9)),(43,Bd (h>9))] (Xe R ?_));exact Kt ⟨decide (h>9),⟨R,R,T0⟩,a,c,f,k,b⟩
 rintro y s L ⟨a,c,f,k,b⟩;refine Ci y R a (fun a=>?_) (fun a=>?_)
 · refine Cs (Xu 1 [(2,Vi 2)] (Xk (Cn [(2,Vi 2)] (fun s=>?_))));refine Cr (Kb (Kr (Rr (Rv [Vi 2] ⟨R,T0⟩ ?_))));obtain rfl:=Sj a;exact ⟨R,c⟩
 refine Cs (Yg d 0 7 (Vs n) R R (Rf tfld34_7 _ _) tcell9 b nn R ?_);obtain ⟨C,v,a⟩:=Bs a;have u:=consist_name_w n _ L v;refine Xc 74 #[] #[] _ _ R R R R u ?_;rintro A S ⟨rfl,K⟩;refine I1 ?_;have c:=c.ext K;refine Xu 2 [(68,.bool (!C)),(64,.bool (!C))] (Xk (Cn [(64,.bool (!C))] (fun s=>?_)));refine Ci (!C) R a (fun a=>?_) (fun a=>?_)
 · refine Cs (Xu 1 [(2,Vi 7)] (Xk (Cr (Kb (Kr (Rr (Rv [Vi 7] ⟨R,T0⟩ ?_)))))));obtain rfl:=Sj a;exact ⟨R,c⟩
 refine Ck (Kl (Kt (Cs (Xu 1 [(2,Vi 0)] (Xk (Cr (Rr (Rv [Vi 0] ⟨R,T0⟩ ?_))))))));obtain rfl:=Sj a;exact ⟨R,c⟩
end Go.Proofs.YtlejnkhaphlooaaGreat
