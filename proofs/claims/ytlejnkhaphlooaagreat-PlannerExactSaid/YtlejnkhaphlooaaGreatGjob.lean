
/- Walks, printed by program: each function returns what the partial function of the same name returns. Conditions: those of each theorem. -/
import Derived.Test.YtlejnkhaphlooaaGreatGT
set_option linter.unusedVariables false
set_option linter.unusedSimpArgs false
set_option maxRecDepth 4000
namespace Go.Proofs.YtlejnkhaphlooaaGreat
open Go Go.V Go.Proofs Go.IntKind
def job_in (a:Int) (b:Int) (c:Int):Option Bool:=
(if (decide (a≥b))=true then
some (decide (a≤c))
else
some false)
theorem job_in_w (a c b h e)(d:job_in a c b=some h):CallVC Tryz.prog 56 [Vi a,Vi c,Vi b] e fun j k=>j=.bool h∧Ev [] e k:=by
 refine Cv hmx Tryz.func56 (by kernel_rfl) R (rs:=[.tmp 6]) R (by kernel_rfl) (args:=[Vi a,Vi c,Vi b]) R ?_;have f:Ev [] e e:=Ev.refl _ _;have m:MS e [[]]:=⟨List.pairwise_singleton _ _,fun n g l i=>by simp only [List.mem_singleton] at g; subst g; cases i⟩
 refine Cs (Xu 1 [(6,.bool false)] (Xk (Cs (Xu 4 [(7,Vi a),(8,Vi c),(9,Bd (a≥c)),(10,Bd (a≥c))] (Xw 10 (decide (a≥c)) R d (fun d=>?_) (fun d=>?_))))))
 · refine Xu 5 [(11,Vi a),(12,Vi b),(13,Bd (a≤b)),(14,Bd (a≤b)),(6,Bd (a≤b))] (Xk (Cr (Rr (Rv [Bd (a≤b)] ⟨R,T0⟩ ?_))));obtain rfl:=Sj d;exact ⟨R,f⟩
 refine Xu 5 [(11,U0),(12,U0),(13,U0),(14,.bool false),(6,.bool false)] (Xk (Cr (Rr (Rv [.bool false] ⟨R,T0⟩ ?_))));obtain rfl:=Sj d;exact ⟨R,f⟩
def job_Valid_L8 (c:List (Int×Int×Int×Int)) (d:Int):Option (Step Int (Int⊕Unit)):=
match d with
| a=>
(if (decide (a<((c).length:Int)))=true then
((idx c a).bind fun b=>
((job_in b.1 0 15).bind fun e=>
(if (!e)=true then
some (.done (.inl 2))
else
((job_in b.2.1 0 31).bind fun f=>
(if (!f)=true then
some (.done (.inl 2))
else
((job_in b.2.2.1 0 12).bind fun g=>
(if (!g)=true then
some (.done (.inl 2))
else
((job_in b.2.2.2 1 400).bind fun h=>
(if (!h)=true then
some (.done (.inl 2))
else
(if (decide (a>0))=true then
((idx c (i64.wrap (a-1))).bind fun i=>
(if (decide (b.2.2.1<i.2.2.1))=true then
some (.done (.inl 12))
else
some (.next (i64.wrap (a+1)))))
else
some (.next (i64.wrap (a+1)))))))))))))
else
some (.done (.inr ())))
def job_Valid (a:List (Int×Int×Int×Int)) (c:Int):Option Int:=
(if (decide (((a).length:Int)>96))=true then
some 3
else
((job_in c 0 12).bind fun e=>
(if (!e)=true then
some 2
else
((loop (job_Valid_L8 a) 0).bind fun b=>match b with
| (.inl d)=>some d
| (.inr _)=>some 0))))
theorem job_Valid_w (j k b w ae v m)(h:MS v [m])(f:SlR (eIt4) v (fl [m]) j k b)(a:job_Valid b w=some ae):CallVC Tryz.prog 46 [.agg #[Vl j b k,Vi w]] v fun B C=>B=Vi ae∧Ev [] v C:=by
 refine Cv hmx Tryz.func46 (by kernel_rfl) R (rs:=[.tmp 2]) R (by kernel_rfl) (args:=[.agg #[Vl j b k,Vi w]]) R ?_;have d:Ev [] v v:=Ev.refl _ _;have p:FR v.heap.size []:=FR.nil _;refine Cs (Yb _ R (fun c ag ab g Y aE=>?_));replace g:ag.heap[c]? = some (.cells #[Vl j b k,Vi w] 50 (0,0)):=g;refine I1 ?_;have o:=Stp.box (ls:=[m]) Y ab;have f:=f.step o;have h:=h.box Y ab g;have p:=p.box d.size ab;have d:=d.ext Y;refine Xu 1 [(2,Vi 0)] (Xk (Cq (Cs (Yg c 0 0 (Vl j b k) R R (Rf tfld50_0 _ _) tcell36 g nn R (Xn (vs:=[Vl j b k]) (Vi ((b).length:Int)) R R R (Rl tsl36 _ _ _ _ _) (Xu 1 [(8,Bd (((b).length:Int)>96))] (Xk (Ci (decide (((b).length:Int)>96)) R a (fun a=>?_) (fun a=>?_)))))))))
 · refine Cs (Xu 1 [(2,Vi 3)] (Xk (Cr (Kr (Rr (Rv [Vi 3] ⟨R,T0⟩ ?_))))));obtain rfl:=Sj a;exact ⟨R,d⟩
 refine Ck (Kt (Cq (Cs (Yg c 0 1 (Vi w) R R (Rf tfld50_1 _ _) tcell3 g nn R ?_))));obtain ⟨ah,u,a⟩:=Bs a;have t:=job_in_w w 0 12 _ ag u;refine Xc 56 #[] #[] _ _ R R R R t ?_;rintro B aG ⟨rfl,L⟩;refine I1 ?_;have o:=Stp.ext (ls:=[[c],m]) L;have f:=f.step o;have g:=L.box g nn;have h:=h.ev L;have d:=d.ext L;refine Xu 1 [(12,.bool (!ah))] (Xk (Ci (!ah) R a (fun a=>?_) (fun a=>?_)))
 · refine Cs (Xu 1 [(2,Vi 2)] (Xk (Cr (Kr (Rr (Rv [Vi 2] ⟨R,T0⟩ ?_))))));obtain rfl:=Sj a;exact ⟨R,d⟩
 refine Ck (Kt (Cq (Cs (Yg c 0 0 (Vl j b k) R R (Rf tfld50_0 _ _) tcell36 g nn R (Xn (vs:=[Vl j b k]) (Vi ((b).length:Int)) R R R (Rl tsl36 _ _ _ _ _) (Xu 1 [(16,Vi 0)] (Xk (Cn [(1,Vp c 0),(14,Vl j b k),(15,Vi ((b).length:Int)),(16,Vi 0)] (fun s=>?_)))))))));refine Cb ?_;obtain ⟨ak,X,y⟩:=Bs a;obtain ⟨A,X⟩:=Lo X;refine Cl (Lr hmx (σ:=Nat×Int) (fun H=>match H with | (_,e)=>[(1,Vp c 0),(14,Vl j b k),(15,Vi ((b).length:Int)),(16,Vi e)]) (fun H C=>match H with | (aw,e)=>loopN (job_Valid_L8 b) aw e=some ak∧Ev [] v C∧MS C [[c],m]∧FR v.heap.size [[c]]∧SlR (eIt4) C (fl [[c],m]) j k b∧C.heap[c]? = some (.cells #[Vl j b k,Vi w] 50 (0,0))) (fun H=>H.1) (A,0) ⟨R,R,R,R,T0⟩ ⟨X,d,h,p,f,g⟩ ?_);rintro ⟨A,e⟩ s aH ⟨q,d,h,p,f,g⟩;rcases A with _ | A
 · exact (Lz q).elim
 obtain ⟨aF,a,q⟩:=Bs q;refine Cs (Xu 1 [(17,Bd (e<((b).length:Int)))] (Xk (Cn [(1,Vp c 0),(14,Vl j b k),(15,Vi ((b).length:Int)),(16,Vi e),(17,Bd (e<((b).length:Int)))] (fun s=>?_))));refine Cq (Ci (decide (e<((b).length:Int))) R a (fun a=>?_) (fun a=>?_))
 · refine Ck (Kt (Cq (Cb (Cs (Xu 1 [(18,Vi e)] ?_)))));obtain ⟨i,au,a⟩:=Bs a;obtain ⟨ai,aB,ap,an,U⟩:=Ri (Mo:=[]) tsl36 f au;obtain ⟨_,_,rfl,rfl,⟨_,_,rfl,rfl,⟨_,_,rfl,rfl,rfl⟩⟩⟩:=U;refine Yi _ _ _ R ap (Yl (.pointer (some ai)) (.agg #[Vi i.1,Vi i.2.1,Vi i.2.2.1,Vi i.2.2.2]) R (reads_agg tagg76 an (fun _ a=>by cases a)) ?_);refine Xa (z:=.agg #[Vi 0,Vi 0,Vi 0,Vi 0]) R R (by kernel_rfl) (fun n ax aa l J aD=>?_);replace l:ax.heap[n]? = some (.cells #[Vi 0,Vi 0,Vi 0,Vi 0] 76 (0,0)):=l;refine I1 ?_;have o:=Stp.box (ls:=[[c],m]) J aa;have g:=J.box g nn;have f:=f.step o;have h:=h.box J aa l;have p:=p.box d.size aa;have d:=d.ext J;refine Xu 1 [(3,Vi e)] ?_;obtain ⟨af,aq,am,K⟩:=Sa [Vi i.1,Vi i.2.1,Vi i.2.2.1,Vi i.2.2.2] tagg76 l R R R;refine Ys af _ _ R aq (I1 ?_);have o:=Stp.ev' (ls:=[[n],[c],m]) K (Mf 0 R);have g:=K.box g (h.apart 1 0 R R R _ mem1);have f:=f.step o;have h:=h.ev K;have d:=d.then K (fun aj al=>.inr (p.at 0 R aj al));have l:=am;refine Xk (Cq (Cs (Yg n 0 0 (Vi i.1) R R (Rf tfld76_0 _ _) tcell3 l nn R ?_)));obtain ⟨ad,u,a⟩:=Bs a;have t:=job_in_w i.1 0 15 _ af u;refine Xc 56 #[] #[] _ _ R R R R t ?_;rintro B ay ⟨rfl,D⟩;refine I1 ?_;have o:=Stp.ext (ls:=[[n],[c],m]) D;have g:=D.box g nn;have f:=f.step o;have l:=D.box l nn;have h:=h.ev D;have d:=d.ext D;refine Xu 2 [(24,.bool (!ad)),(25,.bool (!ad))] (Xw 25 (!ad) R a (fun a=>?_) (fun a=>?_))
   · refine Xu 17 [(26,U0),(27,U0),(28,U0),(29,U0),(30,.bool true),(31,.bool true),(32,U0),(33,U0),(34,U0),(35,U0),(36,.bool true),(37,.bool true),(38,U0),(39,U0),(40,U0),(41,U0),(42,.bool true)] (Xk (Cn [(1,Vp c 0),(3,Vi e),(4,Vp n 0),(14,Vl j b k),(15,Vi ((b).length:Int)),(16,Vi e),(42,.bool true)] (fun s=>?_)));refine c_true R (Cs (Xu 1 [(2,Vi 2)] (Xk (Cr (Kr (Kb (Kr ?_)))))));obtain rfl:=Sj a;have r:=Sj q;subst r;have a:=y;refine Kr (Kb (Kr (Rr (Rv [Vi 2] ⟨R,T0⟩ ?_))));obtain rfl:=Sj a;exact ⟨R,d⟩
   refine Yg n 0 1 (Vi i.2.1) R R (Rf tfld76_1 _ _) tcell3 l nn R ?_;obtain ⟨N,u,a⟩:=Bs a;have t:=job_in_w i.2.1 0 31 _ ay u;refine Xc 56 #[] #[] _ _ R R R R t ?_;rintro B az ⟨rfl,E⟩;refine I1 ?_;have o:=Stp.ext (ls:=[[n],[c],m]) E;have g:=E.box g nn;have f:=f.step o;have l:=E.box l nn;have h:=h.ev E;have d:=d.ext E;refine Xu 3 [(29,.bool (!N)),(30,.bool (!N)),(31,.bool (!N))] (Xw 31 (!N) R a (fun a=>?_) (fun a=>?_))
   · refine Xu 11 [(32,U0),(33,U0),(34,U0),(35,U0),(36,.bool true),(37,.bool true),(38,U0),(39,U0),(40,U0),(41,U0),(42,.bool true)] (Xk (Cn [(1,Vp c 0),(3,Vi e),(4,Vp n 0),(14,Vl j b k),(15,Vi ((b).length:Int)),(16,Vi e),(42,.bool true)] (fun s=>?_)));refine c_true R (Cs (Xu 1 [(2,Vi 2)] (Xk (Cr (Kr (Kb (Kr ?_)))))));obtain rfl:=Sj a;have r:=Sj q;subst r;have a:=y;refine Kr (Kb (Kr (Rr (Rv [Vi 2] ⟨R,T0⟩ ?_))));obtain rfl:=Sj a;exact ⟨R,d⟩
   refine Yg n 0 2 (Vi i.2.2.1) R R (Rf tfld76_2 _ _) tcell3 l nn R ?_;obtain ⟨O,u,a⟩:=Bs a;have t:=job_in_w i.2.2.1 0 12 _ az u;refine Xc 56 #[] #[] _ _ R R R R t ?_;rintro B aA ⟨rfl,F⟩;refine I1 ?_;have o:=Stp.ext (ls:=[[n],[c],m]) F;have g:=F.box g nn;have f:=f.step o;have l:=F.box l nn;have h:=h.ev F;have d:=d.ext F;refine Xu 3 [(35,.bool (!O)),(36,.bool (!O)),(37,.bool (!O))] (Xw 37 (!O) R a (fun a=>?_) (fun a=>?_))
   · refine Xu 5 [(38,U0),(39,U0),(40,U0),(41,U0),(42,.bool true)] (Xk (Cn [(1,Vp c 0),(3,Vi e),(4,Vp n 0),(14,Vl j b k),(15,Vi ((b).length:Int)),(16,Vi e),(42,.bool true)] (fun s=>?_)));refine c_true R (Cs (Xu 1 [(2,Vi 2)] (Xk (Cr (Kr (Kb (Kr ?_)))))));obtain rfl:=Sj a;have r:=Sj q;subst r;have a:=y;refine Kr (Kb (Kr (Rr (Rv [Vi 2] ⟨R,T0⟩ ?_))));obtain rfl:=Sj a;exact ⟨R,d⟩
   refine Yg n 0 3 (Vi i.2.2.2) R R (Rf tfld76_3 _ _) tcell3 l nn R ?_;obtain ⟨Q,u,a⟩:=Bs a;have t:=job_in_w i.2.2.2 1 400 _ aA u;refine Xc 56 #[] #[] _ _ R R R R t ?_;rintro B x ⟨rfl,G⟩;refine I1 ?_;have o:=Stp.ext (ls:=[[n],[c],m]) G;have g:=G.box g nn;have f:=f.step o;have l:=G.box l nn;have h:=h.ev G;have d:=d.ext G;refine Xu 2 [(41,.bool (!Q)),(42,.bool (!Q))] (Xk (Cn [(1,Vp c 0),(3,Vi e),(4,Vp n 0),(14,Vl j b k),(15,Vi ((b).length:Int)),(16,Vi e),(42,.bool (!Q))] (fun s=>?_)));refine Ci (!Q) R a (fun a=>?_) (fun a=>?_)
   · refine Cs (Xu 1 [(2,Vi 2)] (Xk (Cr (Kr (Kb (Kr ?_))))));obtain rfl:=Sj a;have r:=Sj q;subst r;have a:=y;refine Kr (Kb (Kr (Rr (Rv [Vi 2] ⟨R,T0⟩ ?_))));obtain rfl:=Sj a;exact ⟨R,d⟩
   refine Ck (Kt (Cq (Cd [] [(0,false),(1,false),(2,false),(3,false),(4,false),(5,false),(6,false),(7,false),(8,false),(9,false),(10,false),(11,false),(12,false),(13,false)] _ (by kernel_rfl) R ?_)));have o:=Stp.ext (ls:=[[n],[c],m]) (Ev.drew x);have g:=(Ev.drew x).box g nn;have f:=f.step o;have l:=(Ev.drew x).box l nn;have h:=h.ev (Ev.drew x);have d:=d.ext (Ev.drew x);refine Xu 3 [(43,Vi e),(44,Bd (e>0)),(45,Bd (e>0))] (Xw 45 (decide (e>0)) R a (fun a=>?_) (fun a=>?_))
   · refine Yg n 0 2 (Vi i.2.2.1) R R (Rf tfld76_2 _ _) tcell3 l nn R (Yg c 0 0 (Vl j b k) R R (Rf tfld50_0 _ _) tcell36 g nn R (Xu 2 [(50,Vi e),(51,Vi (i64.wrap (e-1)))] ?_));obtain ⟨I,av,a⟩:=Bs a;obtain ⟨S,aC,ar,ao,U⟩:=Ri (Mo:=[]) tsl36 f av;obtain ⟨_,_,rfl,rfl,⟨_,_,rfl,rfl,⟨_,_,rfl,rfl,rfl⟩⟩⟩:=U;refine Yi _ _ _ R ar (Yf (.pointer (some S)) (.pointer (some (Addr.add S 2))) R (Rf tfld76_2 _ _) (Yl (.pointer (some (Addr.add S 2))) (Vi I.2.2.1) R (reads_cell tcell3 ao (fun _ a=>by cases a) 2 _ R) ?_));refine Xu 2 [(55,Bd (i.2.2.1<I.2.2.1)),(56,Bd (i.2.2.1<I.2.2.1))] (Xk (Cn [(1,Vp c 0),(14,Vl j b k),(15,Vi ((b).length:Int)),(16,Vi e),(56,Bd (i.2.2.1<I.2.2.1))] (fun s=>?_)));refine Ci (decide (i.2.2.1<I.2.2.1)) R a (fun a=>?_) (fun a=>?_)
     · refine Cs (Xu 1 [(2,Vi 12)] (Xk (Cr (Kb (Kr ?_)))));obtain rfl:=Sj a;have r:=Sj q;subst r;have a:=y;refine Kr (Kb (Kr (Rr (Rv [Vi 12] ⟨R,T0⟩ ?_))));obtain rfl:=Sj a;exact ⟨R,d⟩
     refine Ck (Kl (Kt (Cp (Xu 2 [(57,Vi (i64.wrap (e+1))),(16,Vi (i64.wrap (e+1)))] (Xe R ?_)))));obtain rfl:=Sj a;have Z:MS (x).drew [[c],m]:=h.pk [1,2] _ R;have ac:=Pk (ls:=[[n],[c],m]) [1,2] [[c],m] R;have f:=f.sub ac;have h:=Z;have p:=p.pk [1] [[c]] R;exact Kt ⟨(A,i64.wrap (e+1)),⟨R,R,R,R,T0⟩,⟨q,d,h,p,f,g⟩,Ns _⟩
   refine Xu 11 [(46,U0),(47,U0),(48,U0),(49,U0),(50,U0),(51,U0),(52,U0),(53,U0),(54,U0),(55,U0),(56,.bool false)] (Xk (Cn [(1,Vp c 0),(14,Vl j b k),(15,Vi ((b).length:Int)),(16,Vi e),(56,.bool false)] (fun s=>?_)));refine c_false R (Ck (Kl (Kt (Cp (Xu 2 [(57,Vi (i64.wrap (e+1))),(16,Vi (i64.wrap (e+1)))] (Xe R ?_))))));obtain rfl:=Sj a;have Z:MS (x).drew [[c],m]:=h.pk [1,2] _ R;have ac:=Pk (ls:=[[n],[c],m]) [1,2] [[c],m] R;have f:=f.sub ac;have h:=Z;have p:=p.pk [1] [[c]] R;exact Kt ⟨(A,i64.wrap (e+1)),⟨R,R,R,R,T0⟩,⟨q,d,h,p,f,g⟩,Ns _⟩
 refine Ce (Ke ?_);obtain rfl:=Sj a;have r:=Sj q;subst r;have a:=y;refine Ke (Ki (Kt (c_norm [] T0 (fun s=>?_))));refine Cs (Xu 1 [(2,Vi 0)] (Xk (Cr (Rr (Rv [Vi 0] ⟨R,T0⟩ ?_)))));obtain rfl:=Sj a;exact ⟨R,d⟩
def job_relation_J9 (a:Int) (b:Int) (c:Bool):Option Int:=
(if c=true then
some 0
else
(if (decide (b<a))=true then
some 2
else
some 1))
def job_relation_J4 (a:Int) (b:Int) (c:Int) (d:Int) (g:Int) (h:Int) (e:Int) (f:Int) (i:Int) (j:Int):Option Int:=
(if (c != e)=true then
job_relation_J9 a b true
else
job_relation_J9 a b (decide (d≥f)))
def job_relation (c:List (Int×Int×Int×Int)) (f:Int) (d:Int) (e:Int):Option Int:=
((idx c d).bind fun a=>
((idx c e).bind fun b=>
job_relation_J4 d e a.1 a.2.1 a.2.2.1 a.2.2.2 b.1 b.2.1 b.2.2.1 b.2.2.2))
theorem job_relation_w (H J F ac j k ad o p)(a:MS o [p])(K:SlR (eIt4) o (fl [p]) H J F)(d:job_relation F ac j k=some ad):CallVC Tryz.prog 122 [.agg #[Vl H F J,Vi ac],Vi j,Vi k] o fun aF v=>aF=Vi ad∧Ev [] o v:=by
 refine Cv hmx Tryz.func122 (by kernel_rfl) R (rs:=[.tmp 6]) R (by kernel_rfl) (args:=[.agg #[Vl H F J,Vi ac],Vi j,Vi k]) R ?_;have b:Ev [] o o:=Ev.refl _ _;have c:FR o.heap.size []:=FR.nil _;refine Cs (Yb _ R (fun I h aj B ai aJ=>?_));replace B:h.heap[I]? = some (.cells #[Vl H F J,Vi ac] 50 (0,0)):=B;refine I1 ?_;have am:=Stp.box (ls:=[p]) ai aj;have K:=K.step am;have a:=a.box ai aj B;have c:=c.box b.size aj;have b:=b.ext ai;refine Xu 1 [(6,Vi 0)] (Xk (c_join (σ:=Int×Int×Int×Int×Int×Int×Int×Int×Nat×Nat) (fun G=>match G with | (y,r,X,Y,A,s,Z,aa,w,x)=>[(1,Vi j),(2,Vi k),(7,Vp w 0),(8,Vp x 0)]) (fun G v=>match G with | (y,r,X,Y,A,s,Z,aa,w,x)=>job_relation_J4 j k y r X Y A s Z aa=some ad∧Ev [] o v∧MS v [[w],[x],p]∧FR o.heap.size [[w],[x]]∧v.heap[w]? = some (.cells #[Vi y,Vi r,Vi X,Vi Y] 76 (0,0))∧v.heap[x]? = some (.cells #[Vi A,Vi s,Vi Z,Vi aa] 76 (0,0))) ?_ ?_))
 · refine c_drawnp (newmo (h).drew) [(0,false),(1,false),(2,false),(3,false),(4,false),(5,false),(6,false),(7,false),(8,false),(9,false)] (.alt 10 false (opsThen [(11,false),(12,false),(13,true)] .stop) (.alt 11 false (opsThen [(10,false),(12,false),(13,true)] .stop) .none_)) _ (by kernel_rfl) R ?_;have am:=Stp.ext (ls:=[[I],p]) (Ev.drew h);have K:=K.step am;have B:=(Ev.drew h).box B nn;have a:=a.ev (Ev.drew h);have b:=b.ext (Ev.drew h);have ab:((h).drew).heap.size=((h).drew).heap.size+0:=R;refine Yf (Vp I 0) (Vp I 0) R (Rf tfld50_0 _ _) (Yl _ (Vl H F J) R (Rb tcell36 B ((newmo_out (a.ltat 0 R)) _ mem1) 0 _ R) (Xu 1 [(11,Vi j)] ?_));obtain ⟨f,aB,d⟩:=Bs d;obtain ⟨av,aH,az,ax,af⟩:=Ri (Mo:=(newmo (h).drew)) tsl36 K aB;obtain ⟨_,_,rfl,rfl,⟨_,_,rfl,rfl,⟨_,_,rfl,rfl,rfl⟩⟩⟩:=af;refine Yi _ _ _ R az (Yl (.pointer (some av)) (.agg #[Vi f.1,Vi f.2.1,Vi f.2.2.1,Vi f.2.2.2]) R (reads_agg tagg76 (CellsAt.newer ax) (fun q n=>n)) (Yf (Vp I 0) (Vp I 0) R (Rf tfld50_0 _ _) (Yl _ (Vl H F J) R (Rb tcell36 B ((newmo_out (a.ltat 0 R)) _ mem1) 0 _ R) (Xu 1 [(16,Vi k)] ?_))));obtain ⟨g,aC,d⟩:=Bs d;obtain ⟨aw,aI,aA,ay,af⟩:=Ri (Mo:=(newmo (h).drew)) tsl36 K aC;obtain ⟨_,_,rfl,rfl,⟨_,_,rfl,rfl,⟨_,_,rfl,rfl,rfl⟩⟩⟩:=af;refine Yi _ _ _ R aA (Yl (.pointer (some aw)) (.agg #[Vi g.1,Vi g.2.1,Vi g.2.2.1,Vi g.2.2.2]) R (reads_agg tagg76 (CellsAt.newer ay) (fun q n=>n)) (Xe R (t_alt _ R ?_ ?_)))
   · refine Xa (z:=.agg #[Vi 0,Vi 0,Vi 0,Vi 0]) R R (by kernel_rfl) (fun m U N e D aE=>?_);replace e:U.heap[m]? = some (.cells #[Vi 0,Vi 0,Vi 0,Vi 0] 76 (0,0)):=e;refine ⟨.inr (D.nil),?_⟩;have au:m=((h).drew).heap.size+0:=by omega
     replace ab:U.heap.size=((h).drew).heap.size+1:=by omega
     have a:=a.box D N e;have c:=c.box b.size N;have b:=b.ext D;refine Xa (z:=.agg #[Vi 0,Vi 0,Vi 0,Vi 0]) R R (by kernel_rfl) (fun l S L i t aD=>?_);replace i:S.heap[l]? = some (.cells #[Vi 0,Vi 0,Vi 0,Vi 0] 76 (0,0)):=i;refine ⟨.inr (t.nil),?_⟩;have ar:l=((h).drew).heap.size+1:=by omega
     replace ab:S.heap.size=((h).drew).heap.size+2:=by omega
     have e:=t.box e nn;have a:=a.box t L i;have c:=c.box b.size L;have b:=b.ext t;obtain ⟨an,ak,ag,u⟩:=Sa [Vi f.1,Vi f.2.1,Vi f.2.2.1,Vi f.2.2.2] tagg76 e R R R;refine Ys an _ _ R ak (⟨.inr (u.sub (fun aG O=>by simp only [List.mem_singleton] at O; subst O; exact newmo_mem au R)),?_⟩);have i:=u.box i (a.apart 0 1 R R R _ mem1);have a:=a.ev u;have b:=b.then u (fun q n=>.inr (c.at 1 R q n));have e:=ag;obtain ⟨ao,al,ah,C⟩:=Sa [Vi g.1,Vi g.2.1,Vi g.2.2.1,Vi g.2.2.2] tagg76 i R R R;refine Ys ao _ _ R al (I1 ?_);have e:=C.box e (a.apart 1 0 R R R _ mem1);have a:=a.ev C;have b:=b.then C (fun q n=>.inr (c.at 0 R q n));have i:=ah;refine Xe R (t_stop ?_);have E:=a.pk [1,0,3] [[m],[l],p] R;have a:=E;have c:=c.pk [1,0] [[m],[l]] R;exact Kt ⟨(f.1,f.2.1,f.2.2.1,f.2.2.2,g.1,g.2.1,g.2.2.1,g.2.2.2,m,l),⟨R,R,R,R,T0⟩,d,b,a,c,e,i⟩
   refine t_alt _ R ?_ ?_
   · refine Xa (z:=.agg #[Vi 0,Vi 0,Vi 0,Vi 0]) R R (by kernel_rfl) (fun m U N e D aE=>?_);replace e:U.heap[m]? = some (.cells #[Vi 0,Vi 0,Vi 0,Vi 0] 76 (0,0)):=e;refine ⟨.inr (D.nil),?_⟩;have au:m=((h).drew).heap.size+0:=by omega
     replace ab:U.heap.size=((h).drew).heap.size+1:=by omega
     have a:=a.box D N e;have c:=c.box b.size N;have b:=b.ext D;refine Xa (z:=.agg #[Vi 0,Vi 0,Vi 0,Vi 0]) R R (by kernel_rfl) (fun l S L i t aD=>?_);replace i:S.heap[l]? = some (.cells #[Vi 0,Vi 0,Vi 0,Vi 0] 76 (0,0)):=i;refine ⟨.inr (t.nil),?_⟩;have ar:l=((h).drew).heap.size+1:=by omega
     replace ab:S.heap.size=((h).drew).heap.size+2:=by omega
     have e:=t.box e nn;have a:=a.box t L i;have c:=c.box b.size L;have b:=b.ext t;obtain ⟨an,ak,ag,u⟩:=Sa [Vi f.1,Vi f.2.1,Vi f.2.2.1,Vi f.2.2.2] tagg76 i R R R;refine Ys an _ _ R ak (⟨.inr (u.sub (fun aG O=>by simp only [List.mem_singleton] at O; subst O; exact newmo_mem ar R)),?_⟩);have e:=u.box e (a.apart 1 0 R R R _ mem1);have a:=a.ev u;have b:=b.then u (fun q n=>.inr (c.at 0 R q n));have i:=ag;obtain ⟨ao,al,ah,C⟩:=Sa [Vi g.1,Vi g.2.1,Vi g.2.2.1,Vi g.2.2.2] tagg76 e R R R;refine Ys ao _ _ R al (I1 ?_);have i:=C.box i (a.apart 0 1 R R R _ mem1);have a:=a.ev C;have b:=b.then C (fun q n=>.inr (c.at 1 R q n));have e:=ah;refine Xe R (t_stop ?_);have E:=a.pk [0,1,3] [[l],[m],p] R;have a:=E;have c:=c.pk [0,1] [[l],[m]] R;exact Kt ⟨(f.1,f.2.1,f.2.2.1,f.2.2.2,g.1,g.2.1,g.2.2.1,g.2.2.2,l,m),⟨R,R,R,R,T0⟩,d,b,a,c,i,e⟩
   exact t_none
 rintro ⟨y,r,X,Y,A,s,Z,aa,w,x⟩ ae aK ⟨d,b,a,c,ap,aq⟩;refine Cq (Cb (c_join (σ:=Bool) (fun G=>match G with | Q=>[(1,Vi j),(2,Vi k),(19,.bool Q)]) (fun G v=>match G with | Q=>job_relation_J9 j k Q=some ad∧Ev [] o v∧MS v [p]∧FR o.heap.size []) ?_ ?_))
 · refine Cp (Yg w 0 0 (Vi y) R R (Rf tfld76_0 _ _) tcell3 ap nn R (Yg x 0 0 (Vi A) R R (Rf tfld76_0 _ _) tcell3 aq nn R (Xu 2 [(24,.bool (y != A)),(25,.bool (y != A))] (Xw 25 (y != A) R d (fun d=>?_) (fun d=>?_)))))
   · refine Xu 7 [(26,U0),(27,U0),(28,U0),(29,U0),(30,U0),(31,.bool true),(19,.bool true)] (Xe R ?_);have E:=a.pk [2] [p] R;have a:=E;have c:=c.pick [] [] R;exact Kt ⟨true,⟨R,R,R,T0⟩,d,b,a,c⟩
   refine Yg w 0 1 (Vi r) R R (Rf tfld76_1 _ _) tcell3 ap nn R (Yg x 0 1 (Vi s) R R (Rf tfld76_1 _ _) tcell3 aq nn R (Xu 3 [(30,Bd (r≥s)),(31,Bd (r≥s)),(19,Bd (r≥s))] (Xe R ?_)));have E:=a.pk [2] [p] R;have a:=E;have c:=c.pick [] [] R;exact Kt ⟨decide (r≥s),⟨R,R,R,T0⟩,d,b,a,c⟩
 rintro Q ae aL ⟨d,b,a,c⟩;refine Ci Q R d (fun d=>?_) (fun d=>?_)
 · refine Cs (Xu 1 [(6,Vi 0)] (Xk (Cn [(6,Vi 0)] (fun ae=>?_))));refine Cr (Kb (Kr (Rr (Rv [Vi 0] ⟨R,T0⟩ ?_))));obtain rfl:=Sj d;exact ⟨R,b⟩
 refine Cs (Xu 4 [(33,Vi k),(34,Vi j),(35,Bd (k<j)),(32,Bd (k<j))] (Xk (Cn [(32,Bd (k<j))] (fun ae=>?_))));refine Ci (decide (k<j)) R d (fun d=>?_) (fun d=>?_)
 · refine Cs (Xu 1 [(6,Vi 2)] (Xk (Cr (Kb (Kr (Rr (Rv [Vi 2] ⟨R,T0⟩ ?_)))))));obtain rfl:=Sj d;exact ⟨R,b⟩
 refine Ck (Kl (Kt (Cs (Xu 1 [(6,Vi 1)] (Xk (Cr (Rr (Rv [Vi 1] ⟨R,T0⟩ ?_))))))));obtain rfl:=Sj d;exact ⟨R,b⟩
def job_Relation (a:List (Int×Int×Int×Int)) (b:Int) (c:Int) (d:Int):Option (Int×Int):=
((job_Valid a b).bind fun e=>
(if (e != 0)=true then
some (0,e)
else
((job_in c 0 (i64.wrap (((a).length:Int)-1))).bind fun h=>
(if (!h)=true then
some (0,2)
else
((job_in d 0 (i64.wrap (((a).length:Int)-1))).bind fun f=>
(if (!f)=true then
some (0,2)
else
((job_relation a b c d).bind fun g=>
some (g,0))))))))
theorem job_Relation_w (e f b m j k y r l)(h:MS r [l])(i:SlR (eIt4) r (fl [l]) e f b)(a:job_Relation b m j k=some y):CallVC Tryz.prog 91 [.agg #[Vl e b f,Vi m],Vi j,Vi k] r fun s F=>s=.tuple #[Vi y.1,Vi y.2]∧Ev [] r F:=by
 refine Cv hmx Tryz.func91 (by kernel_rfl) R (rs:=[.tmp 6,.tmp 7]) R (by kernel_rfl) (args:=[.agg #[Vl e b f,Vi m],Vi j,Vi k]) R ?_;have c:Ev [] r r:=Ev.refl _ _;refine Cs (Yb _ R (fun g B A d x J=>?_));replace d:B.heap[g]? = some (.cells #[Vl e b f,Vi m] 50 (0,0)):=d;refine I1 ?_;have o:=Stp.box (ls:=[l]) x A;have i:=i.step o;have h:=h.box x A d;have c:=c.ext x;refine Xu 2 [(6,Vi 0),(7,Vi 0)] (Xk (Cq (Cs (Yl _ _ R (Ra 0 [Vl e b f,Vi m] tagg50 d nn R) ?_))));obtain ⟨q,p,a⟩:=Bs a;have n:=job_Valid_w e f b m _ B (fl [[g],l]) (MS.fold (P:=[]) h) (i.sub fl1) p;refine Xc 46 #[] #[] _ _ R R R R n ?_;rintro s H ⟨rfl,u⟩;refine I1 ?_;have o:=Stp.ext (ls:=[[g],l]) u;have i:=i.step o;have d:=u.box d nn;have h:=h.ev u;have c:=c.ext u;refine Xu 1 [(8,Vi q)] (Xk (Cs (Xu 2 [(11,Vi q),(12,.bool (q != 0))] (Xk (Ci (q != 0) R a (fun a=>?_) (fun a=>?_))))))
 · refine Cs (Xu 3 [(13,Vi q),(6,Vi 0),(7,Vi q)] (Xk (Cr (Kr (Rr (Rv [Vi 0,Vi q] ⟨R,R,T0⟩ ?_))))));obtain rfl:=Sj a;exact ⟨R,c⟩
 refine Ck (Kt (Cq (Cs (Xu 1 [(14,Vi j)] (Yg g 0 0 (Vl e b f) R R (Rf tfld50_0 _ _) tcell36 d nn R (Xn (vs:=[Vl e b f]) (Vi ((b).length:Int)) R R R (Rl tsl36 _ _ _ _ _) (Xu 1 [(18,Vi (i64.wrap (((b).length:Int)-1)))] ?_)))))));obtain ⟨z,p,a⟩:=Bs a;have n:=job_in_w j 0 (i64.wrap (((b).length:Int)-1)) _ H p;refine Xc 56 #[] #[] _ _ R R R R n ?_;rintro s I ⟨rfl,v⟩;refine I1 ?_;have o:=Stp.ext (ls:=[[g],l]) v;have i:=i.step o;have d:=v.box d nn;have h:=h.ev v;have c:=c.ext v;refine Xu 2 [(20,.bool (!z)),(21,.bool (!z))] (Xw 21 (!z) R a (fun a=>?_) (fun a=>?_))
 · refine Xu 8 [(22,U0),(23,U0),(24,U0),(25,U0),(26,U0),(27,U0),(28,U0),(29,.bool true)] (Xk (Cn [(1,Vi j),(2,Vi k),(3,Vp g 0),(29,.bool true)] (fun D=>?_)));refine c_true R (Cs (Xu 2 [(6,Vi 0),(7,Vi 2)] (Xk (Cr (Kr (Rr (Rv [Vi 0,Vi 2] ⟨R,R,T0⟩ ?_)))))));obtain rfl:=Sj a;exact ⟨R,c⟩
 refine Xu 1 [(22,Vi k)] (Yg g 0 0 (Vl e b f) R R (Rf tfld50_0 _ _) tcell36 d nn R (Xn (vs:=[Vl e b f]) (Vi ((b).length:Int)) R R R (Rl tsl36 _ _ _ _ _) (Xu 1 [(26,Vi (i64.wrap (((b).length:Int)-1)))] ?_)));obtain ⟨w,p,a⟩:=Bs a;have n:=job_in_w k 0 (i64.wrap (((b).length:Int)-1)) _ I p;refine Xc 56 #[] #[] _ _ R R R R n ?_;rintro s G ⟨rfl,t⟩;refine I1 ?_;have o:=Stp.ext (ls:=[[g],l]) t;have i:=i.step o;have d:=t.box d nn;have h:=h.ev t;have c:=c.ext t;refine Xu 2 [(28,.bool (!w)),(29,.bool (!w))] (Xk (Cn [(1,Vi j),(2,Vi k),(3,Vp g 0),(29,.bool (!w))] (fun D=>?_)));refine Ci (!w) R a (fun a=>?_) (fun a=>?_)
 · refine Cs (Xu 2 [(6,Vi 0),(7,Vi 2)] (Xk (Cr (Kr (Rr (Rv [Vi 0,Vi 2] ⟨R,R,T0⟩ ?_))))));obtain rfl:=Sj a;exact ⟨R,c⟩
 refine Ck (Kt (Cs (Yl _ _ R (Ra 0 [Vl e b f,Vi m] tagg50 d nn R) (Xu 2 [(31,Vi j),(32,Vi k)] ?_))));obtain ⟨C,p,a⟩:=Bs a;have n:=job_relation_w e f b m j k _ G (fl [[g],l]) (MS.fold (P:=[]) h) (i.sub fl1) p;refine Xc 122 #[] #[] _ _ R R R R n ?_;rintro s K ⟨rfl,E⟩;refine I1 ?_;have c:=c.ext E;refine Xu 2 [(6,Vi C),(7,Vi 0)] (Xk (Cr (Rr (Rv [Vi C,Vi 0] ⟨R,R,T0⟩ ?_))));obtain rfl:=Sj a;exact ⟨R,c⟩
end Go.Proofs.YtlejnkhaphlooaaGreat
