
/- Walks, printed by program: each function returns what the partial function of the same name returns. Conditions: those of each theorem. -/
import Derived.Test.YtlejnkhaphlooaaGreatGT
set_option linter.unusedVariables false
set_option linter.unusedSimpArgs false
set_option maxRecDepth 4000
namespace Go.Proofs.YtlejnkhaphlooaaGreat
open Go Go.V Go.Proofs Go.IntKind
def r11_Valid_L6 (c:List (Int×Int×Int×Int)) (d:Int):Option (Step Int (Int⊕Unit)):=
match d with
| b=>
(if (decide (b<((c).length:Int)))=true then
((idx c b).bind fun a=>
(if (decide (a.1<0))=true then
some (.done (.inl 2))
else
(if (decide (a.1≥16))=true then
some (.done (.inl 2))
else
(if (decide (a.2.1<0))=true then
some (.done (.inl 2))
else
(if (decide (a.2.1≥32))=true then
some (.done (.inl 2))
else
(if (decide (a.2.2.1<0))=true then
some (.done (.inl 2))
else
(if (decide (a.2.2.1≥13))=true then
some (.done (.inl 2))
else
(if (decide (a.2.2.2<1))=true then
some (.done (.inl 2))
else
(if (decide (a.2.2.2>400))=true then
some (.done (.inl 2))
else
(if (decide (b>0))=true then
((idx c (i64.wrap (b-1))).bind fun e=>
(if (decide (a.2.2.1<e.2.2.1))=true then
some (.done (.inl 12))
else
some (.next (i64.wrap (b+1)))))
else
some (.next (i64.wrap (b+1)))))))))))))
else
some (.done (.inr ())))
def r11_Valid (a:List (Int×Int×Int×Int)) (b:Int):Option Int:=
(if (decide (((a).length:Int)>96))=true then
some 3
else
(if (decide (b<0))=true then
some 2
else
(if (decide (b>12))=true then
some 2
else
((loop (r11_Valid_L6 a) 0).bind fun c=>match c with
| (.inl d)=>some d
| (.inr _)=>some 0))))
theorem r11_Valid_w (r s g p N u o)(k:MS u [o])(j:SlR (eIt4) u (fl [o]) r s g)(a:r11_Valid g p=some N):CallVC Tryz.prog 60 [.agg #[Vl r g s,Vi p]] u fun ag y=>ag=Vi N∧Ev [] u y:=by
 refine Cv hmx Tryz.func60 (by kernel_rfl) R (rs:=[.tmp 2]) R (by kernel_rfl) (args:=[.agg #[Vl r g s,Vi p]]) R ?_;have e:Ev [] u u:=Ev.refl _ _;have q:FR u.heap.size []:=FR.nil _;refine Cs (Yb _ R (fun c ai K h H am=>?_));replace h:ai.heap[c]? = some (.cells #[Vl r g s,Vi p] 50 (0,0)):=h;refine I1 ?_;have w:=Stp.box (ls:=[o]) H K;have j:=j.step w;have k:=k.box H K h;have q:=q.box e.size K;have e:=e.ext H;refine Xu 1 [(2,Vi 0)] (Xk (Cq (Cs (Yg c 0 0 (Vl r g s) R R (Rf tfld50_0 _ _) tcell36 h nn R (Xn (vs:=[Vl r g s]) (Vi ((g).length:Int)) R R R (Rl tsl36 _ _ _ _ _) (Xu 1 [(8,Bd (((g).length:Int)>96))] (Xk (Ci (decide (((g).length:Int)>96)) R a (fun a=>?_) (fun a=>?_)))))))))
 · refine Cs (Xu 1 [(2,Vi 3)] (Xk (Cr (Kr (Rr (Rv [Vi 3] ⟨R,T0⟩ ?_))))));obtain rfl:=Sj a;exact ⟨R,e⟩
 refine Ck (Kt (Cq (Cs (Yg c 0 1 (Vi p) R R (Rf tfld50_1 _ _) tcell3 h nn R (Xu 2 [(11,Bd (p<0)),(12,Bd (p<0))] (Xw 12 (decide (p<0)) R a (fun a=>?_) (fun a=>?_)))))))
 · refine Xu 4 [(13,U0),(14,U0),(15,U0),(16,.bool true)] (Xk (Cn [(1,Vp c 0),(16,.bool true)] (fun n=>?_)));refine c_true R (Cs (Xu 1 [(2,Vi 2)] (Xk (Cr (Kr (Rr (Rv [Vi 2] ⟨R,T0⟩ ?_)))))));obtain rfl:=Sj a;exact ⟨R,e⟩
 refine Yg c 0 1 (Vi p) R R (Rf tfld50_1 _ _) tcell3 h nn R (Xu 2 [(15,Bd (p>12)),(16,Bd (p>12))] (Xk (Cn [(1,Vp c 0),(16,Bd (p>12))] (fun n=>?_))));refine Ci (decide (p>12)) R a (fun a=>?_) (fun a=>?_)
 · refine Cs (Xu 1 [(2,Vi 2)] (Xk (Cr (Kr (Rr (Rv [Vi 2] ⟨R,T0⟩ ?_))))));obtain rfl:=Sj a;exact ⟨R,e⟩
 refine Ck (Kt (Cq (Cs (Xu 1 [(3,Vi 0)] (Xk (Cb ?_))))));obtain ⟨S,G,t⟩:=Bs a;obtain ⟨x,G⟩:=Lo G;refine Cl (Lr hmx (σ:=Nat×Int) (fun A=>match A with | (_,d)=>[(1,Vp c 0),(3,Vi d)]) (fun A y=>match A with | (af,d)=>loopN (r11_Valid_L6 g) af d=some S∧Ev [] u y∧MS y [[c],o]∧FR u.heap.size [[c]]∧SlR (eIt4) y (fl [[c],o]) r s g∧y.heap[c]? = some (.cells #[Vl r g s,Vi p] 50 (0,0))) (fun A=>A.1) (x,0) ⟨R,R,T0⟩ ⟨G,e,k,q,j,h⟩ ?_);rintro ⟨x,d⟩ n ao ⟨m,e,k,q,j,h⟩;rcases x with _ | x
 · exact (Lz m).elim
 obtain ⟨an,a,m⟩:=Bs m;refine Cq (Cs (Xu 1 [(17,Vi d)] (Yg c 0 0 (Vl r g s) R R (Rf tfld50_0 _ _) tcell36 h nn R (Xn (vs:=[Vl r g s]) (Vi ((g).length:Int)) R R R (Rl tsl36 _ _ _ _ _) (Xu 1 [(21,Bd (d<((g).length:Int)))] (Xk (Cn [(1,Vp c 0),(3,Vi d),(21,Bd (d<((g).length:Int)))] (fun n=>?_))))))));refine Ci (decide (d<((g).length:Int))) R a (fun a=>?_) (fun a=>?_)
 · refine Ck (Kt (Cq (Cb (Cs (Yg c 0 0 (Vl r g s) R R (Rf tfld50_0 _ _) tcell36 h nn R (Xu 1 [(26,Vi d)] ?_))))));obtain ⟨b,ae,a⟩:=Bs a;obtain ⟨O,ak,ac,Z,F⟩:=Ri (Mo:=[]) tsl36 j ae;obtain ⟨_,_,rfl,rfl,⟨_,_,rfl,rfl,⟨_,_,rfl,rfl,rfl⟩⟩⟩:=F;refine Yi _ _ _ R ac (Yl (.pointer (some O)) (.agg #[Vi b.1,Vi b.2.1,Vi b.2.2.1,Vi b.2.2.2]) R (reads_agg tagg76 Z (fun _ a=>by cases a)) ?_);refine Xa (z:=.agg #[Vi 0,Vi 0,Vi 0,Vi 0]) R R (by kernel_rfl) (fun f ah J l C al=>?_);replace l:ah.heap[f]? = some (.cells #[Vi 0,Vi 0,Vi 0,Vi 0] 76 (0,0)):=l;refine I1 ?_;have w:=Stp.box (ls:=[[c],o]) C J;have h:=C.box h nn;have j:=j.step w;have k:=k.box C J l;have q:=q.box e.size J;have e:=e.ext C;obtain ⟨v,aa,X,D⟩:=Sa [Vi b.1,Vi b.2.1,Vi b.2.2.1,Vi b.2.2.2] tagg76 l R R R;refine Ys v _ _ R aa (I1 ?_);have w:=Stp.ev' (ls:=[[f],[c],o]) D (Mf 0 R);have h:=D.box h (k.apart 1 0 R R R _ mem1);have j:=j.step w;have k:=k.ev D;have e:=e.then D (fun Q U=>.inr (q.at 0 R Q U));have l:=X;refine Xk (Cq (Cs (Yg f 0 0 (Vi b.1) R R (Rf tfld76_0 _ _) tcell3 l nn R (Xu 2 [(31,Bd (b.1<0)),(32,Bd (b.1<0))] (Xw 32 (decide (b.1<0)) R a (fun a=>?_) (fun a=>?_))))))
   · refine Xu 34 [(33,U0),(34,U0),(35,U0),(36,.bool true),(37,.bool true),(38,U0),(39,U0),(40,U0),(41,.bool true),(42,.bool true),(43,U0),(44,U0),(45,U0),(46,.bool true),(47,.bool true),(48,U0),(49,U0),(50,U0),(51,.bool true),(52,.bool true),(53,U0),(54,U0),(55,U0),(56,.bool true),(57,.bool true),(58,U0),(59,U0),(60,U0),(61,.bool true),(62,.bool true),(63,U0),(64,U0),(65,U0),(66,.bool true)] (Xk (Cn [(1,Vp c 0),(3,Vi d),(4,Vp f 0),(66,.bool true)] (fun n=>?_)));refine c_true R (Cs (Xu 1 [(2,Vi 2)] (Xk (Cr (Kr (Kb (Kr ?_)))))));obtain rfl:=Sj a;have i:=Sj m;subst i;have a:=t;refine Kr (Kb (Kr (Rr (Rv [Vi 2] ⟨R,T0⟩ ?_))));obtain rfl:=Sj a;exact ⟨R,e⟩
   refine Yg f 0 0 (Vi b.1) R R (Rf tfld76_0 _ _) tcell3 l nn R (Xu 3 [(35,Bd (b.1≥16)),(36,Bd (b.1≥16)),(37,Bd (b.1≥16))] (Xw 37 (decide (b.1≥16)) R a (fun a=>?_) (fun a=>?_)))
   · refine Xu 29 [(38,U0),(39,U0),(40,U0),(41,.bool true),(42,.bool true),(43,U0),(44,U0),(45,U0),(46,.bool true),(47,.bool true),(48,U0),(49,U0),(50,U0),(51,.bool true),(52,.bool true),(53,U0),(54,U0),(55,U0),(56,.bool true),(57,.bool true),(58,U0),(59,U0),(60,U0),(61,.bool true),(62,.bool true),(63,U0),(64,U0),(65,U0),(66,.bool true)] (Xk (Cn [(1,Vp c 0),(3,Vi d),(4,Vp f 0),(66,.bool true)] (fun n=>?_)));refine c_true R (Cs (Xu 1 [(2,Vi 2)] (Xk (Cr (Kr (Kb (Kr ?_)))))));obtain rfl:=Sj a;have i:=Sj m;subst i;have a:=t;refine Kr (Kb (Kr (Rr (Rv [Vi 2] ⟨R,T0⟩ ?_))));obtain rfl:=Sj a;exact ⟨R,e⟩
   refine Yg f 0 1 (Vi b.2.1) R R (Rf tfld76_1 _ _) tcell3 l nn R (Xu 3 [(40,Bd (b.2.1<0)),(41,Bd (b.2.1<0)),(42,Bd (b.2.1<0))] (Xw 42 (decide (b.2.1<0)) R a (fun a=>?_) (fun a=>?_)))
   · refine Xu 24 [(43,U0),(44,U0),(45,U0),(46,.bool true),(47,.bool true),(48,U0),(49,U0),(50,U0),(51,.bool true),(52,.bool true),(53,U0),(54,U0),(55,U0),(56,.bool true),(57,.bool true),(58,U0),(59,U0),(60,U0),(61,.bool true),(62,.bool true),(63,U0),(64,U0),(65,U0),(66,.bool true)] (Xk (Cn [(1,Vp c 0),(3,Vi d),(4,Vp f 0),(66,.bool true)] (fun n=>?_)));refine c_true R (Cs (Xu 1 [(2,Vi 2)] (Xk (Cr (Kr (Kb (Kr ?_)))))));obtain rfl:=Sj a;have i:=Sj m;subst i;have a:=t;refine Kr (Kb (Kr (Rr (Rv [Vi 2] ⟨R,T0⟩ ?_))));obtain rfl:=Sj a;exact ⟨R,e⟩
   refine Yg f 0 1 (Vi b.2.1) R R (Rf tfld76_1 _ _) tcell3 l nn R (Xu 3 [(45,Bd (b.2.1≥32)),(46,Bd (b.2.1≥32)),(47,Bd (b.2.1≥32))] (Xw 47 (decide (b.2.1≥32)) R a (fun a=>?_) (fun a=>?_)))
   · refine Xu 19 [(48,U0),(49,U0),(50,U0),(51,.bool true),(52,.bool true),(53,U0),(54,U0),(55,U0),(56,.bool true),(57,.bool true),(58,U0),(59,U0),(60,U0),(61,.bool true),(62,.bool true),(63,U0),(64,U0),(65,U0),(66,.bool true)] (Xk (Cn [(1,Vp c 0),(3,Vi d),(4,Vp f 0),(66,.bool true)] (fun n=>?_)));refine c_true R (Cs (Xu 1 [(2,Vi 2)] (Xk (Cr (Kr (Kb (Kr ?_)))))));obtain rfl:=Sj a;have i:=Sj m;subst i;have a:=t;refine Kr (Kb (Kr (Rr (Rv [Vi 2] ⟨R,T0⟩ ?_))));obtain rfl:=Sj a;exact ⟨R,e⟩
   refine Yg f 0 2 (Vi b.2.2.1) R R (Rf tfld76_2 _ _) tcell3 l nn R (Xu 3 [(50,Bd (b.2.2.1<0)),(51,Bd (b.2.2.1<0)),(52,Bd (b.2.2.1<0))] (Xw 52 (decide (b.2.2.1<0)) R a (fun a=>?_) (fun a=>?_)))
   · refine Xu 14 [(53,U0),(54,U0),(55,U0),(56,.bool true),(57,.bool true),(58,U0),(59,U0),(60,U0),(61,.bool true),(62,.bool true),(63,U0),(64,U0),(65,U0),(66,.bool true)] (Xk (Cn [(1,Vp c 0),(3,Vi d),(4,Vp f 0),(66,.bool true)] (fun n=>?_)));refine c_true R (Cs (Xu 1 [(2,Vi 2)] (Xk (Cr (Kr (Kb (Kr ?_)))))));obtain rfl:=Sj a;have i:=Sj m;subst i;have a:=t;refine Kr (Kb (Kr (Rr (Rv [Vi 2] ⟨R,T0⟩ ?_))));obtain rfl:=Sj a;exact ⟨R,e⟩
   refine Yg f 0 2 (Vi b.2.2.1) R R (Rf tfld76_2 _ _) tcell3 l nn R (Xu 3 [(55,Bd (b.2.2.1≥13)),(56,Bd (b.2.2.1≥13)),(57,Bd (b.2.2.1≥13))] (Xw 57 (decide (b.2.2.1≥13)) R a (fun a=>?_) (fun a=>?_)))
   · refine Xu 9 [(58,U0),(59,U0),(60,U0),(61,.bool true),(62,.bool true),(63,U0),(64,U0),(65,U0),(66,.bool true)] (Xk (Cn [(1,Vp c 0),(3,Vi d),(4,Vp f 0),(66,.bool true)] (fun n=>?_)));refine c_true R (Cs (Xu 1 [(2,Vi 2)] (Xk (Cr (Kr (Kb (Kr ?_)))))));obtain rfl:=Sj a;have i:=Sj m;subst i;have a:=t;refine Kr (Kb (Kr (Rr (Rv [Vi 2] ⟨R,T0⟩ ?_))));obtain rfl:=Sj a;exact ⟨R,e⟩
   refine Yg f 0 3 (Vi b.2.2.2) R R (Rf tfld76_3 _ _) tcell3 l nn R (Xu 3 [(60,Bd (b.2.2.2<1)),(61,Bd (b.2.2.2<1)),(62,Bd (b.2.2.2<1))] (Xw 62 (decide (b.2.2.2<1)) R a (fun a=>?_) (fun a=>?_)))
   · refine Xu 4 [(63,U0),(64,U0),(65,U0),(66,.bool true)] (Xk (Cn [(1,Vp c 0),(3,Vi d),(4,Vp f 0),(66,.bool true)] (fun n=>?_)));refine c_true R (Cs (Xu 1 [(2,Vi 2)] (Xk (Cr (Kr (Kb (Kr ?_)))))));obtain rfl:=Sj a;have i:=Sj m;subst i;have a:=t;refine Kr (Kb (Kr (Rr (Rv [Vi 2] ⟨R,T0⟩ ?_))));obtain rfl:=Sj a;exact ⟨R,e⟩
   refine Yg f 0 3 (Vi b.2.2.2) R R (Rf tfld76_3 _ _) tcell3 l nn R (Xu 2 [(65,Bd (b.2.2.2>400)),(66,Bd (b.2.2.2>400))] (Xk (Cn [(1,Vp c 0),(3,Vi d),(4,Vp f 0),(66,Bd (b.2.2.2>400))] (fun n=>?_))));refine Ci (decide (b.2.2.2>400)) R a (fun a=>?_) (fun a=>?_)
   · refine Cs (Xu 1 [(2,Vi 2)] (Xk (Cr (Kr (Kb (Kr ?_))))));obtain rfl:=Sj a;have i:=Sj m;subst i;have a:=t;refine Kr (Kb (Kr (Rr (Rv [Vi 2] ⟨R,T0⟩ ?_))));obtain rfl:=Sj a;exact ⟨R,e⟩
   refine Ck (Kt (Cq (Cd [] [(0,false),(1,false),(2,false),(3,false),(4,false),(5,false),(6,false),(7,false),(8,false),(9,false),(10,false),(11,false),(12,false),(13,false)] _ (by kernel_rfl) R ?_)));have w:=Stp.ext (ls:=[[f],[c],o]) (Ev.drew v);have h:=(Ev.drew v).box h nn;have j:=j.step w;have l:=(Ev.drew v).box l nn;have k:=k.ev (Ev.drew v);have e:=e.ext (Ev.drew v);refine Xu 3 [(67,Vi d),(68,Bd (d>0)),(69,Bd (d>0))] (Xw 69 (decide (d>0)) R a (fun a=>?_) (fun a=>?_))
   · refine Yg f 0 2 (Vi b.2.2.1) R R (Rf tfld76_2 _ _) tcell3 l nn R (Yg c 0 0 (Vl r g s) R R (Rf tfld50_0 _ _) tcell36 h nn R (Xu 2 [(74,Vi d),(75,Vi (i64.wrap (d-1)))] ?_));obtain ⟨B,ad,a⟩:=Bs a;obtain ⟨E,aj,ab,Y,F⟩:=Ri (Mo:=[]) tsl36 j ad;obtain ⟨_,_,rfl,rfl,⟨_,_,rfl,rfl,⟨_,_,rfl,rfl,rfl⟩⟩⟩:=F;refine Yi _ _ _ R ab (Yf (.pointer (some E)) (.pointer (some (Addr.add E 2))) R (Rf tfld76_2 _ _) (Yl (.pointer (some (Addr.add E 2))) (Vi B.2.2.1) R (reads_cell tcell3 Y (fun _ a=>by cases a) 2 _ R) ?_));refine Xu 2 [(79,Bd (b.2.2.1<B.2.2.1)),(80,Bd (b.2.2.1<B.2.2.1))] (Xk (Cn [(1,Vp c 0),(3,Vi d),(80,Bd (b.2.2.1<B.2.2.1))] (fun n=>?_)));refine Ci (decide (b.2.2.1<B.2.2.1)) R a (fun a=>?_) (fun a=>?_)
     · refine Cs (Xu 1 [(2,Vi 12)] (Xk (Cr (Kb (Kr ?_)))));obtain rfl:=Sj a;have i:=Sj m;subst i;have a:=t;refine Kr (Kb (Kr (Rr (Rv [Vi 12] ⟨R,T0⟩ ?_))));obtain rfl:=Sj a;exact ⟨R,e⟩
     refine Ck (Kl (Kt (Cp (Xu 3 [(22,Vi d),(23,Vi (i64.wrap (d+1))),(3,Vi (i64.wrap (d+1)))] (Xe R ?_)))));obtain rfl:=Sj a;have I:MS (v).drew [[c],o]:=k.pk [1,2] _ R;have L:=Pk (ls:=[[f],[c],o]) [1,2] [[c],o] R;have j:=j.sub L;have k:=I;have q:=q.pk [1] [[c]] R;exact Kt ⟨(x,i64.wrap (d+1)),⟨R,R,T0⟩,⟨m,e,k,q,j,h⟩,Ns _⟩
   refine Xu 11 [(70,U0),(71,U0),(72,U0),(73,U0),(74,U0),(75,U0),(76,U0),(77,U0),(78,U0),(79,U0),(80,.bool false)] (Xk (Cn [(1,Vp c 0),(3,Vi d),(80,.bool false)] (fun n=>?_)));refine c_false R (Ck (Kl (Kt (Cp (Xu 3 [(22,Vi d),(23,Vi (i64.wrap (d+1))),(3,Vi (i64.wrap (d+1)))] (Xe R ?_))))));obtain rfl:=Sj a;have I:MS (v).drew [[c],o]:=k.pk [1,2] _ R;have L:=Pk (ls:=[[f],[c],o]) [1,2] [[c],o] R;have j:=j.sub L;have k:=I;have q:=q.pk [1] [[c]] R;exact Kt ⟨(x,i64.wrap (d+1)),⟨R,R,T0⟩,⟨m,e,k,q,j,h⟩,Ns _⟩
 refine Ce (Ke ?_);obtain rfl:=Sj a;have i:=Sj m;subst i;have a:=t;refine Ke (Ki (Kt (c_norm [] T0 (fun n=>?_))));refine Cs (Xu 1 [(2,Vi 0)] (Xk (Cr (Rr (Rv [Vi 0] ⟨R,T0⟩ ?_)))));obtain rfl:=Sj a;exact ⟨R,e⟩
def r11_Kind_J9 (a:Int) (b:Int) (c:Bool):Option Int:=
(if c=true then
some 0
else
(if (decide (b<a))=true then
some 2
else
some 1))
def r11_Kind_J4 (a:Int) (b:Int) (c:Int) (d:Int) (g:Int) (h:Int) (e:Int) (f:Int) (i:Int) (j:Int):Option Int:=
(if (c != e)=true then
r11_Kind_J9 a b true
else
r11_Kind_J9 a b (decide (d≥f)))
def r11_Kind (c:List (Int×Int×Int×Int)) (f:Int) (d:Int) (e:Int):Option Int:=
((idx c d).bind fun a=>
((idx c e).bind fun b=>
r11_Kind_J4 d e a.1 a.2.1 a.2.2.1 a.2.2.2 b.1 b.2.1 b.2.2.1 b.2.2.2))
theorem r11_Kind_w (H J F ac j k ad o p)(a:MS o [p])(K:SlR (eIt4) o (fl [p]) H J F)(d:r11_Kind F ac j k=some ad):CallVC Tryz.prog 102 [.agg #[Vl H F J,Vi ac],Vi j,Vi k] o fun aF v=>aF=Vi ad∧Ev [] o v:=by
 refine Cv hmx Tryz.func102 (by kernel_rfl) R (rs:=[.tmp 6]) R (by kernel_rfl) (args:=[.agg #[Vl H F J,Vi ac],Vi j,Vi k]) R ?_;have b:Ev [] o o:=Ev.refl _ _;have c:FR o.heap.size []:=FR.nil _;refine Cs (Yb _ R (fun I h aj B ai aJ=>?_));replace B:h.heap[I]? = some (.cells #[Vl H F J,Vi ac] 50 (0,0)):=B;refine I1 ?_;have am:=Stp.box (ls:=[p]) ai aj;have K:=K.step am;have a:=a.box ai aj B;have c:=c.box b.size aj;have b:=b.ext ai;refine Xu 1 [(6,Vi 0)] (Xk (c_join (σ:=Int×Int×Int×Int×Int×Int×Int×Int×Nat×Nat) (fun G=>match G with | (y,r,X,Y,A,s,Z,aa,w,x)=>[(1,Vi j),(2,Vi k),(7,Vp w 0),(8,Vp x 0)]) (fun G v=>match G with | (y,r,X,Y,A,s,Z,aa,w,x)=>r11_Kind_J4 j k y r X Y A s Z aa=some ad∧Ev [] o v∧MS v [[w],[x],p]∧FR o.heap.size [[w],[x]]∧v.heap[w]? = some (.cells #[Vi y,Vi r,Vi X,Vi Y] 76 (0,0))∧v.heap[x]? = some (.cells #[Vi A,Vi s,Vi Z,Vi aa] 76 (0,0))) ?_ ?_))
 · refine c_drawnp (newmo (h).drew) [(0,false),(1,false),(2,false),(3,false),(4,false),(5,false),(6,false),(7,false),(8,false),(9,false)] (.alt 10 false (opsThen [(11,false),(12,false),(13,true)] .stop) (.alt 11 false (opsThen [(10,false),(12,false),(13,true)] .stop) .none_)) _ (by kernel_rfl) R ?_;have am:=Stp.ext (ls:=[[I],p]) (Ev.drew h);have K:=K.step am;have B:=(Ev.drew h).box B nn;have a:=a.ev (Ev.drew h);have b:=b.ext (Ev.drew h);have ab:((h).drew).heap.size=((h).drew).heap.size+0:=R;refine Yf (Vp I 0) (Vp I 0) R (Rf tfld50_0 _ _) (Yl _ (Vl H F J) R (Rb tcell36 B ((newmo_out (a.ltat 0 R)) _ mem1) 0 _ R) (Xu 1 [(11,Vi j)] ?_));obtain ⟨f,aB,d⟩:=Bs d;obtain ⟨av,aH,az,ax,af⟩:=Ri (Mo:=(newmo (h).drew)) tsl36 K aB;obtain ⟨_,_,rfl,rfl,⟨_,_,rfl,rfl,⟨_,_,rfl,rfl,rfl⟩⟩⟩:=af;refine Yi _ _ _ R az (Yl (.pointer (some av)) (.agg #[Vi f.1,Vi f.2.1,Vi f.2.2.1,Vi f.2.2.2]) R (reads_agg tagg76 (CellsAt.newer ax) (fun q n=>n)) (Yf (Vp I 0) (Vp I 0) R (Rf tfld50_0 _ _) (Yl _ (Vl H F J) R (Rb tcell36 B ((newmo_out (a.ltat 0 R)) _ mem1) 0 _ R) (Xu 1 [(16,Vi k)] ?_))));obtain ⟨g,aC,d⟩:=Bs d;obtain ⟨aw,aI,aA,ay,af⟩:=Ri (Mo:=(newmo (h).drew)) tsl36 K aC;obtain ⟨_,_,rfl,rfl,⟨_,_,rfl,rfl,⟨_,_,rfl,rfl,rfl⟩⟩⟩:=af;refine Yi _ _ _ R aA (Yl (.pointer (some aw)) (.agg #[Vi g.1,Vi g.2.1,Vi g.2.2.1,Vi g.2.2.2]) R (reads_agg tagg76 (CellsAt.newer ay) (fun q n=>n)) (Xe R (t_alt _ R ?_ ?_)))
   · refine Xa (z:=.agg #[Vi 0,Vi 0,Vi 0,Vi 0]) R R (by kernel_rfl) (fun m U N e D aE=>?_);replace e:U.heap[m]? = some (.cells #[Vi 0,Vi 0,Vi 0,Vi 0] 76 (0,0)):=e;refine ⟨.inr (D.nil),?_⟩;have au:m=((h).drew).heap.size+0:=by omega
     replace ab:U.heap.size=((h).drew).heap.size+1:=by omega
     have a:=a.box D N e;have c:=c.box b.size N;have b:=b.ext D;refine Xa (z:=.agg #[Vi 0,Vi 0,Vi 0,Vi 0]) R R (by kernel_rfl) (fun l S L i t aD=>?_);replace i:S.heap[l]? = some (.cells #[Vi 0,Vi 0,Vi 0,Vi 0] 76 (0,0)):=i;refine ⟨.inr (t.nil),?_⟩;have ar:l=((h).drew).heap.size+1:=by omega
     replace ab:S.heap.size=((h).drew).heap.size+2:=by omega
     have e:=t.box e nn;have a:=a.box t L i;have c:=c.box b.size L;have b:=b.ext t;obtain ⟨an,ak,ag,u⟩:=Sa [Vi f.1,Vi f.2.1,Vi f.2.2.1,Vi f.2.2.2] tagg76 e R R R;refine Ys an _ _ R ak (⟨.inr (u.sub (fun aG O=>by simp only [List.mem_singleton] at O; subst O; exact newmo_mem au R)),?_⟩);have i:=u.box i (a.apart 0 1 R R R _ mem1);have a:=a.ev u;have b:=b.then u (fun q n=>.inr (c.at 1 R q n));have e:=ag;obtain ⟨ao,al,ah,C⟩:=Sa [Vi g.1,Vi g.2.1,Vi g.2.2.1,Vi g.2.2.2] tagg76 i R R R;refine Ys ao _ _ R al (I1 ?_);have e:=C.box e (a.apart 1 0 R R R _ mem1);have a:=a.ev C;have b:=b.then C (fun q n=>.inr (c.at 0 R q n));have i:=ah;refine Xe R (t_stop ?_);have E:=a.pk [1,0,3] [[m],[l],p] R;have a:=E;have c:=c.pk [1,0] [[m],[l]] R;exact Kt ⟨(f.1,f.2.1,f.2.2.1,f.2.2.2,g.1,g.2.1,g.2.2.1,g.2.2.2,m,l),⟨R,R,R,R,T0⟩,d,b,a,c,e,i⟩
   refine t_alt _ R ?_ ?_
   · refine Xa (z:=.agg #[Vi 0,Vi 0,Vi 0,Vi 0]) R R (by kernel_rfl) (fun m U N e D aE=>?_);replace e:U.heap[m]? = some (.cells #[Vi 0,Vi 0,Vi 0,Vi 0] 76 (0,0)):=e;refine ⟨.inr (D.nil),?_⟩;have au:m=((h).drew).heap.size+0:=by omega
     replace ab:U.heap.size=((h).drew).heap.size+1:=by omega
     have a:=a.box D N e;have c:=c.box b.size N;have b:=b.ext D;refine Xa (z:=.agg #[Vi 0,Vi 0,Vi 0,Vi 0]) R R (by kernel_rfl) (fun l S L i t aD=>?_);replace i:S.heap[l]? = some (.cells #[Vi 0,Vi 0,Vi 0,Vi 0] 76 (0,0)):=i;refine ⟨.inr (t.nil),?_⟩;have ar:l=((h).drew).heap.size+1:=by omega
     replace ab:S.heap.size=((h).drew).heap.size+2:=by omega
     have e:=t.box e nn;have a:=a.box t L i;have c:=c.box b.size L;have b:=b.ext t;obtain ⟨an,ak,ag,u⟩:=Sa [Vi f.1,Vi f.2.1,Vi f.2.2.1,Vi f.2.2.2] tagg76 i R R R;refine Ys an _ _ R ak (⟨.inr (u.sub (fun aG O=>by simp only [List.mem_singleton] at O; subst O; exact newmo_mem ar R)),?_⟩);have e:=u.box e (a.apart 1 0 R R R _ mem1);have a:=a.ev u;have b:=b.then u (fun q n=>.inr (c.at 0 R q n));have i:=ag;obtain ⟨ao,al,ah,C⟩:=Sa [Vi g.1,Vi g.2.1,Vi g.2.2.1,Vi g.2.2.2] tagg76 e R R R;refine Ys ao _ _ R al (I1 ?_);have i:=C.box i (a.apart 0 1 R R R _ mem1);have a:=a.ev C;have b:=b.then C (fun q n=>.inr (c.at 1 R q n));have e:=ah;refine Xe R (t_stop ?_);have E:=a.pk [0,1,3] [[l],[m],p] R;have a:=E;have c:=c.pk [0,1] [[l],[m]] R;exact Kt ⟨(f.1,f.2.1,f.2.2.1,f.2.2.2,g.1,g.2.1,g.2.2.1,g.2.2.2,l,m),⟨R,R,R,R,T0⟩,d,b,a,c,i,e⟩
   exact t_none
 rintro ⟨y,r,X,Y,A,s,Z,aa,w,x⟩ ae aK ⟨d,b,a,c,ap,aq⟩;refine Cq (Cb (c_join (σ:=Bool) (fun G=>match G with | Q=>[(1,Vi j),(2,Vi k),(19,.bool Q)]) (fun G v=>match G with | Q=>r11_Kind_J9 j k Q=some ad∧Ev [] o v∧MS v [p]∧FR o.heap.size []) ?_ ?_))
 · refine Cp (Yg w 0 0 (Vi y) R R (Rf tfld76_0 _ _) tcell3 ap nn R (Yg x 0 0 (Vi A) R R (Rf tfld76_0 _ _) tcell3 aq nn R (Xu 2 [(24,.bool (y != A)),(25,.bool (y != A))] (Xw 25 (y != A) R d (fun d=>?_) (fun d=>?_)))))
   · refine Xu 7 [(26,U0),(27,U0),(28,U0),(29,U0),(30,U0),(31,.bool true),(19,.bool true)] (Xe R ?_);have E:=a.pk [2] [p] R;have a:=E;have c:=c.pick [] [] R;exact Kt ⟨true,⟨R,R,R,T0⟩,d,b,a,c⟩
   refine Yg w 0 1 (Vi r) R R (Rf tfld76_1 _ _) tcell3 ap nn R (Yg x 0 1 (Vi s) R R (Rf tfld76_1 _ _) tcell3 aq nn R (Xu 3 [(30,Bd (r≥s)),(31,Bd (r≥s)),(19,Bd (r≥s))] (Xe R ?_)));have E:=a.pk [2] [p] R;have a:=E;have c:=c.pick [] [] R;exact Kt ⟨decide (r≥s),⟨R,R,R,T0⟩,d,b,a,c⟩
 rintro Q ae aL ⟨d,b,a,c⟩;refine Ci Q R d (fun d=>?_) (fun d=>?_)
 · refine Cs (Xu 1 [(6,Vi 0)] (Xk (Cn [(6,Vi 0)] (fun ae=>?_))));refine Cr (Kb (Kr (Rr (Rv [Vi 0] ⟨R,T0⟩ ?_))));obtain rfl:=Sj d;exact ⟨R,b⟩
 refine Cs (Xu 4 [(33,Vi k),(34,Vi j),(35,Bd (k<j)),(32,Bd (k<j))] (Xk (Cn [(32,Bd (k<j))] (fun ae=>?_))));refine Ci (decide (k<j)) R d (fun d=>?_) (fun d=>?_)
 · refine Cs (Xu 1 [(6,Vi 2)] (Xk (Cr (Kb (Kr (Rr (Rv [Vi 2] ⟨R,T0⟩ ?_)))))));obtain rfl:=Sj d;exact ⟨R,b⟩
 refine Ck (Kl (Kt (Cs (Xu 1 [(6,Vi 1)] (Xk (Cr (Rr (Rv [Vi 1] ⟨R,T0⟩ ?_))))))));obtain rfl:=Sj d;exact ⟨R,b⟩
def r11_Strict (a:List (Int×Int×Int×Int)) (b:Int) (c:Int) (d:Int):Option Int:=
((r11_Kind a b c d).bind fun e=>
some (i64.wrap (Int.tdiv e 2)))
theorem r11_Strict_w (b c a d g h r e i)(m:MS e [i])(n:SlR (eIt4) e (fl [i]) b c a)(k:r11_Strict a d g h=some r):CallVC Tryz.prog 103 [.agg #[Vl b a c,Vi d],Vi g,Vi h] e fun s y=>s=Vi r∧Ev [] e y:=by
 refine Cv hmx Tryz.func103 (by kernel_rfl) R (rs:=[.tmp 6]) R (by kernel_rfl) (args:=[.agg #[Vl b a c,Vi d],Vi g,Vi h]) R ?_;have f:Ev [] e e:=Ev.refl _ _;refine Cs (Yb _ R (fun p t q j l z=>?_));replace j:t.heap[p]? = some (.cells #[Vl b a c,Vi d] 50 (0,0)):=j;refine I1 ?_;have w:=Stp.box (ls:=[i]) l q;have n:=n.step w;have m:=m.box l q j;have f:=f.ext l;refine Xu 1 [(6,Vi 0)] (Xk (Cs (Yl _ _ R (Ra 0 [Vl b a c,Vi d] tagg50 j nn R) (Xu 2 [(8,Vi g),(9,Vi h)] ?_))));obtain ⟨o,x,k⟩:=Bs k;have u:=r11_Kind_w b c a d g h _ t (fl [[p],i]) (MS.fold (P:=[]) m) (n.sub fl1) x;refine Xc 102 #[] #[] _ _ R R R R u ?_;rintro s A ⟨rfl,v⟩;refine I1 ?_;have f:=f.ext v;refine Xu 2 [(11,Vi (i64.wrap (Int.tdiv o 2))),(6,Vi (i64.wrap (Int.tdiv o 2)))] (Xk (Cr (Rr (Rv [Vi (i64.wrap (Int.tdiv o 2))] ⟨R,T0⟩ ?_))));obtain rfl:=Sj k;exact ⟨R,f⟩
def r11_Base_L5 (c:List (Int×Int×Int×Int)) (d:Int) (h:List Int) (e:Int) (i:Int×Int):Option (Step (Int×Int) Int):=
match i with
| (b,a)=>
(if (decide (a<((c).length:Int)))=true then
((r11_Kind c d a e).bind fun j=>
(if (decide (j>0))=true then
((idx h a).bind fun g=>
((r11_Strict c d a e).bind fun f=>
some (.next (if (i64.wrap (g+f))>b then (i64.wrap (g+f)) else b,i64.wrap (a+1)))))
else
some (.next (b,i64.wrap (a+1)))))
else
some (.done b))
def r11_Base (c:List (Int×Int×Int×Int)) (d:Int) (e:List Int) (f:Int):Option Int:=
((loop (r11_Base_L5 c d e f) (0,0)).bind fun a=>match a with
| b=>some b)
theorem r11_Base_w (l m e q u v r o N s f)(i:MS s [f])(j:SlR (eIt4) s (fl [f]) l m e)(k:SlR eI s (fl [f]) u v r)(b:r11_Base e q r o=some N):CallVC Tryz.prog 94 [.agg #[Vl l e m,Vi q],Vl u r v,Vi o] s fun L w=>L=Vi N∧Ev [] s w:=by
 refine Cv hmx Tryz.func94 (by kernel_rfl) R (rs:=[.tmp 6]) R (by kernel_rfl) (args:=[.agg #[Vl l e m,Vi q],Vl u r v,Vi o]) R ?_;have h:Ev [] s s:=Ev.refl _ _;have x:FR s.heap.size []:=FR.nil _;refine Cs (Yb _ R (fun c af K g J aj=>?_));replace g:af.heap[c]? = some (.cells #[Vl l e m,Vi q] 50 (0,0)):=g;refine I1 ?_;have n:=Stp.box (ls:=[f]) J K;have j:=j.step n;have k:=k.step n;have i:=i.box J K g;have x:=x.box h.size K;have h:=h.ext J;refine Xu 1 [(6,Vi 0)] (Xk (Cs (Xu 1 [(7,Vi 0)] (Xk (Cq (Cs (Xu 1 [(8,Vi 0)] (Xk (Cb ?_)))))))));obtain ⟨Q,I,S⟩:=Bs b;obtain ⟨z,I⟩:=Lo I;refine Cl (Lr hmx (σ:=Nat×Int×Int) (fun E=>match E with | (_,d,a)=>[(1,Vl u r v),(2,Vi o),(3,Vp c 0),(7,Vi d),(8,Vi a)]) (fun E w=>match E with | (ae,d,a)=>loopN (r11_Base_L5 e q r o) ae (d,a)=some Q∧Ev [] s w∧MS w [[c],f]∧FR s.heap.size [[c]]∧SlR eI w (fl [[c],f]) u v r∧SlR (eIt4) w (fl [[c],f]) l m e∧w.heap[c]? = some (.cells #[Vl l e m,Vi q] 50 (0,0))) (fun E=>E.1) (z,0,0) ⟨R,R,R,R,R,T0⟩ ⟨I,h,i,x,k,j,g⟩ ?_);rintro ⟨z,d,a⟩ G ag ⟨y,h,i,x,k,j,g⟩;rcases z with _ | z
 · exact (Lz y).elim
 obtain ⟨ak,b,y⟩:=Bs y;refine Cq (Cs (Xu 1 [(9,Vi a)] (Yg c 0 0 (Vl l e m) R R (Rf tfld50_0 _ _) tcell36 g nn R (Xn (vs:=[Vl l e m]) (Vi ((e).length:Int)) R R R (Rl tsl36 _ _ _ _ _) (Xu 1 [(13,Bd (a<((e).length:Int)))] (Xk (Cn [(1,Vl u r v),(2,Vi o),(3,Vp c 0),(7,Vi d),(8,Vi a),(13,Bd (a<((e).length:Int)))] (fun G=>?_))))))));refine Ci (decide (a<((e).length:Int))) R b (fun b=>?_) (fun b=>?_)
 · refine Ck (Kt (Cq (Cb (Cs (Yl _ _ R (Ra 0 [Vl l e m,Vi q] tagg50 g nn R) (Xu 2 [(17,Vi a),(18,Vi o)] ?_))))));obtain ⟨O,D,b⟩:=Bs b;have H:=r11_Kind_w l m e q a o _ ag (fl [[c],f]) (MS.fold (P:=[]) i) (j.sub fl1) D;refine Xc 102 #[] #[] _ _ R R R R H ?_;rintro L A ⟨rfl,F⟩;refine I1 ?_;have n:=Stp.ext (ls:=[[c],f]) F;have k:=k.step n;have g:=F.box g nn;have j:=j.step n;have i:=i.ev F;have h:=h.ext F;refine Xu 1 [(20,Bd (O>0))] (Xk (Ci (decide (O>0)) R b (fun b=>?_) (fun b=>?_)))
   · refine Cd [] [(0,false),(1,false),(2,false),(3,false),(4,false),(5,false),(6,false),(7,false),(8,false),(9,false),(10,false),(11,false)] _ (by kernel_rfl) R ?_;have n:=Stp.ext (ls:=[[c],f]) (Ev.drew A);have k:=k.step n;have g:=(Ev.drew A).box g nn;have j:=j.step n;have i:=i.ev (Ev.drew A);have h:=h.ext (Ev.drew A);refine Xu 3 [(21,Vi d),(22,Vl u r v),(23,Vi a)] ?_;obtain ⟨p,ac,b⟩:=Bs b;obtain ⟨ah,ai,Z,X,U⟩:=Ri (Mo:=[]) tsl22 k ac;obtain rfl:=U;refine Yi _ _ _ R Z (Yl _ (Vi p) R (Rc tcell3 X (fun _ b=>by cases b)) ?_);refine Yl _ _ R (Ra 0 [Vl l e m,Vi q] tagg50 g nn R) (Xu 2 [(27,Vi a),(28,Vi o)] ?_);obtain ⟨t,D,b⟩:=Bs b;have Y:MS (A).drew ([]++[[c],f]):=i.pk [0,1] _ R;have ab:∀ B∈fl ([]++[[c],f]),B∈fl [[c],f]:=Pk [0,1] _ R;have aa:∀ B∈fl ([]++[(fl [[c],f])]),B∈fl [[c],f]:=fun B D=>ab B (Fu B D)
     have H:=r11_Strict_w l m e q a o _ (A).drew (fl [[c],f]) (MS.fold (P:=[]) Y) (j.sub aa) D;refine Xc 103 #[] #[] _ _ R R R R H ?_;rintro L al ⟨rfl,C⟩;refine ⟨.inr C,?_⟩;have n:=Stp.ext (ls:=[[c],f]) C;have k:=k.step n;have g:=C.box g nn;have j:=j.step n;have i:=i.ev C;have h:=h.ext C;refine Xu 1 [(30,Vi (i64.wrap (p+t)))] (x_max (vs:=[Vi d,Vi (i64.wrap (p+t))]) (Vi (if (i64.wrap (p+t))>d then (i64.wrap (p+t)) else d)) R R R (fun _ _=>R) (Xu 1 [(7,Vi (if (i64.wrap (p+t))>d then (i64.wrap (p+t)) else d))] (Xe R (Kl (Kt (Cn [(1,Vl u r v),(2,Vi o),(3,Vp c 0),(7,Vi (if (i64.wrap (p+t))>d then (i64.wrap (p+t)) else d)),(8,Vi a)] (fun G=>?_)))))));refine Cp (Xu 3 [(14,Vi a),(15,Vi (i64.wrap (a+1))),(8,Vi (i64.wrap (a+1)))] (Xe R ?_));obtain rfl:=Sj b;exact Kt ⟨(z,if (i64.wrap (p+t))>d then (i64.wrap (p+t)) else d,i64.wrap (a+1)),⟨R,R,R,R,R,T0⟩,⟨y,h,i,x,k,j,g⟩,Ns _⟩
   refine Ck (Kl (Kt (Cp (Xu 3 [(14,Vi a),(15,Vi (i64.wrap (a+1))),(8,Vi (i64.wrap (a+1)))] (Xe R ?_)))));obtain rfl:=Sj b;exact Kt ⟨(z,d,i64.wrap (a+1)),⟨R,R,R,R,R,T0⟩,⟨y,h,i,x,k,j,g⟩,Ns _⟩
 refine Ce (Ke ?_);obtain rfl:=Sj b;have ad:=Sj y;subst ad;have b:=S;refine Ke (Ki (Kt (Cn [(7,Vi d)] (fun G=>?_))));refine Cs (Xu 2 [(32,Vi d),(6,Vi d)] (Xk (Cr (Rr (Rv [Vi d] ⟨R,T0⟩ ?_)))));obtain rfl:=Sj b;exact ⟨R,h⟩
def r11_Back_L20 (b:List (Int×Int×Int×Int)) (c:Int) (f:List Int) (d:Int) (e:Int) (g:Int):Option (Step Int Int):=
match g with
| a=>
((r11_Kind b c a d).bind fun h=>
(if (h==0)=true then
some (.next (i64.wrap (a+1)))
else
((idx f a).bind fun i=>
((r11_Strict b c a d).bind fun j=>
(if ((i64.wrap (i+j))!=e)=true then
some (.next (i64.wrap (a+1)))
else
some (.done a))))))
def r11_Back_L17 (d:List (Int×Int×Int×Int)) (e:Int) (f:List Int) (h:Int×(List Int)×Int):Option (Step (Int×(List Int)×Int) (List Int)):=
match h with
| (j,b,c)=>
(if (decide (c>0))=true then
((loop (r11_Back_L20 d e f j c) 0).bind fun g=>match g with
| a=>(if ([a]:List Int).length+b.length≤4294967296 then
((r11_Base d e f a).bind fun i=>
some (.next (a,(([a]:List Int)++b),i)))
else none))
else
some (.done b))
def r11_Back_L7 (b:List Int) (d:Int×Int):Option (Step (Int×Int) Int):=
match d with
| (c,a)=>
(if (decide (a<((b).length:Int)))=true then
((idx b a).bind fun f=>
((idx b c).bind fun e=>
(if (decide (f>e))=true then
some (.next (a,i64.wrap (a+1)))
else
some (.next (c,i64.wrap (a+1))))))
else
some (.done c))
def r11_Back (d:List (Int×Int×Int×Int)) (e:Int) (a:List Int):Option (List Int):=
(if (((a).length:Int)==0)=true then
some ([])
else
((loop (r11_Back_L7 a) (0,0)).bind fun b=>match b with
| c=>((r11_Base d e a c).bind fun g=>
((loop (r11_Back_L17 d e a) (c,([c]:List Int),g)).bind fun b=>match b with
| f=>some f))))
theorem r11_Back_w (y A t C o p j aK E d)(f:MS E [d])(h:SlR (eIt4) E (fl [d]) y A t)(g:SlR eI E (fl [d]) o p j)(a:r11_Back t C j=some aK):CallVC Tryz.prog 125 [.agg #[Vl y t A,Vi C],Vl o j p] E fun ap r=>∃ ad aU,ap=Vl ad aK aU∧Ev [] E r∧MS r [Bk ad,d]∧FR E.heap.size [Bk ad]∧OwnS eI 3 r (fl [Bk ad,d]) ad aU aK:=by
 refine Cv hmx Tryz.func125 (by kernel_rfl) R (rs:=[.tmp 4]) R (by kernel_rfl) (args:=[.agg #[Vl y t A,Vi C],Vl o j p]) R ?_;have i:Ev [] E E:=Ev.refl _ _;have q:FR E.heap.size []:=FR.nil _;refine Cs (Yb _ R (fun b bv aJ k aD bG=>?_));replace k:bv.heap[b]? = some (.cells #[Vl y t A,Vi C] 50 (0,0)):=k;refine I1 ?_;have m:=Stp.box (ls:=[d]) aD aJ;have h:=h.step m;have g:=g.step m;have f:=f.box aD aJ k;have q:=q.box i.size aJ;have i:=i.ext aD;refine Xu 1 [(4,Z0)] (Xk (Cq (Cs (Xu 1 [(10,Vl o j p)] (Xn (vs:=[Vl o j p]) (Vi ((j).length:Int)) R R R (Rl tsl22 _ _ _ _ _) (Xu 1 [(12,.bool (((j).length:Int)==0))] (Xk (Ci (((j).length:Int)==0) R a (fun a=>?_) (fun a=>?_)))))))))
 · refine Cs (Xu 1 [(4,Z0)] (Xk (Cr (Kr (Rr (Rv [Z0] ⟨R,T0⟩ ?_))))));obtain rfl:=Sj a;have aF:=f.pick [none,some 1] [Bk none,d] R;have aE:=q.pick [none] [Bk none] R;exact ⟨none,0,R,i,aF,aE,OwnS.nil _ _ _ _⟩
 refine Ck (Kt (Cs (Xu 1 [(5,Vi 0)] (Xk (Cq (Cs (Xu 1 [(6,Vi 0)] (Xk (Cb ?_)))))))));obtain ⟨a6,aC,a9⟩:=Bs a;obtain ⟨aa,aC⟩:=Lo aC;refine Cl (Lr hmx (σ:=Nat×Int×Int) (fun D=>match D with | (_,x,u)=>[(1,Vl o j p),(2,Vp b 0),(5,Vi x),(6,Vi u)]) (fun D r=>match D with | (an,x,u)=>loopN (r11_Back_L7 j) an (x,u)=some a6∧Ev [] E r∧MS r [[b],d]∧FR E.heap.size [[b]]∧SlR eI r (fl [[b],d]) o p j∧SlR (eIt4) r (fl [[b],d]) y A t∧r.heap[b]? = some (.cells #[Vl y t A,Vi C] 50 (0,0))) (fun D=>D.1) (aa,0,0) ⟨R,R,R,R,T0⟩ ⟨aC,i,f,q,g,h,k⟩ ?_);rintro ⟨aa,x,u⟩ J aq ⟨Y,i,f,q,g,h,k⟩;rcases aa with _ | aa
 · exact (Lz Y).elim
 obtain ⟨bJ,a,Y⟩:=Bs Y;refine Cq (Cs (Xu 2 [(13,Vi u),(14,Vl o j p)] (Xn (vs:=[Vl o j p]) (Vi ((j).length:Int)) R R R (Rl tsl22 _ _ _ _ _) (Xu 1 [(16,Bd (u<((j).length:Int)))] (Xk (Cn [(1,Vl o j p),(2,Vp b 0),(5,Vi x),(6,Vi u),(16,Bd (u<((j).length:Int)))] (fun J=>?_)))))));refine Ci (decide (u<((j).length:Int))) R a (fun a=>?_) (fun a=>?_)
 · refine Ck (Kt (Cq (Cb (Cq (Cd [] [(0,false),(1,false),(2,false),(3,false),(4,false),(5,false),(6,false),(7,false),(8,false)] _ (by kernel_rfl) R ?_)))));have m:=Stp.ext (ls:=[[b],d]) (Ev.drew aq);have g:=g.step m;have k:=(Ev.drew aq).box k nn;have h:=h.step m;have f:=f.ev (Ev.drew aq);have i:=i.ext (Ev.drew aq);refine Xu 2 [(19,Vl o j p),(20,Vi u)] ?_;obtain ⟨aS,bs,a⟩:=Bs a;obtain ⟨bz,bC,bk,bc,ae⟩:=Ri (Mo:=[]) tsl22 g bs;obtain rfl:=ae;refine Yi _ _ _ R bk (Yl _ (Vi aS) R (Rc tcell3 bc (fun _ a=>by cases a)) ?_);refine Xu 2 [(23,Vl o j p),(24,Vi x)] ?_;obtain ⟨aO,bq,a⟩:=Bs a;obtain ⟨bw,bA,bh,ba,ae⟩:=Ri (Mo:=[]) tsl22 g bq;obtain rfl:=ae;refine Yi _ _ _ R bh (Yl _ (Vi aO) R (Rc tcell3 ba (fun _ a=>by cases a)) ?_);refine Xu 1 [(27,Bd (aS>aO))] (Xk (Ci (decide (aS>aO)) R a (fun a=>?_) (fun a=>?_)))
   · refine Cp (Xu 2 [(28,Vi u),(5,Vi u)] (Xe R (Kl (Kt (Cp (Xu 3 [(17,Vi u),(18,Vi (i64.wrap (u+1))),(6,Vi (i64.wrap (u+1)))] (Xe R ?_)))))));obtain rfl:=Sj a;exact Kt ⟨(aa,u,i64.wrap (u+1)),⟨R,R,R,R,T0⟩,⟨Y,i,f,q,g,h,k⟩,Ns _⟩
   refine Ck (Kl (Kt (Cp (Xu 3 [(17,Vi u),(18,Vi (i64.wrap (u+1))),(6,Vi (i64.wrap (u+1)))] (Xe R ?_)))));obtain rfl:=Sj a;exact Kt ⟨(aa,x,i64.wrap (u+1)),⟨R,R,R,R,T0⟩,⟨Y,i,f,q,g,h,k⟩,Ns _⟩
 refine Ce (Ke ?_);obtain rfl:=Sj a;have am:=Sj Y;subst am;have a:=a9;refine Ke (Ki (Kt (Cn [(1,Vl o j p),(2,Vp b 0),(5,Vi x)] (fun J=>?_))));refine Cs (Xu 1 [(29,Vi x)] (Xb (vs:=[(0,Vi x)]) #[Vi x] 3 R R R (by kernel_rfl) (fun a2 aL bf aY au bE=>?_)));refine I1 ?_;obtain ⟨H,ay⟩:∃ ax,ax=some (⟨a2,0,none⟩:Addr):=⟨_,R⟩
 have bn:∀ d,OwnS eI 3 aL d H 1 ([x]:List Int):=fun d=>ay ▸ own_of_box aY (by decide) R R (cells_at (cs:=[Vi x]) (CellsOf.cons (c:=[Vi x]) R CellsOf.nil))
 have aG:∀ s∈Bk H,aq.heap.size≤s∧s<aL.heap.size:=by subst ay; intro s w; simp only [Bk,blk,List.mem_singleton] at w; subst w; exact ⟨Nat.le_of_eq bf.symm,lt_of_heap aY⟩
 have m:=Stp.push (ls:=[[b],d]) (l:=Bk H) au (fun _ a=>by cases a) (fun s w=>(aG s w).1);have g:=g.step m;have k:=au.box k nn;have h:=h.step m;have f:=f.push au aG;have q:=q.push (fun s w=>Nat.le_trans i.size (aG s w).1);have i:=i.ext au;have ak:=bn (fl [Bk H,[b],d]);rw [← ay];refine Xu 1 [(7,Vl H (([x]:List Int)) 1)] (Xk (Cq (Cs (Yl _ _ R (Ra 0 [Vl y t A,Vi C] tagg50 k nn R) (Xu 2 [(32,Vl o j p),(33,Vi x)] ?_)))));obtain ⟨a0,L,a⟩:=Bs a;have O:=r11_Base_w y A t C o p j x _ aL (fl [Bk H,[b],d]) (MS.fold (P:=[]) f) (h.sub fl1) (g.sub fl1) L;refine Xc 94 #[] #[] _ _ R R R R O ?_;rintro ap bK ⟨rfl,af⟩;refine I1 ?_;have m:=Stp.ext (ls:=[Bk H,[b],d]) af;have g:=g.step m;have k:=af.box k nn;have h:=h.step m;have ak:=ak.step m af nn2;have f:=f.ev af;have i:=i.ext af;refine Xu 1 [(8,Vi a0)] (Xk (Cb ?_));have al:=f.pk [1,0,2] [[b],Bk H,d] R;have K:=Pk (ls:=[Bk H,[b],d]) [1,0,2] [[b],Bk H,d] R;have g:=g.sub K;have h:=h.sub K;have ak:=ak.sub K;have f:=al;have q:=q.pk [1,0] [[b],Bk H] R;obtain ⟨a4,aA,a7⟩:=Bs a;obtain ⟨ao,aA⟩:=Lo aA;refine Cl (Lr hmx (σ:=Nat×Int×(List Int)×Int×Option Addr×Nat) (fun D=>match D with | (_,G,v,z,e,B)=>[(1,Vl o j p),(2,Vp b 0),(5,Vi G),(7,Vl e v B),(8,Vi z)]) (fun D r=>match D with | (an,G,v,z,e,B)=>loopN (r11_Back_L17 t C j) an (G,v,z)=some a4∧Ev [] E r∧MS r [[b],Bk e,d]∧FR E.heap.size [[b],Bk e]∧SlR eI r (fl [[b],Bk e,d]) o p j∧SlR (eIt4) r (fl [[b],Bk e,d]) y A t∧r.heap[b]? = some (.cells #[Vl y t A,Vi C] 50 (0,0))∧OwnS eI 3 r (fl [[b],Bk e,d]) e B v) (fun D=>D.1) (ao,x,([x]:List Int),a0,H,1) ⟨R,R,R,R,R,T0⟩ ⟨aA,i,f,q,g,h,k,ak⟩ ?_);rintro ⟨ao,G,v,z,e,B⟩ J bN ⟨aj,i,f,q,g,h,k,F⟩;rcases ao with _ | ao
 · exact (Lz aj).elim
 obtain ⟨bH,a,aj⟩:=Bs aj;refine Cq (Cs (Xu 2 [(35,Vi z),(36,Bd (z>0))] (Xk (Cn [(1,Vl o j p),(2,Vp b 0),(5,Vi G),(7,Vl e v B),(8,Vi z),(36,Bd (z>0))] (fun J=>?_)))));refine Ci (decide (z>0)) R a (fun a=>?_) (fun a=>?_)
 · refine Ck (Kt (Cq (Cb (Cs (Xu 1 [(9,Vi 0)] (Xk (Cq (Cb ?_))))))));obtain ⟨a5,aB,a8⟩:=Bs a;obtain ⟨Z,aB⟩:=Lo aB;refine Cl (Lr hmx (σ:=Nat×Int) (fun D=>match D with | (_,n)=>[(1,Vl o j p),(2,Vp b 0),(5,Vi G),(7,Vl e v B),(8,Vi z),(9,Vi n)]) (fun D r=>match D with | (an,n)=>loopN (r11_Back_L20 t C j G z) an n=some a5∧Ev [] E r∧MS r [[b],Bk e,d]∧FR E.heap.size [[b],Bk e]∧SlR eI r (fl [[b],Bk e,d]) o p j∧SlR (eIt4) r (fl [[b],Bk e,d]) y A t∧r.heap[b]? = some (.cells #[Vl y t A,Vi C] 50 (0,0))∧OwnS eI 3 r (fl [[b],Bk e,d]) e B v) (fun D=>D.1) (Z,0) ⟨R,R,R,R,R,R,T0⟩ ⟨aB,i,f,q,g,h,k,F⟩ ?_);rintro ⟨Z,n⟩ J S ⟨X,i,f,q,g,h,k,F⟩;rcases Z with _ | Z
   · exact (Lz X).elim
   obtain ⟨bI,a,X⟩:=Bs X;refine Cq (Cq (Cd [] [(0,false),(1,false),(2,false),(3,true),(4,false),(5,false),(6,false),(7,false),(8,false),(9,false),(10,false),(11,false),(12,false),(15,false),(13,false),(14,false),(16,false),(17,false)] _ (by kernel_rfl) R ?_));have m:=Stp.ext (ls:=[[b],Bk e,d]) (Ev.drew S);have g:=g.step m;have k:=(Ev.drew S).box k nn;have h:=h.step m;have F:=F.step m (Ev.drew S) nn2;have f:=f.ev (Ev.drew S);have i:=i.ext (Ev.drew S);refine Yl _ _ R (Ra 0 [Vl y t A,Vi C] tagg50 k nn R) (Xu 2 [(42,Vi n),(43,Vi G)] ?_);obtain ⟨aQ,L,a⟩:=Bs a;have al:MS (S).drew ([]++[[b],Bk e,d]):=f.pk [0,1,2] _ R;have bm:∀ ab∈fl ([]++[[b],Bk e,d]),ab∈fl [[b],Bk e,d]:=Pk [0,1,2] _ R;have bl:∀ ab∈fl ([]++[(fl [[b],Bk e,d])]),ab∈fl [[b],Bk e,d]:=fun ab L=>bm ab (Fu ab L)
   have O:=r11_Kind_w y A t C n G _ (S).drew (fl [[b],Bk e,d]) (MS.fold (P:=[]) al) (h.sub bl) L;refine Xc 102 #[] #[] _ _ R R R R O ?_;rintro ap bt ⟨rfl,ag⟩;refine I1 ?_;have m:=Stp.ext (ls:=[[b],Bk e,d]) ag;have g:=g.step m;have k:=ag.box k nn;have h:=h.step m;have F:=F.step m ag nn2;have f:=f.ev ag;have i:=i.ext ag;refine Xu 2 [(45,.bool (aQ==0)),(46,.bool (aQ==0))] (Xw 46 (aQ==0) R a (fun a=>?_) (fun a=>?_))
   · refine Xu 12 [(47,U0),(48,U0),(49,U0),(50,U0),(51,U0),(52,U0),(53,U0),(56,U0),(54,U0),(55,U0),(57,U0),(58,.bool true)] (Xk (Cn [(1,Vl o j p),(2,Vp b 0),(5,Vi G),(7,Vl e v B),(8,Vi z),(9,Vi n),(58,.bool true)] (fun J=>?_)));refine c_true R (Ck (Kt (Cb (Cp (Xu 3 [(59,Vi n),(60,Vi (i64.wrap (n+1))),(9,Vi (i64.wrap (n+1)))] (Xe R (Kl ?_)))))));obtain rfl:=Sj a;exact Kt ⟨(Z,i64.wrap (n+1)),⟨R,R,R,R,R,R,T0⟩,⟨X,i,f,q,g,h,k,F⟩,Ns _⟩
   refine Xu 2 [(47,Vl o j p),(48,Vi n)] ?_;obtain ⟨ac,br,a⟩:=Bs a;obtain ⟨bx,bB,bi,bb,ae⟩:=Ri (Mo:=[]) tsl22 g br;obtain rfl:=ae;refine Yi _ _ _ R bi (Yl _ (Vi ac) R (Rc tcell3 bb (fun _ a=>by cases a)) ?_);refine Yl _ _ R (Ra 0 [Vl y t A,Vi C] tagg50 k nn R) (Xu 3 [(52,Vi n),(53,Vi G),(56,Vi z)] ?_);obtain ⟨ar,L,a⟩:=Bs a;have O:=r11_Strict_w y A t C n G _ bt (fl [[b],Bk e,d]) (MS.fold (P:=[]) f) (h.sub fl1) L;refine Xc 103 #[] #[] _ _ R R R R O ?_;rintro ap bu ⟨rfl,U⟩;refine ⟨.inr U,?_⟩;have m:=Stp.ext (ls:=[[b],Bk e,d]) U;have g:=g.step m;have k:=U.box k nn;have h:=h.step m;have F:=F.step m U nn2;have f:=f.ev U;have i:=i.ext U;refine Xu 3 [(55,Vi (i64.wrap (ac+ar))),(57,.bool ((i64.wrap (ac+ar))!=z)),(58,.bool ((i64.wrap (ac+ar))!=z))] (Xk (Cn [(1,Vl o j p),(2,Vp b 0),(5,Vi G),(7,Vl e v B),(8,Vi z),(9,Vi n),(58,.bool ((i64.wrap (ac+ar))!=z))] (fun J=>?_)));refine Ci ((i64.wrap (ac+ar))!=z) R a (fun a=>?_) (fun a=>?_)
   · refine Ck (Kt (Cb (Cp (Xu 3 [(59,Vi n),(60,Vi (i64.wrap (n+1))),(9,Vi (i64.wrap (n+1)))] (Xe R (Kl ?_))))));obtain rfl:=Sj a;exact Kt ⟨(Z,i64.wrap (n+1)),⟨R,R,R,R,R,R,T0⟩,⟨X,i,f,q,g,h,k,F⟩,Ns _⟩
   refine Ce (Ke ?_);obtain rfl:=Sj a;have am:=Sj X;subst am;have a:=a8;refine Ke (Ki (Kt (Cn [(1,Vl o j p),(2,Vp b 0),(7,Vl e v B),(9,Vi n)] (fun J=>?_))));refine Cs (Xu 1 [(61,Vi n)] (Xb (vs:=[(0,Vi n)]) #[Vi n] 3 R R R (by kernel_rfl) (fun a3 aN bg aZ ah bF=>?_)));refine I1 ?_;obtain ⟨N,az⟩:∃ ax,ax=some (⟨a3,0,none⟩:Addr):=⟨_,R⟩
   have bo:∀ d,OwnS eI 3 aN d N 1 ([n]:List Int):=fun d=>az ▸ own_of_box aZ (by decide) R R (cells_at (cs:=[Vi n]) (CellsOf.cons (c:=[Vi n]) R CellsOf.nil))
   have aH:∀ s∈Bk N,bu.heap.size≤s∧s<aN.heap.size:=by subst az; intro s w; simp only [Bk,blk,List.mem_singleton] at w; subst w; exact ⟨Nat.le_of_eq bg.symm,lt_of_heap aZ⟩
   have m:=Stp.push (ls:=[[b],Bk e,d]) (l:=Bk N) ah (fun _ a=>by cases a) (fun s w=>(aH s w).1);have g:=g.step m;have k:=ah.box k nn;have h:=h.step m;have F:=F.step m ah nn2;have f:=f.push ah aH;have q:=q.push (fun s w=>Nat.le_trans i.size (aH s w).1);have i:=i.ext ah;have Q:=bo (fl [Bk N,[b],Bk e,d]);rw [← az];refine Xu 1 [(63,Vl e v B)] ?_;have be:=Gl a;have a:=Gr a;obtain ⟨I,aX,aw,bj,av,aI,bD,bp⟩:=own_appendN (M:=(Bk N)) tel22 22 (OwnS.plain (Pi _) Q) (fun _ a=>a) (OwnS.ro (M:=(Bk N)) (OwnS.plain (Pi _) F) (fun _ a=>a) (f.apart 2 0 R R R)) be;refine x_builtin (vs:=[Vl N (([n]:List Int)) 1,Vl e v B]) _ aw R R R R (run_value _ _ _ _ bj) (I1 ?_);have m:Stp (fl [Bk N,[b],Bk e,d]) aN (fl [Bk I,[b],Bk e,d]) aw:=Stp.upd 0 av R (fun s w=>(aI s w).1);have g:=g.step m;have k:=av.box k (f.apart 1 0 R R R _ mem1);have h:=h.step m;replace f:MS aw [Bk I,[b],Bk e,d]:=f.upd 0 av R aI;have bd:FR E.heap.size [Bk I,[b],Bk e]:=q.upd 0 R i.size (fun s w=>(aI s w).1);have i:=i.then av (fun s w=>.inr (q.at 0 R s w));have q:=bd;have Q:=OwnS.plain (M':=fl [Bk I,[b],Bk e,d]) (Pi _) (bp [] (fun _ a=>by cases a));refine Xu 1 [(7,Vl I ((([n]:List Int)++v)) aX)] (Xk (Cp (Xu 2 [(65,Vi n),(5,Vi n)] (Xe R (Kl (Kt (Cp (Yl _ _ R (Ra 0 [Vl y t A,Vi C] tagg50 k nn R) (Xu 2 [(38,Vl o j p),(39,Vi n)] ?_)))))))));obtain ⟨a1,L,a⟩:=Bs a;have O:=r11_Base_w y A t C o p j n _ aw (fl [Bk I,[b],Bk e,d]) (MS.fold (P:=[]) f) (h.sub fl1) (g.sub fl1) L;refine Xc 94 #[] #[] _ _ R R R R O ?_;rintro ap bL ⟨rfl,ai⟩;refine I1 ?_;have m:=Stp.ext (ls:=[Bk I,[b],Bk e,d]) ai;have g:=g.step m;have k:=ai.box k nn;have h:=h.step m;have Q:=Q.step m ai nn2;have f:=f.ev ai;have i:=i.ext ai;refine Xu 1 [(8,Vi a1)] (Xe R ?_);obtain rfl:=Sj a;have al:=f.pk [1,0,3] [[b],Bk I,d] R;have K:=Pk (ls:=[Bk I,[b],Bk e,d]) [1,0,3] [[b],Bk I,d] R;have g:=g.sub K;have h:=h.sub K;have Q:=Q.sub K;have f:=al;have q:=q.pk [1,0] [[b],Bk I] R;exact Kt ⟨(ao,n,(([n]:List Int)++v),a1,I,aX),⟨R,R,R,R,R,T0⟩,⟨aj,i,f,q,g,h,k,Q⟩,Ns _⟩
 refine Ce (Ke ?_);obtain rfl:=Sj a;have am:=Sj aj;subst am;have a:=a7;refine Ke (Ki (Kt (Cn [(7,Vl e v B)] (fun J=>?_))));refine Cs (Xu 2 [(66,Vl e v B),(4,Vl e v B)] (Xk (Cr (Rr (Rv [Vl e v B] ⟨R,T0⟩ ?_)))));obtain rfl:=Sj a;have aF:=f.pk [1,2] [Bk e,d] R;have K:=Pk (ls:=[[b],Bk e,d]) [1,2] [Bk e,d] R;have aE:=q.pk [1] [Bk e] R;exact ⟨e,B,R,i,aF,aE,F.sub K⟩
end Go.Proofs.YtlejnkhaphlooaaGreat
