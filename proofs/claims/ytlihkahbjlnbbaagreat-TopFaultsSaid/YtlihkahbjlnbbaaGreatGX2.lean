/- Walks, printed by program: each function returns what the partial function of the same name returns. Conditions: those of each theorem. -/
import Derived.Test.YtlihkahbjlnbbaaGreatGT
import Derived.Test.YtlihkahbjlnbbaaGreatGX1
set_option linter.unusedVariables false
set_option linter.unusedSimpArgs false
set_option maxRecDepth 4000
namespace Go.Proofs.YtlihkahbjlnbbaaGreat
open Go Go.V Go.Proofs Go.IntKind
def YJ (f:List (Int×(List UInt8)×Int×Int×Int×Int×Int×Int)) (d:(List Int)) (g:(List (Int×Int×Int×Int×Int))×Int):Option (Mm ((List (Int×Int×Int×Int×Int))×Int) (List (Int×Int×Int×Int×Int))):=
match g with
| (c,b)=>
(if (decide (b<((d).length:Int)))=true then
((idx d b).bind fun h=>
((idx f h).bind fun a=>
((idx d b).bind fun e=>
(if c.length+([(e,a.2.2.2.2.1,a.2.2.2.2.2.1,a.2.2.2.2.2.2.1,a.2.2.2.2.2.2.2)]:List (Int×Int×Int×Int×Int)).length≤4294967296 then
some (.next ((c++([(e,a.2.2.2.2.1,a.2.2.2.2.2.1,a.2.2.2.2.2.2.1,a.2.2.2.2.2.2.2)]:List (Int×Int×Int×Int×Int))),M4 (b+1)))
else none))))
else
some (.done c))
def M15 (a:List (Int×(List UInt8)×Int×Int×Int×Int×Int×Int)) (b:Int):Option ((List (Int×Int×Int×Int×Int))×Int):=
((WI a).bind fun c=>
(if (c != 0)=true then
some ([],c)
else
(if (decide (b<0))=true then
some ([],2)
else
(if (decide (b≥((a).length:Int)))=true then
some ([],2)
else
((idx a b).bind fun f=>
(if (f.1 != 4)=true then
some ([],2)
else
((M7o a b).bind fun g=>
((loop (YJ a g) (([]:List (Int×Int×Int×Int×Int)),1)).bind fun d=>match d with
| e=>some (e,0)))))))))
theorem M6z (p q k t U B x)(f:MS B [x])(h:Ma (M3 eI (M3 Mv (M3 eI (M3 eI (M7))))) B (fl [x]) p q k)(d:M15 k t=some U):Md Tryz.prog 15 [Vl p k q,Vi t] B fun ag F=>∃ K ai,ag=.tuple #[Vl K U.1 ai,Vi U.2]∧Ev [] B F∧MS F [Bk K,x]∧FR B.heap.size [Bk K]∧M9 (M3 eI (M7)) 75 F (fl [Bk K,x]) K ai U.1:=by
 refine Cw hmx Tryz.func15 R R R ?_;have g:=Ev.refl [] B;have m:=FR.nil B.heap.size;refine Cs (Xu 2 [(4,Z0),(5,Vi 0)] (Xk (Cq (Cs (Xu 1 [(11,Vl p k q)] ?_)))));obtain ⟨J,af,d⟩:=Bs d;obtain ⟨ad,ae⟩:=Kc f [] [0];have aa:=M26 p q k _ B _ ad (h.sub ae) af;refine Xv aa R ?_;rintro ag aQ ⟨rfl,ax⟩;obtain ⟨h,f,g⟩:=E3 (Cx.e f ax) h f g;refine Xu 1 [(6,Vi J)] (Xk (Cs (Xu 2 [(13,Vi J),(14,.bool (J != 0))] (Xk (Ci _ R d (fun d=>?_) (fun d=>?_))))))
 · refine Cs (Xu 3 [(15,Vi J),(4,Z0),(5,Vi J)] (Xk (Cr (Kr (Rr (Rv [Z0,Vi J] ⟨R,R,T0⟩ ?_))))));obtain rfl:=Sj d;have E:=f.pick [none,some 0] [Bk none,x] R;have D:=m.pick [none] [Bk none] R;exact ⟨none,0,R,g,E,D,M9.nil _ _ _ _⟩
 refine Ck (Kt (Cq (Cs (Xu 3 [(16,Vi t),(17,Bd (t<0)),(18,Bd (t<0))] (Xw 18 _ R d (fun d=>?_) (fun d=>?_))))))
 · refine Xu 13 (Un 19 4++[(23,.bool true),(24,.bool true)]++Un 25 6++[(31,.bool true)]) (Xk (Cn [(0,Vl p k q),(1,Vi t),(31,.bool true)] (fun H=>?_)));refine Me R (Cs (Xu 2 [(4,Z0),(5,Vi 2)] (Xk (Cr (Kr (Rr (Rv [Z0,Vi 2] ⟨R,R,T0⟩ ?_)))))));obtain rfl:=Sj d;have E:=f.pick [none,some 0] [Bk none,x] R;have D:=m.pick [none] [Bk none] R;exact ⟨none,0,R,g,E,D,M9.nil _ _ _ _⟩
 refine Xu 2 [(19,Vi t),(20,Vl p k q)] (Xz My R (Xu 3 [(22,Bd (t≥((k).length:Int))),(23,Bd (t≥((k).length:Int))),(24,Bd (t≥((k).length:Int)))] (Xw 24 _ R d (fun d=>?_) (fun d=>?_))))
 · refine Xu 7 (Un 25 6++[(31,.bool true)]) (Xk (Cn [(0,Vl p k q),(1,Vi t),(31,.bool true)] (fun H=>?_)));refine Me R (Cs (Xu 2 [(4,Z0),(5,Vi 2)] (Xk (Cr (Kr (Rr (Rv [Z0,Vi 2] ⟨R,R,T0⟩ ?_)))))));obtain rfl:=Sj d;have E:=f.pick [none,some 0] [Bk none,x] R;have D:=m.pick [none] [Bk none] R;exact ⟨none,0,R,g,E,D,M9.nil _ _ _ _⟩
 refine Xu 2 [(25,Vl p k q),(26,Vi t)] ?_;obtain ⟨ah,aK,d⟩:=Bs d;refine Xq (h.el My) MC M5 aK R (fun _=>R) (fun _=>Xu 2 [(30,.bool (ah.1 != 4)),(31,.bool (ah.1 != 4))] (Xk (Cn [(0,Vl p k q),(1,Vi t),(31,.bool (ah.1 != 4))] (fun H=>?_))));refine Ci _ R d (fun d=>?_) (fun d=>?_)
 · refine Cs (Xu 2 [(4,Z0),(5,Vi 2)] (Xk (Cr (Kr (Rr (Rv [Z0,Vi 2] ⟨R,R,T0⟩ ?_))))));obtain rfl:=Sj d;have E:=f.pick [none,some 0] [Bk none,x] R;have D:=m.pick [none] [Bk none] R;exact ⟨none,0,R,g,E,D,M9.nil _ _ _ _⟩
 refine Ck (Kt (Cs (Xu 1 [(7,Z0)] (Xk (Cs (Xu 2 [(32,Vl p k q),(33,Vi t)] ?_))))));obtain ⟨A,af,d⟩:=Bs d;obtain ⟨ad,ae⟩:=Kc f [] [0];have aa:=M7V p q k t _ aQ _ ad (h.sub ae) af;refine Xv aa R ?_;rintro ag aS ⟨y,G,rfl,al,az,am,i⟩;obtain ⟨h,f⟩:=E2 (Cx.c f [] al az am) h f;have ac:=m.cc g am;have g:=g.ext al;have m:=ac;have i:=i.pl f;refine Xu 1 [(8,Vl y A G)] (Xk (Cq (Cs (Xu 1 [(9,Vi 1)] (Xk (Cb ?_))))));obtain ⟨h,i,f⟩:=E3 (Cx.n f) h i f;have m:=m.pn;have aA:=M9.nil (M3 eI (M7)) 75 aS (fl [Bk none,Bk y,x]);obtain ⟨ap,ab,aq⟩:=Bs d;obtain ⟨O,ab⟩:=Lo ab;refine Cl (Lr hmx (σ:=Nat×(List (Int×Int×Int×Int×Int))×Int×Option Addr×Nat) (fun Q=>match Q with | (_,v,r,o,z)=>[(0,Vl p k q),(7,Vl o v z),(8,Vl y A G),(9,Vi r)]) (fun Q F=>match Q with | (aN,v,r,o,z)=>Mh (YJ k A) aN (v,r)=some ap∧Ev [] B F∧(fun X=>MS F X∧FR B.heap.size [Bk o,Bk y]∧Ma (M3 eI (M3 Mv (M3 eI (M3 eI (M7))))) F (fl X) p q k∧M9 (M3 eI (M7)) 75 F (fl X) o z v∧M9 eI 3 F (fl X) y G A) [Bk o,Bk y,x]) (fun Q=>Q.1) (O,([]:List (Int×Int×Int×Int×Int)),1,none,0) ⟨R,R,R,R,T0⟩ ⟨ab,g,f,m,h,aA,i⟩ ?_);rintro ⟨O,v,r,o,z⟩ H a2 ⟨L,g,f,m,h,w,i⟩;rcases O with _ | O
 · exact (Lz L).elim
 obtain ⟨aY,d,L⟩:=Bs L;refine Cq (Cs (Xu 2 [(35,Vi r),(36,Vl y A G)] (Xz MB R (Xu 1 [(38,Bd (r<((A).length:Int)))] (Xk (Cn [(0,Vl p k q),(7,Vl o v z),(8,Vl y A G),(9,Vi r),(38,Bd (r<((A).length:Int)))] (fun H=>?_)))))));refine Ci _ R d (fun d=>?_) (fun d=>?_)
 · refine Ck (Kt (Cq (Cb (Cs (Xu 3 [(41,Vl p k q),(42,Vl y A G),(43,Vi r)] ?_)))));obtain ⟨a3,aH,d⟩:=Bs d;refine Z6 (i.el MB) M5 aH R (fun _=>R) (fun _=>?_);obtain ⟨a,aI,d⟩:=Bs d;refine Zf [Vi a.1,Vs a.2.1,Vi a.2.2.1,Vi a.2.2.2.1,Vi a.2.2.2.2.1,Vi a.2.2.2.2.2.1,Vi a.2.2.2.2.2.2.1,Vi a.2.2.2.2.2.2.2] (h.el My) Pb aI R (fun _=>R) (fun _=>Xj #[Vi 0,Vs ([]:List UInt8),Vi 0,Vi 0,Vi 0,Vi 0,Vi 0,Vi 0] R (fun S aZ ao C av=>?_));have m:=m.box g.size ao;obtain ⟨h,w,i,f,g⟩:=E5 (Cx.b f av ao C) h w i f g;obtain ⟨aO,aC,ar,aj⟩:=Sa [Vi a.1,Vs a.2.1,Vi a.2.2.1,Vi a.2.2.2.1,Vi a.2.2.2.2.1,Vi a.2.2.2.2.2.1,Vi a.2.2.2.2.2.2.1,Vi a.2.2.2.2.2.2.2] Pb C R R R;refine Xp aC R ?_;obtain ⟨h,w,i,f⟩:=E4 (Cx.j f 0 aj) h w i f;have g:=g.th aj m 0;have C:=ar;refine Xk (Cd [] [(0,false),(1,false),(2,false),(3,false),(4,false),(5,false),(6,false),(7,false),(8,false),(9,false),(10,false),(11,false),(12,false),(13,false),(14,true),(15,true),(16,false)] _ (by kernel_rfl) R ?_);obtain ⟨h,w,i,C,f,g⟩:=E6 (Cx.e f (Ev.drew aO)) h w i C f g;refine Xu 3 [(48,Vl o v z),(49,Vl y A G),(50,Vi r)] ?_;obtain ⟨I,aJ,d⟩:=Bs d;refine Z6 (i.el MB) M5 aJ R (fun _=>R) (fun _=>Yg S 0 4 (Vi a.2.2.2.2.1) R R (Rf TF _) M5 C nn R (Yg S 0 5 (Vi a.2.2.2.2.2.1) R R (Rf Wf _) M5 C nn R (Yg S 0 6 (Vi a.2.2.2.2.2.2.1) R R (Rf Vf _) M5 C nn R (Yg S 0 7 (Vi a.2.2.2.2.2.2.2) R R (Rf TE _) M5 C nn R (Xg (.agg #[Vi I,Vi a.2.2.2.2.1,Vi a.2.2.2.2.2.1,Vi a.2.2.2.2.2.2.1,Vi a.2.2.2.2.2.2.2]) R ?_)))));refine Xh #[Vi I,Vi a.2.2.2.2.1,Vi a.2.2.2.2.2.1,Vi a.2.2.2.2.2.2.1,Vi a.2.2.2.2.2.2.2] 75 R (fun aU a0 aB au aw=>?_);have N:=Cx.e f aw;obtain ⟨h,w,i,f,g⟩:=E5 N h w i f g;have aE:=N.l (e:=(M3 eI (M7))) aB au 1 [(I,a.2.2.2.2.1,a.2.2.2.2.2.1,a.2.2.2.2.2.2.1,a.2.2.2.2.2.2.2)];have ay:=Gl d;have d:=Gr d;obtain ⟨Y,Z,a1,aD,ak,an,aX,aG⟩:=Mb M7h 68 w (Mf 1 R) aE ay;refine Xx R (Rn aD) ?_;have N:=Cx.u f 1 ak an;obtain ⟨h,i,f⟩:=E3 N h i f;have ac:=m.ux 1 g an;have g:=g.th ak m 1;have m:=ac;have w:=aG _ N.st.new;refine Xu 1 [(7,Vl Y ((v++([(I,a.2.2.2.2.1,a.2.2.2.2.2.1,a.2.2.2.2.2.2.1,a.2.2.2.2.2.2.2)]:List (Int×Int×Int×Int×Int)))) Z)] (Xe R (Kl (Kt (Cn [(0,Vl p k q),(7,Vl Y ((v++([(I,a.2.2.2.2.1,a.2.2.2.2.2.1,a.2.2.2.2.2.2.1,a.2.2.2.2.2.2.2)]:List (Int×Int×Int×Int×Int)))) Z),(8,Vl y A G),(9,Vi r)] (fun H=>?_)))));refine Cp (Xu 3 [(39,Vi r),(40,Vi (M4 (r+1))),(9,Vi (M4 (r+1)))] (Xe R ?_));obtain rfl:=Sj d;obtain ⟨h,w,i,f⟩:=E4 (Cx.s f [1,2,3]) h w i f;have m:=m.px [1,2];exact Kt ⟨(O,(v++([(I,a.2.2.2.2.1,a.2.2.2.2.2.1,a.2.2.2.2.2.2.1,a.2.2.2.2.2.2.2)]:List (Int×Int×Int×Int×Int))),M4 (r+1),Y,Z),⟨R,R,R,R,T0⟩,⟨L,g,f,m,h,w,i⟩,Ns _⟩
 refine Ce (Ke ?_);obtain rfl:=Sj d;have aL:=Sj L;subst aL;have d:=aq;refine Ke (Ki (Kt (Cn [(7,Vl o v z)] (fun H=>?_))));refine Cs (Xu 3 [(64,Vl o v z),(4,Vl o v z),(5,Vi 0)] (Xk (Cr (Rr (Rv [Vl o v z,Vi 0] ⟨R,R,T0⟩ ?_)))));obtain rfl:=Sj d;have E:=f.pk [0,2] [Bk o,x] R;have aF:=Pk (ls:=[Bk o,Bk y,x]) [0,2] [Bk o,x] R;have D:=m.pk [0] [Bk o] R;exact ⟨o,z,R,g,E,D,w.sub aF⟩
def YK (c:List (Int×Int×Int×Int×Int)) (d:Int):Option (Mm Int (Unit⊕Unit)):=
match d with
| b=>
(if (decide (b<((c).length:Int)))=true then
((idx c b).bind fun a=>
(if (decide (a.1<0))=true then
some (.done (.inl ()))
else
(if (decide (a.1≥128))=true then
some (.done (.inl ()))
else
(if (decide (a.2.1<1))=true then
some (.done (.inl ()))
else
(if (decide (a.2.1>1000000))=true then
some (.done (.inl ()))
else
(if (decide (a.2.2.1<(-10000)))=true then
some (.done (.inl ()))
else
(if (decide (a.2.2.1>10000))=true then
some (.done (.inl ()))
else
(if (decide (a.2.2.2.1<0))=true then
some (.done (.inl ()))
else
(if (decide (a.2.2.2.1>5000))=true then
some (.done (.inl ()))
else
(if (decide (a.2.2.2.2<0))=true then
some (.done (.inl ()))
else
(if (decide (a.2.2.2.2>1000000000))=true then
some (.done (.inl ()))
else
some (.next (M4 (b+1))))))))))))))
else
some (.done (.inr ())))
def WK (a:List (Int×Int×Int×Int×Int)):Option Int:=
(if (decide (((a).length:Int)<1))=true then
some 3
else
(if (decide (((a).length:Int)>128))=true then
some 3
else
((loop (YK a) 0).bind fun b=>match b with
| (.inl _)=>some 1
| (.inr _)=>some 0)))
theorem Zu (h i d B t x)(n:MS t [x])(q:Ma (M3 eI (M7)) t (fl [x]) h i d)(a:WK d=some B):Md Tryz.prog 37 [Vl h d i] t fun I w=>I=Vi B∧Ev [] t w:=by
 refine Cw hmx Tryz.func37 R R R ?_;have f:=Ev.refl [] t;have r:=FR.nil t.heap.size;refine Cs (Xu 1 [(2,Vi 0)] (Xk (Cq (Cs (Xu 1 [(5,Vl h d i)] (Xz MF R (Xu 2 [(7,Bd (((d).length:Int)<1)),(8,Bd (((d).length:Int)<1))] (Xw 8 _ R a (fun a=>?_) (fun a=>?_)))))))))
 · refine Xu 4 [(9,U0),(10,U0),(11,U0),(12,.bool true)] (Xk (Me R (Cs (Xu 1 [(2,Vi 3)] (Xk (Cr (Kr (Rz (Vi 3) R ?_))))))));obtain rfl:=Sj a;exact ⟨R,f⟩
 refine Xu 1 [(9,Vl h d i)] (Xz MF R (Xu 2 [(11,Bd (((d).length:Int)>128)),(12,Bd (((d).length:Int)>128))] (Xk (Ci _ R a (fun a=>?_) (fun a=>?_)))))
 · refine Cs (Xu 1 [(2,Vi 3)] (Xk (Cr (Kr (Rz (Vi 3) R ?_)))));obtain rfl:=Sj a;exact ⟨R,f⟩
 refine Ck (Kt (Cq (Cs (Xu 1 [(3,Vi 0)] (Xk (Cb ?_))))));obtain ⟨C,y,o⟩:=Bs a;obtain ⟨u,y⟩:=Lo y;refine Cl (Lr hmx (σ:=Nat×Int) (fun v=>match v with | (_,e)=>[(0,Vl h d i),(3,Vi e)]) (fun v w=>match v with | (H,e)=>Mh (YK d) H e=some C∧Ev [] t w∧MS w [x]∧FR t.heap.size []∧Ma (M3 eI (M7)) w (fl [x]) h i d) (fun v=>v.1) (u,0) ⟨R,R,T0⟩ ⟨y,f,n,r,q⟩ ?_);rintro ⟨u,e⟩ m N ⟨k,f,n,r,q⟩;rcases u with _ | u
 · exact (Lz k).elim
 obtain ⟨J,a,k⟩:=Bs k;refine Cq (Cs (Xu 2 [(13,Vi e),(14,Vl h d i)] (Xz MF R (Xu 1 [(16,Bd (e<((d).length:Int)))] (Xk (Cn [(0,Vl h d i),(3,Vi e),(16,Bd (e<((d).length:Int)))] (fun m=>?_)))))));refine Ci _ R a (fun a=>?_) (fun a=>?_)
 · refine Ck (Kt (Cq (Cb (Cs (Xu 2 [(19,Vl h d i),(20,Vi e)] ?_)))));obtain ⟨c,G,a⟩:=Bs a;refine Zf [Vi c.1,Vi c.2.1,Vi c.2.2.1,Vi c.2.2.2.1,Vi c.2.2.2.2] (q.el MF) R3 G R (fun _=>R) (fun _=>Xj #[Vi 0,Vi 0,Vi 0,Vi 0,Vi 0] R (fun p K A l E=>?_));have r:=r.box f.size A;obtain ⟨q,n,f⟩:=E3 (Cx.b n E A l) q n f;obtain ⟨L,F,D,z⟩:=Sa [Vi c.1,Vi c.2.1,Vi c.2.2.1,Vi c.2.2.2.1,Vi c.2.2.2.2] R3 l R R R;refine Xp F R ?_;obtain ⟨q,n⟩:=E2 (Cx.j n 0 z) q n;have f:=f.th z r 0;have l:=D;refine Xk (Cs (Yg p 0 0 (Vi c.1) R R (Rf Pm _) M5 l nn R (Xu 2 [(25,Bd (c.1<0)),(26,Bd (c.1<0))] (Xw 26 _ R a (fun a=>?_) (fun a=>?_)))))
   · refine Xu 44 (Un 27 3++[(30,.bool true),(31,.bool true)]++Un 32 3++[(35,.bool true),(36,.bool true)]++Un 37 3++[(40,.bool true),(41,.bool true)]++Un 42 3++[(45,.bool true),(46,.bool true)]++Un 47 3++[(50,.bool true),(51,.bool true)]++Un 52 3++[(55,.bool true),(56,.bool true)]++Un 57 3++[(60,.bool true),(61,.bool true)]++Un 62 3++[(65,.bool true),(66,.bool true)]++Un 67 3++[(70,.bool true)]) (Xk (Cn [(0,Vl h d i),(3,Vi e),(70,.bool true)] (fun m=>?_)));refine Me R (Cs (Xu 1 [(2,Vi 1)] (Xk (Cr (Kb (Kr ?_))))));obtain rfl:=Sj a;have g:=Sj k;subst g;have a:=o;refine Kr (Kb (Kr (Rz (Vi 1) R ?_)));obtain rfl:=Sj a;exact ⟨R,f⟩
   refine Yg p 0 0 (Vi c.1) R R (Rf Pm _) M5 l nn R (Xu 3 [(29,Bd (c.1≥128)),(30,Bd (c.1≥128)),(31,Bd (c.1≥128))] (Xw 31 _ R a (fun a=>?_) (fun a=>?_)))
   · refine Xu 39 (Un 32 3++[(35,.bool true),(36,.bool true)]++Un 37 3++[(40,.bool true),(41,.bool true)]++Un 42 3++[(45,.bool true),(46,.bool true)]++Un 47 3++[(50,.bool true),(51,.bool true)]++Un 52 3++[(55,.bool true),(56,.bool true)]++Un 57 3++[(60,.bool true),(61,.bool true)]++Un 62 3++[(65,.bool true),(66,.bool true)]++Un 67 3++[(70,.bool true)]) (Xk (Cn [(0,Vl h d i),(3,Vi e),(70,.bool true)] (fun m=>?_)));refine Me R (Cs (Xu 1 [(2,Vi 1)] (Xk (Cr (Kb (Kr ?_))))));obtain rfl:=Sj a;have g:=Sj k;subst g;have a:=o;refine Kr (Kb (Kr (Rz (Vi 1) R ?_)));obtain rfl:=Sj a;exact ⟨R,f⟩
   refine Yg p 0 1 (Vi c.2.1) R R (Rf Pj _) M5 l nn R (Xu 3 [(34,Bd (c.2.1<1)),(35,Bd (c.2.1<1)),(36,Bd (c.2.1<1))] (Xw 36 _ R a (fun a=>?_) (fun a=>?_)))
   · refine Xu 34 (Un 37 3++[(40,.bool true),(41,.bool true)]++Un 42 3++[(45,.bool true),(46,.bool true)]++Un 47 3++[(50,.bool true),(51,.bool true)]++Un 52 3++[(55,.bool true),(56,.bool true)]++Un 57 3++[(60,.bool true),(61,.bool true)]++Un 62 3++[(65,.bool true),(66,.bool true)]++Un 67 3++[(70,.bool true)]) (Xk (Cn [(0,Vl h d i),(3,Vi e),(70,.bool true)] (fun m=>?_)));refine Me R (Cs (Xu 1 [(2,Vi 1)] (Xk (Cr (Kb (Kr ?_))))));obtain rfl:=Sj a;have g:=Sj k;subst g;have a:=o;refine Kr (Kb (Kr (Rz (Vi 1) R ?_)));obtain rfl:=Sj a;exact ⟨R,f⟩
   refine Yg p 0 1 (Vi c.2.1) R R (Rf Pj _) M5 l nn R (Xu 3 [(39,Bd (c.2.1>1000000)),(40,Bd (c.2.1>1000000)),(41,Bd (c.2.1>1000000))] (Xw 41 _ R a (fun a=>?_) (fun a=>?_)))
   · refine Xu 29 (Un 42 3++[(45,.bool true),(46,.bool true)]++Un 47 3++[(50,.bool true),(51,.bool true)]++Un 52 3++[(55,.bool true),(56,.bool true)]++Un 57 3++[(60,.bool true),(61,.bool true)]++Un 62 3++[(65,.bool true),(66,.bool true)]++Un 67 3++[(70,.bool true)]) (Xk (Cn [(0,Vl h d i),(3,Vi e),(70,.bool true)] (fun m=>?_)));refine Me R (Cs (Xu 1 [(2,Vi 1)] (Xk (Cr (Kb (Kr ?_))))));obtain rfl:=Sj a;have g:=Sj k;subst g;have a:=o;refine Kr (Kb (Kr (Rz (Vi 1) R ?_)));obtain rfl:=Sj a;exact ⟨R,f⟩
   refine Yg p 0 2 (Vi c.2.2.1) R R (Rf Zi _) M5 l nn R (Xu 3 [(44,Bd (c.2.2.1<(-10000))),(45,Bd (c.2.2.1<(-10000))),(46,Bd (c.2.2.1<(-10000)))] (Xw 46 _ R a (fun a=>?_) (fun a=>?_)))
   · refine Xu 24 (Un 47 3++[(50,.bool true),(51,.bool true)]++Un 52 3++[(55,.bool true),(56,.bool true)]++Un 57 3++[(60,.bool true),(61,.bool true)]++Un 62 3++[(65,.bool true),(66,.bool true)]++Un 67 3++[(70,.bool true)]) (Xk (Cn [(0,Vl h d i),(3,Vi e),(70,.bool true)] (fun m=>?_)));refine Me R (Cs (Xu 1 [(2,Vi 1)] (Xk (Cr (Kb (Kr ?_))))));obtain rfl:=Sj a;have g:=Sj k;subst g;have a:=o;refine Kr (Kb (Kr (Rz (Vi 1) R ?_)));obtain rfl:=Sj a;exact ⟨R,f⟩
   refine Yg p 0 2 (Vi c.2.2.1) R R (Rf Zi _) M5 l nn R (Xu 3 [(49,Bd (c.2.2.1>10000)),(50,Bd (c.2.2.1>10000)),(51,Bd (c.2.2.1>10000))] (Xw 51 _ R a (fun a=>?_) (fun a=>?_)))
   · refine Xu 19 (Un 52 3++[(55,.bool true),(56,.bool true)]++Un 57 3++[(60,.bool true),(61,.bool true)]++Un 62 3++[(65,.bool true),(66,.bool true)]++Un 67 3++[(70,.bool true)]) (Xk (Cn [(0,Vl h d i),(3,Vi e),(70,.bool true)] (fun m=>?_)));refine Me R (Cs (Xu 1 [(2,Vi 1)] (Xk (Cr (Kb (Kr ?_))))));obtain rfl:=Sj a;have g:=Sj k;subst g;have a:=o;refine Kr (Kb (Kr (Rz (Vi 1) R ?_)));obtain rfl:=Sj a;exact ⟨R,f⟩
   refine Yg p 0 3 (Vi c.2.2.2.1) R R (Rf M2W _) M5 l nn R (Xu 3 [(54,Bd (c.2.2.2.1<0)),(55,Bd (c.2.2.2.1<0)),(56,Bd (c.2.2.2.1<0))] (Xw 56 _ R a (fun a=>?_) (fun a=>?_)))
   · refine Xu 14 (Un 57 3++[(60,.bool true),(61,.bool true)]++Un 62 3++[(65,.bool true),(66,.bool true)]++Un 67 3++[(70,.bool true)]) (Xk (Cn [(0,Vl h d i),(3,Vi e),(70,.bool true)] (fun m=>?_)));refine Me R (Cs (Xu 1 [(2,Vi 1)] (Xk (Cr (Kb (Kr ?_))))));obtain rfl:=Sj a;have g:=Sj k;subst g;have a:=o;refine Kr (Kb (Kr (Rz (Vi 1) R ?_)));obtain rfl:=Sj a;exact ⟨R,f⟩
   refine Yg p 0 3 (Vi c.2.2.2.1) R R (Rf M2W _) M5 l nn R (Xu 3 [(59,Bd (c.2.2.2.1>5000)),(60,Bd (c.2.2.2.1>5000)),(61,Bd (c.2.2.2.1>5000))] (Xw 61 _ R a (fun a=>?_) (fun a=>?_)))
   · refine Xu 9 (Un 62 3++[(65,.bool true),(66,.bool true)]++Un 67 3++[(70,.bool true)]) (Xk (Cn [(0,Vl h d i),(3,Vi e),(70,.bool true)] (fun m=>?_)));refine Me R (Cs (Xu 1 [(2,Vi 1)] (Xk (Cr (Kb (Kr ?_))))));obtain rfl:=Sj a;have g:=Sj k;subst g;have a:=o;refine Kr (Kb (Kr (Rz (Vi 1) R ?_)));obtain rfl:=Sj a;exact ⟨R,f⟩
   refine Yg p 0 4 (Vi c.2.2.2.2) R R (Rf RY _) M5 l nn R (Xu 3 [(64,Bd (c.2.2.2.2<0)),(65,Bd (c.2.2.2.2<0)),(66,Bd (c.2.2.2.2<0))] (Xw 66 _ R a (fun a=>?_) (fun a=>?_)))
   · refine Xu 4 (Un 67 3++[(70,.bool true)]) (Xk (Cn [(0,Vl h d i),(3,Vi e),(70,.bool true)] (fun m=>?_)));refine Me R (Cs (Xu 1 [(2,Vi 1)] (Xk (Cr (Kb (Kr ?_))))));obtain rfl:=Sj a;have g:=Sj k;subst g;have a:=o;refine Kr (Kb (Kr (Rz (Vi 1) R ?_)));obtain rfl:=Sj a;exact ⟨R,f⟩
   refine Yg p 0 4 (Vi c.2.2.2.2) R R (Rf RY _) M5 l nn R (Xu 2 [(69,Bd (c.2.2.2.2>1000000000)),(70,Bd (c.2.2.2.2>1000000000))] (Xk (Cn [(0,Vl h d i),(3,Vi e),(70,Bd (c.2.2.2.2>1000000000))] (fun m=>?_))));refine Ci _ R a (fun a=>?_) (fun a=>?_)
   · refine Cs (Xu 1 [(2,Vi 1)] (Xk (Cr (Kb (Kr ?_)))));obtain rfl:=Sj a;have g:=Sj k;subst g;have a:=o;refine Kr (Kb (Kr (Rz (Vi 1) R ?_)));obtain rfl:=Sj a;exact ⟨R,f⟩
   refine Ck (Kl (Kt (Cp (Xu 3 [(17,Vi e),(18,Vi (M4 (e+1))),(3,Vi (M4 (e+1)))] (Xe R ?_)))));obtain rfl:=Sj a;obtain ⟨q,n⟩:=E2 (Cx.s n [1]) q n;have r:=r.px [];exact Kt ⟨(u,M4 (e+1)),⟨R,R,T0⟩,⟨k,f,n,r,q⟩,Ns _⟩
 refine Ce (Ke ?_);obtain rfl:=Sj a;have g:=Sj k;subst g;have a:=o;refine Ke (Ki (Kt (RJ [] T0 (fun m=>?_))));refine Cs (Xu 1 [(2,Vi 0)] (Xk (Cr (Rz (Vi 0) R ?_))));obtain rfl:=Sj a;exact ⟨R,f⟩
def VX (c:List (Int×Int×Int×Int×Int)) (d:Int×Int):Option (Mm (Int×Int) Int):=
match d with
| (b,a)=>
(if (decide (a<((c).length:Int)))=true then
((idx c a).bind fun e=>
(if (decide (e.2.2.2.2>0))=true then
some (.next (M4 (b+1),M4 (a+1)))
else
some (.next (b,M4 (a+1)))))
else
some (.done b))
def W8 (c:List (Int×Int×Int×Int×Int)):Option Int:=
((loop (VX c) (0,0)).bind fun a=>match a with
| b=>some b)
theorem M2o (f g d s e n)(p:MS e [n])(k:Ma (M3 eI (M7)) e (fl [n]) f g d)(b:W8 d=some s):Md Tryz.prog 69 [Vl f d g] e fun y m=>y=Vi s∧Ev [] e m:=by
 refine Cw hmx Tryz.func69 R R R ?_;have j:=Ev.refl [] e;have o:=FR.nil e.heap.size;refine Cs (Xu 1 [(2,Vi 0)] (Xk (Cs (Xu 1 [(3,Vi 0)] (Xk (Cq (Cs (Xu 1 [(4,Vi 0)] (Xk ?_)))))))));refine Cb ?_;obtain ⟨t,q,u⟩:=Bs b;obtain ⟨i,q⟩:=Lo q;refine Cl (Lr hmx (σ:=Nat×Int×Int) (fun l=>match l with | (_,c,a)=>[(0,Vl f d g),(3,Vi c),(4,Vi a)]) (fun l m=>match l with | (x,c,a)=>Mh (VX d) x (c,a)=some t∧Ev [] e m∧MS m [n]∧FR e.heap.size []∧Ma (M3 eI (M7)) m (fl [n]) f g d) (fun l=>l.1) (i,0,0) ⟨R,R,R,T0⟩ ⟨q,j,p,o,k⟩ ?_);rintro ⟨i,c,a⟩ r B ⟨h,j,p,o,k⟩;rcases i with _ | i
 · exact (Lz h).elim
 obtain ⟨A,b,h⟩:=Bs h;refine Cq (Cs (Xu 2 [(5,Vi a),(6,Vl f d g)] (Xz MF R (Xu 1 [(8,Bd (a<((d).length:Int)))] (Xk (Cn [(0,Vl f d g),(3,Vi c),(4,Vi a),(8,Bd (a<((d).length:Int)))] (fun r=>?_)))))));refine Ci _ R b (fun b=>?_) (fun b=>?_)
 · refine Ck (Kt (Cq (Cb (Cs (Xu 2 [(11,Vl f d g),(12,Vi a)] ?_)))));obtain ⟨z,v,b⟩:=Bs b;refine Xq (k.el MF) RY M5 v R (fun _=>R) (fun _=>Xu 1 [(16,Bd (z.2.2.2.2>0))] (Xk (Ci _ R b (fun b=>?_) (fun b=>?_))))
   · refine Cp (Xu 3 [(17,Vi c),(18,Vi (M4 (c+1))),(3,Vi (M4 (c+1)))] (Xe R (Kl (Kt (Cp (Xu 3 [(9,Vi a),(10,Vi (M4 (a+1))),(4,Vi (M4 (a+1)))] (Xe R ?_)))))));obtain rfl:=Sj b;exact Kt ⟨(i,M4 (c+1),M4 (a+1)),⟨R,R,R,T0⟩,⟨h,j,p,o,k⟩,Ns _⟩
   refine Ck (Kl (Kt (Cp (Xu 3 [(9,Vi a),(10,Vi (M4 (a+1))),(4,Vi (M4 (a+1)))] (Xe R ?_)))));obtain rfl:=Sj b;exact Kt ⟨(i,c,M4 (a+1)),⟨R,R,R,T0⟩,⟨h,j,p,o,k⟩,Ns _⟩
 refine Ce (Ke ?_);obtain rfl:=Sj b;have w:=Sj h;subst w;have b:=u;refine Ke (Ki (Kt (Cn [(3,Vi c)] (fun r=>?_))));refine Cs (Xu 2 [(19,Vi c),(2,Vi c)] (Xk (Cr (Rz (Vi c) R ?_))));obtain rfl:=Sj b;exact ⟨R,j⟩
def X4 (b:List Int) (c:Int):Option (Mm Int (Unit⊕Unit)):=
match c with
| a=>
(if (decide (a<((b).length:Int)))=true then
((idx b a).bind fun d=>
(if (decide (d<(-1)))=true then
some (.done (.inl ()))
else
((idx b a).bind fun e=>
(if (decide (e>20000))=true then
some (.done (.inl ()))
else
some (.next (M4 (a+1)))))))
else
some (.done (.inr ())))
def XC (b:List Int):Option Bool:=
((loop (X4 b) 0).bind fun a=>match a with
| (.inl _)=>some false
| (.inr _)=>some true)
theorem M3M (d e c t f n)(r:MS f [n])(i:Ma eI f (fl [n]) d e c)(a:XC c=some t):Md Tryz.prog 70 [Vl d c e] f fun A m=>A=.bool t∧Ev [] f m:=by
 refine Cw hmx Tryz.func70 R R R ?_;have h:=Ev.refl [] f;have q:=FR.nil f.heap.size;refine Cs (Xu 1 [(2,.bool false)] (Xk (Cq (Cs (Xu 1 [(3,Vi 0)] (Xk (Cb ?_)))))));obtain ⟨w,p,o⟩:=Bs a;obtain ⟨k,p⟩:=Lo p;refine Cl (Lr hmx (σ:=Nat×Int) (fun l=>match l with | (_,b)=>[(0,Vl d c e),(3,Vi b)]) (fun l m=>match l with | (z,b)=>Mh (X4 c) z b=some w∧Ev [] f m∧MS m [n]∧FR f.heap.size []∧Ma eI m (fl [n]) d e c) (fun l=>l.1) (k,0) ⟨R,R,T0⟩ ⟨p,h,r,q,i⟩ ?_);rintro ⟨k,b⟩ s C ⟨g,h,r,q,i⟩;rcases k with _ | k
 · exact (Lz g).elim
 obtain ⟨B,a,g⟩:=Bs g;refine Cq (Cs (Xu 2 [(4,Vi b),(5,Vl d c e)] (Xz MB R (Xu 1 [(7,Bd (b<((c).length:Int)))] (Xk (Cn [(0,Vl d c e),(3,Vi b),(7,Bd (b<((c).length:Int)))] (fun s=>?_)))))));refine Ci _ R a (fun a=>?_) (fun a=>?_)
 · refine Ck (Kt (Cq (Cb (Cs (Xu 2 [(10,Vl d c e),(11,Vi b)] ?_)))));obtain ⟨u,x,a⟩:=Bs a;refine Z6 (i.el MB) M5 x R (fun _=>R) (fun _=>Xu 2 [(14,Bd (u<(-1))),(15,Bd (u<(-1)))] (Xw 15 _ R a (fun a=>?_) (fun a=>?_)))
   · refine Xu 6 [(16,U0),(17,U0),(18,U0),(19,U0),(20,U0),(21,.bool true)] (Xk (Me R (Cs (Xu 1 [(2,.bool false)] (Xk (Cr (Kb (Kr ?_))))))));obtain rfl:=Sj a;have j:=Sj g;subst j;have a:=o;refine Kr (Kb (Kr (Rz (.bool false) R ?_)));obtain rfl:=Sj a;exact ⟨R,h⟩
   refine Xu 2 [(16,Vl d c e),(17,Vi b)] ?_;obtain ⟨v,y,a⟩:=Bs a;refine Z6 (i.el MB) M5 y R (fun _=>R) (fun _=>Xu 2 [(20,Bd (v>20000)),(21,Bd (v>20000))] (Xk (Ci _ R a (fun a=>?_) (fun a=>?_))))
   · refine Cs (Xu 1 [(2,.bool false)] (Xk (Cr (Kb (Kr ?_)))));obtain rfl:=Sj a;have j:=Sj g;subst j;have a:=o;refine Kr (Kb (Kr (Rz (.bool false) R ?_)));obtain rfl:=Sj a;exact ⟨R,h⟩
   refine Ck (Kl (Kt (Cp (Xu 3 [(8,Vi b),(9,Vi (M4 (b+1))),(3,Vi (M4 (b+1)))] (Xe R ?_)))));obtain rfl:=Sj a;exact Kt ⟨(k,M4 (b+1)),⟨R,R,T0⟩,⟨g,h,r,q,i⟩,Ns _⟩
 refine Ce (Ke ?_);obtain rfl:=Sj a;have j:=Sj g;subst j;have a:=o;refine Ke (Ki (Kt (RJ [] T0 (fun s=>?_))));refine Cs (Xu 1 [(2,.bool true)] (Xk (Cr (Rz (.bool true) R ?_))));obtain rfl:=Sj a;exact ⟨R,h⟩
def X5 (b:List (Int×Int)) (d:Bool×Int):Option (Mm (Bool×Int) Bool):=
match d with
| (c,a)=>
(if (decide (a<((b).length:Int)))=true then
(if c=true then
((idx b a).bind fun e=>
(if (decide (e.1≥(-5000)))=true then
((idx b a).bind fun f=>
some (.next (decide (f.2≤10000),M4 (a+1))))
else
some (.next (false,M4 (a+1)))))
else
some (.next (false,M4 (a+1))))
else
some (.done c))
def P1 (d:List (Int×Int)) (b:Bool):Option Int:=
((loop (X5 d) (b,0)).bind fun a=>match a with
| c=>(if (!c)=true then
some 2
else
some 0))
def X6 (b:List (Int×Int)) (d:Int):Option (Mm Int (Unit⊕Unit)):=
match d with
| a=>
(if (decide (a<((b).length:Int)))=true then
((idx b a).bind fun c=>
((Yk c.1 c.2).bind fun e=>
(if (!e)=true then
some (.done (.inl ()))
else
some (.next (M4 (a+1))))))
else
some (.done (.inr ())))
def YL (b:List (Int×Int×Int×Int×Int)) (c:Int) (d:Int) (a:List (Int×Int)) (e:Int) (f:List Int):Option Int:=
((Yk c d).bind fun i=>
(if (!i)=true then
some 1
else
(if (((a).length:Int)!=((b).length:Int))=true then
some 1
else
((W8 b).bind fun j=>
(if (((f).length:Int)!=j)=true then
some 1
else
((loop (X6 a) 0).bind fun g=>match g with
| (.inl _)=>some 1
| (.inr _)=>(if (decide (c≥0))=true then
(if (decide (d≤20000))=true then
(if (decide (e≥0))=true then
(if (decide (e≤1000))=true then
((XC f).bind fun h=>
P1 a h)
else
P1 a false)
else
P1 a false)
else
P1 a false)
else
P1 a false)))))))
theorem M4A (K L B A y p q k u v w n ac r C)(f:MS r [C])(F:Ma (M3 eI (M7)) r (fl [C]) K L B)(h:Ma (M3 eI eI) r (fl [C]) p q k)(i:Ma eI r (fl [C]) v w n)(a:YL B A y k u n=some ac):Md Tryz.prog 38 [Vl K B L,.agg #[Vi A,Vi y,Vl p k q,Vi u,Vl v n w]] r fun Q l=>Q=Vi ac∧Ev [] r l:=by
 refine Cw hmx Tryz.func38 R R R ?_;have g:=Ev.refl [] r;have m:=FR.nil r.heap.size;refine Cs (Xo R (fun c aj ai d ar=>?_));have m:=m.box g.size ai;obtain ⟨F,h,i,f,g⟩:=E5 (Cx.b f ar ai d) F h i f g;refine Xu 1 [(4,Vi 0)] (Xk (Cq (Cq (Cd [] [(0,false),(1,false),(2,true),(3,false),(4,false),(5,false),(6,false),(7,false),(8,false),(9,false),(10,false),(11,false),(12,false),(13,false),(14,false),(15,false),(16,false),(17,false),(18,false),(19,false)] _ (by kernel_rfl) R ?_))));obtain ⟨F,h,i,d,f,g⟩:=E6 (Cx.e f (Ev.drew aj)) F h i d f g;refine Yf (Vp c 0) (Vp c 0) R (Rf WT _) (Yl _ _ R (Ra 0 [Vi A,Vi y] RK d nn R) ?_);obtain ⟨al,G,a⟩:=Bs a;have D:=M27 A y _ (aj).drew G;refine Xv D R ?_;rintro Q ay ⟨rfl,au⟩;obtain ⟨F,h,i,d,f,g⟩:=E6 (Cx.e f au) F h i d f g;refine Xu 2 [(11,.bool (!al)),(12,.bool (!al))] (Xw 12 _ R a (fun a=>?_) (fun a=>?_))
 · refine Xu 15 (Un 13 6++[(19,.bool true),(20,.bool true)]++Un 21 6++[(27,.bool true)]) (Xk (Cn [(3,Vp c 0),(27,.bool true)] (fun s=>?_)));refine Me R (Cs (Xu 1 [(4,Vi 1)] (Xk (Cr (Kr (Rz (Vi 1) R ?_))))));obtain rfl:=Sj a;exact ⟨R,g⟩
 refine Yg c 0 2 (Vl p k q) R R (Rf Vg _) Wt d nn R (Xz M07 R (Xu 1 [(16,Vl K B L)] (Xz MF R (Xu 3 [(18,.bool (((k).length:Int)!=((B).length:Int))),(19,.bool (((k).length:Int)!=((B).length:Int))),(20,.bool (((k).length:Int)!=((B).length:Int)))] (Xw 20 _ R a (fun a=>?_) (fun a=>?_))))))
 · refine Xu 7 (Un 21 6++[(27,.bool true)]) (Xk (Cn [(3,Vp c 0),(27,.bool true)] (fun s=>?_)));refine Me R (Cs (Xu 1 [(4,Vi 1)] (Xk (Cr (Kr (Rz (Vi 1) R ?_))))));obtain rfl:=Sj a;exact ⟨R,g⟩
 refine Yg c 0 4 (Vl v n w) R R (Rf Y3 _) Mp d nn R (Xz MB R (Xu 1 [(24,Vl K B L)] ?_));obtain ⟨af,G,a⟩:=Bs a;obtain ⟨Z,aa⟩:=Kc f [] [0,1];have D:=M2o K L B _ ay _ Z (F.sub aa) G;refine Xc 69 #[] #[] _ _ R R R R D ?_;rintro Q aC ⟨rfl,ah⟩;refine ⟨.inr ah,?_⟩;obtain ⟨h,i,d,f,g⟩:=E5 (Cx.e f ah) h i d f g;refine Xu 2 [(26,.bool (((n).length:Int)!=af)),(27,.bool (((n).length:Int)!=af))] (Xk (Cn [(3,Vp c 0),(27,.bool (((n).length:Int)!=af))] (fun s=>?_)));refine Ci _ R a (fun a=>?_) (fun a=>?_)
 · refine Cs (Xu 1 [(4,Vi 1)] (Xk (Cr (Kr (Rz (Vi 1) R ?_)))));obtain rfl:=Sj a;exact ⟨R,g⟩
 refine Ck (Kt (Cq (Cs (Xu 1 [(5,Vi 0)] (Xk (Cb ?_))))));obtain ⟨am,X,ag⟩:=Bs a;obtain ⟨O,X⟩:=Lo X;refine Cl (Lr hmx (σ:=Nat×Int) (fun o=>match o with | (_,t)=>[(3,Vp c 0),(5,Vi t)]) (fun o l=>match o with | (ab,t)=>Mh (X6 k) ab t=some am∧Ev [] r l∧(fun z=>MS l z∧FR r.heap.size [[c]]∧Ma (M3 eI eI) l (fl z) p q k∧Ma eI l (fl z) v w n∧l.heap[c]? = some (.cells #[Vi A,Vi y,Vl p k q,Vi u,Vl v n w] 73 (0,0))) [[c],C]) (fun o=>o.1) (O,0) ⟨R,R,T0⟩ ⟨X,g,f,m,h,i,d⟩ ?_);rintro ⟨O,t⟩ s ak ⟨I,g,f,m,h,i,d⟩;rcases O with _ | O
 · exact (Lz I).elim
 obtain ⟨aA,a,I⟩:=Bs I;refine Cq (Cs (Xu 1 [(28,Vi t)] (Yg c 0 2 (Vl p k q) R R (Rf Vg _) Wt d nn R (Xz M07 R (Xu 1 [(32,Bd (t<((k).length:Int)))] (Xk (Cn [(3,Vp c 0),(5,Vi t),(32,Bd (t<((k).length:Int)))] (fun s=>?_))))))));refine Ci _ R a (fun a=>?_) (fun a=>?_)
 · refine Ck (Kt (Cq (Cb (Cs (Yg c 0 2 (Vl p k q) R R (Rf Vg _) Wt d nn R (Xu 1 [(37,Vi t)] ?_))))));obtain ⟨U,av,a⟩:=Bs a;refine Zf [Vi U.1,Vi U.2] (h.el M07) RK av R (fun _=>R) (fun _=>?_);obtain ⟨az,G,a⟩:=Bs a;have D:=M27 U.1 U.2 _ ak G;refine Xv D R ?_;rintro Q aD ⟨rfl,ap⟩;obtain ⟨d,h,i,f,g⟩:=E5 (Cx.e f ap) d h i f g;refine Xu 1 [(41,.bool (!az))] (Xk (Ci _ R a (fun a=>?_) (fun a=>?_)))
   · refine Cs (Xu 1 [(4,Vi 1)] (Xk (Cr (Kb (Kr ?_)))));obtain rfl:=Sj a;have N:=Sj I;subst N;have a:=ag;refine Kr (Kb (Kr (Rz (Vi 1) R ?_)));obtain rfl:=Sj a;exact ⟨R,g⟩
   refine Ck (Kl (Kt (Cp (Xu 3 [(33,Vi t),(34,Vi (M4 (t+1))),(5,Vi (M4 (t+1)))] (Xe R ?_)))));obtain rfl:=Sj a;exact Kt ⟨(O,M4 (t+1)),⟨R,R,T0⟩,⟨I,g,f,m,h,i,d⟩,Ns _⟩
 refine Ce (Ke ?_);obtain rfl:=Sj a;have N:=Sj I;subst N;have a:=ag;refine Ke (Ki (Kt (Cn [(3,Vp c 0)] (fun s=>?_))));refine Pg (σ:=Bool) (fun o=>match o with | J=>[(3,Vp c 0),(6,.bool J)]) (fun o l=>match o with | J=>P1 k J=some ac∧Ev [] r l∧(fun z=>MS l z∧FR r.heap.size [[c]]∧Ma (M3 eI eI) l (fl z) p q k∧Ma eI l (fl z) v w n∧l.heap[c]? = some (.cells #[Vi A,Vi y,Vl p k q,Vi u,Vl v n w] 73 (0,0))) [[c],C]) ?_ ?_
 · refine Cp (Yf (Vp c 0) (Vp c 0) R (Rf WT _) (Yg c 0 0 (Vi A) R R (Rf P7 _) M5 d nn R (Xu 2 [(45,Bd (A≥0)),(46,Bd (A≥0))] (Xw 46 _ R a (fun a=>?_) (fun a=>?_)))))
   · refine Yf (Vp c 0) (Vp c 0) R (Rf WT _) (Yg c 0 1 (Vi y) R R (Rf MO _) M5 d nn R (Xu 3 [(50,Bd (y≤20000)),(51,Bd (y≤20000)),(52,Bd (y≤20000))] (Xw 52 _ R a (fun a=>?_) (fun a=>?_))))
     · refine Yg c 0 3 (Vi u) R R (Rf M2X _) M5 d nn R (Xu 3 [(55,Bd (u≥0)),(56,Bd (u≥0)),(57,Bd (u≥0))] (Xw 57 _ R a (fun a=>?_) (fun a=>?_)))
       · refine Yg c 0 3 (Vi u) R R (Rf M2X _) M5 d nn R (Xu 3 [(60,Bd (u≤1000)),(61,Bd (u≤1000)),(62,Bd (u≤1000))] (Xw 62 _ R a (fun a=>?_) (fun a=>?_)))
         · refine Yg c 0 4 (Vl v n w) R R (Rf Y3 _) Mp d nn R ?_;obtain ⟨ad,G,a⟩:=Bs a;obtain ⟨Z,aa⟩:=Kc f [] [0,1];have D:=M3M v w n _ ak _ Z (i.sub aa) G;refine Xv D R ?_;rintro Q aE ⟨rfl,aq⟩;obtain ⟨d,h,i,f,g⟩:=E5 (Cx.e f aq) d h i f g;refine Xu 2 [(66,.bool ad),(6,.bool ad)] (Xe R ?_);exact Kt ⟨ad,⟨R,R,T0⟩,a,g,f,m,h,i,d⟩
         refine Xu 5 [(63,U0),(64,U0),(65,U0),(66,.bool false),(6,.bool false)] (Xe R ?_);exact Kt ⟨false,⟨R,R,T0⟩,a,g,f,m,h,i,d⟩
       refine Xu 10 [(58,U0),(59,U0),(60,U0),(61,.bool false),(62,.bool false),(63,U0),(64,U0),(65,U0),(66,.bool false),(6,.bool false)] (Xe R ?_);exact Kt ⟨false,⟨R,R,T0⟩,a,g,f,m,h,i,d⟩
     refine Xu 15 [(53,U0),(54,U0),(55,U0),(56,.bool false),(57,.bool false),(58,U0),(59,U0),(60,U0),(61,.bool false),(62,.bool false),(63,U0),(64,U0),(65,U0),(66,.bool false),(6,.bool false)] (Xe R ?_);exact Kt ⟨false,⟨R,R,T0⟩,a,g,f,m,h,i,d⟩
   refine Xu 21 [(47,U0),(48,U0),(49,U0),(50,U0),(51,.bool false),(52,.bool false),(53,U0),(54,U0),(55,U0),(56,.bool false),(57,.bool false),(58,U0),(59,U0),(60,U0),(61,.bool false),(62,.bool false),(63,U0),(64,U0),(65,U0),(66,.bool false),(6,.bool false)] (Xe R ?_);exact Kt ⟨false,⟨R,R,T0⟩,a,g,f,m,h,i,d⟩
 rintro J s aF ⟨a,g,f,m,h,i,d⟩;refine Cq (Cs (Xu 1 [(7,Vi 0)] (Xk (Cn [(3,Vp c 0),(6,.bool J),(7,Vi 0)] (fun s=>?_)))));refine Cb ?_;obtain ⟨an,Y,ao⟩:=Bs a;obtain ⟨H,Y⟩:=Lo Y;refine Cl (Lr hmx (σ:=Nat×Bool×Int) (fun o=>match o with | (_,x,j)=>[(3,Vp c 0),(6,.bool x),(7,Vi j)]) (fun o l=>match o with | (ab,x,j)=>Mh (X5 k) ab (x,j)=some an∧Ev [] r l∧(fun z=>MS l z∧FR r.heap.size [[c]]∧Ma (M3 eI eI) l (fl z) p q k∧Ma eI l (fl z) v w n∧l.heap[c]? = some (.cells #[Vi A,Vi y,Vl p k q,Vi u,Vl v n w] 73 (0,0))) [[c],C]) (fun o=>o.1) (H,J,0) ⟨R,R,R,T0⟩ ⟨Y,g,f,m,h,i,d⟩ ?_);rintro ⟨H,x,j⟩ s aG ⟨E,g,f,m,h,i,d⟩;rcases H with _ | H
 · exact (Lz E).elim
 obtain ⟨aB,a,E⟩:=Bs E;refine Cq (Cs (Xu 1 [(67,Vi j)] (Yg c 0 2 (Vl p k q) R R (Rf Vg _) Wt d nn R (Xz M07 R (Xu 1 [(71,Bd (j<((k).length:Int)))] (Xk (Cn [(3,Vp c 0),(6,.bool x),(7,Vi j),(71,Bd (j<((k).length:Int)))] (fun s=>?_))))))));refine Ci _ R a (fun a=>?_) (fun a=>?_)
 · refine Ck (Kt (Cq (Cb (Cp (Xu 2 [(74,.bool x),(75,.bool x)] (Xw 75 x R a (fun a=>?_) (fun a=>?_)))))))
   · refine Yg c 0 2 (Vl p k q) R R (Rf Vg _) Wt d nn R (Xu 1 [(78,Vi j)] ?_);obtain ⟨ae,aw,a⟩:=Bs a;refine Xq (h.el M07) P7 M5 aw R (fun _=>R) (fun _=>Xu 3 [(82,Bd (ae.1≥(-5000))),(83,Bd (ae.1≥(-5000))),(84,Bd (ae.1≥(-5000)))] (Xw 84 _ R a (fun a=>?_) (fun a=>?_)))
     · refine Yg c 0 2 (Vl p k q) R R (Rf Vg _) Wt d nn R (Xu 1 [(87,Vi j)] ?_);obtain ⟨S,ax,a⟩:=Bs a;refine Xq (h.el M07) MO M5 ax R (fun _=>R) (fun _=>Xu 3 [(91,Bd (S.2≤10000)),(92,Bd (S.2≤10000)),(6,Bd (S.2≤10000))] (Xe R (Kl (Kt (Cn [(3,Vp c 0),(6,Bd (S.2≤10000)),(7,Vi j)] (fun s=>?_))))));refine Cp (Xu 3 [(72,Vi j),(73,Vi (M4 (j+1))),(7,Vi (M4 (j+1)))] (Xe R ?_));obtain rfl:=Sj a;exact Kt ⟨(H,decide (S.2≤10000),M4 (j+1)),⟨R,R,R,T0⟩,⟨E,g,f,m,h,i,d⟩,Ns _⟩
     refine Xu 9 [(85,U0),(86,U0),(87,U0),(88,U0),(89,U0),(90,U0),(91,U0),(92,.bool false),(6,.bool false)] (Xe R (Kl (Kt (Cn [(3,Vp c 0),(6,.bool false),(7,Vi j)] (fun s=>?_)))));refine Cp (Xu 3 [(72,Vi j),(73,Vi (M4 (j+1))),(7,Vi (M4 (j+1)))] (Xe R ?_));obtain rfl:=Sj a;exact Kt ⟨(H,false,M4 (j+1)),⟨R,R,R,T0⟩,⟨E,g,f,m,h,i,d⟩,Ns _⟩
   refine Xu 18 [(76,U0),(77,U0),(78,U0),(79,U0),(80,U0),(81,U0),(82,U0),(83,.bool false),(84,.bool false),(85,U0),(86,U0),(87,U0),(88,U0),(89,U0),(90,U0),(91,U0),(92,.bool false),(6,.bool false)] (Xe R (Kl (Kt (Cn [(3,Vp c 0),(6,.bool false),(7,Vi j)] (fun s=>?_)))));refine Cp (Xu 3 [(72,Vi j),(73,Vi (M4 (j+1))),(7,Vi (M4 (j+1)))] (Xe R ?_));obtain rfl:=Sj a;exact Kt ⟨(H,false,M4 (j+1)),⟨R,R,R,T0⟩,⟨E,g,f,m,h,i,d⟩,Ns _⟩
 refine Ce (Ke ?_);obtain rfl:=Sj a;have N:=Sj E;subst N;have a:=ao;refine Ke (Ki (Kt (Cn [(6,.bool x)] (fun s=>?_))));refine Cq (Cs (Xu 2 [(93,.bool x),(94,.bool (!x))] (Xk (Ci _ R a (fun a=>?_) (fun a=>?_)))))
 · refine Cs (Xu 1 [(4,Vi 2)] (Xk (Cr (Kr (Rz (Vi 2) R ?_)))));obtain rfl:=Sj a;exact ⟨R,g⟩
 refine Ck (Kt (Cs (Xu 1 [(4,Vi 0)] (Xk (Cr (Rz (Vi 0) R ?_))))));obtain rfl:=Sj a;exact ⟨R,g⟩
def M16 (d:Int) (a:Int) (b:Int) (e:Int) (f:Int) (c:Int):Option Int:=
some (M4 ((M4 (19620*(M4 (b-c))))*a))
theorem M38 (h c a i j b k e)(l:M16 h c a i j b=some k):Md Tryz.prog 72 [.agg #[Vi h,Vi c,Vi a,Vi i,Vi j],Vi b] e fun n o=>n=Vi k∧Ev [] e o:=by
 refine Cw hmx Tryz.func72 R R R ?_;have d:=Ev.refl [] e;refine Cs (Xo R (fun f q p g m=>?_));have d:=d.ext m;refine Xu 1 [(4,Vi 0)] (Xk (Cs (Yg f 0 2 (Vi a) R R (Rf Zi _) M5 g nn R (Xu 3 [(7,Vi b),(8,Vi (M4 (a-b))),(9,Vi (M4 (19620*(M4 (a-b)))))] (Yg f 0 1 (Vi c) R R (Rf Pj _) M5 g nn R (Xu 2 [(12,Vi (M4 ((M4 (19620*(M4 (a-b))))*c))),(4,Vi (M4 ((M4 (19620*(M4 (a-b))))*c)))] (Xk ?_)))))));refine Cr (Rz (Vi (M4 ((M4 (19620*(M4 (a-b))))*c))) R ?_);obtain rfl:=Sj l;exact ⟨R,d⟩
def VF (d:Int) (h:Int) (e:Int) (i:Int) (a:Int) (f:Int) (j:Int) (b:Int) (c:Int) (l:Int) (m:Int) (g:Bool):Option ((Int×Int)×(Int×Int)×Bool×Bool):=
(if M4 (b+c)≠0 then
(if (!g)=true then
((M37 (M4 (2000*a)) (M4 (l+m))).bind fun k=>
some ((if (M4 (d+(M4 (Int.tdiv (M4 (2000*a)) (M4 (b+c))))))<1000000000 then (M4 (d+(M4 (Int.tdiv (M4 (2000*a)) (M4 (b+c)))))) else 1000000000,if (M4 (h+k))<1000000000 then (M4 (h+k)) else 1000000000),(if 0>(M4 (e+f)) then 0 else (M4 (e+f)),M4 (i+j)),g,false))
else
some ((if (M4 (d+(M4 (Int.tdiv (M4 (2000*a)) (M4 (b+c))))))<1000000000 then (M4 (d+(M4 (Int.tdiv (M4 (2000*a)) (M4 (b+c)))))) else 1000000000,1000000000),(if 0>(M4 (e+f)) then 0 else (M4 (e+f)),M4 (i+j)),g,false))
else none)
def VG (e:Int) (f:Int) (a:Int) (g:Int) (h:Int) (b:Int) (i:Int) (j:Int) (k:Int) (l:Bool):Option ((Int×Int)×(Int×Int)×Bool×Bool):=
((Ti a).bind fun c=>
((Ti (if 0>(M4 (a+b)) then 0 else (M4 (a+b)))).bind fun d=>
(if l=true then
VF e f a g h b i j k c d true
else
VF e f a g h b i j k c d ((M4 (c+d))==0))))
def M17 (h:Int) (i:Int) (d:Int) (a:Int) (n:Bool) (s:Bool) (j:Int) (b:Int) (k:Int) (l:Int) (m:Int) (o:Int) (p:Int):Option ((Int×Int)×(Int×Int)×Bool×Bool):=
((M16 j b k l m p).bind fun r=>
((M13 r 100000).bind fun e=>
((M16 j b k l m o).bind fun q=>
((M37 q 100000).bind fun c=>
(if (decide ((M4 (a+c))<0))=true then
some ((0,0),(0,0),false,true)
else
((X3 a).bind fun f=>
((X3 (M4 (a+c))).bind fun g=>
(if ((M4 (f+g))==0)=true then
some ((0,0),(0,0),false,true)
else
(if n=true then
VG h i d a b e c f g true
else
VG h i d a b e c f g (decide ((M4 (d+e))<0)))))))))))
theorem M6A (m t d n N av G i H I J aw ax E F)(h:M17 m t d n N av G i H I J aw ax=some E):Md Tryz.prog 39 [.agg #[Vi m,Vi t,Vi d,Vi n,.bool N,.bool av],.agg #[Vi G,Vi i,Vi H,Vi I,Vi J],.agg #[Vi aw,Vi ax]] F fun D x=>D=.agg #[Vi E.1.1,Vi E.1.2,Vi E.2.1.1,Vi E.2.1.2,.bool E.2.2.1,.bool E.2.2.2]∧Ev [] F x:=by
 refine Cw hmx Tryz.func39 R R R ?_;have b:=Ev.refl [] F;have a:=MS.one F;have l:=FR.nil F.heap.size;refine Cs (Xo R (fun o bp aC e aA=>?_));have a:=a.box aA aC e;have l:=l.box b.size aC;have b:=b.ext aA;refine Xo R (fun z bw aF f ay=>?_);have e:=ay.box e nn;have a:=a.box ay aF f;have l:=l.box b.size aF;have b:=b.ext ay;refine Xo R (fun az bG aG L au=>?_);have e:=au.box e nn;have f:=au.box f nn;have a:=a.box au aG L;have l:=l.box b.size aG;have b:=b.ext au;refine Xj #[Vi 0,Vi 0,Vi 0,Vi 0,.bool false,.bool false] R (fun A S aH c ap=>?_);have e:=ap.box e nn;have f:=ap.box f nn;have L:=ap.box L nn;have a:=a.box ap aH c;have l:=l.box b.size aH;have b:=b.ext ap;refine Xk (Cq (Cd [] [(0,false),(1,false),(2,false),(3,false),(4,false),(5,false),(9,false),(10,false),(11,false),(12,false),(13,false),(14,false),(6,false),(7,false),(8,false),(15,false),(16,false),(17,false),(18,false),(19,false)] _ (by kernel_rfl) R ?_));have e:=(Ev.drew S).box e nn;have f:=(Ev.drew S).box f nn;have L:=(Ev.drew S).box L nn;have c:=(Ev.drew S).box c nn;have a:=a.ev (Ev.drew S);have b:=b.ext (Ev.drew S);refine Yf (Vp o 0) (Vp o 2) R (Rf WV _) (Yg o 2 2 (Vi d) R R (Rf P7 _) M5 e nn R (Yl _ _ R (Ra 0 [Vi G,Vi i,Vi H,Vi I,Vi J] R3 f nn R) (Yg az 0 1 (Vi ax) R R (Rf MO _) M5 L nn R (Yf (Vp o 0) (Vp o 2) R (Rf WV _) (Yg o 2 3 (Vi n) R R (Rf MO _) M5 e nn R (Yl _ _ R (Ra 0 [Vi G,Vi i,Vi H,Vi I,Vi J] R3 f nn R) ?_))))));refine Yg az 0 0 (Vi aw) R R (Rf P7 _) M5 L nn R ?_;obtain ⟨bo,v,h⟩:=Bs h;have u:=M38 G i H I J ax _ (S).drew v;refine Xc 72 #[] #[] _ _ R R R R u ?_;rintro D bg ⟨rfl,U⟩;refine ⟨.inr U,?_⟩;have e:=U.box e nn;have f:=U.box f nn;have c:=U.box c nn;have a:=a.ev U;have b:=b.ext U;obtain ⟨g,v,h⟩:=Bs h;have u:=M6w bo 100000 _ bg v;refine Xc 71 #[] #[] _ _ R R R R u ?_;rintro D bh ⟨rfl,X⟩;refine ⟨.inr X,?_⟩;have e:=X.box e nn;have f:=X.box f nn;have c:=X.box c nn;have a:=a.ev X;have b:=b.ext X;refine Xu 1 [(20,Vi (M4 (d+g)))] ?_;obtain ⟨bn,v,h⟩:=Bs h;have u:=M38 G i H I J aw _ bh v;refine Xc 72 #[] #[] _ _ R R R R u ?_;rintro D bi ⟨rfl,Y⟩;refine ⟨.inr Y,?_⟩;have e:=Y.box e nn;have f:=Y.box f nn;have c:=Y.box c nn;have a:=a.ev Y;have b:=b.ext Y;obtain ⟨r,v,h⟩:=Bs h;have u:=M5t bn 100000 _ bi v;refine Xc 73 #[] #[] _ _ R R R R u ?_;rintro D bj ⟨rfl,Z⟩;refine ⟨.inr Z,?_⟩;have e:=Z.box e nn;have f:=Z.box f nn;have c:=Z.box c nn;have a:=a.ev Z;have b:=b.ext Z;refine Xu 3 [(29,Vi (M4 (n+r))),(7,Vi (M4 (d+g))),(8,Vi (M4 (n+r)))] (Xk (Cn [(3,Vp o 0),(4,Vp z 0),(6,Vp A 0),(7,Vi (M4 (d+g))),(8,Vi (M4 (n+r)))] (fun ad=>?_)));refine Cq (Cs (Xu 2 [(30,Vi (M4 (n+r))),(31,Bd ((M4 (n+r))<0))] (Xk (Ci _ R h (fun h=>?_) (fun h=>?_)))))
 · refine Cs (Xg (.agg #[Vi 0,Vi 0,Vi 0,Vi 0,.bool false,.bool true]) R ?_);obtain ⟨bq,a5,aK,a1⟩:=Sa [Vi 0,Vi 0,Vi 0,Vi 0,.bool false,.bool true] R4 c R R R;refine Xp a5 R ?_;have b:=b.th a1 l 0;have c:=aK;refine Xk (Cr (Kr (Rr (Rv [.agg #[Vi 0,Vi 0,Vi 0,Vi 0,.bool false,.bool true]] ⟨⟨_,R,Lv (Ra (Mo:=[]) 0 [Vi 0,Vi 0,Vi 0,Vi 0,.bool false,.bool true] R4 c nn R)⟩,T0⟩ ?_))));obtain rfl:=Sj h;exact ⟨R,b⟩
 refine Ck (Kt (Cs (Yf (Vp o 0) (Vp o 2) R (Rf WV _) (Yg o 2 3 (Vi n) R R (Rf MO _) M5 e nn R ?_))));obtain ⟨j,v,h⟩:=Bs h;have u:=M14 n _ bj v;refine Xv u R ?_;rintro D bk ⟨rfl,ae⟩;have e:=ae.box e nn;have f:=ae.box f nn;have c:=ae.box c nn;have a:=a.ev ae;have b:=b.ext ae;refine Xu 1 [(37,Vi (M4 (n+r)))] ?_;obtain ⟨k,v,h⟩:=Bs h;have u:=M14 (M4 (n+r)) _ bk v;refine Xv u R ?_;rintro D br ⟨rfl,af⟩;have e:=af.box e nn;have f:=af.box f nn;have c:=af.box c nn;have a:=a.ev af;have b:=b.ext af;refine Xu 2 [(39,Vi (M4 (j+k))),(9,Vi (M4 (j+k)))] (Xk (Cq (Cs (Xu 2 [(40,Vi (M4 (j+k))),(41,.bool ((M4 (j+k))==0))] (Xk (Ci _ R h (fun h=>?_) (fun h=>?_)))))))
 · refine Cs (Xg (.agg #[Vi 0,Vi 0,Vi 0,Vi 0,.bool false,.bool true]) R ?_);obtain ⟨bs,a6,aL,a2⟩:=Sa [Vi 0,Vi 0,Vi 0,Vi 0,.bool false,.bool true] R4 c R R R;refine Xp a6 R ?_;have b:=b.th a2 l 0;have c:=aL;refine Xk (Cr (Kr (Rr (Rv [.agg #[Vi 0,Vi 0,Vi 0,Vi 0,.bool false,.bool true]] ⟨⟨_,R,Lv (Ra (Mo:=[]) 0 [Vi 0,Vi 0,Vi 0,Vi 0,.bool false,.bool true] R4 c nn R)⟩,T0⟩ ?_))));obtain rfl:=Sj h;exact ⟨R,b⟩
 refine Ck (Kt (Pg (σ:=Bool×Nat) (fun O=>match O with | (K,p)=>[(3,Vp o 0),(4,Vp z 0),(6,Vp A 0),(7,Vi (M4 (d+g))),(8,Vi (M4 (n+r))),(9,Vi (M4 (j+k))),(10,Vp p 0)]) (fun O x=>match O with | (K,p)=>VG m t d n i g r j k K=some E∧Ev [] F x∧MS x [[o],[z],[A],[p],[]]∧FR F.heap.size [[o],[z],[A],[p]]∧x.heap[o]? = some (.cells #[Vi m,Vi t,Vi d,Vi n,.bool N,.bool av] 82 (0,0))∧x.heap[z]? = some (.cells #[Vi G,Vi i,Vi H,Vi I,Vi J] 75 (0,0))∧x.heap[A]? = some (.cells #[Vi 0,Vi 0,Vi 0,Vi 0,.bool false,.bool false] 82 (0,0))∧x.heap[p]? = some (.cells #[Vi 0,Vi 0,Vi 0,Vi 0,.bool K,.bool false] 82 (0,0))) ?_ ?_))
 · refine Cp (Yg o 0 4 (.bool N) R R (Rf Y4 _) Wm e nn R (Xu 1 [(45,.bool N)] (Xw 45 N R h (fun h=>?_) (fun h=>?_))))
   · refine Xu 3 [(46,U0),(47,U0),(48,.bool true)] (Xg (.agg #[Vi 0,Vi 0,Vi 0,Vi 0,.bool true,.bool false]) R (Xj #[Vi 0,Vi 0,Vi 0,Vi 0,.bool false,.bool false] R (fun aI bt aD aq ag=>?_)));have e:=ag.box e nn;have f:=ag.box f nn;have c:=ag.box c nn;have a:=a.box ag aD aq;have l:=l.box b.size aD;have b:=b.ext ag;obtain ⟨bu,a7,aN,ah⟩:=Sa [Vi 0,Vi 0,Vi 0,Vi 0,.bool true,.bool false] R4 aq R R R;refine Xp a7 R ?_;have e:=ah.box e (a.apart 4 0 R R R _ PI);have f:=ah.box f (a.apart 3 0 R R R _ PI);have c:=ah.box c (a.apart 1 0 R R R _ PI);have a:=a.ev ah;have b:=b.th ah l 0;have aq:=aN;refine Xe R ?_;have a:=E1 (Cx.s a [4,3,1,0,5]) a;have l:=l.px [4,3,1,0];exact Kt ⟨(true,aI),⟨R,R,R,R,R,R,R,T0⟩,h,b,a,l,e,f,c,aq⟩
   refine Xu 3 [(46,Vi (M4 (d+g))),(47,Bd ((M4 (d+g))<0)),(48,Bd ((M4 (d+g))<0))] (Xg (.agg #[Vi 0,Vi 0,Vi 0,Vi 0,Bd ((M4 (d+g))<0),.bool false]) R (Xj #[Vi 0,Vi 0,Vi 0,Vi 0,.bool false,.bool false] R (fun aJ bv aE ar ai=>?_)));have e:=ai.box e nn;have f:=ai.box f nn;have c:=ai.box c nn;have a:=a.box ai aE ar;have l:=l.box b.size aE;have b:=b.ext ai;obtain ⟨bx,a8,aO,aj⟩:=Sa [Vi 0,Vi 0,Vi 0,Vi 0,Bd ((M4 (d+g))<0),.bool false] R4 ar R R R;refine Xp a8 R ?_;have e:=aj.box e (a.apart 4 0 R R R _ PI);have f:=aj.box f (a.apart 3 0 R R R _ PI);have c:=aj.box c (a.apart 1 0 R R R _ PI);have a:=a.ev aj;have b:=b.th aj l 0;have ar:=aO;refine Xe R ?_;have a:=E1 (Cx.s a [4,3,1,0,5]) a;have l:=l.px [4,3,1,0];exact Kt ⟨(decide ((M4 (d+g))<0),aJ),⟨R,R,R,R,R,R,R,T0⟩,h,b,a,l,e,f,c,ar⟩
 rintro ⟨K,p⟩ ad bm ⟨h,b,a,l,e,f,c,q⟩;refine Cs (Xu 1 [(50,Vi (M4 (d+g)))] (M1Y (vs:=[Vi (M4 (d+g)),Vi 0]) (Vi (if 0>(M4 (d+g)) then 0 else (M4 (d+g)))) R R R (fun _ _=>R) (Xu 1 [(7,Vi (if 0>(M4 (d+g)) then 0 else (M4 (d+g))))] (Xk (Cn [(3,Vp o 0),(4,Vp z 0),(6,Vp A 0),(7,Vi (if 0>(M4 (d+g)) then 0 else (M4 (d+g)))),(8,Vi (M4 (n+r))),(9,Vi (M4 (j+k))),(10,Vp p 0)] (fun ad=>?_))))));refine Cs (Yf (Vp o 0) (Vp o 2) R (Rf WV _) (Yg o 2 2 (Vi d) R R (Rf P7 _) M5 e nn R ?_));obtain ⟨B,v,h⟩:=Bs h;have u:=X2 d _ bm v;refine Xv u R ?_;rintro D bl ⟨rfl,aa⟩;have e:=aa.box e nn;have f:=aa.box f nn;have c:=aa.box c nn;have q:=aa.box q nn;have a:=a.ev aa;have b:=b.ext aa;refine Xu 1 [(56,Vi (if 0>(M4 (d+g)) then 0 else (M4 (d+g))))] ?_;obtain ⟨C,v,h⟩:=Bs h;have u:=X2 (if 0>(M4 (d+g)) then 0 else (M4 (d+g))) _ bl v;refine Xv u R ?_;rintro D bz ⟨rfl,ab⟩;have e:=ab.box e nn;have f:=ab.box f nn;have c:=ab.box c nn;have q:=ab.box q nn;have a:=a.ev ab;have b:=b.ext ab;refine Xu 2 [(58,Vi (M4 (B+C))),(11,Vi (M4 (B+C)))] (Xk (Pg (σ:=Bool) (fun O=>match O with | w=>[(3,Vp o 0),(4,Vp z 0),(6,Vp A 0),(7,Vi (if 0>(M4 (d+g)) then 0 else (M4 (d+g)))),(8,Vi (M4 (n+r))),(9,Vi (M4 (j+k))),(10,Vp p 0),(11,Vi (M4 (B+C)))]) (fun O x=>match O with | w=>VF m t d n i g r j k B C w=some E∧Ev [] F x∧MS x [[o],[z],[A],[p],[]]∧FR F.heap.size [[o],[z],[A],[p]]∧x.heap[o]? = some (.cells #[Vi m,Vi t,Vi d,Vi n,.bool N,.bool av] 82 (0,0))∧x.heap[z]? = some (.cells #[Vi G,Vi i,Vi H,Vi I,Vi J] 75 (0,0))∧x.heap[A]? = some (.cells #[Vi 0,Vi 0,Vi 0,Vi 0,.bool false,.bool false] 82 (0,0))∧x.heap[p]? = some (.cells #[Vi 0,Vi 0,Vi 0,Vi 0,.bool w,.bool false] 82 (0,0))) ?_ ?_))
 · refine Cp (Yg p 0 4 (.bool K) R R (Rf Y4 _) Wm q nn R (Xu 1 [(61,.bool K)] (Xw 61 K R h (fun h=>?_) (fun h=>?_))))
   · refine Xu 3 [(62,U0),(63,U0),(64,.bool true)] (Yf (Vp p 0) (Vp p 4) R (Rf Y4 _) ?_);obtain ⟨bA,a9,aQ,ak⟩:=Sx 4 (.bool true) Wm q;refine Xp a9 R ?_;have e:=ak.box e (a.apart 0 3 R R R _ PI);have f:=ak.box f (a.apart 1 3 R R R _ PI);have c:=ak.box c (a.apart 2 3 R R R _ PI);have a:=a.ev ak;have b:=b.th ak l 3;have q:=aQ;refine Xe R ?_;exact Kt ⟨true,⟨R,R,R,R,R,R,R,R,T0⟩,h,b,a,l,e,f,c,q⟩
   refine Xu 3 [(62,Vi (M4 (B+C))),(63,.bool ((M4 (B+C))==0)),(64,.bool ((M4 (B+C))==0))] (Yf (Vp p 0) (Vp p 4) R (Rf Y4 _) ?_);obtain ⟨bB,ba,aS,al⟩:=Sx 4 (.bool ((M4 (B+C))==0)) Wm q;refine Xp ba R ?_;have e:=al.box e (a.apart 0 3 R R R _ PI);have f:=al.box f (a.apart 1 3 R R R _ PI);have c:=al.box c (a.apart 2 3 R R R _ PI);have a:=a.ev al;have b:=b.th al l 3;have q:=aS;refine Xe R ?_;exact Kt ⟨(M4 (B+C))==0,⟨R,R,R,R,R,R,R,R,T0⟩,h,b,a,l,e,f,c,q⟩
 rintro w ad bH ⟨h,b,a,l,e,f,c,q⟩;refine Cs (Xu 2 [(66,Vi (if 0>(M4 (d+g)) then 0 else (M4 (d+g)))),(67,Vi (M4 (n+r)))] (Xg (.agg #[Vi (if 0>(M4 (d+g)) then 0 else (M4 (d+g))),Vi (M4 (n+r))]) R (Yf (Vp p 0) (Vp p 2) R (Rf WV _) ?_)));obtain ⟨ac,bb,aU,am⟩:=Sb 2 [Vi (if 0>(M4 (d+g)) then 0 else (M4 (d+g))),Vi (M4 (n+r))] #[Vi 0,Vi 0,Vi (if 0>(M4 (d+g)) then 0 else (M4 (d+g))),Vi (M4 (n+r)),.bool w,.bool false] RK q R R R;refine Xp bb R ?_;have e:=am.box e (a.apart 0 3 R R R _ PI);have f:=am.box f (a.apart 1 3 R R R _ PI);have c:=am.box c (a.apart 2 3 R R R _ PI);have a:=a.ev am;have b:=b.th am l 3;have q:=aU;refine Xk (Cn [(3,Vp o 0),(4,Vp z 0),(6,Vp A 0),(9,Vi (M4 (j+k))),(10,Vp p 0),(11,Vi (M4 (B+C)))] (fun ad=>?_));refine Cq (Cd [] [(0,false),(1,false),(2,false),(3,false),(4,false),(5,false),(6,false),(7,false),(8,false),(9,false),(10,false),(11,false),(12,true)] _ (by kernel_rfl) R ?_);have e:=(Ev.drew ac).box e nn;have f:=(Ev.drew ac).box f nn;have c:=(Ev.drew ac).box c nn;have q:=(Ev.drew ac).box q nn;have a:=a.ev (Ev.drew ac);have b:=b.ext (Ev.drew ac);refine Yf (Vp o 0) (Vp o 0) R (Rf WU _) (Yg o 0 0 (Vi m) R R (Rf P7 _) M5 e nn R (Yg z 0 1 (Vi i) R R (Rf Pj _) M5 f nn R (Xu 2 [(75,Vi (M4 (2000*i))),(76,Vi (M4 (j+k)))] (MW (Vi (M4 (Int.tdiv (M4 (2000*i)) (M4 (j+k))))) (Vi (M4 (2000*i))) (Vi (M4 (j+k))) R R R R (M0k (Gl h)) ?_))));have h:=Gr h;refine Xu 1 [(78,Vi (M4 (m+(M4 (Int.tdiv (M4 (2000*i)) (M4 (j+k)))))))] (M0K (vs:=[Vi 1000000000,Vi (M4 (m+(M4 (Int.tdiv (M4 (2000*i)) (M4 (j+k))))))]) (Vi (if (M4 (m+(M4 (Int.tdiv (M4 (2000*i)) (M4 (j+k))))))<1000000000 then (M4 (m+(M4 (Int.tdiv (M4 (2000*i)) (M4 (j+k)))))) else 1000000000)) R R R (fun _ _=>R) (Xg (.agg #[Vi (if (M4 (m+(M4 (Int.tdiv (M4 (2000*i)) (M4 (j+k))))))<1000000000 then (M4 (m+(M4 (Int.tdiv (M4 (2000*i)) (M4 (j+k)))))) else 1000000000),Vi 1000000000]) R (Yf (Vp p 0) (Vp p 0) R (Rf WU _) ?_)));obtain ⟨Q,bc,aX,an⟩:=Sb 0 [Vi (if (M4 (m+(M4 (Int.tdiv (M4 (2000*i)) (M4 (j+k))))))<1000000000 then (M4 (m+(M4 (Int.tdiv (M4 (2000*i)) (M4 (j+k)))))) else 1000000000),Vi 1000000000] #[Vi (if (M4 (m+(M4 (Int.tdiv (M4 (2000*i)) (M4 (j+k))))))<1000000000 then (M4 (m+(M4 (Int.tdiv (M4 (2000*i)) (M4 (j+k)))))) else 1000000000),Vi 1000000000,Vi (if 0>(M4 (d+g)) then 0 else (M4 (d+g))),Vi (M4 (n+r)),.bool w,.bool false] RK q R R R;refine Xp bc R ?_;have e:=an.box e (a.apart 0 3 R R R _ PI);have f:=an.box f (a.apart 1 3 R R R _ PI);have c:=an.box c (a.apart 2 3 R R R _ PI);have a:=a.ev an;have b:=b.th an l 3;have q:=aX;refine Xk (Cq (Cs (Yg p 0 4 (.bool w) R R (Rf Y4 _) Wm q nn R (Xu 1 [(84,.bool (!w))] (Xk (Ci _ R h (fun h=>?_) (fun h=>?_)))))))
 · refine Cd [] [(0,false),(1,false),(2,false),(3,false),(4,false),(5,false),(6,false),(7,false),(8,false),(9,false),(10,false),(11,false),(12,true)] _ (by kernel_rfl) R ?_;have e:=(Ev.drew Q).box e nn;have f:=(Ev.drew Q).box f nn;have c:=(Ev.drew Q).box c nn;have q:=(Ev.drew Q).box q nn;have a:=a.ev (Ev.drew Q);have b:=b.ext (Ev.drew Q);refine Yf (Vp o 0) (Vp o 0) R (Rf WU _) (Yg o 0 1 (Vi t) R R (Rf MO _) M5 e nn R (Yg z 0 1 (Vi i) R R (Rf Pj _) M5 f nn R (Xu 2 [(90,Vi (M4 (2000*i))),(91,Vi (M4 (B+C)))] ?_)));obtain ⟨y,v,h⟩:=Bs h;have u:=M5t (M4 (2000*i)) (M4 (B+C)) _ (Q).drew v;refine Xc 73 #[] #[] _ _ R R R R u ?_;rintro D bC ⟨rfl,ao⟩;refine ⟨.inr ao,?_⟩;have c:=ao.box c nn;have q:=ao.box q nn;have a:=a.ev ao;have b:=b.ext ao;refine Xu 1 [(93,Vi (M4 (t+y)))] (M0K (vs:=[Vi 1000000000,Vi (M4 (t+y))]) (Vi (if (M4 (t+y))<1000000000 then (M4 (t+y)) else 1000000000)) R R R (fun _ _=>R) (Yf (Vp p 0) (Vp p 0) R (Rf WU _) (Yf (Vp p 0) (Vp p 1) R (Rf MO _) ?_)));obtain ⟨bD,bd,aY,aB⟩:=Sx 1 (Vi (if (M4 (t+y))<1000000000 then (M4 (t+y)) else 1000000000)) M5 q;refine Xp bd R ?_;have c:=aB.box c (a.apart 2 3 R R R _ PI);have b:=b.th aB l 3;have q:=aY;refine Xk (Cn [(6,Vp A 0),(10,Vp p 0)] (fun ad=>?_));refine Cs (Yl _ _ R (Ra 0 [Vi (if (M4 (m+(M4 (Int.tdiv (M4 (2000*i)) (M4 (j+k))))))<1000000000 then (M4 (m+(M4 (Int.tdiv (M4 (2000*i)) (M4 (j+k)))))) else 1000000000),Vi (if (M4 (t+y))<1000000000 then (M4 (t+y)) else 1000000000),Vi (if 0>(M4 (d+g)) then 0 else (M4 (d+g))),Vi (M4 (n+r)),.bool w,.bool false] R4 q nn R) ?_);obtain ⟨bE,be,aZ,a3⟩:=Sa [Vi (if (M4 (m+(M4 (Int.tdiv (M4 (2000*i)) (M4 (j+k))))))<1000000000 then (M4 (m+(M4 (Int.tdiv (M4 (2000*i)) (M4 (j+k)))))) else 1000000000),Vi (if (M4 (t+y))<1000000000 then (M4 (t+y)) else 1000000000),Vi (if 0>(M4 (d+g)) then 0 else (M4 (d+g))),Vi (M4 (n+r)),.bool w,.bool false] R4 c R R R;refine Xp be R ?_;have b:=b.th a3 l 2;have c:=aZ;refine Xk (Cr (Rr (Rv [.agg #[Vi (if (M4 (m+(M4 (Int.tdiv (M4 (2000*i)) (M4 (j+k))))))<1000000000 then (M4 (m+(M4 (Int.tdiv (M4 (2000*i)) (M4 (j+k)))))) else 1000000000),Vi (if (M4 (t+y))<1000000000 then (M4 (t+y)) else 1000000000),Vi (if 0>(M4 (d+g)) then 0 else (M4 (d+g))),Vi (M4 (n+r)),.bool w,.bool false]] ⟨⟨_,R,Lv (Ra (Mo:=[]) 0 [Vi (if (M4 (m+(M4 (Int.tdiv (M4 (2000*i)) (M4 (j+k))))))<1000000000 then (M4 (m+(M4 (Int.tdiv (M4 (2000*i)) (M4 (j+k)))))) else 1000000000),Vi (if (M4 (t+y))<1000000000 then (M4 (t+y)) else 1000000000),Vi (if 0>(M4 (d+g)) then 0 else (M4 (d+g))),Vi (M4 (n+r)),.bool w,.bool false] R4 c nn R)⟩,T0⟩ ?_)));obtain rfl:=Sj h;exact ⟨R,b⟩
 refine Ck (Kt (Cs (Yl _ _ R (Ra 0 [Vi (if (M4 (m+(M4 (Int.tdiv (M4 (2000*i)) (M4 (j+k))))))<1000000000 then (M4 (m+(M4 (Int.tdiv (M4 (2000*i)) (M4 (j+k)))))) else 1000000000),Vi 1000000000,Vi (if 0>(M4 (d+g)) then 0 else (M4 (d+g))),Vi (M4 (n+r)),.bool w,.bool false] R4 q nn R) ?_)));obtain ⟨bF,bf,a0,a4⟩:=Sa [Vi (if (M4 (m+(M4 (Int.tdiv (M4 (2000*i)) (M4 (j+k))))))<1000000000 then (M4 (m+(M4 (Int.tdiv (M4 (2000*i)) (M4 (j+k)))))) else 1000000000),Vi 1000000000,Vi (if 0>(M4 (d+g)) then 0 else (M4 (d+g))),Vi (M4 (n+r)),.bool w,.bool false] R4 c R R R;refine Xp bf R ?_;have b:=b.th a4 l 2;have c:=a0;refine Xk (Cr (Rr (Rv [.agg #[Vi (if (M4 (m+(M4 (Int.tdiv (M4 (2000*i)) (M4 (j+k))))))<1000000000 then (M4 (m+(M4 (Int.tdiv (M4 (2000*i)) (M4 (j+k)))))) else 1000000000),Vi 1000000000,Vi (if 0>(M4 (d+g)) then 0 else (M4 (d+g))),Vi (M4 (n+r)),.bool w,.bool false]] ⟨⟨_,R,Lv (Ra (Mo:=[]) 0 [Vi (if (M4 (m+(M4 (Int.tdiv (M4 (2000*i)) (M4 (j+k))))))<1000000000 then (M4 (m+(M4 (Int.tdiv (M4 (2000*i)) (M4 (j+k)))))) else 1000000000),Vi 1000000000,Vi (if 0>(M4 (d+g)) then 0 else (M4 (d+g))),Vi (M4 (n+r)),.bool w,.bool false] R4 c nn R)⟩,T0⟩ ?_)));obtain rfl:=Sj h;exact ⟨R,b⟩
def M1M (d:Int) (c:Int) (e:Int) (a:Int) (b:Int):Option (Int×Int):=
some (if (M4 ((if (M4 (a-b))>0 then (M4 (a-b)) else 0)*(if (M4 (a-b))>0 then (M4 (a-b)) else 0)))<d then (M4 ((if (M4 (a-b))>0 then (M4 (a-b)) else 0)*(if (M4 (a-b))>0 then (M4 (a-b)) else 0))) else d,if (M4 (c-e))>(if (M4 ((M4 (a+b))*(M4 (a+b))))<c then (M4 ((M4 (a+b))*(M4 (a+b)))) else c) then (M4 (c-e)) else (if (M4 ((M4 (a+b))*(M4 (a+b))))<c then (M4 ((M4 (a+b))*(M4 (a+b)))) else c))
theorem M5u (e c d a b l i)(o:M1M e c d a b=some l):Md Tryz.prog 40 [.agg #[Vi e,Vi c],Vi d,Vi a,Vi b] i fun v w=>v=.agg #[Vi l.1,Vi l.2]∧Ev [] i w:=by
 refine Cw hmx Tryz.func40 R R R ?_;have f:=Ev.refl [] i;have h:=FR.nil i.heap.size;refine Cs (Xo R (fun j y s g q=>?_));have h:=h.box f.size s;have f:=f.ext q;refine Xj #[Vi 0,Vi 0] R (fun n z t k m=>?_);have g:=m.box g nn;have h:=h.box f.size t;have f:=f.ext m;refine Xk (Cs (Xu 3 [(11,Vi a),(12,Vi b),(13,Vi (M4 (a-b)))] (M1Y (vs:=[Vi 0,Vi (M4 (a-b))]) (Vi (if (M4 (a-b))>0 then (M4 (a-b)) else 0)) R R R (fun _ _=>R) (Xu 5 [(15,Vi a),(16,Vi b),(17,Vi (M4 (a+b))),(9,Vi (if (M4 (a-b))>0 then (M4 (a-b)) else 0)),(10,Vi (M4 (a+b)))] (Xk (Cs (Yg j 0 0 (Vi e) R R (Rf P7 _) M5 g nn R (Xu 3 [(20,Vi (if (M4 (a-b))>0 then (M4 (a-b)) else 0)),(21,Vi (if (M4 (a-b))>0 then (M4 (a-b)) else 0)),(22,Vi (M4 ((if (M4 (a-b))>0 then (M4 (a-b)) else 0)*(if (M4 (a-b))>0 then (M4 (a-b)) else 0))))] ?_))))))));refine M0K (vs:=[Vi e,Vi (M4 ((if (M4 (a-b))>0 then (M4 (a-b)) else 0)*(if (M4 (a-b))>0 then (M4 (a-b)) else 0)))]) (Vi (if (M4 ((if (M4 (a-b))>0 then (M4 (a-b)) else 0)*(if (M4 (a-b))>0 then (M4 (a-b)) else 0)))<e then (M4 ((if (M4 (a-b))>0 then (M4 (a-b)) else 0)*(if (M4 (a-b))>0 then (M4 (a-b)) else 0))) else e)) R R R (fun _ _=>R) (Yg j 0 1 (Vi c) R R (Rf MO _) M5 g nn R (Xu 3 [(26,Vi (M4 (a+b))),(27,Vi (M4 (a+b))),(28,Vi (M4 ((M4 (a+b))*(M4 (a+b)))))] (M0K (vs:=[Vi c,Vi (M4 ((M4 (a+b))*(M4 (a+b))))]) (Vi (if (M4 ((M4 (a+b))*(M4 (a+b))))<c then (M4 ((M4 (a+b))*(M4 (a+b)))) else c)) R R R (fun _ _=>R) (Yg j 0 1 (Vi c) R R (Rf MO _) M5 g nn R (Xu 2 [(32,Vi d),(33,Vi (M4 (c-d)))] (M1Y (vs:=[Vi (if (M4 ((M4 (a+b))*(M4 (a+b))))<c then (M4 ((M4 (a+b))*(M4 (a+b)))) else c),Vi (M4 (c-d))]) (Vi (if (M4 (c-d))>(if (M4 ((M4 (a+b))*(M4 (a+b))))<c then (M4 ((M4 (a+b))*(M4 (a+b)))) else c) then (M4 (c-d)) else (if (M4 ((M4 (a+b))*(M4 (a+b))))<c then (M4 ((M4 (a+b))*(M4 (a+b)))) else c))) R R R (fun _ _=>R) (Xg (.agg #[Vi (if (M4 ((if (M4 (a-b))>0 then (M4 (a-b)) else 0)*(if (M4 (a-b))>0 then (M4 (a-b)) else 0)))<e then (M4 ((if (M4 (a-b))>0 then (M4 (a-b)) else 0)*(if (M4 (a-b))>0 then (M4 (a-b)) else 0))) else e),Vi (if (M4 (c-d))>(if (M4 ((M4 (a+b))*(M4 (a+b))))<c then (M4 ((M4 (a+b))*(M4 (a+b)))) else c) then (M4 (c-d)) else (if (M4 ((M4 (a+b))*(M4 (a+b))))<c then (M4 ((M4 (a+b))*(M4 (a+b)))) else c))]) R ?_)))))));obtain ⟨A,u,p,r⟩:=Sa [Vi (if (M4 ((if (M4 (a-b))>0 then (M4 (a-b)) else 0)*(if (M4 (a-b))>0 then (M4 (a-b)) else 0)))<e then (M4 ((if (M4 (a-b))>0 then (M4 (a-b)) else 0)*(if (M4 (a-b))>0 then (M4 (a-b)) else 0))) else e),Vi (if (M4 (c-d))>(if (M4 ((M4 (a+b))*(M4 (a+b))))<c then (M4 ((M4 (a+b))*(M4 (a+b)))) else c) then (M4 (c-d)) else (if (M4 ((M4 (a+b))*(M4 (a+b))))<c then (M4 ((M4 (a+b))*(M4 (a+b)))) else c))] RK k R R R;refine Xp u R ?_;have f:=f.th r h 0;have k:=p;refine Xk (Cn [(8,Vp n 0)] (fun x=>?_));refine Cr (Rr (Rv [.agg #[Vi (if (M4 ((if (M4 (a-b))>0 then (M4 (a-b)) else 0)*(if (M4 (a-b))>0 then (M4 (a-b)) else 0)))<e then (M4 ((if (M4 (a-b))>0 then (M4 (a-b)) else 0)*(if (M4 (a-b))>0 then (M4 (a-b)) else 0))) else e),Vi (if (M4 (c-d))>(if (M4 ((M4 (a+b))*(M4 (a+b))))<c then (M4 ((M4 (a+b))*(M4 (a+b)))) else c) then (M4 (c-d)) else (if (M4 ((M4 (a+b))*(M4 (a+b))))<c then (M4 ((M4 (a+b))*(M4 (a+b)))) else c))]] ⟨⟨_,R,Lv (Ra (Mo:=[]) 0 [Vi (if (M4 ((if (M4 (a-b))>0 then (M4 (a-b)) else 0)*(if (M4 (a-b))>0 then (M4 (a-b)) else 0)))<e then (M4 ((if (M4 (a-b))>0 then (M4 (a-b)) else 0)*(if (M4 (a-b))>0 then (M4 (a-b)) else 0))) else e),Vi (if (M4 (c-d))>(if (M4 ((M4 (a+b))*(M4 (a+b))))<c then (M4 ((M4 (a+b))*(M4 (a+b)))) else c) then (M4 (c-d)) else (if (M4 ((M4 (a+b))*(M4 (a+b))))<c then (M4 ((M4 (a+b))*(M4 (a+b)))) else c))] RK k nn R)⟩,T0⟩ ?_));obtain rfl:=Sj o;exact ⟨R,f⟩
def VH (k:List (Int×Int×Int×Int×Int)) (l:Int) (m:List Int) (f:List ((Int×Int)×(Int×Int)×Bool×Bool)) (j:Int) (i:Int) (a:Int) (b:Int) (g:Int) (h:Int) (c:Bool) (d:Bool) (n:Bool):Option (Mm (Int×Int×Int×Int×Bool×Bool×(List ((Int×Int)×(Int×Int)×Bool×Bool))×Int×Int) (List ((Int×Int)×(Int×Int)×Bool×Bool))):=
(if n=true then
((idx k i).bind fun o=>
((idx m j).bind fun p=>
((M1M g h o.2.2.2.2 p l).bind fun e=>
(if f.length+([((a,b),(e.1,e.2),c,d)]:List ((Int×Int)×(Int×Int)×Bool×Bool)).length≤4294967296 then
some (.next (a,b,e.1,e.2,c,d,(f++([((a,b),(e.1,e.2),c,d)]:List ((Int×Int)×(Int×Int)×Bool×Bool))),M4 (j+1),M4 (i+1)))
else none))))
else
(if f.length+([((a,b),(g,h),c,d)]:List ((Int×Int)×(Int×Int)×Bool×Bool)).length≤4294967296 then
some (.next (a,b,g,h,c,d,(f++([((a,b),(g,h),c,d)]:List ((Int×Int)×(Int×Int)×Bool×Bool))),M4 (j+1),M4 (i+1)))
else none))
def VI (j:List (Int×Int×Int×Int×Int)) (l:Int) (k:List Int) (g:List ((Int×Int)×(Int×Int)×Bool×Bool)) (i:Int) (h:Int) (b:Int) (c:Int) (d:Int) (e:Int) (f:Bool) (a:Bool):Option (Mm (Int×Int×Int×Int×Bool×Bool×(List ((Int×Int)×(Int×Int)×Bool×Bool))×Int×Int) (List ((Int×Int)×(Int×Int)×Bool×Bool))):=
((idx j h).bind fun m=>
(if (decide (m.2.2.2.2>0))=true then
(if (!a)=true then
((idx k i).bind fun n=>
VH j l k g i h b c d e f a (decide (n≥0)))
else
VH j l k g i h b c d e f a false)
else
(if g.length+([((b,c),(d,e),f,a)]:List ((Int×Int)×(Int×Int)×Bool×Bool)).length≤4294967296 then
some (.next (b,c,d,e,f,a,(g++([((b,c),(d,e),f,a)]:List ((Int×Int)×(Int×Int)×Bool×Bool))),i,M4 (h+1)))
else none)))
def YM (d:List (Int×Int×Int×Int×Int)) (p:List (Int×Int)) (m:Int) (n:List Int) (q:Int×Int×Int×Int×Bool×Bool×(List ((Int×Int)×(Int×Int)×Bool×Bool))×Int×Int):Option (Mm (Int×Int×Int×Int×Bool×Bool×(List ((Int×Int)×(Int×Int)×Bool×Bool))×Int×Int) (List ((Int×Int)×(Int×Int)×Bool×Bool))):=
match q with
| (g,h,i,j,k,f,e,l,b)=>
(if (decide (b<((d).length:Int)))=true then
(if (!f)=true then
((idx d b).bind fun c=>
((idx p b).bind fun o=>
((M17 g h i j k f c.1 c.2.1 c.2.2.1 c.2.2.2.1 c.2.2.2.2 o.1 o.2).bind fun a=>
VI d m n e l b a.1.1 a.1.2 a.2.1.1 a.2.1.2 a.2.2.1 a.2.2.2)))
else
VI d m n e l b g h i j k f)
else
some (.done e))
def M18 (c:List (Int×Int×Int×Int×Int)) (a:Int) (b:Int) (d:List (Int×Int)) (e:Int) (f:List Int):Option ((List ((Int×Int)×(Int×Int)×Bool×Bool))×Int):=
((WK c).bind fun h=>
(if (h != 0)=true then
some ([],h)
else
((YL c a b d e f).bind fun g=>
(if (g != 0)=true then
some ([],g)
else
((loop (YM c d e f) (0,0,M4 (a*a),M4 (b*b),false,false,([((0,0),(M4 (a*a),M4 (b*b)),false,false)]:List ((Int×Int)×(Int×Int)×Bool×Bool)),0,0)).bind fun i=>match i with
| j=>some (j,0))))))
theorem M6B (F G z v w ac ad U aa Y Z N aC S Q)(a:MS S [Q])(g:Ma (M3 eI (M7)) S (fl [Q]) F G z)(i:Ma (M3 eI eI) S (fl [Q]) ac ad U)(h:Ma eI S (fl [Q]) Y Z N)(c:M18 z v w U aa N=some aC):Md Tryz.prog 17 [Vl F z G,.agg #[Vi v,Vi w,Vl ac U ad,Vi aa,Vl Y N Z]] S fun aB t=>∃ au aL,aB=.tuple #[Vl au aC.1 aL,Vi aC.2]∧Ev [] S t∧MS t [Bk au,Q]∧FR S.heap.size [Bk au]∧M9 (M3 (M3 eI eI) (M3 (M3 eI eI) (M3 Pt Pt))) 82 t (fl [Bk au,Q]) au aL aC.1:=by
 refine Cw hmx Tryz.func17 R R R ?_;have d:=Ev.refl [] S;have o:=FR.nil S.heap.size;refine Cs (Xo R (fun n b4 a7 f bt=>?_));have o:=o.box d.size a7;obtain ⟨g,i,h,a,d⟩:=E5 (Cx.b a bt a7 f) g i h a d;refine Xu 2 [(4,Z0),(5,Vi 0)] (Xk (Cq (Cs (Xu 1 [(12,Vl F z G)] ?_))));obtain ⟨ar,ao,c⟩:=Bs c;obtain ⟨aG,az⟩:=Kc a [] [0,1];have am:=Zu F G z _ b4 _ aG (g.sub az) ao;refine Xv am R ?_;rintro aB b5 ⟨rfl,bw⟩;obtain ⟨g,i,h,f,a,d⟩:=E6 (Cx.e a bw) g i h f a d;refine Xu 1 [(6,Vi ar)] (Xk (Cs (Xu 2 [(14,Vi ar),(15,.bool (ar != 0))] (Xk (Ci _ R c (fun c=>?_) (fun c=>?_))))))
 · refine Cs (Xu 3 [(16,Vi ar),(4,Z0),(5,Vi ar)] (Xk (Cr (Kr (Rr (Rv [Z0,Vi ar] ⟨R,R,T0⟩ ?_))))));obtain rfl:=Sj c;have ay:=a.pick [none,some 1] [Bk none,Q] R;have av:=o.pick [none] [Bk none] R;exact ⟨none,0,R,d,ay,av,M9.nil _ _ _ _⟩
 refine Ck (Kt (Cq (Cs (Xu 1 [(17,Vl F z G)] (Yl _ _ R (Ra 0 [Vi v,Vi w,Vl ac U ad,Vi aa,Vl Y N Z] M6q f nn R) ?_)))));obtain ⟨aq,ao,c⟩:=Bs c;obtain ⟨aG,az⟩:=Kc a [] [0,1];have am:=M4A F G z v w ac ad U aa Y Z N _ b5 _ aG (g.sub az) (i.sub az) (h.sub az) ao;refine Xv am R ?_;rintro aB cf ⟨rfl,bo⟩;obtain ⟨g,i,h,f,a,d⟩:=E6 (Cx.e a bo) g i h f a d;refine Xu 1 [(7,Vi aq)] (Xk (Cs (Xu 2 [(20,Vi aq),(21,.bool (aq != 0))] (Xk (Ci _ R c (fun c=>?_) (fun c=>?_))))))
 · refine Cs (Xu 3 [(22,Vi aq),(4,Z0),(5,Vi aq)] (Xk (Cr (Kr (Rr (Rv [Z0,Vi aq] ⟨R,R,T0⟩ ?_))))));obtain rfl:=Sj c;have ay:=a.pick [none,some 1] [Bk none,Q] R;have av:=o.pick [none] [Bk none] R;exact ⟨none,0,R,d,ay,av,M9.nil _ _ _ _⟩
 refine Ck (Kt (Cs (Yf (Vp n 0) (Vp n 0) R (Rf WT _) (Yg n 0 0 (Vi v) R R (Rf P7 _) M5 f nn R (Yf (Vp n 0) (Vp n 0) R (Rf WT _) (Yg n 0 0 (Vi v) R R (Rf P7 _) M5 f nn R (Xu 1 [(29,Vi (M4 (v*v)))] ?_)))))));refine Yf (Vp n 0) (Vp n 0) R (Rf WT _) (Yg n 0 1 (Vi w) R R (Rf MO _) M5 f nn R (Yf (Vp n 0) (Vp n 0) R (Rf WT _) (Yg n 0 1 (Vi w) R R (Rf MO _) M5 f nn R (Xu 1 [(36,Vi (M4 (w*w)))] (Xg (.agg #[Vi (M4 (v*v)),Vi (M4 (w*w))]) R (Xg (.agg #[Vi 0,Vi 0,Vi (M4 (v*v)),Vi (M4 (w*w)),.bool false,.bool false]) R (Xj #[Vi 0,Vi 0,Vi 0,Vi 0,.bool false,.bool false] R (fun A cg a6 k bp=>?_))))))));have o:=o.box d.size a6;obtain ⟨g,i,h,f,a,d⟩:=E6 (Cx.b a bp a6 k) g i h f a d;obtain ⟨ch,bC,bh,aS⟩:=Sa [Vi 0,Vi 0,Vi (M4 (v*v)),Vi (M4 (w*w)),.bool false,.bool false] R4 k R R R;refine Xp bC R ?_;obtain ⟨g,i,h,f,a⟩:=E5 (Cx.j a 0 aS) g i h f a;have d:=d.th aS o 0;have k:=bh;refine Xk (Cn [(0,Vl F z G),(3,Vp n 0),(8,Vp A 0)] (fun ag=>?_));refine Cs (Yl _ _ R (Ra 0 [Vi 0,Vi 0,Vi (M4 (v*v)),Vi (M4 (w*w)),.bool false,.bool false] R4 k nn R) (Xh #[Vi 0,Vi 0,Vi (M4 (v*v)),Vi (M4 (w*w)),.bool false,.bool false] 82 R (fun b8 ci bx bi aU=>?_)));obtain ⟨aE,be,bN,a2⟩:=Ol (e:=(M3 (M3 eI eI) (M3 (M3 eI eI) (M3 Pt Pt)))) bx bi 1 [((0,0),(M4 (v*v),M4 (w*w)),false,false)];obtain ⟨g,i,h,f,k,a⟩:=E6 (Cx.p a aU a2) g i h f k a;have o:=o.push (fun b bg=>Nat.le_trans d.size (a2 b bg).1);have d:=d.ext aU;have m:=bN (fl [Bk aE,[A],[n],Q]);rw [← be];refine Xu 1 [(9,Vl aE (([((0,0),(M4 (v*v),M4 (w*w)),false,false)]:List ((Int×Int)×(Int×Int)×Bool×Bool))) 1)] (Xk (Cs (Xu 1 [(10,Vi 0)] (Xk (Cq (Cs (Xu 1 [(11,Vi 0)] (Xk (Cb ?_)))))))));obtain ⟨g,i,h,m,a⟩:=E5 (Cx.s a [2,1,0,3]) g i h m a;have o:=o.px [2,1,0];obtain ⟨bd,aF,bf⟩:=Bs c;obtain ⟨ap,aF⟩:=Lo aF;refine Cl (Lr hmx (σ:=Nat×Int×Int×Int×Int×Bool×Bool×(List ((Int×Int)×(Int×Int)×Bool×Bool))×Int×Int×Option Addr×Nat) (fun X=>match X with | (_,ah,ai,aj,ak,al,af,x,E,q,r,H)=>[(0,Vl F z G),(3,Vp n 0),(8,Vp A 0),(9,Vl r x H),(10,Vi E),(11,Vi q)]) (fun X t=>match X with | (b3,ah,ai,aj,ak,al,af,x,E,q,r,H)=>Mh (YM z U aa N) b3 (ah,ai,aj,ak,al,af,x,E,q)=some bd∧Ev [] S t∧(fun L=>MS t L∧FR S.heap.size [[n],[A],Bk r]∧Ma (M3 eI (M7)) t (fl L) F G z∧Ma (M3 eI eI) t (fl L) ac ad U∧Ma eI t (fl L) Y Z N∧t.heap[n]? = some (.cells #[Vi v,Vi w,Vl ac U ad,Vi aa,Vl Y N Z] 73 (0,0))∧t.heap[A]? = some (.cells #[Vi ah,Vi ai,Vi aj,Vi ak,.bool al,.bool af] 82 (0,0))∧M9 (M3 (M3 eI eI) (M3 (M3 eI eI) (M3 Pt Pt))) 82 t (fl L) r H x) [[n],[A],Bk r,Q]) (fun X=>X.1) (ap,0,0,M4 (v*v),M4 (w*w),false,false,([((0,0),(M4 (v*v),M4 (w*w)),false,false)]:List ((Int×Int)×(Int×Int)×Bool×Bool)),0,0,aE,1) ⟨R,R,R,R,R,R,T0⟩ ⟨aF,d,a,o,g,i,h,f,k,m⟩ ?_);rintro ⟨ap,ah,ai,aj,ak,al,af,x,E,q,r,H⟩ ag ba ⟨an,d,a,o,g,i,h,f,k,m⟩;rcases ap with _ | ap
 · exact (Lz an).elim
 obtain ⟨a8,c,an⟩:=Bs an;refine Cq (Cs (Xu 2 [(41,Vi q),(42,Vl F z G)] (Xz MF R (Xu 1 [(44,Bd (q<((z).length:Int)))] (Xk (Cn [(0,Vl F z G),(3,Vp n 0),(8,Vp A 0),(9,Vl r x H),(10,Vi E),(11,Vi q),(44,Bd (q<((z).length:Int)))] (fun ag=>?_)))))));refine Ci _ R c (fun c=>?_) (fun c=>?_)
 · refine Ck (Kt (Cq (Cb (Pg (σ:=Int×Int×Int×Int×Bool×Bool) (fun X=>match X with | (B,C,I,J,D,y)=>[(0,Vl F z G),(3,Vp n 0),(8,Vp A 0),(9,Vl r x H),(10,Vi E),(11,Vi q)]) (fun X t=>match X with | (B,C,I,J,D,y)=>VI z aa N x E q B C I J D y=some a8∧Ev [] S t∧(fun L=>MS t L∧FR S.heap.size [[n],[A],Bk r]∧Ma (M3 eI (M7)) t (fl L) F G z∧Ma (M3 eI eI) t (fl L) ac ad U∧Ma eI t (fl L) Y Z N∧t.heap[n]? = some (.cells #[Vi v,Vi w,Vl ac U ad,Vi aa,Vl Y N Z] 73 (0,0))∧t.heap[A]? = some (.cells #[Vi B,Vi C,Vi I,Vi J,.bool D,.bool y] 82 (0,0))∧M9 (M3 (M3 eI eI) (M3 (M3 eI eI) (M3 Pt Pt))) 82 t (fl L) r H x) [[n],[A],Bk r,Q]) ?_ ?_))))
   · refine Cs (Yg A 0 5 (.bool af) R R (Rf Zj _) Wm k nn R (Xu 1 [(49,.bool (!af))] (Xk (Ci _ R c (fun c=>?_) (fun c=>?_)))))
     · refine Cd [] [(0,false),(1,false),(2,false),(3,false),(4,false),(5,false),(6,false),(7,false),(8,false),(9,false),(10,true),(11,true)] _ (by kernel_rfl) R ?_;obtain ⟨g,f,i,h,k,m,a,d⟩:=E8 (Cx.e a (Ev.drew ba)) g f i h k m a d;refine Yl _ _ R (Ra 0 [Vi ah,Vi ai,Vi aj,Vi ak,.bool al,.bool af] R4 k nn R) (Xu 2 [(51,Vl F z G),(52,Vi q)] ?_);obtain ⟨ae,bU,c⟩:=Bs c;refine Zf [Vi ae.1,Vi ae.2.1,Vi ae.2.2.1,Vi ae.2.2.2.1,Vi ae.2.2.2.2] (g.el MF) R3 bU R (fun _=>R) (fun _=>Yg n 0 2 (Vl ac U ad) R R (Rf Vg _) Wt f nn R (Xu 1 [(57,Vi q)] ?_));obtain ⟨aD,bX,c⟩:=Bs c;refine Zf [Vi aD.1,Vi aD.2] (i.el M07) RK bX R (fun _=>R) (fun _=>?_);obtain ⟨ab,ao,c⟩:=Bs c;have am:=M6A ah ai aj ak al af ae.1 ae.2.1 ae.2.2.1 ae.2.2.2.1 ae.2.2.2.2 aD.1 aD.2 _ (ba).drew ao;refine Xv am R ?_;rintro aB cj ⟨rfl,bq⟩;obtain ⟨g,f,i,h,k,m,a,d⟩:=E8 (Cx.e a bq) g f i h k m a d;obtain ⟨ck,bD,bj,aX⟩:=Sa [Vi ab.1.1,Vi ab.1.2,Vi ab.2.1.1,Vi ab.2.1.2,.bool ab.2.2.1,.bool ab.2.2.2] R4 k R R R;refine Xp bD R ?_;obtain ⟨g,f,i,h,m,a⟩:=E6 (Cx.j a 1 aX) g f i h m a;have d:=d.th aX o 1;have k:=bj;refine Xe R ?_;exact Kt ⟨(ab.1.1,ab.1.2,ab.2.1.1,ab.2.1.2,ab.2.2.1,ab.2.2.2),⟨R,R,R,R,R,R,T0⟩,c,d,a,o,g,i,h,f,k,m⟩
     refine Ck ?_;exact Kt ⟨(ah,ai,aj,ak,al,af),⟨R,R,R,R,R,R,T0⟩,c,d,a,o,g,i,h,f,k,m⟩
   rintro ⟨B,C,I,J,D,y⟩ ag ct ⟨c,d,a,o,g,i,h,f,k,m⟩;refine Cq (Cs (Xu 2 [(61,Vl F z G),(62,Vi q)] ?_));obtain ⟨bb,bY,c⟩:=Bs c;refine Xq (g.el MF) RY M5 bY R (fun _=>R) (fun _=>Xu 1 [(66,Bd (bb.2.2.2.2>0))] (Xk (Cn [(0,Vl F z G),(3,Vp n 0),(8,Vp A 0),(9,Vl r x H),(10,Vi E),(11,Vi q),(66,Bd (bb.2.2.2.2>0))] (fun ag=>?_))));refine Ci _ R c (fun c=>?_) (fun c=>?_)
   · refine Cq (Pg (σ:=Bool) (fun X=>match X with | aA=>[(0,Vl F z G),(3,Vp n 0),(8,Vp A 0),(9,Vl r x H),(10,Vi E),(11,Vi q),(77,.bool aA)]) (fun X t=>match X with | aA=>VH z aa N x E q B C I J D y aA=some a8∧Ev [] S t∧(fun L=>MS t L∧FR S.heap.size [[n],[A],Bk r]∧Ma (M3 eI (M7)) t (fl L) F G z∧Ma (M3 eI eI) t (fl L) ac ad U∧Ma eI t (fl L) Y Z N∧t.heap[n]? = some (.cells #[Vi v,Vi w,Vl ac U ad,Vi aa,Vl Y N Z] 73 (0,0))∧t.heap[A]? = some (.cells #[Vi B,Vi C,Vi I,Vi J,.bool D,.bool y] 82 (0,0))∧M9 (M3 (M3 eI eI) (M3 (M3 eI eI) (M3 Pt Pt))) 82 t (fl L) r H x) [[n],[A],Bk r,Q]) ?_ ?_)
     · refine Cp (Yg A 0 5 (.bool y) R R (Rf Zj _) Wm k nn R (Xu 2 [(69,.bool (!y)),(70,.bool (!y))] (Xw 70 _ R c (fun c=>?_) (fun c=>?_))))
       · refine Yg n 0 4 (Vl Y N Z) R R (Rf Y3 _) Mp f nn R (Xu 1 [(73,Vi E)] ?_);obtain ⟨aH,bZ,c⟩:=Bs c;refine Z6 (h.el MB) M5 bZ R (fun _=>R) (fun _=>Xu 2 [(76,Bd (aH≥0)),(77,Bd (aH≥0))] (Xe R ?_));exact Kt ⟨decide (aH≥0),⟨R,R,R,R,R,R,R,T0⟩,c,d,a,o,g,i,h,f,k,m⟩
       refine Xu 7 [(71,U0),(72,U0),(73,U0),(74,U0),(75,U0),(76,U0),(77,.bool false)] (Xe R ?_);exact Kt ⟨false,⟨R,R,R,R,R,R,R,T0⟩,c,d,a,o,g,i,h,f,k,m⟩
     rintro aA ag a9 ⟨c,d,a,o,g,i,h,f,k,m⟩;refine Ci aA R c (fun c=>?_) (fun c=>?_)
     · refine Cd [] [(0,false),(1,false),(2,false),(3,false),(4,false),(5,false),(6,false),(7,false),(8,false),(9,false),(10,false),(11,false),(12,false),(13,false),(14,true),(15,false),(16,true)] _ (by kernel_rfl) R ?_;obtain ⟨g,f,i,h,k,m,a,d⟩:=E8 (Cx.e a (Ev.drew a9)) g f i h k m a d;refine Yf (Vp A 0) (Vp A 2) R (Rf WV _) (Yl _ _ R (Ra 2 [Vi I,Vi J] RK k nn R) (Xu 2 [(80,Vl F z G),(81,Vi q)] ?_));obtain ⟨b6,b0,c⟩:=Bs c;refine Xq (g.el MF) RY M5 b0 R (fun _=>R) (fun _=>Yg n 0 4 (Vl Y N Z) R R (Rf Y3 _) Mp f nn R (Xu 1 [(87,Vi E)] ?_));obtain ⟨b7,b1,c⟩:=Bs c;refine Z6 (h.el MB) M5 b1 R (fun _=>R) (fun _=>Yg n 0 3 (Vi aa) R R (Rf M2X _) M5 f nn R ?_);obtain ⟨O,ao,c⟩:=Bs c;have am:=M5u I J b6.2.2.2.2 b7 aa _ (a9).drew ao;refine Xv am R ?_;rintro aB cl ⟨rfl,br⟩;obtain ⟨g,f,i,h,k,m,a,d⟩:=E8 (Cx.e a br) g f i h k m a d;refine Yf (Vp A 0) (Vp A 2) R (Rf WV _) ?_;obtain ⟨cm,bE,bk,aY⟩:=Sb 2 [Vi O.1,Vi O.2] #[Vi B,Vi C,Vi O.1,Vi O.2,.bool D,.bool y] RK k R R R;refine Xp bE R ?_;obtain ⟨g,f,i,h,m,a⟩:=E6 (Cx.j a 1 aY) g f i h m a;have d:=d.th aY o 1;have k:=bk;refine Xk (Cn [(0,Vl F z G),(3,Vp n 0),(8,Vp A 0),(9,Vl r x H),(10,Vi E),(11,Vi q)] (fun ag=>?_));refine Cp (Xu 3 [(94,Vi E),(95,Vi (M4 (E+1))),(10,Vi (M4 (E+1)))] (Xk (Cp (Xu 1 [(96,Vl r x H)] (Yl _ _ R (Ra 0 [Vi B,Vi C,Vi O.1,Vi O.2,.bool D,.bool y] R4 k nn R) (Xh #[Vi B,Vi C,Vi O.1,Vi O.2,.bool D,.bool y] 82 R (fun b9 cn bz bl bs=>?_)))))));have K:=Cx.e a bs;obtain ⟨g,f,i,h,k,m,a,d⟩:=E8 K g f i h k m a d;have bI:=K.l (e:=(M3 (M3 eI eI) (M3 (M3 eI eI) (M3 Pt Pt)))) bz bl 1 [((B,C),(O.1,O.2),D,y)];have ax:=Gl c;have c:=Gr c;obtain ⟨aI,aN,co,bF,aZ,a3,cc,bO⟩:=Mb M8K 76 m (Mf 2 R) bI ax;refine Xx R (Rn bF) ?_;have K:=Cx.u a 2 aZ a3;obtain ⟨g,f,i,h,k,a⟩:=E6 K g f i h k a;have aw:=o.ux 2 d a3;have d:=d.th aZ o 2;have o:=aw;have m:=bO _ K.st.new;refine Xu 1 [(9,Vl aI ((x++([((B,C),(O.1,O.2),D,y)]:List ((Int×Int)×(Int×Int)×Bool×Bool)))) aN)] (Xe R (Kl (Kt (Cp (Xu 3 [(45,Vi q),(46,Vi (M4 (q+1))),(11,Vi (M4 (q+1)))] (Xe R ?_))))));obtain rfl:=Sj c;exact Kt ⟨(ap,B,C,O.1,O.2,D,y,(x++([((B,C),(O.1,O.2),D,y)]:List ((Int×Int)×(Int×Int)×Bool×Bool))),M4 (E+1),M4 (q+1),aI,aN),⟨R,R,R,R,R,R,T0⟩,⟨an,d,a,o,g,i,h,f,k,m⟩,Ns _⟩
     refine Ck (Kt (Cn [(0,Vl F z G),(3,Vp n 0),(8,Vp A 0),(9,Vl r x H),(10,Vi E),(11,Vi q)] (fun ag=>?_)));refine Cp (Xu 3 [(94,Vi E),(95,Vi (M4 (E+1))),(10,Vi (M4 (E+1)))] (Xk (Cp (Xu 1 [(96,Vl r x H)] (Yl _ _ R (Ra 0 [Vi B,Vi C,Vi I,Vi J,.bool D,.bool y] R4 k nn R) (Xh #[Vi B,Vi C,Vi I,Vi J,.bool D,.bool y] 82 R (fun ca cp bA bm bu=>?_)))))));have K:=Cx.e a bu;obtain ⟨g,f,i,h,k,m,a,d⟩:=E8 K g f i h k m a d;have bJ:=K.l (e:=(M3 (M3 eI eI) (M3 (M3 eI eI) (M3 Pt Pt)))) bA bm 1 [((B,C),(I,J),D,y)];have ax:=Gl c;have c:=Gr c;obtain ⟨aJ,aO,cq,bG,a0,a4,cd,bQ⟩:=Mb M8K 76 m (Mf 2 R) bJ ax;refine Xx R (Rn bG) ?_;have K:=Cx.u a 2 a0 a4;obtain ⟨g,f,i,h,k,a⟩:=E6 K g f i h k a;have aw:=o.ux 2 d a4;have d:=d.th a0 o 2;have o:=aw;have m:=bQ _ K.st.new;refine Xu 1 [(9,Vl aJ ((x++([((B,C),(I,J),D,y)]:List ((Int×Int)×(Int×Int)×Bool×Bool)))) aO)] (Xe R (Kl (Kt (Cp (Xu 3 [(45,Vi q),(46,Vi (M4 (q+1))),(11,Vi (M4 (q+1)))] (Xe R ?_))))));obtain rfl:=Sj c;exact Kt ⟨(ap,B,C,I,J,D,y,(x++([((B,C),(I,J),D,y)]:List ((Int×Int)×(Int×Int)×Bool×Bool))),M4 (E+1),M4 (q+1),aJ,aO),⟨R,R,R,R,R,R,T0⟩,⟨an,d,a,o,g,i,h,f,k,m⟩,Ns _⟩
   refine Ck (Kt (Cp (Xu 1 [(96,Vl r x H)] (Yl _ _ R (Ra 0 [Vi B,Vi C,Vi I,Vi J,.bool D,.bool y] R4 k nn R) (Xh #[Vi B,Vi C,Vi I,Vi J,.bool D,.bool y] 82 R (fun cb cr bB bn bv=>?_))))));have K:=Cx.e a bv;obtain ⟨g,f,i,h,k,m,a,d⟩:=E8 K g f i h k m a d;have bK:=K.l (e:=(M3 (M3 eI eI) (M3 (M3 eI eI) (M3 Pt Pt)))) bB bn 1 [((B,C),(I,J),D,y)];have ax:=Gl c;have c:=Gr c;obtain ⟨aK,aQ,cs,bH,a1,a5,ce,bS⟩:=Mb M8K 76 m (Mf 2 R) bK ax;refine Xx R (Rn bH) ?_;have K:=Cx.u a 2 a1 a5;obtain ⟨g,f,i,h,k,a⟩:=E6 K g f i h k a;have aw:=o.ux 2 d a5;have d:=d.th a1 o 2;have o:=aw;have m:=bS _ K.st.new;refine Xu 1 [(9,Vl aK ((x++([((B,C),(I,J),D,y)]:List ((Int×Int)×(Int×Int)×Bool×Bool)))) aQ)] (Xe R (Kl (Kt (Cp (Xu 3 [(45,Vi q),(46,Vi (M4 (q+1))),(11,Vi (M4 (q+1)))] (Xe R ?_))))));obtain rfl:=Sj c;exact Kt ⟨(ap,B,C,I,J,D,y,(x++([((B,C),(I,J),D,y)]:List ((Int×Int)×(Int×Int)×Bool×Bool))),E,M4 (q+1),aK,aQ),⟨R,R,R,R,R,R,T0⟩,⟨an,d,a,o,g,i,h,f,k,m⟩,Ns _⟩
 refine Ce (Ke ?_);obtain rfl:=Sj c;have b2:=Sj an;subst b2;have c:=bf;refine Ke (Ki (Kt (Cn [(9,Vl r x H)] (fun ag=>?_))));refine Cs (Xu 3 [(100,Vl r x H),(4,Vl r x H),(5,Vi 0)] (Xk (Cr (Rr (Rv [Vl r x H,Vi 0] ⟨R,R,T0⟩ ?_)))));obtain rfl:=Sj c;have ay:=a.pk [2,3] [Bk r,Q] R;have bL:=Pk (ls:=[[n],[A],Bk r,Q]) [2,3] [Bk r,Q] R;have av:=o.pk [2] [Bk r] R;exact ⟨r,H,R,d,ay,av,m.sub bL⟩
def Wy (a:List (Int×Int×Int×Int×Int)) (b:Int):Option ((List (Int×Int×Int×Int×Int))×Int):=
((WK a).bind fun d=>
(if (d != 0)=true then
some ([],d)
else
(if (decide (b<1))=true then
some ([],2)
else
(if (decide (b>1000000))=true then
some ([],2)
else
((idx a (M4 (((a).length:Int)-1))).bind fun e=>
(if (decide (e.2.1<b))=true then
some ([],14)
else
(if ([]:List (Int×Int×Int×Int×Int)).length+a.length≤4294967296 then
((idx (([]:List (Int×Int×Int×Int×Int))++a) (M4 (((a).length:Int)-1))).bind fun c=>
some (((([]:List (Int×Int×Int×Int×Int))++a).set (Int.toNat (M4 (((a).length:Int)-1))) (c.1,b,c.2.2.1,c.2.2.2.1,c.2.2.2.2)),0))
else none)))))))
theorem M39 (o r a d x m h)(f:MS m [h])(s:Ma (M3 eI (M7)) m (fl [h]) o r a)(c:Wy a d=some x):Md Tryz.prog 16 [Vl o a r,Vi d] m fun L B=>∃ w C,L=.tuple #[Vl w x.1 C,Vi x.2]∧Ev [] m B∧MS B [Bk w,h]∧FR m.heap.size [Bk w]∧M9 (M3 eI (M7)) 75 B (fl [Bk w,h]) w C x.1:=by
 refine Cw hmx Tryz.func16 R R R ?_;have g:=Ev.refl [] m;have j:=FR.nil m.heap.size;refine Cs (Xu 2 [(4,Z0),(5,Vi 0)] (Xk (Cq (Cs (Xu 1 [(9,Vl o a r)] ?_)))));obtain ⟨v,ao,c⟩:=Bs c;obtain ⟨ae,aj⟩:=Kc f [] [0];have Z:=Zu o r a _ m _ ae (s.sub aj) ao;refine Xv Z R ?_;rintro L az ⟨rfl,aa⟩;obtain ⟨s,f,g⟩:=E3 (Cx.e f aa) s f g;refine Xu 1 [(6,Vi v)] (Xk (Cs (Xu 2 [(11,Vi v),(12,.bool (v != 0))] (Xk (Ci _ R c (fun c=>?_) (fun c=>?_))))))
 · refine Cs (Xu 3 [(13,Vi v),(4,Z0),(5,Vi v)] (Xk (Cr (Kr (Rr (Rv [Z0,Vi v] ⟨R,R,T0⟩ ?_))))));obtain rfl:=Sj c;have l:=f.pick [none,some 0] [Bk none,h] R;have k:=j.pick [none] [Bk none] R;exact ⟨none,0,R,g,l,k,M9.nil _ _ _ _⟩
 refine Ck (Kt (Cq (Cs (Xu 3 [(14,Vi d),(15,Bd (d<1)),(16,Bd (d<1))] (Xw 16 _ R c (fun c=>?_) (fun c=>?_))))))
 · refine Xu 3 [(17,U0),(18,U0),(19,.bool true)] (Xk (Me R (Cs (Xu 2 [(4,Z0),(5,Vi 2)] (Xk (Cr (Kr (Rr (Rv [Z0,Vi 2] ⟨R,R,T0⟩ ?_)))))))));obtain rfl:=Sj c;have l:=f.pick [none,some 0] [Bk none,h] R;have k:=j.pick [none] [Bk none] R;exact ⟨none,0,R,g,l,k,M9.nil _ _ _ _⟩
 refine Xu 3 [(17,Vi d),(18,Bd (d>1000000)),(19,Bd (d>1000000))] (Xk (Ci _ R c (fun c=>?_) (fun c=>?_)))
 · refine Cs (Xu 2 [(4,Z0),(5,Vi 2)] (Xk (Cr (Kr (Rr (Rv [Z0,Vi 2] ⟨R,R,T0⟩ ?_))))));obtain rfl:=Sj c;have l:=f.pick [none,some 0] [Bk none,h] R;have k:=j.pick [none] [Bk none] R;exact ⟨none,0,R,g,l,k,M9.nil _ _ _ _⟩
 refine Ck (Kt (Cs (Xu 1 [(20,Vl o a r)] (Xz MF R (Xu 2 [(22,Vi (M4 (((a).length:Int)-1))),(7,Vi (M4 (((a).length:Int)-1)))] (Xk (Cq (Cs (Xu 2 [(23,Vl o a r),(24,Vi (M4 (((a).length:Int)-1)))] ?_)))))))));obtain ⟨N,ap,c⟩:=Bs c;refine Xq (s.el MF) Pj M5 ap R (fun _=>R) (fun _=>Xu 2 [(28,Vi d),(29,Bd (N.2.1<d))] (Xk (Cn [(0,Vl o a r),(1,Vi d),(7,Vi (M4 (((a).length:Int)-1))),(29,Bd (N.2.1<d))] (fun aq=>?_))));refine Ci _ R c (fun c=>?_) (fun c=>?_)
 · refine Cs (Xu 2 [(4,Z0),(5,Vi 14)] (Xk (Cr (Kr (Rr (Rv [Z0,Vi 14] ⟨R,R,T0⟩ ?_))))));obtain rfl:=Sj c;have l:=f.pick [none,some 0] [Bk none,h] R;have k:=j.pick [none] [Bk none] R;exact ⟨none,0,R,g,l,k,M9.nil _ _ _ _⟩
 refine Ck (Kt (Cs (Xh #[] 75 R (fun ar aA af Y G=>?_))));obtain ⟨O,S,an,I⟩:=Ol (e:=(M3 eI (M7))) af Y 0 [];obtain ⟨s,f⟩:=E2 (Cx.p f G I) s f;have j:=j.push (fun Q X=>Nat.le_trans g.size (I Q X).1);have g:=g.ext G;have t:=an (fl [Bk O,h]);rw [← S];refine Xu 1 [(31,Vl o a r)] ?_;have ac:=Gl c;have c:=Gr c;obtain ⟨i,q,ax,ag,E,H,aw,am⟩:=Mb M7h 68 t (Mf 0 R) s ac;refine Xx R (Rn ag) ?_;have J:=Cx.u f 0 E H;have f:=E1 J f;have ab:=j.ux 0 g H;have g:=g.th E j 0;have j:=ab;have t:=am _ J.st.new;refine Xu 1 [(8,Vl i ((([]:List (Int×Int×Int×Int×Int))++a)) q)] (Xk (Cs (Xu 3 [(33,Vl i ((([]:List (Int×Int×Int×Int×Int))++a)) q),(34,Vi (M4 (((a).length:Int)-1))),(35,Vi d)] ?_)));obtain ⟨b,A,c⟩:=Bs c;obtain ⟨D,au,U,ah,av,z⟩:=Oi (Mo:=[]) MF t A;obtain ⟨_,_,rfl,rfl,⟨_,_,rfl,rfl,⟨_,_,rfl,rfl,⟨_,_,rfl,rfl,rfl⟩⟩⟩⟩:=z;refine Yi _ _ _ R ah (Yf ((Px D ((Int.toNat (M4 (((a).length:Int)-1)))*(M3 eI (M7)).n))) ((Px D ((Int.toNat (M4 (((a).length:Int)-1)))*(M3 eI (M7)).n+1))) R (Rf Pj _) ?_);have K:=A;obtain ⟨ay,ai,F,ad⟩:=PH U (y:=(b.1,d,b.2.2.1,b.2.2.2.1,b.2.2.2.2)) 1 (Vi d) M5 t (Mf 0 R) A R R (by intro m h cs z; obtain ⟨_,_,rfl,rfl,⟨_,_,rfl,rfl,⟨_,_,rfl,rfl,⟨_,_,rfl,rfl,rfl⟩⟩⟩⟩:=z; exact ⟨[_],_,R,R,⟨[_],_,R,R,⟨[_],_,R,R,⟨[_],_,R,R,R⟩⟩⟩⟩);refine Xp ai R ?_;have f:=f.ev F;have g:=g.th F j 0;have t:=ad;have ak:(Vl i ((([]:List (Int×Int×Int×Int×Int))++a)) q)=(Vl i (((([]:List (Int×Int×Int×Int×Int))++a).set (Int.toNat (M4 (((a).length:Int)-1))) (b.1,d,b.2.2.1,b.2.2.2.1,b.2.2.2.2))) q):=by simp only [Vl,List.length_set]
 try rw [ak]
 replace K:idx ((([]:List (Int×Int×Int×Int×Int))++a).set (Int.toNat (M4 (((a).length:Int)-1))) (b.1,d,b.2.2.1,b.2.2.2.1,b.2.2.2.2)) (M4 (((a).length:Int)-1))=some (b.1,d,b.2.2.1,b.2.2.2.1,b.2.2.2.2):=MX K _;refine Xk (Cs (Xu 3 [(38,Vl i (((([]:List (Int×Int×Int×Int×Int))++a).set (Int.toNat (M4 (((a).length:Int)-1))) (b.1,d,b.2.2.1,b.2.2.2.1,b.2.2.2.2))) q),(4,Vl i (((([]:List (Int×Int×Int×Int×Int))++a).set (Int.toNat (M4 (((a).length:Int)-1))) (b.1,d,b.2.2.1,b.2.2.2.1,b.2.2.2.2))) q),(5,Vi 0)] (Xk (Cr (Rr (Rv [Vl i (((([]:List (Int×Int×Int×Int×Int))++a).set (Int.toNat (M4 (((a).length:Int)-1))) (b.1,d,b.2.2.1,b.2.2.2.1,b.2.2.2.2))) q,Vi 0] ⟨R,R,T0⟩ ?_))))));obtain rfl:=Sj c;have l:=f.pk [0,1] [Bk i,h] R;have al:=Pk (ls:=[Bk i,h]) [0,1] [Bk i,h] R;have k:=j.pk [0] [Bk i] R;exact ⟨i,q,R,g,l,k,t.sub al⟩
def XQ (c:List (Int×Int×Int×Int×Int)) (f:Int) (d:Int) (g:Int×Int):Option (Mm (Int×Int) (Int⊕Unit)):=
match g with
| (b,a)=>
(if (decide (a<((c).length:Int)))=true then
(if (decide (a>f))=true then
((idx c a).bind fun e=>
(if (decide ((M4 (b+e.2.1))≥d))=true then
some (.done (.inl a))
else
some (.next (M4 (b+e.2.1),M4 (a+1)))))
else
(if (decide (b≥d))=true then
some (.done (.inl a))
else
some (.next (b,M4 (a+1)))))
else
some (.done (.inr ())))
def YN (b:List (Int×Int×Int×Int×Int)) (c:Int):Option (Mm Int (Unit⊕Unit)):=
match c with
| a=>
(if (decide (a<((b).length:Int)))=true then
((idx b a).bind fun d=>
(if (decide (d.2.1<1))=true then
some (.done (.inl ()))
else
((idx b a).bind fun e=>
(if (decide (e.2.1>1000000))=true then
some (.done (.inl ()))
else
some (.next (M4 (a+1)))))))
else
some (.done (.inr ())))
def WL (c:List (Int×Int×Int×Int×Int)) (a:Int) (d:Int):Option Int:=
(if (decide (a<0))=true then
some (-1)
else
(if (decide (a≥((c).length:Int)))=true then
some (-1)
else
(if (decide (d<0))=true then
some (-1)
else
(if (decide (d>1000000))=true then
some (-1)
else
((loop (YN c) 0).bind fun b=>match b with
| (.inl _)=>some (-1)
| (.inr _)=>((loop (XQ c a d) (0,a)).bind fun b=>match b with
| (.inl e)=>some e
| (.inr _)=>some (-1)))))))
theorem M28 (f g b d e D n u)(s:MS n [u])(m:Ma (M3 eI (M7)) n (fl [u]) f g b)(a:WL b d e=some D):Md Tryz.prog 43 [Vl f b g,Vi d,Vi e] n fun L o=>L=Vi D∧Ev [] n o:=by
 refine Cw hmx Tryz.func43 R R R ?_;have h:=Ev.refl [] n;have r:=FR.nil n.heap.size;refine Cs (Xu 1 [(6,Vi 0)] (Xk (Cq (Cs (Xu 3 [(10,Vi d),(11,Bd (d<0)),(12,Bd (d<0))] (Xw 12 _ R a (fun a=>?_) (fun a=>?_)))))))
 · refine Xu 13 [(13,U0),(14,U0),(15,U0),(16,U0),(17,.bool true),(18,.bool true),(19,U0),(20,U0),(21,.bool true),(22,.bool true),(23,U0),(24,U0),(25,.bool true)] (Xk (Me R (Cs (Xu 1 [(6,Vi (-1))] (Xk (Cr (Kr (Rz (Vi (-1)) R ?_))))))));obtain rfl:=Sj a;exact ⟨R,h⟩
 refine Xu 2 [(13,Vi d),(14,Vl f b g)] (Xz MF R (Xu 3 [(16,Bd (d≥((b).length:Int))),(17,Bd (d≥((b).length:Int))),(18,Bd (d≥((b).length:Int)))] (Xw 18 _ R a (fun a=>?_) (fun a=>?_))))
 · refine Xu 7 [(19,U0),(20,U0),(21,.bool true),(22,.bool true),(23,U0),(24,U0),(25,.bool true)] (Xk (Me R (Cs (Xu 1 [(6,Vi (-1))] (Xk (Cr (Kr (Rz (Vi (-1)) R ?_))))))));obtain rfl:=Sj a;exact ⟨R,h⟩
 refine Xu 4 [(19,Vi e),(20,Bd (e<0)),(21,Bd (e<0)),(22,Bd (e<0))] (Xw 22 _ R a (fun a=>?_) (fun a=>?_))
 · refine Xu 3 [(23,U0),(24,U0),(25,.bool true)] (Xk (Me R (Cs (Xu 1 [(6,Vi (-1))] (Xk (Cr (Kr (Rz (Vi (-1)) R ?_))))))));obtain rfl:=Sj a;exact ⟨R,h⟩
 refine Xu 3 [(23,Vi e),(24,Bd (e>1000000)),(25,Bd (e>1000000))] (Xk (Ci _ R a (fun a=>?_) (fun a=>?_)))
 · refine Cs (Xu 1 [(6,Vi (-1))] (Xk (Cn [(6,Vi (-1))] (fun q=>?_))));refine Cr (Kr (Rz (Vi (-1)) R ?_));obtain rfl:=Sj a;exact ⟨R,h⟩
 refine Ck (Kt (Cq (Cs (Xu 1 [(7,Vi 0)] (Xk (Cn [(0,Vl f b g),(1,Vi d),(2,Vi e),(7,Vi 0)] (fun q=>?_)))))));refine Cb ?_;obtain ⟨H,B,z⟩:=Bs a;obtain ⟨w,B⟩:=Lo B;refine Cl (Lr hmx (σ:=Nat×Int) (fun l=>match l with | (_,i)=>[(0,Vl f b g),(1,Vi d),(2,Vi e),(7,Vi i)]) (fun l o=>match l with | (C,i)=>Mh (YN b) C i=some H∧Ev [] n o∧MS o [u]∧FR n.heap.size []∧Ma (M3 eI (M7)) o (fl [u]) f g b) (fun l=>l.1) (w,0) ⟨R,R,R,R,T0⟩ ⟨B,h,s,r,m⟩ ?_);rintro ⟨w,i⟩ q S ⟨t,h,s,r,m⟩;rcases w with _ | w
 · exact (Lz t).elim
 obtain ⟨O,a,t⟩:=Bs t;refine Cq (Cs (Xu 2 [(26,Vi i),(27,Vl f b g)] (Xz MF R (Xu 1 [(29,Bd (i<((b).length:Int)))] (Xk (Cn [(0,Vl f b g),(1,Vi d),(2,Vi e),(7,Vi i),(29,Bd (i<((b).length:Int)))] (fun q=>?_)))))));refine Ci _ R a (fun a=>?_) (fun a=>?_)
 · refine Ck (Kt (Cq (Cb (Cs (Xu 2 [(32,Vl f b g),(33,Vi i)] ?_)))));obtain ⟨E,J,a⟩:=Bs a;refine Xq (m.el MF) Pj M5 J R (fun _=>R) (fun _=>Xu 2 [(37,Bd (E.2.1<1)),(38,Bd (E.2.1<1))] (Xw 38 _ R a (fun a=>?_) (fun a=>?_)))
   · refine Xu 7 [(39,U0),(40,U0),(41,U0),(42,U0),(43,U0),(44,U0),(45,.bool true)] (Xk (Me R (Cs (Xu 1 [(6,Vi (-1))] (Xk (Cr (Kb (Kr ?_))))))));obtain rfl:=Sj a;have k:=Sj t;subst k;have a:=z;refine Kr (Kb (Kr (Rz (Vi (-1)) R ?_)));obtain rfl:=Sj a;exact ⟨R,h⟩
   refine Xu 2 [(39,Vl f b g),(40,Vi i)] ?_;obtain ⟨F,K,a⟩:=Bs a;refine Xq (m.el MF) Pj M5 K R (fun _=>R) (fun _=>Xu 2 [(44,Bd (F.2.1>1000000)),(45,Bd (F.2.1>1000000))] (Xk (Ci _ R a (fun a=>?_) (fun a=>?_))))
   · refine Cs (Xu 1 [(6,Vi (-1))] (Xk (Cr (Kb (Kr ?_)))));obtain rfl:=Sj a;have k:=Sj t;subst k;have a:=z;refine Kr (Kb (Kr (Rz (Vi (-1)) R ?_)));obtain rfl:=Sj a;exact ⟨R,h⟩
   refine Ck (Kl (Kt (Cp (Xu 3 [(30,Vi i),(31,Vi (M4 (i+1))),(7,Vi (M4 (i+1)))] (Xe R ?_)))));obtain rfl:=Sj a;exact Kt ⟨(w,M4 (i+1)),⟨R,R,R,R,T0⟩,⟨t,h,s,r,m⟩,Ns _⟩
 refine Ce (Ke ?_);obtain rfl:=Sj a;have k:=Sj t;subst k;have a:=z;refine Ke (Ki (Kt (Cn [(0,Vl f b g),(1,Vi d),(2,Vi e)] (fun q=>?_))));refine Cs (Xu 1 [(8,Vi 0)] (Xk (Cq (Cs (Xu 2 [(46,Vi d),(9,Vi d)] (Xk (Cb ?_)))))));obtain ⟨G,A,y⟩:=Bs a;obtain ⟨v,A⟩:=Lo A;refine Cl (Lr hmx (σ:=Nat×Int×Int) (fun l=>match l with | (_,j,c)=>[(0,Vl f b g),(1,Vi d),(2,Vi e),(8,Vi j),(9,Vi c)]) (fun l o=>match l with | (C,j,c)=>Mh (XQ b d e) C (j,c)=some G∧Ev [] n o∧MS o [u]∧FR n.heap.size []∧Ma (M3 eI (M7)) o (fl [u]) f g b) (fun l=>l.1) (v,0,d) ⟨R,R,R,R,R,T0⟩ ⟨A,h,s,r,m⟩ ?_);rintro ⟨v,j,c⟩ q Q ⟨p,h,s,r,m⟩;rcases v with _ | v
 · exact (Lz p).elim
 obtain ⟨N,a,p⟩:=Bs p;refine Cq (Cs (Xu 2 [(47,Vi c),(48,Vl f b g)] (Xz MF R (Xu 1 [(50,Bd (c<((b).length:Int)))] (Xk (Cn [(0,Vl f b g),(1,Vi d),(2,Vi e),(8,Vi j),(9,Vi c),(50,Bd (c<((b).length:Int)))] (fun q=>?_)))))));refine Ci _ R a (fun a=>?_) (fun a=>?_)
 · refine Ck (Kt (Cq (Cb (Cq (Cs (Xu 3 [(53,Vi c),(54,Vi d),(55,Bd (c>d))] (Xk (Ci _ R a (fun a=>?_) (fun a=>?_)))))))))
   · refine Cp (Xu 3 [(56,Vi j),(57,Vl f b g),(58,Vi c)] ?_);obtain ⟨x,I,a⟩:=Bs a;refine Xq (m.el MF) Pj M5 I R (fun _=>R) (fun _=>Xu 2 [(62,Vi (M4 (j+x.2.1))),(8,Vi (M4 (j+x.2.1)))] (Xk (Cs (Xu 3 [(63,Vi (M4 (j+x.2.1))),(64,Vi e),(65,Bd ((M4 (j+x.2.1))≥e))] (Xk (Ci _ R a (fun a=>?_) (fun a=>?_)))))))
     · refine Cs (Xu 2 [(66,Vi c),(6,Vi c)] (Xk (Cr (Kb (Kr ?_)))));obtain rfl:=Sj a;have k:=Sj p;subst k;have a:=y;refine Kr (Kb (Kr (Rz (Vi c) R ?_)));obtain rfl:=Sj a;exact ⟨R,h⟩
     refine Ck (Kl (Kt (Cp (Xu 3 [(51,Vi c),(52,Vi (M4 (c+1))),(9,Vi (M4 (c+1)))] (Xe R ?_)))));obtain rfl:=Sj a;exact Kt ⟨(v,M4 (j+x.2.1),M4 (c+1)),⟨R,R,R,R,R,T0⟩,⟨p,h,s,r,m⟩,Ns _⟩
   refine Ck (Kt (Cs (Xu 3 [(63,Vi j),(64,Vi e),(65,Bd (j≥e))] (Xk (Ci _ R a (fun a=>?_) (fun a=>?_))))))
   · refine Cs (Xu 2 [(66,Vi c),(6,Vi c)] (Xk (Cr (Kb (Kr ?_)))));obtain rfl:=Sj a;have k:=Sj p;subst k;have a:=y;refine Kr (Kb (Kr (Rz (Vi c) R ?_)));obtain rfl:=Sj a;exact ⟨R,h⟩
   refine Ck (Kl (Kt (Cp (Xu 3 [(51,Vi c),(52,Vi (M4 (c+1))),(9,Vi (M4 (c+1)))] (Xe R ?_)))));obtain rfl:=Sj a;exact Kt ⟨(v,j,M4 (c+1)),⟨R,R,R,R,R,T0⟩,⟨p,h,s,r,m⟩,Ns _⟩
 refine Ce (Ke ?_);obtain rfl:=Sj a;have k:=Sj p;subst k;have a:=y;refine Ke (Ki (Kt (RJ [] T0 (fun q=>?_))));refine Cs (Xu 1 [(6,Vi (-1))] (Xk (Cr (Rz (Vi (-1)) R ?_))));obtain rfl:=Sj a;exact ⟨R,h⟩
def XR (b:List (Int×Int×Int×Int×Int)) (c:Int) (d:Int):Option (Mm Int (Unit⊕Unit)):=
match d with
| a=>
(if (decide ((M4 (a+1))<((b).length:Int)))=true then
((WL b a c).bind fun e=>
(if (decide (e<0))=true then
some (.done (.inl ()))
else
some (.next (M4 (a+1)))))
else
some (.done (.inr ())))
def YO (d:List (Int×(List UInt8)×Int×Int×Int×Int×Int×Int)) (b:List (Int×Int×Int×Int×Int)) (e:Bool×Int):Option (Mm (Bool×Int) Bool):=
match e with
| (c,a)=>
(if (decide (a<((b).length:Int)))=true then
(if c=true then
((idx b a).bind fun f=>
some (.next (decide (f.1<((d).length:Int)),M4 (a+1))))
else
some (.next (false,M4 (a+1))))
else
some (.done c))
def ZP (e:List (Int×(List UInt8)×Int×Int×Int×Int×Int×Int)) (b:List (Int×Int×Int×Int×Int)) (f:Bool) (c:Int):Option Int:=
((WK b).bind fun d=>
(if (d != 0)=true then
some d
else
(if (decide (c<1))=true then
some 2
else
(if (decide (c>1000000))=true then
some 2
else
((loop (YO e b) (f,0)).bind fun a=>match a with
| g=>(if (!g)=true then
some 1
else
((loop (XR b c) 0).bind fun a=>match a with
| (.inl _)=>some 14
| (.inr _)=>some 0)))))))
theorem M5v (s t l f g b K h Q m r)(i:MS m [r])(w:Ma (M3 eI (M3 Mv (M3 eI (M3 eI (M7))))) m (fl [r]) s t l)(k:Ma (M3 eI (M7)) m (fl [r]) f g b)(a:ZP l b K h=some Q):Md Tryz.prog 41 [Vl s l t,Vl f b g,.bool K,Vi h] m fun L p=>L=Vi Q∧Ev [] m p:=by
 refine Cw hmx Tryz.func41 R R R ?_;have c:=Ev.refl [] m;have q:=FR.nil m.heap.size;refine Cs (Xu 1 [(8,Vi 0)] (Xk (Cq (Cs (Xu 1 [(12,Vl f b g)] ?_)))));obtain ⟨y,I,a⟩:=Bs a;obtain ⟨G,H⟩:=Kc i [] [0];have D:=Zu f g b _ m _ G (k.sub H) I;refine Xv D R ?_;rintro L ag ⟨rfl,Z⟩;obtain ⟨w,k,i,c⟩:=E4 (Cx.e i Z) w k i c;refine Xu 1 [(9,Vi y)] (Xk (Cs (Xu 2 [(14,Vi y),(15,.bool (y != 0))] (Xk (Ci _ R a (fun a=>?_) (fun a=>?_))))))
 · refine Cs (Xu 2 [(16,Vi y),(8,Vi y)] (Xk (Cr (Kr (Rz (Vi y) R ?_)))));obtain rfl:=Sj a;exact ⟨R,c⟩
 refine Ck (Kt (Cq (Cs (Xu 3 [(17,Vi h),(18,Bd (h<1)),(19,Bd (h<1))] (Xw 19 _ R a (fun a=>?_) (fun a=>?_))))))
 · refine Xu 3 [(20,U0),(21,U0),(22,.bool true)] (Xk (Me R (Cs (Xu 1 [(8,Vi 2)] (Xk (Cr (Kr (Rz (Vi 2) R ?_))))))));obtain rfl:=Sj a;exact ⟨R,c⟩
 refine Xu 3 [(20,Vi h),(21,Bd (h>1000000)),(22,Bd (h>1000000))] (Xk (Ci _ R a (fun a=>?_) (fun a=>?_)))
 · refine Cs (Xu 1 [(8,Vi 2)] (Xk (Cr (Kr (Rz (Vi 2) R ?_)))));obtain rfl:=Sj a;exact ⟨R,c⟩
 refine Ck (Kt (Cq (Cs (Xu 1 [(10,Vi 0)] (Xk (Cb ?_))))));obtain ⟨U,F,X⟩:=Bs a;obtain ⟨x,F⟩:=Lo F;refine Cl (Lr hmx (σ:=Nat×Bool×Int) (fun o=>match o with | (_,n,d)=>[(0,Vl s l t),(1,Vl f b g),(2,.bool n),(3,Vi h),(10,Vi d)]) (fun o p=>match o with | (J,n,d)=>Mh (YO l b) J (n,d)=some U∧Ev [] m p∧(fun N=>MS p N∧FR m.heap.size []∧Ma (M3 eI (M3 Mv (M3 eI (M3 eI (M7))))) p (fl N) s t l∧Ma (M3 eI (M7)) p (fl N) f g b) [r]) (fun o=>o.1) (x,K,0) ⟨R,R,R,R,R,T0⟩ ⟨F,c,i,q,w,k⟩ ?_);rintro ⟨x,n,d⟩ z ah ⟨v,c,i,q,w,k⟩;rcases x with _ | x
 · exact (Lz v).elim
 obtain ⟨ae,a,v⟩:=Bs v;refine Cq (Cs (Xu 2 [(23,Vi d),(24,Vl f b g)] (Xz MF R (Xu 1 [(26,Bd (d<((b).length:Int)))] (Xk (Cn [(0,Vl s l t),(1,Vl f b g),(2,.bool n),(3,Vi h),(10,Vi d),(26,Bd (d<((b).length:Int)))] (fun z=>?_)))))));refine Ci _ R a (fun a=>?_) (fun a=>?_)
 · refine Ck (Kt (Cq (Cb (Cp (Xu 2 [(29,.bool n),(30,.bool n)] (Xw 30 n R a (fun a=>?_) (fun a=>?_)))))))
   · refine Xu 2 [(31,Vl f b g),(32,Vi d)] ?_;obtain ⟨C,aa,a⟩:=Bs a;refine Xq (k.el MF) Pm M5 aa R (fun _=>R) (fun _=>Xu 1 [(36,Vl s l t)] (Xz My R (Xu 3 [(38,Bd (C.1<((l).length:Int))),(39,Bd (C.1<((l).length:Int))),(2,Bd (C.1<((l).length:Int)))] (Xe R (Kl (Kt (Cp (Xu 3 [(27,Vi d),(28,Vi (M4 (d+1))),(10,Vi (M4 (d+1)))] (Xe R ?_)))))))));obtain rfl:=Sj a;exact Kt ⟨(x,decide (C.1<((l).length:Int)),M4 (d+1)),⟨R,R,R,R,R,T0⟩,⟨v,c,i,q,w,k⟩,Ns _⟩
   refine Xu 10 [(31,U0),(32,U0),(33,U0),(34,U0),(35,U0),(36,U0),(37,U0),(38,U0),(39,.bool false),(2,.bool false)] (Xe R (Kl (Kt (Cp (Xu 3 [(27,Vi d),(28,Vi (M4 (d+1))),(10,Vi (M4 (d+1)))] (Xe R ?_))))));obtain rfl:=Sj a;exact Kt ⟨(x,false,M4 (d+1)),⟨R,R,R,R,R,T0⟩,⟨v,c,i,q,w,k⟩,Ns _⟩
 refine Ce (Ke ?_);obtain rfl:=Sj a;have A:=Sj v;subst A;have a:=X;refine Ke (Ki (Kt (Cn [(1,Vl f b g),(2,.bool n),(3,Vi h)] (fun z=>?_))));refine Cq (Cs (Xu 2 [(40,.bool n),(41,.bool (!n))] (Xk (Ci _ R a (fun a=>?_) (fun a=>?_)))))
 · refine Cs (Xu 1 [(8,Vi 1)] (Xk (Cr (Kr (Rz (Vi 1) R ?_)))));obtain rfl:=Sj a;exact ⟨R,c⟩
 refine Ck (Kt (Cq (Cs (Xu 1 [(11,Vi 0)] (Xk (Cb ?_))))));obtain ⟨S,E,O⟩:=Bs a;obtain ⟨B,E⟩:=Lo E;refine Cl (Lr hmx (σ:=Nat×Int) (fun o=>match o with | (_,j)=>[(1,Vl f b g),(3,Vi h),(11,Vi j)]) (fun o p=>match o with | (J,j)=>Mh (XR b h) J j=some S∧Ev [] m p∧MS p [r]∧FR m.heap.size []∧Ma (M3 eI (M7)) p (fl [r]) f g b) (fun o=>o.1) (B,0) ⟨R,R,R,T0⟩ ⟨E,c,i,q,k⟩ ?_);rintro ⟨B,j⟩ z ab ⟨u,c,i,q,k⟩;rcases B with _ | B
 · exact (Lz u).elim
 obtain ⟨ad,a,u⟩:=Bs u;refine Cq (Cs (Xu 3 [(42,Vi j),(43,Vi (M4 (j+1))),(44,Vl f b g)] (Xz MF R (Xu 1 [(46,Bd ((M4 (j+1))<((b).length:Int)))] (Xk (Cn [(1,Vl f b g),(3,Vi h),(11,Vi j),(46,Bd ((M4 (j+1))<((b).length:Int)))] (fun z=>?_)))))));refine Ci _ R a (fun a=>?_) (fun a=>?_)
 · refine Ck (Kt (Cq (Cb (Cs (Xu 3 [(49,Vl f b g),(50,Vi j),(51,Vi h)] ?_)))));obtain ⟨ac,I,a⟩:=Bs a;obtain ⟨G,H⟩:=Kc i [] [0];have D:=M28 f g b j h _ ab _ G (k.sub H) I;refine Xv D R ?_;rintro L af ⟨rfl,Y⟩;obtain ⟨k,i,c⟩:=E3 (Cx.e i Y) k i c;refine Xu 1 [(53,Bd (ac<0))] (Xk (Ci _ R a (fun a=>?_) (fun a=>?_)))
   · refine Cs (Xu 1 [(8,Vi 14)] (Xk (Cr (Kb (Kr ?_)))));obtain rfl:=Sj a;have A:=Sj u;subst A;have a:=O;refine Kr (Kb (Kr (Rz (Vi 14) R ?_)));obtain rfl:=Sj a;exact ⟨R,c⟩
   refine Ck (Kl (Kt (Cp (Xu 3 [(47,Vi j),(48,Vi (M4 (j+1))),(11,Vi (M4 (j+1)))] (Xe R ?_)))));obtain rfl:=Sj a;exact Kt ⟨(B,M4 (j+1)),⟨R,R,R,T0⟩,⟨u,c,i,q,k⟩,Ns _⟩
 refine Ce (Ke ?_);obtain rfl:=Sj a;have A:=Sj u;subst A;have a:=O;refine Ke (Ki (Kt (RJ [] T0 (fun z=>?_))));refine Cs (Xu 1 [(8,Vi 0)] (Xk (Cr (Rz (Vi 0) R ?_))));obtain rfl:=Sj a;exact ⟨R,c⟩
def M19 (a:List (Int×(List UInt8)×Int×Int×Int×Int×Int×Int)) (b:List (Int×Int×Int×Int×Int)) (c:Int):Option Int:=
((idx b c).bind fun e=>
((idx a e.1).bind fun f=>
(if (f.1 != 3)=true then
some 0
else
((idx b (M4 (c+1))).bind fun g=>
((idx a g.1).bind fun d=>
some d.2.2.2.1)))))
theorem M3a (f h c g i d e o b j)(x:MS b [j])(m:Ma (M3 eI (M3 Mv (M3 eI (M3 eI (M7))))) b (fl [j]) f h c)(n:Ma (M3 eI (M7)) b (fl [j]) g i d)(a:M19 c d e=some o):Md Tryz.prog 42 [Vl f c h,Vl g d i,Vi e] b fun t u=>t=Vi o∧Ev [] b u:=by
 refine Cw hmx Tryz.func42 R R R ?_;have l:=Ev.refl [] b;refine Cs (Xu 1 [(6,Vi 0)] (Xk (Cq (Cs (Xu 3 [(7,Vl f c h),(8,Vl g d i),(9,Vi e)] ?_)))));obtain ⟨y,q,a⟩:=Bs a;refine Xq (n.el MF) Pm M5 q R (fun _=>R) (fun _=>?_);obtain ⟨v,r,a⟩:=Bs a;refine Xq (m.el My) MC M5 r R (fun _=>R) (fun _=>Xu 1 [(16,.bool (v.1 != 3))] (Xk (Ci _ R a (fun a=>?_) (fun a=>?_))))
 · refine Cs (Xu 1 [(6,Vi 0)] (Xk (Cr (Kr (Rz (Vi 0) R ?_)))));obtain rfl:=Sj a;exact ⟨R,l⟩
 refine Ck (Kt (Cs (Xu 4 [(17,Vl f c h),(18,Vl g d i),(19,Vi e),(20,Vi (M4 (e+1)))] ?_)));obtain ⟨z,s,a⟩:=Bs a;refine Xq (n.el MF) Pm M5 s R (fun _=>R) (fun _=>?_);obtain ⟨k,p,a⟩:=Bs a;refine Xq (m.el My) R9 M5 p R (fun _=>R) (fun _=>Xu 1 [(6,Vi k.2.2.2.1)] (Xk (Cn [(6,Vi k.2.2.2.1)] (fun w=>?_))));refine Cr (Rz (Vi k.2.2.2.1) R ?_);obtain rfl:=Sj a;exact ⟨R,l⟩
def XS (g:List (Int×Int×Int×Int×Int)) (h:List ((Int×Int)×(Int×Int)×Bool×Bool)) (i:Int) (a:List (Int×Int×Int×Int)) (e:Int) (b:Int) (c:Int) (d:Int):Option (Mm ((List (Int×Int×Int×Int))×Int) (List (Int×Int×Int×Int))):=
((WL g e i).bind fun j=>
((idx h (M4 (j+1))).bind fun f=>
(if (!f.2.2.2)=true then
(if a.length+([(b,c,d,f.1.2)]:List (Int×Int×Int×Int)).length≤4294967296 then
some (.next ((a++([(b,c,d,f.1.2)]:List (Int×Int×Int×Int))),M4 (e+1)))
else none)
else
(if a.length+([(b,c,d,1000000000)]:List (Int×Int×Int×Int)).length≤4294967296 then
some (.next ((a++([(b,c,d,1000000000)]:List (Int×Int×Int×Int))),M4 (e+1)))
else none))))
def YP (e:List (Int×(List UInt8)×Int×Int×Int×Int×Int×Int)) (b:List (Int×Int×Int×Int×Int)) (d:List ((Int×Int)×(Int×Int)×Bool×Bool)) (f:Int) (g:(List (Int×Int×Int×Int))×Int):Option (Mm ((List (Int×Int×Int×Int))×Int) (List (Int×Int×Int×Int))):=
match g with
| (c,a)=>
(if (decide ((M4 (a+1))<((b).length:Int)))=true then
((idx d a).bind fun h=>
(if (!h.2.2.2)=true then
((idx b a).bind fun i=>
((idx d a).bind fun j=>
((M19 e b a).bind fun k=>
XS b d f c a i.1 k j.1.1)))
else
some (.done c)))
else
some (.done c))
def ZQ (b:List (Int×(List UInt8)×Int×Int×Int×Int×Int×Int)) (a:List (Int×Int×Int×Int×Int)) (c:List ((Int×Int)×(Int×Int)×Bool×Bool)) (d:Int):Option ((List (Int×Int×Int×Int))×Int):=
((ZP b a (((c).length:Int)==(M4 (((a).length:Int)+1))) d).bind fun e=>
(if (e != 0)=true then
some ([],e)
else
((loop (YP b a c d) (([]:List (Int×Int×Int×Int)),0)).bind fun f=>match f with
| g=>some (g,0))))
theorem M5w (C D B v w p I J x K aq H A)(a:MS H [A])(d:Ma (M3 eI (M3 Mv (M3 eI (M3 eI (M7))))) H (fl [A]) C D B)(c:Ma (M3 eI (M7)) H (fl [A]) v w p)(f:Ma (M3 (M3 eI eI) (M3 (M3 eI eI) (M3 Pt Pt))) H (fl [A]) I J x)(g:ZQ B p x K=some aq):Md Tryz.prog 18 [Vl C B D,Vl v p w,Vl I x J,Vi K] H fun ap y=>∃ ai aH,ap=.tuple #[Vl ai aq.1 aH,Vi aq.2]∧Ev [] H y∧MS y [Bk ai,A]∧FR H.heap.size [Bk ai]∧M9 (M7) 49 y (fl [Bk ai,A]) ai aH aq.1:=by
 refine Cw hmx Tryz.func18 R R R ?_;have h:=Ev.refl [] H;have k:=FR.nil H.heap.size;refine Cs (Xu 2 [(8,Z0),(9,Vi 0)] (Xk (Cq (Cs (Xu 3 [(15,Vl C B D),(16,Vl v p w),(17,Vl I x J)] (Xz M08 R (Xu 1 [(19,Vl v p w)] (Xz MF R (Xu 3 [(21,Vi (M4 (((p).length:Int)+1))),(22,.bool (((x).length:Int)==(M4 (((p).length:Int)+1)))),(23,Vi K)] ?_)))))))));obtain ⟨ah,ab,g⟩:=Bs g;obtain ⟨aa,Q⟩:=Kc a [] [0];have Y:=M5v C D B v w p (((x).length:Int)==(M4 (((p).length:Int)+1))) K _ H _ aa (d.sub Q) (c.sub Q) ab;refine Xv Y R ?_;rintro ap bD ⟨rfl,bh⟩;obtain ⟨d,c,f,a,h⟩:=E5 (Cx.e a bh) d c f a h;refine Xu 1 [(10,Vi ah)] (Xk (Cs (Xu 2 [(25,Vi ah),(26,.bool (ah != 0))] (Xk (Ci _ R g (fun g=>?_) (fun g=>?_))))))
 · refine Cs (Xu 3 [(27,Vi ah),(8,Z0),(9,Vi ah)] (Xk (Cr (Kr (Rr (Rv [Z0,Vi ah] ⟨R,R,T0⟩ ?_))))));obtain rfl:=Sj g;have ao:=a.pick [none,some 0] [Bk none,A] R;have an:=k.pick [none] [Bk none] R;exact ⟨none,0,R,h,ao,an,M9.nil _ _ _ _⟩
 refine Ck (Kt (Cs (Xu 1 [(11,Z0)] (Xk (Cq (Cs (Xu 1 [(12,Vi 0)] (Xk (Cb ?_)))))))));obtain ⟨d,c,f,a⟩:=E4 (Cx.n a) d c f a;have k:=k.pn;have bi:=M9.nil (M7) 49 bD (fl [Bk none,A]);obtain ⟨a6,au,aK⟩:=Bs g;obtain ⟨af,au⟩:=Lo au;refine Cl (Lr hmx (σ:=Nat×(List (Int×Int×Int×Int))×Int×Option Addr×Nat) (fun U=>match U with | (_,q,o,m,r)=>[(0,Vl C B D),(1,Vl v p w),(2,Vl I x J),(3,Vi K),(11,Vl m q r),(12,Vi o)]) (fun U y=>match U with | (bz,q,o,m,r)=>Mh (YP B p x K) bz (q,o)=some a6∧Ev [] H y∧(fun N=>MS y N∧FR H.heap.size [Bk m]∧Ma (M3 eI (M3 Mv (M3 eI (M3 eI (M7))))) y (fl N) C D B∧Ma (M3 eI (M7)) y (fl N) v w p∧Ma (M3 (M3 eI eI) (M3 (M3 eI eI) (M3 Pt Pt))) y (fl N) I J x∧M9 (M7) 49 y (fl N) m r q) [Bk m,A]) (fun U=>U.1) (af,([]:List (Int×Int×Int×Int)),0,none,0) ⟨R,R,R,R,R,R,T0⟩ ⟨au,h,a,k,d,c,f,bi⟩ ?_);rintro ⟨af,q,o,m,r⟩ ad a5 ⟨Z,h,a,k,d,c,f,i⟩;rcases af with _ | af
 · exact (Lz Z).elim
 obtain ⟨bA,g,Z⟩:=Bs Z;refine Cq (Cs (Xu 3 [(28,Vi o),(29,Vi (M4 (o+1))),(30,Vl v p w)] (Xz MF R (Xu 2 [(32,Bd ((M4 (o+1))<((p).length:Int))),(33,Bd ((M4 (o+1))<((p).length:Int)))] (Xw 33 _ R g (fun g=>?_) (fun g=>?_))))))
 · refine Xu 2 [(34,Vl I x J),(35,Vi o)] ?_;obtain ⟨aA,bu,g⟩:=Bs g;refine Xq (f.el M08) Zj Wm bu R (fun _=>R) (fun _=>Xu 2 [(39,.bool (!aA.2.2.2)),(40,.bool (!aA.2.2.2))] (Xk (Cn [(0,Vl C B D),(1,Vl v p w),(2,Vl I x J),(3,Vi K),(11,Vl m q r),(12,Vi o),(40,.bool (!aA.2.2.2))] (fun ad=>?_))));refine Ci _ R g (fun g=>?_) (fun g=>?_)
   · refine Ck (Kt (Cq (Cb (Pg (σ:=Int×Int×Int×Nat) (fun U=>match U with | (E,F,G,S)=>[(0,Vl C B D),(1,Vl v p w),(2,Vl I x J),(3,Vi K),(11,Vl m q r),(12,Vi o),(13,Vp S 0)]) (fun U y=>match U with | (E,F,G,S)=>XS p x K q o E F G=some bA∧Ev [] H y∧(fun N=>MS y N∧FR H.heap.size [Bk m,[S]]∧Ma (M3 eI (M3 Mv (M3 eI (M3 eI (M7))))) y (fl N) C D B∧Ma (M3 eI (M7)) y (fl N) v w p∧Ma (M3 (M3 eI eI) (M3 (M3 eI eI) (M3 Pt Pt))) y (fl N) I J x∧M9 (M7) 49 y (fl N) m r q∧y.heap[S]? = some (.cells #[Vi E,Vi F,Vi G,Vi 1000000000] 49 (0,0))) [Bk m,[S],A]) ?_ ?_))))
     · refine M2M [] [(0,false),(1,false),(2,false),(3,false),(4,false),(5,false),(6,false),(7,false),(9,false),(10,false),(11,false),(12,false),(13,false),(14,false)] (.alt 8 false (PN [(15,false),(16,false),(17,true)] .stop) (.alt 16 false (PN [(8,false),(15,false),(17,true)] .stop) .none_)) _ (by kernel_rfl) R ?_;obtain ⟨d,c,f,i,a,h⟩:=E6 (Cx.e a (Ev.drew a5)) d c f i a h;refine Xu 2 [(43,Vl v p w),(44,Vi o)] ?_;obtain ⟨ag,bv,g⟩:=Bs g;refine Xq (c.el MF) Pm M5 bv R (fun _=>R) (fun _=>Xu 5 [(48,Vl C B D),(49,Vl v p w),(50,Vi o),(52,Vl I x J),(53,Vi o)] ?_);obtain ⟨ac,bw,g⟩:=Bs g;obtain ⟨aj,bI,bl,bc,a7⟩:=Ri (Mo:=[]) M08 f bw;obtain ⟨_,_,rfl,⟨_,_,rfl,rfl,rfl⟩,⟨_,_,rfl,⟨_,_,rfl,rfl,rfl⟩,⟨_,_,rfl,rfl,rfl⟩⟩⟩:=a7;refine Yi _ _ _ R bl (Yf (.pointer (some aj)) (.pointer (some (Addr.add aj 0))) R (Rf WU _) (Yf (.pointer (some (Addr.add aj 0))) (.pointer (some (Addr.add aj 0))) R (Rf P7 _) (Yl (.pointer (some (Addr.add aj 0))) (Vi ac.1.1) R (Mw M5 bc (fun _ g=>by cases g) 0 _ R) ?_)));refine Xe R (M06 _ R ?_ ?_)
       · obtain ⟨aB,ab,g⟩:=Bs g;obtain ⟨aa,Q⟩:=Kc a [] [0,1];have Y:=M3a C D B v w p o _ (a5).drew _ aa (d.sub Q) (c.sub Q) ab;refine Xc 42 #[] #[] _ _ R R R R Y ?_;rintro ap bO ⟨rfl,aN⟩;refine ⟨.inr aN,?_⟩;obtain ⟨d,c,f,i,a,h⟩:=E6 (Cx.e a aN) d c f i a h;refine Xg (.agg #[Vi ag.1,Vi aB,Vi ac.1.1,Vi 1000000000]) R (Xa (z:=.agg #[Vi 0,Vi 0,Vi 0,Vi 0]) R R (by kernel_rfl) (fun aG bB a2 ae aO bN=>?_));replace ae:bB.heap[aG]? = some (.cells #[Vi 0,Vi 0,Vi 0,Vi 0] 49 (0,0)):=ae;refine ⟨.inr aO,?_⟩;have k:=k.box h.size a2;obtain ⟨d,c,f,i,a,h⟩:=E6 (Cx.b a aO a2 ae) d c f i a h;obtain ⟨bC,ax,ar,am⟩:=Sa [Vi ag.1,Vi aB,Vi ac.1.1,Vi 1000000000] MP ae R R R;refine Xp ax R ?_;obtain ⟨d,c,f,i,a⟩:=E5 (Cx.j a 0 am) d c f i a;have h:=h.th am k 0;have ae:=ar;refine Xe R (Zc ?_);obtain ⟨d,c,f,i,a⟩:=E5 (Cx.s a [1,0,2]) d c f i a;have k:=k.px [1,0];exact Kt ⟨(ag.1,aB,ac.1.1,aG),⟨R,R,R,R,R,R,R,T0⟩,g,h,a,k,d,c,f,i,ae⟩
       refine M06 _ R ?_ ?_
       · refine Xa (z:=.agg #[Vi 0,Vi 0,Vi 0,Vi 0]) R R (by kernel_rfl) (fun aF a4 a1 X aL bL=>?_);replace X:a4.heap[aF]? = some (.cells #[Vi 0,Vi 0,Vi 0,Vi 0] 49 (0,0)):=X;refine ⟨.inr aL,?_⟩;have k:=k.box h.size a1;obtain ⟨d,c,f,i,a,h⟩:=E6 (Cx.b a aL a1 X) d c f i a h;obtain ⟨aC,ab,g⟩:=Bs g;obtain ⟨aa,Q⟩:=Kc a [] [0,1,2];have Y:=M3a C D B v w p o _ a4 _ aa (d.sub Q) (c.sub Q) ab;refine Xc 42 #[] #[] _ _ R R R R Y ?_;rintro ap bQ ⟨rfl,aQ⟩;refine ⟨.inr aQ,?_⟩;obtain ⟨d,c,f,i,X,a,h⟩:=E7 (Cx.e a aQ) d c f i X a h;refine Xg (.agg #[Vi ag.1,Vi aC,Vi ac.1.1,Vi 1000000000]) R ?_;obtain ⟨bC,ax,ar,am⟩:=Sa [Vi ag.1,Vi aC,Vi ac.1.1,Vi 1000000000] MP X R R R;refine Xp ax R ?_;obtain ⟨d,c,f,i,a⟩:=E5 (Cx.j a 0 am) d c f i a;have h:=h.th am k 0;have X:=ar;refine Xe R (Zc ?_);obtain ⟨d,c,f,i,a⟩:=E5 (Cx.s a [1,0,2]) d c f i a;have k:=k.px [1,0];exact Kt ⟨(ag.1,aC,ac.1.1,aF),⟨R,R,R,R,R,R,R,T0⟩,g,h,a,k,d,c,f,i,X⟩
       exact M2K
     rintro ⟨E,F,G,S⟩ ad bE ⟨g,h,a,k,d,c,f,i,O⟩;refine Cq (Cs (Xu 4 [(59,Vl I x J),(60,Vl v p w),(61,Vi o),(62,Vi K)] ?_));obtain ⟨bF,ab,g⟩:=Bs g;obtain ⟨aa,Q⟩:=Kc a [] [0,1,2];have Y:=M28 v w p o K _ bE _ aa (c.sub Q) ab;refine Xv Y R ?_;rintro ap bS ⟨rfl,bd⟩;obtain ⟨d,c,f,i,O,a,h⟩:=E7 (Cx.e a bd) d c f i O a h;refine Xu 1 [(64,Vi (M4 (bF+1)))] ?_;obtain ⟨t,bx,g⟩:=Bs g;refine Zf [Vi t.1.1,Vi t.1.2,Vi t.2.1.1,Vi t.2.1.2,.bool t.2.2.1,.bool t.2.2.2] (f.el M08) R4 bx R (fun _=>R) (fun _=>Xj #[Vi 0,Vi 0,Vi 0,Vi 0,.bool false,.bool false] R (fun ak bU a3 al be=>?_));have k:=k.box h.size a3;obtain ⟨d,c,f,i,O,a,h⟩:=E7 (Cx.b a be a3 al) d c f i O a h;obtain ⟨bX,bm,a8,aS⟩:=Sa [Vi t.1.1,Vi t.1.2,Vi t.2.1.1,Vi t.2.1.2,.bool t.2.2.1,.bool t.2.2.2] R4 al R R R;refine Xp bm R ?_;obtain ⟨d,c,f,i,O,a⟩:=E6 (Cx.j a 0 aS) d c f i O a;have h:=h.th aS k 0;have al:=a8;refine Xk (Cn [(0,Vl C B D),(1,Vl v p w),(2,Vl I x J),(3,Vi K),(11,Vl m q r),(12,Vi o),(13,Vp S 0),(14,Vp ak 0)] (fun ad=>?_));refine Cs (Yg ak 0 5 (.bool t.2.2.2) R R (Rf Zj _) Wm al nn R (Xu 1 [(69,.bool (!t.2.2.2))] (Xk (Ci _ R g (fun g=>?_) (fun g=>?_)))))
     · refine Cp (Yf (Vp ak 0) (Vp ak 0) R (Rf WU _) (Yg ak 0 1 (Vi t.1.2) R R (Rf MO _) M5 al nn R (Yf (Vp S 0) (Vp S 3) R (Rf Pn _) ?_)));obtain ⟨bY,bn,a9,aU⟩:=Sx 3 (Vi t.1.2) M5 O;refine Xp bn R ?_;obtain ⟨d,c,f,i,a⟩:=E5 (Cx.j a 2 aU) d c f i a;have h:=h.th aU k 2;have O:=a9;refine Xk (Cp (Xu 1 [(74,Vl m q r)] (Yl _ _ R (Ra 0 [Vi E,Vi F,Vi G,Vi t.1.2] MP O nn R) (Xh #[Vi E,Vi F,Vi G,Vi t.1.2] 49 R (fun bG bZ bj ba bf=>?_)))));have L:=Cx.e a bf;obtain ⟨d,c,f,i,a,h⟩:=E6 L d c f i a h;have bq:=L.l (e:=(M7)) bj ba 1 [(E,F,G,t.1.2)];have aw:=Gl g;have g:=Gr g;obtain ⟨aD,aI,b0,bo,aX,aZ,bJ,bs⟩:=Mb M7i 43 i (Mf 1 R) bq aw;refine Xx R (Rn bo) ?_;have L:=Cx.u a 1 aX aZ;obtain ⟨d,c,f,a⟩:=E4 L d c f a;have av:=k.ux 1 h aZ;have h:=h.th aX k 1;have k:=av;have i:=bs _ L.st.new;refine Xu 1 [(11,Vl aD ((q++([(E,F,G,t.1.2)]:List (Int×Int×Int×Int)))) aI)] (Xe R (Kl (Kt (Cp (Xu 3 [(41,Vi o),(42,Vi (M4 (o+1))),(12,Vi (M4 (o+1)))] (Xe R ?_))))));obtain rfl:=Sj g;obtain ⟨d,c,f,i,a⟩:=E5 (Cx.s a [1,3]) d c f i a;have k:=k.px [1];exact Kt ⟨(af,(q++([(E,F,G,t.1.2)]:List (Int×Int×Int×Int))),M4 (o+1),aD,aI),⟨R,R,R,R,R,R,T0⟩,⟨Z,h,a,k,d,c,f,i⟩,Ns _⟩
     refine Ck (Kt (Cp (Xu 1 [(74,Vl m q r)] (Yl _ _ R (Ra 0 [Vi E,Vi F,Vi G,Vi 1000000000] MP O nn R) (Xh #[Vi E,Vi F,Vi G,Vi 1000000000] 49 R (fun bH b1 bk bb bg=>?_))))));have L:=Cx.e a bg;obtain ⟨d,c,f,i,a,h⟩:=E6 L d c f i a h;have br:=L.l (e:=(M7)) bk bb 1 [(E,F,G,1000000000)];have aw:=Gl g;have g:=Gr g;obtain ⟨aE,aJ,b2,bp,aY,a0,bK,bt⟩:=Mb M7i 43 i (Mf 1 R) br aw;refine Xx R (Rn bp) ?_;have L:=Cx.u a 1 aY a0;obtain ⟨d,c,f,a⟩:=E4 L d c f a;have av:=k.ux 1 h a0;have h:=h.th aY k 1;have k:=av;have i:=bt _ L.st.new;refine Xu 1 [(11,Vl aE ((q++([(E,F,G,1000000000)]:List (Int×Int×Int×Int)))) aJ)] (Xe R (Kl (Kt (Cp (Xu 3 [(41,Vi o),(42,Vi (M4 (o+1))),(12,Vi (M4 (o+1)))] (Xe R ?_))))));obtain rfl:=Sj g;obtain ⟨d,c,f,i,a⟩:=E5 (Cx.s a [1,3]) d c f i a;have k:=k.px [1];exact Kt ⟨(af,(q++([(E,F,G,1000000000)]:List (Int×Int×Int×Int))),M4 (o+1),aE,aJ),⟨R,R,R,R,R,R,T0⟩,⟨Z,h,a,k,d,c,f,i⟩,Ns _⟩
   refine Ce (Ke ?_);obtain rfl:=Sj g;have az:=Sj Z;subst az;have g:=aK;refine Ke (Ki (Kt (Cn [(11,Vl m q r)] (fun ad=>?_))));refine Cs (Xu 3 [(78,Vl m q r),(8,Vl m q r),(9,Vi 0)] (Xk (Cr (Rr (Rv [Vl m q r,Vi 0] ⟨R,R,T0⟩ ?_)))));obtain rfl:=Sj g;have ao:=a.pk [0,1] [Bk m,A] R;have ay:=Pk (ls:=[Bk m,A]) [0,1] [Bk m,A] R;have an:=k.pk [0] [Bk m] R;exact ⟨m,r,R,h,ao,an,i.sub ay⟩
 refine Xu 7 (Un 34 6++[(40,.bool false)]) (Xk (Cn [(0,Vl C B D),(1,Vl v p w),(2,Vl I x J),(3,Vi K),(11,Vl m q r),(12,Vi o),(40,.bool false)] (fun ad=>?_)));refine PE R (Ce (Ke ?_));obtain rfl:=Sj g;have az:=Sj Z;subst az;have g:=aK;refine Ke (Ki (Kt (Cn [(11,Vl m q r)] (fun ad=>?_))));refine Cs (Xu 3 [(78,Vl m q r),(8,Vl m q r),(9,Vi 0)] (Xk (Cr (Rr (Rv [Vl m q r,Vi 0] ⟨R,R,T0⟩ ?_)))));obtain rfl:=Sj g;have ao:=a.pk [0,1] [Bk m,A] R;have ay:=Pk (ls:=[Bk m,A]) [0,1] [Bk m,A] R;have an:=k.pk [0] [Bk m] R;exact ⟨m,r,R,h,ao,an,i.sub ay⟩
def XT (c:List (Int×Int×Int×Int)) (b:Int) (f:Int×Int×Int×Int) (d:Int):Option (Mm Int (Unit⊕Unit)):=
match d with
| a=>
(if (decide (a<b))=true then
((idx c a).bind fun e=>
(if (e.1==f.1)=true then
some (.done (.inl ()))
else
some (.next (M4 (a+1)))))
else
some (.done (.inr ())))
def YR (c:List (Int×Int×Int×Int)) (e:Int):Option (Mm Int (Unit⊕Unit)):=
match e with
| b=>
(if (decide (b<((c).length:Int)))=true then
((idx c b).bind fun a=>
(if (decide (a.1<0))=true then
some (.done (.inl ()))
else
(if (decide (a.2.1<0))=true then
some (.done (.inl ()))
else
(if (decide (a.2.1>2))=true then
some (.done (.inl ()))
else
(if (decide (a.2.2.1<0))=true then
some (.done (.inl ()))
else
(if (decide (a.2.2.1≥a.2.2.2))=true then
some (.done (.inl ()))
else
(if (decide (a.2.2.2>1000000000))=true then
some (.done (.inl ()))
else
((loop (XT c b a) 0).bind fun d=>match d with
| (.inl _)=>some (.done (.inl ()))
| (.inr _)=>some (.next (M4 (b+1)))))))))))
else
some (.done (.inr ())))
def Ym (a:List (Int×Int×Int×Int)):Option Bool:=
(if (decide (((a).length:Int)>128))=true then
some false
else
((loop (YR a) 0).bind fun b=>match b with
| (.inl _)=>some false
| (.inr _)=>some true))
theorem M29 (i k f I v y)(m:MS v [y])(o:Ma (M7) v (fl [y]) i k f)(a:Ym f=some I):Md Tryz.prog 19 [Vl i f k] v fun U w=>U=.bool I∧Ev [] v w:=by
 refine Cw hmx Tryz.func19 R R R ?_;have g:=Ev.refl [] v;have t:=FR.nil v.heap.size;refine Cs (Xu 1 [(2,.bool false)] (Xk (Cq (Cs (Xu 1 [(6,Vl i f k)] (Xz PL R (Xu 1 [(8,Bd (((f).length:Int)>128))] (Xk (Ci _ R a (fun a=>?_) (fun a=>?_))))))))))
 · refine Cs (Xu 1 [(2,.bool false)] (Xk (Cr (Kr (Rz (.bool false) R ?_)))));obtain rfl:=Sj a;exact ⟨R,g⟩
 refine Ck (Kt (Cq (Cs (Xu 1 [(3,Vi 0)] (Xk (Cb ?_))))));obtain ⟨K,D,x⟩:=Bs a;obtain ⟨B,D⟩:=Lo D;refine Cl (Lr hmx (σ:=Nat×Int) (fun u=>match u with | (_,d)=>[(0,Vl i f k),(3,Vi d)]) (fun u w=>match u with | (E,d)=>Mh (YR f) E d=some K∧Ev [] v w∧MS w [y]∧FR v.heap.size []∧Ma (M7) w (fl [y]) i k f) (fun u=>u.1) (B,0) ⟨R,R,T0⟩ ⟨D,g,m,t,o⟩ ?_);rintro ⟨B,d⟩ r ad ⟨q,g,m,t,o⟩;rcases B with _ | B
 · exact (Lz q).elim
 obtain ⟨aa,a,q⟩:=Bs q;refine Cq (Cs (Xu 2 [(9,Vi d),(10,Vl i f k)] (Xz PL R (Xu 1 [(12,Bd (d<((f).length:Int)))] (Xk (Cn [(0,Vl i f k),(3,Vi d),(12,Bd (d<((f).length:Int)))] (fun r=>?_)))))));refine Ci _ R a (fun a=>?_) (fun a=>?_)
 · refine Ck (Kt (Cq (Cb (Cs (Xu 2 [(15,Vl i f k),(16,Vi d)] ?_)))));obtain ⟨c,S,a⟩:=Bs a;refine Zf [Vi c.1,Vi c.2.1,Vi c.2.2.1,Vi c.2.2.2] (o.el PL) MP S R (fun _=>R) (fun _=>Xj #[Vi 0,Vi 0,Vi 0,Vi 0] R (fun h ab H n N=>?_));have t:=t.box g.size H;obtain ⟨o,m,g⟩:=E3 (Cx.b m N H n) o m g;obtain ⟨ac,O,L,G⟩:=Sa [Vi c.1,Vi c.2.1,Vi c.2.2.1,Vi c.2.2.2] MP n R R R;refine Xp O R ?_;obtain ⟨o,m⟩:=E2 (Cx.j m 0 G) o m;have g:=g.th G t 0;have n:=L;refine Xk (Cq (Cs (Yg h 0 0 (Vi c.1) R R (Rf Po _) M5 n nn R (Xu 2 [(21,Bd (c.1<0)),(22,Bd (c.1<0))] (Xw 22 _ R a (fun a=>?_) (fun a=>?_))))))
   · refine Xu 26 (Un 23 3++[(26,.bool true),(27,.bool true)]++Un 28 3++[(31,.bool true),(32,.bool true)]++Un 33 3++[(36,.bool true),(37,.bool true)]++Un 38 5++[(43,.bool true),(44,.bool true)]++Un 45 3++[(48,.bool true)]) (Xk (Cn [(0,Vl i f k),(3,Vi d),(4,Vp h 0),(48,.bool true)] (fun r=>?_)));refine Me R (Cs (Xu 1 [(2,.bool false)] (Xk (Cr (Kr (Kb (Kr ?_)))))));obtain rfl:=Sj a;have l:=Sj q;subst l;have a:=x;refine Kr (Kb (Kr (Rz (.bool false) R ?_)));obtain rfl:=Sj a;exact ⟨R,g⟩
   refine Yg h 0 1 (Vi c.2.1) R R (Rf TH _) M5 n nn R (Xu 3 [(25,Bd (c.2.1<0)),(26,Bd (c.2.1<0)),(27,Bd (c.2.1<0))] (Xw 27 _ R a (fun a=>?_) (fun a=>?_)))
   · refine Xu 21 (Un 28 3++[(31,.bool true),(32,.bool true)]++Un 33 3++[(36,.bool true),(37,.bool true)]++Un 38 5++[(43,.bool true),(44,.bool true)]++Un 45 3++[(48,.bool true)]) (Xk (Cn [(0,Vl i f k),(3,Vi d),(4,Vp h 0),(48,.bool true)] (fun r=>?_)));refine Me R (Cs (Xu 1 [(2,.bool false)] (Xk (Cr (Kr (Kb (Kr ?_)))))));obtain rfl:=Sj a;have l:=Sj q;subst l;have a:=x;refine Kr (Kb (Kr (Rz (.bool false) R ?_)));obtain rfl:=Sj a;exact ⟨R,g⟩
   refine Yg h 0 1 (Vi c.2.1) R R (Rf TH _) M5 n nn R (Xu 3 [(30,Bd (c.2.1>2)),(31,Bd (c.2.1>2)),(32,Bd (c.2.1>2))] (Xw 32 _ R a (fun a=>?_) (fun a=>?_)))
   · refine Xu 16 (Un 33 3++[(36,.bool true),(37,.bool true)]++Un 38 5++[(43,.bool true),(44,.bool true)]++Un 45 3++[(48,.bool true)]) (Xk (Cn [(0,Vl i f k),(3,Vi d),(4,Vp h 0),(48,.bool true)] (fun r=>?_)));refine Me R (Cs (Xu 1 [(2,.bool false)] (Xk (Cr (Kr (Kb (Kr ?_)))))));obtain rfl:=Sj a;have l:=Sj q;subst l;have a:=x;refine Kr (Kb (Kr (Rz (.bool false) R ?_)));obtain rfl:=Sj a;exact ⟨R,g⟩
   refine Yg h 0 2 (Vi c.2.2.1) R R (Rf TG _) M5 n nn R (Xu 3 [(35,Bd (c.2.2.1<0)),(36,Bd (c.2.2.1<0)),(37,Bd (c.2.2.1<0))] (Xw 37 _ R a (fun a=>?_) (fun a=>?_)))
   · refine Xu 11 (Un 38 5++[(43,.bool true),(44,.bool true)]++Un 45 3++[(48,.bool true)]) (Xk (Cn [(0,Vl i f k),(3,Vi d),(4,Vp h 0),(48,.bool true)] (fun r=>?_)));refine Me R (Cs (Xu 1 [(2,.bool false)] (Xk (Cr (Kr (Kb (Kr ?_)))))));obtain rfl:=Sj a;have l:=Sj q;subst l;have a:=x;refine Kr (Kb (Kr (Rz (.bool false) R ?_)));obtain rfl:=Sj a;exact ⟨R,g⟩
   refine Yg h 0 2 (Vi c.2.2.1) R R (Rf TG _) M5 n nn R (Yg h 0 3 (Vi c.2.2.2) R R (Rf Pn _) M5 n nn R (Xu 3 [(42,Bd (c.2.2.1≥c.2.2.2)),(43,Bd (c.2.2.1≥c.2.2.2)),(44,Bd (c.2.2.1≥c.2.2.2))] (Xw 44 _ R a (fun a=>?_) (fun a=>?_))))
   · refine Xu 4 (Un 45 3++[(48,.bool true)]) (Xk (Cn [(0,Vl i f k),(3,Vi d),(4,Vp h 0),(48,.bool true)] (fun r=>?_)));refine Me R (Cs (Xu 1 [(2,.bool false)] (Xk (Cr (Kr (Kb (Kr ?_)))))));obtain rfl:=Sj a;have l:=Sj q;subst l;have a:=x;refine Kr (Kb (Kr (Rz (.bool false) R ?_)));obtain rfl:=Sj a;exact ⟨R,g⟩
   refine Yg h 0 3 (Vi c.2.2.2) R R (Rf Pn _) M5 n nn R (Xu 2 [(47,Bd (c.2.2.2>1000000000)),(48,Bd (c.2.2.2>1000000000))] (Xk (Cn [(0,Vl i f k),(3,Vi d),(4,Vp h 0),(48,Bd (c.2.2.2>1000000000))] (fun r=>?_))));refine Ci _ R a (fun a=>?_) (fun a=>?_)
   · refine Cs (Xu 1 [(2,.bool false)] (Xk (Cr (Kr (Kb (Kr ?_))))));obtain rfl:=Sj a;have l:=Sj q;subst l;have a:=x;refine Kr (Kb (Kr (Rz (.bool false) R ?_)));obtain rfl:=Sj a;exact ⟨R,g⟩
   refine Ck (Kt (Cs (Xu 1 [(5,Vi 0)] (Xk (Cb ?_)))));obtain ⟨J,C,F⟩:=Bs a;obtain ⟨A,C⟩:=Lo C;refine Cl (Lr hmx (σ:=Nat×Int) (fun u=>match u with | (_,p)=>[(0,Vl i f k),(3,Vi d),(4,Vp h 0),(5,Vi p)]) (fun u w=>match u with | (E,p)=>Mh (XT f d c) E p=some J∧Ev [] v w∧MS w [[h],y]∧FR v.heap.size [[h]]∧Ma (M7) w (fl [[h],y]) i k f∧w.heap[h]? = some (.cells #[Vi c.1,Vi c.2.1,Vi c.2.2.1,Vi c.2.2.2] 49 (0,0))) (fun u=>u.1) (A,0) ⟨R,R,R,R,T0⟩ ⟨C,g,m,t,o,n⟩ ?_);rintro ⟨A,p⟩ r X ⟨z,g,m,t,o,n⟩;rcases A with _ | A
   · exact (Lz z).elim
   obtain ⟨Z,a,z⟩:=Bs z;refine Cq (Cs (Xu 3 [(49,Vi p),(50,Vi d),(51,Bd (p<d))] (Xk (Cn [(0,Vl i f k),(3,Vi d),(4,Vp h 0),(5,Vi p),(51,Bd (p<d))] (fun r=>?_)))));refine Ci _ R a (fun a=>?_) (fun a=>?_)
   · refine Ck (Kt (Cq (Cb (Cq (Cd [] [(0,false),(1,false),(2,false),(3,false),(4,false),(5,false),(6,false),(7,false)] _ (by kernel_rfl) R ?_)))));obtain ⟨o,n,m,g⟩:=E4 (Cx.e m (Ev.drew X)) o n m g;refine Xu 2 [(54,Vl i f k),(55,Vi p)] ?_;obtain ⟨Y,Q,a⟩:=Bs a;refine Xq (o.el PL) Po M5 Q R (fun _=>R) (fun _=>Yg h 0 0 (Vi c.1) R R (Rf Po _) M5 n nn R (Xu 1 [(61,.bool (Y.1==c.1))] (Xk (Ci _ R a (fun a=>?_) (fun a=>?_)))))
     · refine Cs (Xu 1 [(2,.bool false)] (Xk (Cr (Kb (Kr ?_)))));obtain rfl:=Sj a;have l:=Sj z;subst l;have a:=F;refine Kr (Kb (Kb (Kr ?_)));obtain rfl:=Sj a;have l:=Sj q;subst l;have a:=x;refine Kr (Kb (Kr (Rz (.bool false) R ?_)));obtain rfl:=Sj a;exact ⟨R,g⟩
     refine Ck (Kl (Kt (Cp (Xu 3 [(52,Vi p),(53,Vi (M4 (p+1))),(5,Vi (M4 (p+1)))] (Xe R ?_)))));obtain rfl:=Sj a;exact Kt ⟨(A,M4 (p+1)),⟨R,R,R,R,T0⟩,⟨z,g,m,t,o,n⟩,Ns _⟩
   refine Ce (Ke ?_);obtain rfl:=Sj a;have l:=Sj z;subst l;have a:=F;refine Ke (Ki (Kl (Kt (Cn [(0,Vl i f k),(3,Vi d)] (fun r=>?_)))));refine Cp (Xu 3 [(13,Vi d),(14,Vi (M4 (d+1))),(3,Vi (M4 (d+1)))] (Xe R ?_));obtain rfl:=Sj a;obtain ⟨o,m⟩:=E2 (Cx.s m [1]) o m;have t:=t.px [];exact Kt ⟨(B,M4 (d+1)),⟨R,R,T0⟩,⟨q,g,m,t,o⟩,Ns _⟩
 refine Ce (Ke ?_);obtain rfl:=Sj a;have l:=Sj q;subst l;have a:=x;refine Ke (Ki (Kt (RJ [] T0 (fun r=>?_))));refine Cs (Xu 1 [(2,.bool true)] (Xk (Cr (Rz (.bool true) R ?_))));obtain rfl:=Sj a;exact ⟨R,g⟩
def YS (c:List (List (Int×Int×Int×Int))) (d:Bool×Int):Option (Mm (Bool×Int) Bool):=
match d with
| (b,a)=>
(if (decide (a<((c).length:Int)))=true then
(if b=true then
((idx c a).bind fun f=>
((Ym f).bind fun e=>
some (.next (e,M4 (a+1)))))
else
some (.next (false,M4 (a+1))))
else
some (.done b))
def VJ (d:List (List (Int×Int×Int×Int))) (b:Bool):Option Int:=
((loop (YS d) (b,0)).bind fun a=>match a with
| c=>(if (!c)=true then
some 1
else
some 0))
def Yn (a:List (List (Int×Int×Int×Int))) (b:Int):Option Int:=
(if (decide (((a).length:Int)>96))=true then
some 3
else
(if (decide (b≥0))=true then
VJ a (decide (b≤1000000000))
else
VJ a false))
theorem M2a (f g c k v l p)(h:MS l [p])(j:Ma (Mi (M7)) l (fl [p]) f g c)(a:Yn c k=some v):Md Tryz.prog 44 [Vl f c g,Vi k] l fun z n=>z=Vi v∧Ev [] l n:=by
 refine Cw hmx Tryz.func44 R R R ?_;have d:=Ev.refl [] l;have o:=FR.nil l.heap.size;refine Cs (Xu 1 [(4,Vi 0)] (Xk (Cq (Cs (Xu 1 [(7,Vl f c g)] (Xz Y5 R (Xu 1 [(9,Bd (((c).length:Int)>96))] (Xk (Ci _ R a (fun a=>?_) (fun a=>?_))))))))))
 · refine Cs (Xu 1 [(4,Vi 3)] (Xk (Cr (Kr (Rz (Vi 3) R ?_)))));obtain rfl:=Sj a;exact ⟨R,d⟩
 refine Ck (Kt (Pg (σ:=Bool) (fun m=>match m with | s=>[(0,Vl f c g),(5,.bool s)]) (fun m n=>match m with | s=>VJ c s=some v∧Ev [] l n∧MS n [p]∧FR l.heap.size []∧Ma (Mi (M7)) n (fl [p]) f g c) ?_ ?_))
 · refine Cp (Xu 3 [(10,Vi k),(11,Bd (k≥0)),(12,Bd (k≥0))] (Xw 12 _ R a (fun a=>?_) (fun a=>?_)))
   · refine Xu 4 [(13,Vi k),(14,Bd (k≤1000000000)),(15,Bd (k≤1000000000)),(5,Bd (k≤1000000000))] (Xe R ?_);exact Kt ⟨decide (k≤1000000000),⟨R,R,T0⟩,a,d,h,o,j⟩
   refine Xu 4 [(13,U0),(14,U0),(15,.bool false),(5,.bool false)] (Xe R ?_);exact Kt ⟨false,⟨R,R,T0⟩,a,d,h,o,j⟩
 rintro s t aa ⟨a,d,h,o,j⟩;refine Cq (Cs (Xu 1 [(6,Vi 0)] (Xk (Cn [(0,Vl f c g),(5,.bool s),(6,Vi 0)] (fun t=>?_)))));refine Cb ?_;obtain ⟨B,u,C⟩:=Bs a;obtain ⟨r,u⟩:=Lo u;refine Cl (Lr hmx (σ:=Nat×Bool×Int) (fun m=>match m with | (_,i,b)=>[(0,Vl f c g),(5,.bool i),(6,Vi b)]) (fun m n=>match m with | (Q,i,b)=>Mh (YS c) Q (i,b)=some B∧Ev [] l n∧MS n [p]∧FR l.heap.size []∧Ma (Mi (M7)) n (fl [p]) f g c) (fun m=>m.1) (r,s,0) ⟨R,R,R,T0⟩ ⟨u,d,h,o,j⟩ ?_);rintro ⟨r,i,b⟩ t S ⟨q,d,h,o,j⟩;rcases r with _ | r
 · exact (Lz q).elim
 obtain ⟨Y,a,q⟩:=Bs q;refine Cq (Cs (Xu 2 [(16,Vi b),(17,Vl f c g)] (Xz Y5 R (Xu 1 [(19,Bd (b<((c).length:Int)))] (Xk (Cn [(0,Vl f c g),(5,.bool i),(6,Vi b),(19,Bd (b<((c).length:Int)))] (fun t=>?_)))))));refine Ci _ R a (fun a=>?_) (fun a=>?_)
 · refine Ck (Kt (Cq (Cb (Cp (Xu 2 [(22,.bool i),(23,.bool i)] (Xw 23 i R a (fun a=>?_) (fun a=>?_)))))))
   · refine Xu 2 [(24,Vl f c g),(25,Vi b)] ?_;obtain ⟨A,N,a⟩:=Bs a;obtain ⟨U,X,I,E,D⟩:=Ri (Mo:=[]) Y5 j N;obtain ⟨x,y,rfl,J⟩:=D;refine Yi _ _ _ R I (Yl _ (Vl x A y) R (Rc Pu E (fun _ a=>by cases a)) ?_);obtain ⟨w,L,a⟩:=Bs a;obtain ⟨H,K⟩:=Kc h [] [0];have F:=M29 x y A _ S _ H (J.sub K) L;refine Xv F R ?_;rintro z Z ⟨rfl,G⟩;obtain ⟨j,h,d⟩:=E3 (Cx.e h G) j h d;refine Xu 2 [(29,.bool w),(5,.bool w)] (Xe R (Kl (Kt (Cp (Xu 3 [(20,Vi b),(21,Vi (M4 (b+1))),(6,Vi (M4 (b+1)))] (Xe R ?_))))));obtain rfl:=Sj a;exact Kt ⟨(r,w,M4 (b+1)),⟨R,R,R,T0⟩,⟨q,d,h,o,j⟩,Ns _⟩
   refine Xu 7 [(24,U0),(25,U0),(26,U0),(27,U0),(28,U0),(29,.bool false),(5,.bool false)] (Xe R (Kl (Kt (Cp (Xu 3 [(20,Vi b),(21,Vi (M4 (b+1))),(6,Vi (M4 (b+1)))] (Xe R ?_))))));obtain rfl:=Sj a;exact Kt ⟨(r,false,M4 (b+1)),⟨R,R,R,T0⟩,⟨q,d,h,o,j⟩,Ns _⟩
 refine Ce (Ke ?_);obtain rfl:=Sj a;have O:=Sj q;subst O;have a:=C;refine Ke (Ki (Kt (Cn [(5,.bool i)] (fun t=>?_))));refine Cq (Cs (Xu 2 [(30,.bool i),(31,.bool (!i))] (Xk (Ci _ R a (fun a=>?_) (fun a=>?_)))))
 · refine Cs (Xu 1 [(4,Vi 1)] (Xk (Cr (Kr (Rz (Vi 1) R ?_)))));obtain rfl:=Sj a;exact ⟨R,d⟩
 refine Ck (Kt (Cs (Xu 1 [(4,Vi 0)] (Xk (Cr (Rz (Vi 0) R ?_))))));obtain rfl:=Sj a;exact ⟨R,d⟩
def Zv (b:List (Int×Int×Int×Int)) (c:Int) (d:Int):Option (Mm Int (Int⊕Unit)):=
match d with
| a=>
(if (decide (a<((b).length:Int)))=true then
((idx b a).bind fun e=>
(if (e.1==c)=true then
some (.done (.inl a))
else
some (.next (M4 (a+1)))))
else
some (.done (.inr ())))
def Zw (b:List (Int×Int×Int×Int)) (c:Int):Option Int:=
((loop (Zv b c) 0).bind fun a=>match a with
| (.inl d)=>some d
| (.inr _)=>some (-1))
theorem M3b (e f c g u d m)(q:MS d [m])(n:Ma (M7) d (fl [m]) e f c)(a:Zw c g=some u):Md Tryz.prog 48 [Vl e c f,Vi g] d fun y l=>y=Vi u∧Ev [] d l:=by
 refine Cw hmx Tryz.func48 R R R ?_;have i:=Ev.refl [] d;have p:=FR.nil d.heap.size;refine Cs (Xu 1 [(4,Vi 0)] (Xk (Cq (Cs (Xu 1 [(5,Vi 0)] (Xk (Cb ?_)))))));obtain ⟨v,o,t⟩:=Bs a;obtain ⟨j,o⟩:=Lo o;refine Cl (Lr hmx (σ:=Nat×Int) (fun k=>match k with | (_,b)=>[(0,Vl e c f),(1,Vi g),(5,Vi b)]) (fun k l=>match k with | (x,b)=>Mh (Zv c g) x b=some v∧Ev [] d l∧MS l [m]∧FR d.heap.size []∧Ma (M7) l (fl [m]) e f c) (fun k=>k.1) (j,0) ⟨R,R,R,T0⟩ ⟨o,i,q,p,n⟩ ?_);rintro ⟨j,b⟩ s B ⟨h,i,q,p,n⟩;rcases j with _ | j
 · exact (Lz h).elim
 obtain ⟨A,a,h⟩:=Bs h;refine Cq (Cs (Xu 2 [(6,Vi b),(7,Vl e c f)] (Xz PL R (Xu 1 [(9,Bd (b<((c).length:Int)))] (Xk (Cn [(0,Vl e c f),(1,Vi g),(5,Vi b),(9,Bd (b<((c).length:Int)))] (fun s=>?_)))))));refine Ci _ R a (fun a=>?_) (fun a=>?_)
 · refine Ck (Kt (Cq (Cb (Cs (Xu 2 [(12,Vl e c f),(13,Vi b)] ?_)))));obtain ⟨z,w,a⟩:=Bs a;refine Xq (n.el PL) Po M5 w R (fun _=>R) (fun _=>Xu 2 [(17,Vi g),(18,.bool (z.1==g))] (Xk (Ci _ R a (fun a=>?_) (fun a=>?_))))
   · refine Cs (Xu 2 [(19,Vi b),(4,Vi b)] (Xk (Cr (Kb (Kr ?_)))));obtain rfl:=Sj a;have r:=Sj h;subst r;have a:=t;refine Kr (Kb (Kr (Rz (Vi b) R ?_)));obtain rfl:=Sj a;exact ⟨R,i⟩
   refine Ck (Kl (Kt (Cp (Xu 3 [(10,Vi b),(11,Vi (M4 (b+1))),(5,Vi (M4 (b+1)))] (Xe R ?_)))));obtain rfl:=Sj a;exact Kt ⟨(j,M4 (b+1)),⟨R,R,R,T0⟩,⟨h,i,q,p,n⟩,Ns _⟩
 refine Ce (Ke ?_);obtain rfl:=Sj a;have r:=Sj h;subst r;have a:=t;refine Ke (Ki (Kt (RJ [] T0 (fun s=>?_))));refine Cs (Xu 1 [(4,Vi (-1))] (Xk (Cr (Rz (Vi (-1)) R ?_))));obtain rfl:=Sj a;exact ⟨R,i⟩
def M1N (e:Int) (b:Int) (f:Int) (a:Int) (g:Int) (c:Int) (h:Int) (i:Int) (d:Int):Option Int:=
(if (b != 0)=true then
(if (c != 0)=true then
(if (b != c)=true then
some (M4 (a+d))
else
some a)
else
some a)
else
some a)
theorem M5x (n f o a p c q r g s j)(b:M1N n f o a p c q r g=some s):Md Tryz.prog 76 [.agg #[Vi n,Vi f,Vi o,Vi a],.agg #[Vi p,Vi c,Vi q,Vi r],Vi g] j fun u v=>u=Vi s∧Ev [] j v:=by
 refine Cw hmx Tryz.func76 R R R ?_;have e:=Ev.refl [] j;refine Cs (Xo R (fun h y w d t=>?_));have e:=e.ext t;refine Xo R (fun k z x l m=>?_);have d:=m.box d nn;have e:=e.ext m;refine Xu 1 [(6,Vi 0)] (Xk (Cq (Cs (Yg h 0 1 (Vi f) R R (Rf TH _) M5 d nn R (Xu 2 [(9,.bool (f != 0)),(10,.bool (f != 0))] (Xw 10 _ R b (fun b=>?_) (fun b=>?_)))))))
 · refine Yg k 0 1 (Vi c) R R (Rf TH _) M5 l nn R (Xu 3 [(13,.bool (c != 0)),(14,.bool (c != 0)),(15,.bool (c != 0))] (Xw 15 _ R b (fun b=>?_) (fun b=>?_)))
   · refine Yg h 0 1 (Vi f) R R (Rf TH _) M5 d nn R (Yg k 0 1 (Vi c) R R (Rf TH _) M5 l nn R (Xu 2 [(20,.bool (f != c)),(21,.bool (f != c))] (Xk (Ci _ R b (fun b=>?_) (fun b=>?_)))))
     · refine Cs (Yg h 0 3 (Vi a) R R (Rf Pn _) M5 d nn R (Xu 3 [(24,Vi g),(25,Vi (M4 (a+g))),(6,Vi (M4 (a+g)))] (Xk (Cn [(6,Vi (M4 (a+g)))] (fun i=>?_)))));refine Cr (Kr (Rz (Vi (M4 (a+g))) R ?_));obtain rfl:=Sj b;exact ⟨R,e⟩
     refine Ck (Kt (Cs (Yg h 0 3 (Vi a) R R (Rf Pn _) M5 d nn R (Xu 1 [(6,Vi a)] (Xk (Cn [(6,Vi a)] (fun i=>?_)))))));refine Cr (Rz (Vi a) R ?_);obtain rfl:=Sj b;exact ⟨R,e⟩
   refine Xu 6 [(16,U0),(17,U0),(18,U0),(19,U0),(20,U0),(21,.bool false)] (Xk (PE R (Ck (Kt (Cs (Yg h 0 3 (Vi a) R R (Rf Pn _) M5 d nn R (Xu 1 [(6,Vi a)] (Xk ?_))))))));refine Cn [(6,Vi a)] (fun i=>?_);refine Cr (Rz (Vi a) R ?_);obtain rfl:=Sj b;exact ⟨R,e⟩
 refine Xu 11 [(11,U0),(12,U0),(13,U0),(14,.bool false),(15,.bool false),(16,U0),(17,U0),(18,U0),(19,U0),(20,U0),(21,.bool false)] (Xk (PE R (Ck (Kt (Cs (Yg h 0 3 (Vi a) R R (Rf Pn _) M5 d nn R (Xu 1 [(6,Vi a)] (Xk ?_))))))));refine Cn [(6,Vi a)] (fun i=>?_);refine Cr (Rz (Vi a) R ?_);obtain rfl:=Sj b;exact ⟨R,e⟩
def M0v (f:List (Int×Int×Int×Int)) (b:List (Int×Int×Int×Int)) (j:Int) (k:Int×Int):Option (Mm (Int×Int) (Unit⊕Int)):=
match k with
| (c,a)=>
(if (decide (a<((b).length:Int)))=true then
((idx b a).bind fun m=>
((Zw f m.1).bind fun g=>
(if (decide (g<0))=true then
some (.next (c,M4 (a+1)))
else
((idx f g).bind fun l=>
(if (l.2.2.2==1000000000)=true then
some (.done (.inl ()))
else
((idx f g).bind fun d=>
((idx b a).bind fun e=>
((idx b a).bind fun h=>
((M1N d.1 d.2.1 d.2.2.1 d.2.2.2 e.1 e.2.1 e.2.2.1 e.2.2.2 j).bind fun i=>
some (.next (if (M4 (i-h.2.2.1))>c then (M4 (i-h.2.2.1)) else c,M4 (a+1))))))))))))
else
some (.done (.inr c)))
def M2y (b:List (Int×Int×Int×Int)) (c:List (Int×Int×Int×Int)) (d:Int):Option (Int×Int):=
((loop (M0v b c d) (0,0)).bind fun a=>match a with
| (.inl _)=>some (0,24)
| (.inr e)=>some (e,0))
theorem M7W (k m j l n f r G q z)(d:MS q [z])(g:Ma (M7) q (fl [z]) k m j)(h:Ma (M7) q (fl [z]) l n f)(a:M2y j f r=some G):Md Tryz.prog 45 [Vl k j m,Vl l f n,Vi r] q fun H w=>H=.tuple #[Vi G.1,Vi G.2]∧Ev [] q w:=by
 refine Cw hmx Tryz.func45 R R R ?_;have i:=Ev.refl [] q;have A:=FR.nil q.heap.size;refine Cs (Xu 2 [(6,Vi 0),(7,Vi 0)] (Xk (Cs (Xu 1 [(8,Vi 0)] (Xk (Cq (Cs (Xu 1 [(9,Vi 0)] (Xk ?_)))))))));refine Cb ?_;obtain ⟨N,D,J⟩:=Bs a;obtain ⟨v,D⟩:=Lo D;refine Cl (Lr hmx (σ:=Nat×Int×Int) (fun x=>match x with | (_,c,b)=>[(0,Vl k j m),(1,Vl l f n),(2,Vi r),(8,Vi c),(9,Vi b)]) (fun x w=>match x with | (ab,c,b)=>Mh (M0v j f r) ab (c,b)=some N∧Ev [] q w∧(fun I=>MS w I∧FR q.heap.size []∧Ma (M7) w (fl I) k m j∧Ma (M7) w (fl I) l n f) [z]) (fun x=>x.1) (v,0,0) ⟨R,R,R,R,R,T0⟩ ⟨D,i,d,A,g,h⟩ ?_);rintro ⟨v,c,b⟩ B ac ⟨u,i,d,A,g,h⟩;rcases v with _ | v
 · exact (Lz u).elim
 obtain ⟨af,a,u⟩:=Bs u;refine Cq (Cs (Xu 2 [(11,Vi b),(12,Vl l f n)] (Xz PL R (Xu 1 [(14,Bd (b<((f).length:Int)))] (Xk (Cn [(0,Vl k j m),(1,Vl l f n),(2,Vi r),(8,Vi c),(9,Vi b),(14,Bd (b<((f).length:Int)))] (fun B=>?_)))))));refine Ci _ R a (fun a=>?_) (fun a=>?_)
 · refine Ck (Kt (Cq (Cb (Cs (Xu 3 [(17,Vl k j m),(18,Vl l f n),(19,Vi b)] ?_)))));obtain ⟨ae,aa,a⟩:=Bs a;refine Xq (h.el PL) Po M5 aa R (fun _=>R) (fun _=>?_);obtain ⟨y,E,a⟩:=Bs a;obtain ⟨Q,S⟩:=Kc d [] [0];have C:=M3b k m j ae.1 _ ac _ Q (g.sub S) E;refine Xv C R ?_;rintro H L ⟨rfl,O⟩;obtain ⟨g,h,d,i⟩:=E4 (Cx.e d O) g h d i;refine Xu 1 [(10,Vi y)] (Xk (Cq (Cs (Xu 2 [(24,Vi y),(25,Bd (y<0))] (Xk (Ci _ R a (fun a=>?_) (fun a=>?_)))))))
   · refine Ce (Ke (Ki (Kt (Cp (Xu 3 [(15,Vi b),(16,Vi (M4 (b+1))),(9,Vi (M4 (b+1)))] (Xe R ?_))))));obtain rfl:=Sj a;exact Kt ⟨(v,c,M4 (b+1)),⟨R,R,R,R,R,T0⟩,⟨u,i,d,A,g,h⟩,Ns _⟩
   refine Ck (Kt (Cq (Cs (Xu 2 [(26,Vl k j m),(27,Vi y)] ?_))));obtain ⟨ad,U,a⟩:=Bs a;refine Xq (g.el PL) Pn M5 U R (fun _=>R) (fun _=>Xu 1 [(31,.bool (ad.2.2.2==1000000000))] (Xk (Ci _ R a (fun a=>?_) (fun a=>?_))))
   · refine Cs (Xu 2 [(6,Vi 0),(7,Vi 24)] (Xk (Cr (Kr (Kb (Kr ?_))))));obtain rfl:=Sj a;have F:=Sj u;subst F;have a:=J;refine Kr (Kb (Kr (Rr (Rv [Vi 0,Vi 24] ⟨R,R,T0⟩ ?_))));obtain rfl:=Sj a;exact ⟨R,i⟩
   refine Ck (Kt (Cd [] [(0,false),(1,false),(2,false),(3,false),(4,false),(5,false),(6,false),(7,false),(8,false),(9,false),(11,false),(12,false),(13,false),(14,false),(15,false),(10,false),(16,false),(17,false),(18,false)] _ (by kernel_rfl) R ?_));obtain ⟨g,h,d,i⟩:=E4 (Cx.e d (Ev.drew L)) g h d i;refine Xu 3 [(32,Vi c),(33,Vl k j m),(34,Vi y)] ?_;obtain ⟨s,X,a⟩:=Bs a;refine Zf [Vi s.1,Vi s.2.1,Vi s.2.2.1,Vi s.2.2.2] (g.el PL) MP X R (fun _=>R) (fun _=>Xu 2 [(37,Vl l f n),(38,Vi b)] ?_);obtain ⟨t,Y,a⟩:=Bs a;refine Zf [Vi t.1,Vi t.2.1,Vi t.2.2.1,Vi t.2.2.2] (h.el PL) MP Y R (fun _=>R) (fun _=>Xu 3 [(41,Vi r),(43,Vl l f n),(44,Vi b)] ?_);obtain ⟨o,Z,a⟩:=Bs a;refine Xq (h.el PL) TG M5 Z R (fun _=>R) (fun _=>?_);obtain ⟨p,E,a⟩:=Bs a;have C:=M5x s.1 s.2.1 s.2.2.1 s.2.2.2 t.1 t.2.1 t.2.2.1 t.2.2.2 r _ (L).drew E;refine Xc 76 #[] #[] _ _ R R R R C ?_;rintro H ag ⟨rfl,K⟩;refine ⟨.inr K,?_⟩;obtain ⟨g,h,d,i⟩:=E4 (Cx.e d K) g h d i;refine Xu 1 [(48,Vi (M4 (p-o.2.2.1)))] (M1Y (vs:=[Vi c,Vi (M4 (p-o.2.2.1))]) (Vi (if (M4 (p-o.2.2.1))>c then (M4 (p-o.2.2.1)) else c)) R R R (fun _ _=>R) (Xu 1 [(8,Vi (if (M4 (p-o.2.2.1))>c then (M4 (p-o.2.2.1)) else c))] (Xe R (Kl (Kt (Cn [(0,Vl k j m),(1,Vl l f n),(2,Vi r),(8,Vi (if (M4 (p-o.2.2.1))>c then (M4 (p-o.2.2.1)) else c)),(9,Vi b)] (fun B=>?_)))))));refine Cp (Xu 3 [(15,Vi b),(16,Vi (M4 (b+1))),(9,Vi (M4 (b+1)))] (Xe R ?_));obtain rfl:=Sj a;exact Kt ⟨(v,if (M4 (p-o.2.2.1))>c then (M4 (p-o.2.2.1)) else c,M4 (b+1)),⟨R,R,R,R,R,T0⟩,⟨u,i,d,A,g,h⟩,Ns _⟩
 refine Ce (Ke ?_);obtain rfl:=Sj a;have F:=Sj u;subst F;have a:=J;refine Ke (Ki (Kt (Cn [(8,Vi c)] (fun B=>?_))));refine Cs (Xu 3 [(50,Vi c),(6,Vi c),(7,Vi 0)] (Xk (Cr (Rr (Rv [Vi c,Vi 0] ⟨R,R,T0⟩ ?_)))));obtain rfl:=Sj a;exact ⟨R,i⟩
def VY (e:List (List (Int×Int×Int×Int))) (h:Int) (g:List Int) (d:Int) (i:Int×Int):Option (Mm (Int×Int) (Int⊕Int)):=
match i with
| (c,a)=>
(if (decide (a<d))=true then
((idx e a).bind fun j=>
((idx e d).bind fun k=>
((M2y j k h).bind fun b=>
(if (b.2 != 0)=true then
some (.done (.inl b.2))
else
((idx g a).bind fun f=>
some (.next (if (M4 (f+b.1))>c then (M4 (f+b.1)) else c,M4 (a+1))))))))
else
some (.done (.inr c)))
def Wp (d:List (List (Int×Int×Int×Int))) (f:Int) (g:(List Int)×Int):Option (Mm ((List Int)×Int) (Int⊕(List Int))):=
match g with
| (a,b)=>
(if (decide (b<((d).length:Int)))=true then
((loop (VY d f a b) (0,0)).bind fun e=>match e with
| (.inl h)=>some (.done (.inl h))
| (.inr c)=>(if (decide (c>1000000000))=true then
some (.done (.inl 4))
else
(if a.length+([c]).length≤4294967296 then
some (.next ((a++[c]),M4 (b+1)))
else none)))
else
some (.done (.inr a)))
def Wz (a:List (List (Int×Int×Int×Int))) (b:Int):Option ((List Int)×Int):=
((Yn a b).bind fun c=>
(if (c != 0)=true then
some ([],c)
else
((loop (Wp a b) (([]:List Int),0)).bind fun d=>match d with
| (.inl f)=>some ([],f)
| (.inr e)=>some (e,0))))
theorem M3c (o p k t O x v)(b:MS x [v])(h:Ma (Mi (M7)) x (fl [v]) o p k)(a:Wz k t=some O):Md Tryz.prog 21 [Vl o k p,Vi t] x fun ac w=>∃ I ag,ac=.tuple #[Vl I O.1 ag,Vi O.2]∧Ev [] x w∧MS w [Bk I,v]∧FR x.heap.size [Bk I]∧M9 eI 3 w (fl [Bk I,v]) I ag O.1:=by
 refine Cw hmx Tryz.func21 R R R ?_;have g:=Ev.refl [] x;have q:=FR.nil x.heap.size;refine Cs (Xu 2 [(4,Z0),(5,Vi 0)] (Xk (Cq (Cs (Xu 2 [(13,Vl o k p),(14,Vi t)] ?_)))));obtain ⟨H,aa,a⟩:=Bs a;obtain ⟨Z,N⟩:=Kc b [] [0];have U:=M2a o p k t _ x _ Z (h.sub N) aa;refine Xv U R ?_;rintro ac aS ⟨rfl,az⟩;obtain ⟨h,b,g⟩:=E3 (Cx.e b az) h b g;refine Xu 1 [(6,Vi H)] (Xk (Cs (Xu 2 [(16,Vi H),(17,.bool (H != 0))] (Xk (Ci _ R a (fun a=>?_) (fun a=>?_))))))
 · refine Cs (Xu 3 [(18,Vi H),(4,Z0),(5,Vi H)] (Xk (Cr (Kr (Rr (Rv [Z0,Vi H] ⟨R,R,T0⟩ ?_))))));obtain rfl:=Sj a;have D:=b.pick [none,some 0] [Bk none,v] R;have C:=q.pick [none] [Bk none] R;exact ⟨none,0,R,g,D,C,M9.nil _ _ _ _⟩
 refine Ck (Kt (Cs (Xu 1 [(7,Z0)] (Xk (Cq (Cs (Xu 1 [(8,Vi 0)] (Xk (Cb ?_)))))))));obtain ⟨h,b⟩:=E2 (Cx.n b) h b;have q:=q.pn;have aC:=M9.nil eI 3 aS (fl [Bk none,v]);obtain ⟨ar,Y,Q⟩:=Bs a;obtain ⟨L,Y⟩:=Lo Y;refine Cl (Lr hmx (σ:=Nat×(List Int)×Int×Option Addr×Nat) (fun y=>match y with | (_,j,i,c,m)=>[(0,Vl o k p),(1,Vi t),(7,Vl c j m),(8,Vi i)]) (fun y w=>match y with | (ab,j,i,c,m)=>Mh (Wp k t) ab (j,i)=some ar∧Ev [] x w∧(fun F=>MS w F∧FR x.heap.size [Bk c]∧Ma (Mi (M7)) w (fl F) o p k∧M9 eI 3 w (fl F) c m j) [Bk c,v]) (fun y=>y.1) (L,([]:List Int),0,none,0) ⟨R,R,R,R,T0⟩ ⟨Y,g,b,q,h,aC⟩ ?_);rintro ⟨L,j,i,c,m⟩ B a7 ⟨E,g,b,q,h,s⟩;rcases L with _ | L
 · exact (Lz E).elim
 obtain ⟨a3,a,E⟩:=Bs E;refine Cq (Cs (Xu 2 [(19,Vi i),(20,Vl o k p)] (Xz Y5 R (Xu 1 [(22,Bd (i<((k).length:Int)))] (Xk (Cn [(0,Vl o k p),(1,Vi t),(7,Vl c j m),(8,Vi i),(22,Bd (i<((k).length:Int)))] (fun B=>?_)))))));refine Ci _ R a (fun a=>?_) (fun a=>?_)
 · refine Ck (Kt (Cq (Cb (Cs (Xu 1 [(9,Vi 0)] (Xk (Cq (Cs (Xu 1 [(10,Vi 0)] ?_)))))))));refine Xk (Cb ?_);obtain ⟨aq,X,ak⟩:=Bs a;obtain ⟨K,X⟩:=Lo X;refine Cl (Lr hmx (σ:=Nat×Int×Int) (fun y=>match y with | (_,d,r)=>[(0,Vl o k p),(1,Vi t),(7,Vl c j m),(8,Vi i),(9,Vi d),(10,Vi r)]) (fun y w=>match y with | (ab,d,r)=>Mh (VY k t j i) ab (d,r)=some aq∧Ev [] x w∧(fun F=>MS w F∧FR x.heap.size [Bk c]∧Ma (Mi (M7)) w (fl F) o p k∧M9 eI 3 w (fl F) c m j) [Bk c,v]) (fun y=>y.1) (K,0,0) ⟨R,R,R,R,R,R,T0⟩ ⟨X,g,b,q,h,s⟩ ?_);rintro ⟨K,d,r⟩ B an ⟨G,g,b,q,h,s⟩;rcases K with _ | K
   · exact (Lz G).elim
   obtain ⟨a2,a,G⟩:=Bs G;refine Cq (Cs (Xu 3 [(25,Vi r),(26,Vi i),(27,Bd (r<i))] (Xk (Cn [(0,Vl o k p),(1,Vi t),(7,Vl c j m),(8,Vi i),(9,Vi d),(10,Vi r),(27,Bd (r<i))] (fun B=>?_)))));refine Ci _ R a (fun a=>?_) (fun a=>?_)
   · refine Ck (Kt (Cq (Cb (Cq (Cd [] [(0,false),(1,false),(2,false),(3,false),(4,false),(5,false),(6,false),(7,false),(8,false),(9,true),(10,false),(11,false),(12,false),(13,false),(14,false)] _ (by kernel_rfl) R ?_)))));obtain ⟨h,s,b,g⟩:=E4 (Cx.e b (Ev.drew an)) h s b g;refine Xu 2 [(31,Vl o k p),(32,Vi r)] ?_;obtain ⟨ao,aN,a⟩:=Bs a;obtain ⟨aU,aZ,aE,av,S⟩:=Ri (Mo:=[]) Y5 h aN;obtain ⟨ad,ah,rfl,aH⟩:=S;refine Yi _ _ _ R aE (Yl _ (Vl ad ao ah) R (Rc Pu av (fun _ a=>by cases a)) ?_);refine Xu 2 [(35,Vl o k p),(36,Vi i)] ?_;obtain ⟨ap,aO,a⟩:=Bs a;obtain ⟨aX,a0,aF,aw,S⟩:=Ri (Mo:=[]) Y5 h aO;obtain ⟨ae,ai,rfl,aI⟩:=S;refine Yi _ _ _ R aF (Yl _ (Vl ae ap ai) R (Rc Pu aw (fun _ a=>by cases a)) ?_);refine Xu 1 [(39,Vi t)] ?_;obtain ⟨f,aa,a⟩:=Bs a;obtain ⟨Z,N⟩:=Kc b [] [0,1];have U:=M7W ad ah ao ae ai ap t _ (an).drew _ Z (aH.sub N) (aI.sub N) aa;refine Xv U R ?_;rintro ac a4 ⟨rfl,ax⟩;obtain ⟨h,s,b,g⟩:=E4 (Cx.e b ax) h s b g;refine Xu 5 [(30,.tuple #[Vi f.1,Vi f.2]),(41,Vi f.1),(42,Vi f.2),(11,Vi f.1),(12,Vi f.2)] (Xk (Cq (Cs (Xu 2 [(43,Vi f.2),(44,.bool (f.2 != 0))] (Xk (Ci _ R a (fun a=>?_) (fun a=>?_)))))))
     · refine Cs (Xu 3 [(45,Vi f.2),(4,Z0),(5,Vi f.2)] (Xk (Cn [(4,Z0),(5,Vi f.2)] (fun B=>?_))));refine Cr (Kr (Kb (Kr ?_)));obtain rfl:=Sj a;have A:=Sj G;subst A;have a:=ak;refine Kr (Kb (Kr (Kb (Kr ?_))));obtain rfl:=Sj a;have A:=Sj E;subst A;have a:=Q;refine Kr (Kb (Kr (Rr (Rv [Z0,Vi f.2] ⟨R,R,T0⟩ ?_))));obtain rfl:=Sj a;have D:=b.pick [none,some 1] [Bk none,v] R;have C:=q.pick [none] [Bk none] R;exact ⟨none,0,R,g,D,C,M9.nil _ _ _ _⟩
     refine Ck (Kt (Cp (Xu 3 [(46,Vi d),(47,Vl c j m),(48,Vi r)] ?_)));obtain ⟨z,aQ,a⟩:=Bs a;refine Z6 (s.el MB) M5 aQ R (fun _=>R) (fun _=>Xu 2 [(51,Vi f.1),(52,Vi (M4 (z+f.1)))] (M1Y (vs:=[Vi d,Vi (M4 (z+f.1))]) (Vi (if (M4 (z+f.1))>d then (M4 (z+f.1)) else d)) R R R (fun _ _=>R) (Xu 1 [(9,Vi (if (M4 (z+f.1))>d then (M4 (z+f.1)) else d))] (Xe R (Kl (Kt (Cn [(0,Vl o k p),(1,Vi t),(7,Vl c j m),(8,Vi i),(9,Vi (if (M4 (z+f.1))>d then (M4 (z+f.1)) else d)),(10,Vi r)] (fun B=>?_))))))));refine Cp (Xu 3 [(28,Vi r),(29,Vi (M4 (r+1))),(10,Vi (M4 (r+1)))] (Xe R ?_));obtain rfl:=Sj a;exact Kt ⟨(K,if (M4 (z+f.1))>d then (M4 (z+f.1)) else d,M4 (r+1)),⟨R,R,R,R,R,R,T0⟩,⟨G,g,b,q,h,s⟩,Ns _⟩
   refine Ce (Ke ?_);obtain rfl:=Sj a;have A:=Sj G;subst A;have a:=ak;refine Ke (Ki (Kt (Cn [(0,Vl o k p),(1,Vi t),(7,Vl c j m),(8,Vi i),(9,Vi d)] (fun B=>?_))));refine Cq (Cs (Xu 2 [(54,Vi d),(55,Bd (d>1000000000))] (Xk (Ci _ R a (fun a=>?_) (fun a=>?_)))))
   · refine Cs (Xu 2 [(4,Z0),(5,Vi 4)] (Xk (Cr (Kr (Kb (Kr ?_))))));obtain rfl:=Sj a;have A:=Sj E;subst A;have a:=Q;refine Kr (Kb (Kr (Rr (Rv [Z0,Vi 4] ⟨R,R,T0⟩ ?_))));obtain rfl:=Sj a;have D:=b.pick [none,some 1] [Bk none,v] R;have C:=q.pick [none] [Bk none] R;exact ⟨none,0,R,g,D,C,M9.nil _ _ _ _⟩
   refine Ck (Kt (Cp (Xu 2 [(56,Vl c j m),(57,Vi d)] (Xh #[Vi d] 3 R (fun aY a5 aD au ay=>?_)))));have J:=Cx.e b ay;obtain ⟨h,s,b,g⟩:=E4 J h s b g;have aJ:=J.l (e:=eI) aD au 1 [d];have aB:=Gl a;have a:=Gr a;obtain ⟨af,aj,a6,aG,al,am,a1,aL⟩:=Mb Wg 22 s (Mf 0 R) aJ aB;refine Xx R (Rn aG) ?_;have J:=Cx.u b 0 al am;obtain ⟨h,b⟩:=E2 J h b;have aA:=q.ux 0 g am;have g:=g.th al q 0;have q:=aA;have s:=aL _ J.st.new;refine Xu 1 [(7,Vl af ((j++[d])) aj)] (Xe R (Kl (Kt (Cp (Xu 3 [(23,Vi i),(24,Vi (M4 (i+1))),(8,Vi (M4 (i+1)))] (Xe R ?_))))));obtain rfl:=Sj a;exact Kt ⟨(L,(j++[d]),M4 (i+1),af,aj),⟨R,R,R,R,T0⟩,⟨E,g,b,q,h,s⟩,Ns _⟩
 refine Ce (Ke ?_);obtain rfl:=Sj a;have A:=Sj E;subst A;have a:=Q;refine Ke (Ki (Kt (Cn [(7,Vl c j m)] (fun B=>?_))));refine Cs (Xu 3 [(60,Vl c j m),(4,Vl c j m),(5,Vi 0)] (Xk (Cr (Rr (Rv [Vl c j m,Vi 0] ⟨R,R,T0⟩ ?_)))));obtain rfl:=Sj a;have D:=b.pk [0,1] [Bk c,v] R;have aK:=Pk (ls:=[Bk c,v]) [0,1] [Bk c,v] R;have C:=q.pk [0] [Bk c] R;exact ⟨c,m,R,g,D,C,s.sub aK⟩
def X7 (c:List (Int×Int)) (b:Int) (d:Int):Option (Mm Int (Unit⊕Unit)):=
match d with
| a=>
(if (decide (a<b))=true then
((idx c a).bind fun e=>
((idx c b).bind fun f=>
(if (e.1==f.1)=true then
some (.done (.inl ()))
else
some (.next (M4 (a+1))))))
else
some (.done (.inr ())))
def TP (c:List (Int×Int)) (a:Int):Option (Mm Int (Unit⊕Unit)):=
((loop (X7 c a) 0).bind fun b=>match b with
| (.inl _)=>some (.done (.inl ()))
| (.inr _)=>some (.next (M4 (a+1))))
def XU (b:List (Int×Int)) (c:Int):Option (Mm Int (Unit⊕Unit)):=
match c with
| a=>
(if (decide (a<((b).length:Int)))=true then
((idx b a).bind fun e=>
(if (decide (e.1<0))=true then
some (.done (.inl ()))
else
((idx b a).bind fun f=>
(if (f.2 != 1)=true then
((idx b a).bind fun d=>
(if (d.2 != 2)=true then
some (.done (.inl ()))
else
TP b a))
else
TP b a))))
else
some (.done (.inr ())))
def YT (a:List (Int×Int)):Option Bool:=
(if (decide (((a).length:Int)>128))=true then
some false
else
((loop (XU a) 0).bind fun b=>match b with
| (.inl _)=>some false
| (.inr _)=>some true))
theorem M4B (d f c B m q)(l:MS m [q])(h:Ma (M3 eI eI) m (fl [q]) d f c)(a:YT c=some B):Md Tryz.prog 77 [Vl d c f] m fun N k=>N=.bool B∧Ev [] m k:=by
 refine Cw hmx Tryz.func77 R R R ?_;have g:=Ev.refl [] m;have p:=FR.nil m.heap.size;refine Cs (Xu 1 [(2,.bool false)] (Xk (Cq (Cs (Xu 1 [(5,Vl d c f)] (Xz Vh R (Xu 1 [(7,Bd (((c).length:Int)>128))] (Xk (Ci _ R a (fun a=>?_) (fun a=>?_))))))))))
 · refine Cs (Xu 1 [(2,.bool false)] (Xk (Cr (Kr (Rz (.bool false) R ?_)))));obtain rfl:=Sj a;exact ⟨R,g⟩
 refine Ck (Kt (Cq (Cs (Xu 1 [(3,Vi 0)] (Xk (Cb ?_))))));obtain ⟨F,y,v⟩:=Bs a;obtain ⟨u,y⟩:=Lo y;refine Cl (Lr hmx (σ:=Nat×Int) (fun i=>match i with | (_,b)=>[(0,Vl d c f),(3,Vi b)]) (fun i k=>match i with | (z,b)=>Mh (XU c) z b=some F∧Ev [] m k∧MS k [q]∧FR m.heap.size []∧Ma (M3 eI eI) k (fl [q]) d f c) (fun i=>i.1) (u,0) ⟨R,R,T0⟩ ⟨y,g,l,p,h⟩ ?_);rintro ⟨u,b⟩ o Y ⟨r,g,l,p,h⟩;rcases u with _ | u
 · exact (Lz r).elim
 obtain ⟨L,a,r⟩:=Bs r;refine Cq (Cs (Xu 2 [(8,Vi b),(9,Vl d c f)] (Xz Vh R (Xu 1 [(11,Bd (b<((c).length:Int)))] (Xk (Cn [(0,Vl d c f),(3,Vi b),(11,Bd (b<((c).length:Int)))] (fun o=>?_)))))));refine Ci _ R a (fun a=>?_) (fun a=>?_)
 · refine Ck (Kt (Cq (Cb (Pg (σ:=Unit) (fun i=>match i with | _=>[(0,Vl d c f),(3,Vi b)]) (fun i k=>match i with | _=>TP c b=some L∧Ev [] m k∧MS k [q]∧FR m.heap.size []∧Ma (M3 eI eI) k (fl [q]) d f c) ?_ ?_))))
   · refine Cs (Xu 2 [(14,Vl d c f),(15,Vi b)] ?_);obtain ⟨C,J,a⟩:=Bs a;refine Xq (h.el Vh) RZ M5 J R (fun _=>R) (fun _=>Xu 2 [(19,Bd (C.1<0)),(20,Bd (C.1<0))] (Xw 20 _ R a (fun a=>?_) (fun a=>?_)))
     · refine Xu 15 (Un 21 14++[(35,.bool true)]) (Xk (Cn [(0,Vl d c f),(3,Vi b),(35,.bool true)] (fun o=>?_)));refine Me R (Cs (Xu 1 [(2,.bool false)] (Xk (Cr (Kr (Kb (Kr ?_)))))));obtain rfl:=Sj a;have n:=Sj r;subst n;have a:=v;refine Kr (Kb (Kr (Rz (.bool false) R ?_)));obtain rfl:=Sj a;exact ⟨R,g⟩
     refine Xu 2 [(21,Vl d c f),(22,Vi b)] ?_;obtain ⟨D,K,a⟩:=Bs a;refine Xq (h.el Vh) Y6 M5 K R (fun _=>R) (fun _=>Xu 2 [(26,.bool (D.2 != 1)),(27,.bool (D.2 != 1))] (Xw 27 _ R a (fun a=>?_) (fun a=>?_)))
     · refine Xu 2 [(28,Vl d c f),(29,Vi b)] ?_;obtain ⟨w,G,a⟩:=Bs a;refine Xq (h.el Vh) Y6 M5 G R (fun _=>R) (fun _=>Xu 3 [(33,.bool (w.2 != 2)),(34,.bool (w.2 != 2)),(35,.bool (w.2 != 2))] (Xk (Cn [(0,Vl d c f),(3,Vi b),(35,.bool (w.2 != 2))] (fun o=>?_))));refine Ci _ R a (fun a=>?_) (fun a=>?_)
       · refine Cs (Xu 1 [(2,.bool false)] (Xk (Cr (Kr (Kb (Kr ?_))))));obtain rfl:=Sj a;have n:=Sj r;subst n;have a:=v;refine Kr (Kb (Kr (Rz (.bool false) R ?_)));obtain rfl:=Sj a;exact ⟨R,g⟩
       refine Ck ?_;exact Kt ⟨(),⟨R,R,T0⟩,a,g,l,p,h⟩
     refine Xu 8 (Un 28 6++[(34,.bool false),(35,.bool false)]) (Xk (Cn [(0,Vl d c f),(3,Vi b),(35,.bool false)] (fun o=>?_)));refine PE R (Ck ?_);exact Kt ⟨(),⟨R,R,T0⟩,a,g,l,p,h⟩
   rintro _ o X ⟨a,g,l,p,h⟩;refine Cs (Xu 1 [(4,Vi 0)] (Xk (Cn [(0,Vl d c f),(3,Vi b),(4,Vi 0)] (fun o=>?_))));refine Cb ?_;obtain ⟨E,x,A⟩:=Bs a;obtain ⟨t,x⟩:=Lo x;refine Cl (Lr hmx (σ:=Nat×Int) (fun i=>match i with | (_,j)=>[(0,Vl d c f),(3,Vi b),(4,Vi j)]) (fun i k=>match i with | (z,j)=>Mh (X7 c b) z j=some E∧Ev [] m k∧MS k [q]∧FR m.heap.size []∧Ma (M3 eI eI) k (fl [q]) d f c) (fun i=>i.1) (t,0) ⟨R,R,R,T0⟩ ⟨x,g,l,p,h⟩ ?_);rintro ⟨t,j⟩ o O ⟨s,g,l,p,h⟩;rcases t with _ | t
   · exact (Lz s).elim
   obtain ⟨U,a,s⟩:=Bs s;refine Cq (Cs (Xu 3 [(36,Vi j),(37,Vi b),(38,Bd (j<b))] (Xk (Cn [(0,Vl d c f),(3,Vi b),(4,Vi j),(38,Bd (j<b))] (fun o=>?_)))));refine Ci _ R a (fun a=>?_) (fun a=>?_)
   · refine Ck (Kt (Cq (Cb (Cq (Cd [] [(0,false),(1,false),(2,false),(3,false),(4,false),(5,false),(6,false),(7,false),(8,false),(9,false),(10,false)] _ (by kernel_rfl) R ?_)))));obtain ⟨h,l,g⟩:=E3 (Cx.e l (Ev.drew O)) h l g;refine Xu 2 [(41,Vl d c f),(42,Vi j)] ?_;obtain ⟨Q,H,a⟩:=Bs a;refine Xq (h.el Vh) RZ M5 H R (fun _=>R) (fun _=>Xu 2 [(46,Vl d c f),(47,Vi b)] ?_);obtain ⟨S,I,a⟩:=Bs a;refine Xq (h.el Vh) RZ M5 I R (fun _=>R) (fun _=>Xu 1 [(51,.bool (Q.1==S.1))] (Xk (Ci _ R a (fun a=>?_) (fun a=>?_))))
     · refine Cs (Xu 1 [(2,.bool false)] (Xk (Cr (Kb (Kr ?_)))));obtain rfl:=Sj a;have n:=Sj s;subst n;have a:=A;refine Kr (Kb (Kb (Kr ?_)));obtain rfl:=Sj a;have n:=Sj r;subst n;have a:=v;refine Kr (Kb (Kr (Rz (.bool false) R ?_)));obtain rfl:=Sj a;exact ⟨R,g⟩
     refine Ck (Kl (Kt (Cp (Xu 3 [(39,Vi j),(40,Vi (M4 (j+1))),(4,Vi (M4 (j+1)))] (Xe R ?_)))));obtain rfl:=Sj a;exact Kt ⟨(t,M4 (j+1)),⟨R,R,R,T0⟩,⟨s,g,l,p,h⟩,Ns _⟩
   refine Ce (Ke ?_);obtain rfl:=Sj a;have n:=Sj s;subst n;have a:=A;refine Ke (Ki (Kl (Kt (Cn [(0,Vl d c f),(3,Vi b)] (fun o=>?_)))));refine Cp (Xu 3 [(12,Vi b),(13,Vi (M4 (b+1))),(3,Vi (M4 (b+1)))] (Xe R ?_));obtain rfl:=Sj a;exact Kt ⟨(u,M4 (b+1)),⟨R,R,T0⟩,⟨r,g,l,p,h⟩,Ns _⟩
 refine Ce (Ke ?_);obtain rfl:=Sj a;have n:=Sj r;subst n;have a:=v;refine Ke (Ki (Kt (RJ [] T0 (fun o=>?_))));refine Cs (Xu 1 [(2,.bool true)] (Xk (Cr (Rz (.bool true) R ?_))));obtain rfl:=Sj a;exact ⟨R,g⟩
def XV (b:List Int) (d:Bool×Int):Option (Mm (Bool×Int) Bool):=
match d with
| (c,a)=>
(if (decide (a<((b).length:Int)))=true then
(if c=true then
((idx b a).bind fun e=>
(if (decide (e≥0))=true then
((idx b a).bind fun f=>
(if (decide (f≤1000000000))=true then
(if (a==0)=true then
some (.next (true,M4 (a+1)))
else
((idx b a).bind fun g=>
((idx b (M4 (a-1))).bind fun h=>
some (.next (decide (g≥h),M4 (a+1))))))
else
some (.next (false,M4 (a+1)))))
else
some (.next (false,M4 (a+1)))))
else
some (.next (false,M4 (a+1))))
else
some (.done c))
def VK (d:List Int) (b:Bool):Option Int:=
((loop (XV d) (b,0)).bind fun a=>match a with
| c=>(if (!c)=true then
some 1
else
some 0))
def ZR (b:List (List (Int×Int×Int×Int))) (a:List Int) (d:Int) (e:List (Int×Int)):Option Int:=
((Yn b d).bind fun c=>
(if (c != 0)=true then
some c
else
(if (((a).length:Int)==((b).length:Int))=true then
((YT e).bind fun f=>
VK a f)
else
VK a false)))
theorem M5y (x y s g h c C A B z J j r)(d:MS j [r])(Y:Ma (Mi (M7)) j (fl [r]) x y s)(f:Ma eI j (fl [r]) g h c)(G:Ma (M3 eI eI) j (fl [r]) A B z)(a:ZR s c C z=some J):Md Tryz.prog 46 [Vl x s y,Vl g c h,Vi C,Vl A z B] j fun K q=>K=Vi J∧Ev [] j q:=by
 refine Cw hmx Tryz.func46 R R R ?_;have i:=Ev.refl [] j;have l:=FR.nil j.heap.size;refine Cs (Xu 1 [(8,Vi 0)] (Xk (Cq (Cs (Xu 2 [(12,Vl x s y),(13,Vi C)] ?_)))));obtain ⟨w,I,a⟩:=Bs a;obtain ⟨F,H⟩:=Kc d [] [0];have D:=M2a x y s C _ j _ F (Y.sub H) I;refine Xv D R ?_;rintro K af ⟨rfl,U⟩;obtain ⟨f,G,d,i⟩:=E4 (Cx.e d U) f G d i;refine Xu 1 [(9,Vi w)] (Xk (Cs (Xu 2 [(15,Vi w),(16,.bool (w != 0))] (Xk (Ci _ R a (fun a=>?_) (fun a=>?_))))))
 · refine Cs (Xu 2 [(17,Vi w),(8,Vi w)] (Xk (Cr (Kr (Rz (Vi w) R ?_)))));obtain rfl:=Sj a;exact ⟨R,i⟩
 refine Ck (Kt (Pg (σ:=Bool) (fun p=>match p with | t=>[(1,Vl g c h),(10,.bool t)]) (fun p q=>match p with | t=>VK c t=some J∧Ev [] j q∧MS q [r]∧FR j.heap.size []∧Ma eI q (fl [r]) g h c) ?_ ?_))
 · refine Cp (Xu 1 [(18,Vl g c h)] (Xz MB R (Xu 1 [(20,Vl x s y)] (Xz Y5 R (Xu 2 [(22,.bool (((c).length:Int)==((s).length:Int))),(23,.bool (((c).length:Int)==((s).length:Int)))] (Xw 23 _ R a (fun a=>?_) (fun a=>?_)))))))
   · refine Xu 1 [(24,Vl A z B)] ?_;obtain ⟨O,I,a⟩:=Bs a;obtain ⟨F,H⟩:=Kc d [] [0];have D:=M4B A B z _ af _ F (G.sub H) I;refine Xv D R ?_;rintro K ai ⟨rfl,X⟩;obtain ⟨f,d,i⟩:=E3 (Cx.e d X) f d i;refine Xu 2 [(26,.bool O),(10,.bool O)] (Xe R ?_);exact Kt ⟨O,⟨R,R,T0⟩,a,i,d,l,f⟩
   refine Xu 4 [(24,U0),(25,U0),(26,.bool false),(10,.bool false)] (Xe R ?_);exact Kt ⟨false,⟨R,R,T0⟩,a,i,d,l,f⟩
 rintro t m aj ⟨a,i,d,l,f⟩;refine Cq (Cs (Xu 1 [(11,Vi 0)] (Xk (Cn [(1,Vl g c h),(10,.bool t),(11,Vi 0)] (fun m=>?_)))));refine Cb ?_;obtain ⟨Q,E,S⟩:=Bs a;obtain ⟨o,E⟩:=Lo E;refine Cl (Lr hmx (σ:=Nat×Bool×Int) (fun p=>match p with | (_,k,b)=>[(1,Vl g c h),(10,.bool k),(11,Vi b)]) (fun p q=>match p with | (ae,k,b)=>Mh (XV c) ae (k,b)=some Q∧Ev [] j q∧MS q [r]∧FR j.heap.size []∧Ma eI q (fl [r]) g h c) (fun p=>p.1) (o,t,0) ⟨R,R,R,T0⟩ ⟨E,i,d,l,f⟩ ?_);rintro ⟨o,k,b⟩ m ag ⟨n,i,d,l,f⟩;rcases o with _ | o
 · exact (Lz n).elim
 obtain ⟨ah,a,n⟩:=Bs n;refine Cq (Cs (Xu 2 [(27,Vi b),(28,Vl g c h)] (Xz MB R (Xu 1 [(30,Bd (b<((c).length:Int)))] (Xk (Cn [(1,Vl g c h),(10,.bool k),(11,Vi b),(30,Bd (b<((c).length:Int)))] (fun m=>?_)))))));refine Ci _ R a (fun a=>?_) (fun a=>?_)
 · refine Ck (Kt (Cq (Cb (Cd [] [(0,false),(1,false),(2,false),(3,false),(4,false),(5,false),(6,false),(7,false),(8,false),(9,false),(10,false),(11,false),(12,false),(13,false),(14,false),(15,false),(16,false),(17,false),(18,false),(19,false),(20,false),(21,false),(22,false),(23,false),(24,false),(25,false),(26,false),(27,false),(28,false),(29,false),(30,false),(31,false)] _ (by kernel_rfl) R ?_))));obtain ⟨f,d,i⟩:=E3 (Cx.e d (Ev.drew ag)) f d i;refine Xu 2 [(33,.bool k),(34,.bool k)] (Xw 34 k R a (fun a=>?_) (fun a=>?_))
   · refine Xu 2 [(35,Vl g c h),(36,Vi b)] ?_;obtain ⟨L,Z,a⟩:=Bs a;refine Z6 (f.el MB) M5 Z R (fun _=>R) (fun _=>Xu 3 [(39,Bd (L≥0)),(40,Bd (L≥0)),(41,Bd (L≥0))] (Xw 41 _ R a (fun a=>?_) (fun a=>?_)))
     · refine Xu 2 [(42,Vl g c h),(43,Vi b)] ?_;obtain ⟨N,aa,a⟩:=Bs a;refine Z6 (f.el MB) M5 aa R (fun _=>R) (fun _=>Xu 3 [(46,Bd (N≤1000000000)),(47,Bd (N≤1000000000)),(48,Bd (N≤1000000000))] (Xw 48 _ R a (fun a=>?_) (fun a=>?_)))
       · refine Xu 3 [(49,Vi b),(50,.bool (b==0)),(51,.bool (b==0))] (Xw 51 _ R a (fun a=>?_) (fun a=>?_))
         · refine Xu 13 [(52,U0),(53,U0),(54,U0),(55,U0),(56,U0),(57,U0),(58,U0),(59,U0),(60,U0),(61,U0),(62,.bool true),(63,.bool true),(10,.bool true)] (Xe R (Kl (Kt (Cn [(1,Vl g c h),(10,.bool true),(11,Vi b)] (fun m=>?_)))));refine Cp (Xu 3 [(31,Vi b),(32,Vi (M4 (b+1))),(11,Vi (M4 (b+1)))] (Xe R ?_));obtain rfl:=Sj a;exact Kt ⟨(o,true,M4 (b+1)),⟨R,R,R,T0⟩,⟨n,i,d,l,f⟩,Ns _⟩
         refine Xu 2 [(52,Vl g c h),(53,Vi b)] ?_;obtain ⟨u,ab,a⟩:=Bs a;refine Z6 (f.el MB) M5 ab R (fun _=>R) (fun _=>Xu 3 [(56,Vl g c h),(57,Vi b),(58,Vi (M4 (b-1)))] ?_);obtain ⟨v,ac,a⟩:=Bs a;refine Z6 (f.el MB) M5 ac R (fun _=>R) (fun _=>Xu 4 [(61,Bd (u≥v)),(62,Bd (u≥v)),(63,Bd (u≥v)),(10,Bd (u≥v))] (Xe R (Kl (Kt (Cn [(1,Vl g c h),(10,Bd (u≥v)),(11,Vi b)] (fun m=>?_))))));refine Cp (Xu 3 [(31,Vi b),(32,Vi (M4 (b+1))),(11,Vi (M4 (b+1)))] (Xe R ?_));obtain rfl:=Sj a;exact Kt ⟨(o,decide (u≥v),M4 (b+1)),⟨R,R,R,T0⟩,⟨n,i,d,l,f⟩,Ns _⟩
       refine Xu 16 [(49,U0),(50,U0),(51,U0),(52,U0),(53,U0),(54,U0),(55,U0),(56,U0),(57,U0),(58,U0),(59,U0),(60,U0),(61,U0),(62,U0),(63,.bool false),(10,.bool false)] (Xe R (Kl (Kt (Cn [(1,Vl g c h),(10,.bool false),(11,Vi b)] (fun m=>?_)))));refine Cp (Xu 3 [(31,Vi b),(32,Vi (M4 (b+1))),(11,Vi (M4 (b+1)))] (Xe R ?_));obtain rfl:=Sj a;exact Kt ⟨(o,false,M4 (b+1)),⟨R,R,R,T0⟩,⟨n,i,d,l,f⟩,Ns _⟩
     refine Xu 23 [(42,U0),(43,U0),(44,U0),(45,U0),(46,U0),(47,.bool false),(48,.bool false),(49,U0),(50,U0),(51,U0),(52,U0),(53,U0),(54,U0),(55,U0),(56,U0),(57,U0),(58,U0),(59,U0),(60,U0),(61,U0),(62,U0),(63,.bool false),(10,.bool false)] (Xe R (Kl (Kt (Cn [(1,Vl g c h),(10,.bool false),(11,Vi b)] (fun m=>?_)))));refine Cp (Xu 3 [(31,Vi b),(32,Vi (M4 (b+1))),(11,Vi (M4 (b+1)))] (Xe R ?_));obtain rfl:=Sj a;exact Kt ⟨(o,false,M4 (b+1)),⟨R,R,R,T0⟩,⟨n,i,d,l,f⟩,Ns _⟩
   refine Xu 30 [(35,U0),(36,U0),(37,U0),(38,U0),(39,U0),(40,.bool false),(41,.bool false),(42,U0),(43,U0),(44,U0),(45,U0),(46,U0),(47,.bool false),(48,.bool false),(49,U0),(50,U0),(51,U0),(52,U0),(53,U0),(54,U0),(55,U0),(56,U0),(57,U0),(58,U0),(59,U0),(60,U0),(61,U0),(62,U0),(63,.bool false),(10,.bool false)] (Xe R (Kl (Kt (Cn [(1,Vl g c h),(10,.bool false),(11,Vi b)] (fun m=>?_)))));refine Cp (Xu 3 [(31,Vi b),(32,Vi (M4 (b+1))),(11,Vi (M4 (b+1)))] (Xe R ?_));obtain rfl:=Sj a;exact Kt ⟨(o,false,M4 (b+1)),⟨R,R,R,T0⟩,⟨n,i,d,l,f⟩,Ns _⟩
 refine Ce (Ke ?_);obtain rfl:=Sj a;have ad:=Sj n;subst ad;have a:=S;refine Ke (Ki (Kt (Cn [(10,.bool k)] (fun m=>?_))));refine Cq (Cs (Xu 2 [(64,.bool k),(65,.bool (!k))] (Xk (Ci _ R a (fun a=>?_) (fun a=>?_)))))
 · refine Cs (Xu 1 [(8,Vi 1)] (Xk (Cr (Kr (Rz (Vi 1) R ?_)))));obtain rfl:=Sj a;exact ⟨R,i⟩
 refine Ck (Kt (Cs (Xu 1 [(8,Vi 0)] (Xk (Cr (Rz (Vi 0) R ?_))))));obtain rfl:=Sj a;exact ⟨R,i⟩
def YU (b:List (Int×Int)) (c:Int) (d:Int):Option (Mm Int (Int⊕Unit)):=
match d with
| a=>
(if (decide (a<((b).length:Int)))=true then
((idx b a).bind fun e=>
(if (e.1==c)=true then
((idx b a).bind fun f=>
some (.done (.inl f.2)))
else
some (.next (M4 (a+1)))))
else
some (.done (.inr ())))
def ZS (b:List (Int×Int)) (c:Int):Option Int:=
((loop (YU b c) 0).bind fun a=>match a with
| (.inl d)=>some d
| (.inr _)=>some 1)
theorem M5z (d e c g u f n)(q:MS f [n])(j:Ma (M3 eI eI) f (fl [n]) d e c)(a:ZS c g=some u):Md Tryz.prog 47 [Vl d c e,Vi g] f fun A m=>A=Vi u∧Ev [] f m:=by
 refine Cw hmx Tryz.func47 R R R ?_;have i:=Ev.refl [] f;have p:=FR.nil f.heap.size;refine Cs (Xu 1 [(4,Vi 0)] (Xk (Cq (Cs (Xu 1 [(5,Vi 0)] (Xk (Cb ?_)))))));obtain ⟨w,o,t⟩:=Bs a;obtain ⟨k,o⟩:=Lo o;refine Cl (Lr hmx (σ:=Nat×Int) (fun l=>match l with | (_,b)=>[(0,Vl d c e),(1,Vi g),(5,Vi b)]) (fun l m=>match l with | (z,b)=>Mh (YU c g) z b=some w∧Ev [] f m∧MS m [n]∧FR f.heap.size []∧Ma (M3 eI eI) m (fl [n]) d e c) (fun l=>l.1) (k,0) ⟨R,R,R,T0⟩ ⟨o,i,q,p,j⟩ ?_);rintro ⟨k,b⟩ s D ⟨h,i,q,p,j⟩;rcases k with _ | k
 · exact (Lz h).elim
 obtain ⟨C,a,h⟩:=Bs h;refine Cq (Cs (Xu 2 [(6,Vi b),(7,Vl d c e)] (Xz Vh R (Xu 1 [(9,Bd (b<((c).length:Int)))] (Xk (Cn [(0,Vl d c e),(1,Vi g),(5,Vi b),(9,Bd (b<((c).length:Int)))] (fun s=>?_)))))));refine Ci _ R a (fun a=>?_) (fun a=>?_)
 · refine Ck (Kt (Cq (Cb (Cs (Xu 2 [(12,Vl d c e),(13,Vi b)] ?_)))));obtain ⟨B,x,a⟩:=Bs a;refine Xq (j.el Vh) RZ M5 x R (fun _=>R) (fun _=>Xu 2 [(17,Vi g),(18,.bool (B.1==g))] (Xk (Ci _ R a (fun a=>?_) (fun a=>?_))))
   · refine Cs (Xu 2 [(19,Vl d c e),(20,Vi b)] ?_);obtain ⟨v,y,a⟩:=Bs a;refine Xq (j.el Vh) Y6 M5 y R (fun _=>R) (fun _=>Xu 1 [(4,Vi v.2)] (Xk (Cr (Kb (Kr ?_)))));obtain rfl:=Sj a;have r:=Sj h;subst r;have a:=t;refine Kr (Kb (Kr (Rz (Vi v.2) R ?_)));obtain rfl:=Sj a;exact ⟨R,i⟩
   refine Ck (Kl (Kt (Cp (Xu 3 [(10,Vi b),(11,Vi (M4 (b+1))),(5,Vi (M4 (b+1)))] (Xe R ?_)))));obtain rfl:=Sj a;exact Kt ⟨(k,M4 (b+1)),⟨R,R,R,T0⟩,⟨h,i,q,p,j⟩,Ns _⟩
 refine Ce (Ke ?_);obtain rfl:=Sj a;have r:=Sj h;subst r;have a:=t;refine Ke (Ki (Kt (RJ [] T0 (fun s=>?_))));refine Cs (Xu 1 [(4,Vi 1)] (Xk (Cr (Rz (Vi 1) R ?_))));obtain rfl:=Sj a;exact ⟨R,i⟩
def Rk (e:List (List (Int×Int×Int×Int))) (f:List Int) (b:Int) (a:Int) (h:Int) (g:Bool):Option (Mm (Int×Bool×Int) (Int×Bool)):=
((idx f a).bind fun c=>
((idx e a).bind fun i=>
((idx i h).bind fun d=>
some (.next (if (M4 (c+d.2.2.2))>b then (M4 (c+d.2.2.2)) else b,g,M4 (a+1))))))
def Tj (c:List (List (Int×Int×Int×Int))) (f:List Int) (g:Int) (i:Int×Int×Int×Int) (h:Int×Bool×Int):Option (Mm (Int×Bool×Int) (Int×Bool)):=
match h with
| (b,e,a)=>
(if (decide (a<g))=true then
((idx c a).bind fun j=>
((Zw j i.1).bind fun d=>
(if (decide (d≥0))=true then
(if e=true then
Rk c f b a d true
else
((idx c a).bind fun k=>
((idx k d).bind fun l=>
Rk c f b a d (l.2.2.2==1000000000))))
else
some (.next (b,e,M4 (a+1))))))
else
some (.done (b,e)))
def Tk (b:List (Int×Int×Int×Int)) (e:Int×Int×Int×Int) (d:Int×Int):Option (Mm (Int×Int) Int):=
match d with
| (c,a)=>
(if (decide (a<((b).length:Int)))=true then
((idx b a).bind fun f=>
(if (f.2.1==e.1)=true then
((idx b a).bind fun g=>
some (.next (g.2.2.1,M4 (a+1))))
else
some (.next (c,M4 (a+1)))))
else
some (.done c))
def Tl (g:List (List (Int×Int×Int×Int))) (h:List Int) (i:Int) (j:List (Int×Int)) (c:Int) (k:(List (Int×Int×Int×Int))×Int):Option (Mm ((List (Int×Int×Int×Int))×Int) (Int⊕(List (Int×Int×Int×Int)))):=
match k with
| (b,d)=>
((idx g c).bind fun n=>
(if (decide (d<((n).length:Int)))=true then
((idx g c).bind fun o=>
((idx o d).bind fun a=>
(if (a.2.1==0)=true then
some (.next (b,M4 (d+1)))
else
((ZS j a.1).bind fun p=>
((loop (Tk b a) (p,0)).bind fun f=>match f with
| l=>(if (l==a.2.1)=true then
some (.next (b,M4 (d+1)))
else
((loop (Tj g h c a) (0,false,0)).bind fun f=>match f with
| (e,m)=>(if m=true then
some (.done (.inl 24))
else
(if (decide (e>1000000000))=true then
some (.done (.inl 4))
else
((idx h c).bind fun q=>
(if (decide ((M4 (e+i))>(M4 (q+a.2.2.1))))=true then
some (.done (.inl 21))
else
(if (((b).length:Int)==1024)=true then
some (.done (.inl 3))
else
(if b.length+([(e,a.1,a.2.1,c)]:List (Int×Int×Int×Int)).length≤4294967296 then
some (.next ((b++([(e,a.1,a.2.1,c)]:List (Int×Int×Int×Int))),M4 (d+1)))
else none)))))))))))))
else
some (.done (.inr b))))
def VZ (e:List (Int×Int×Int×Int)) (b:List (Int×Int×Int×Int)) (d:Int) (c:Int):Option (Mm ((List (Int×Int×Int×Int))×Int) (List (Int×Int×Int×Int))):=
(if 0≤c∧c≤(b.length:Int) then
((idx e d).bind fun a=>
(if 0≤c∧c≤(b.length:Int)∧(b.length:Int)≤(b.length:Int) then
(if ([(a.1,a.2.1,a.2.2.1,a.2.2.2)]:List (Int×Int×Int×Int)).length+((b.drop (Int.toNat c)).take (Int.toNat (b.length:Int)-Int.toNat c)).length≤4294967296 then
(if 0<(([(a.1,a.2.1,a.2.2.1,a.2.2.2)]:List (Int×Int×Int×Int))++((b.drop (Int.toNat c)).take (Int.toNat (b.length:Int)-Int.toNat c))).length∧(b.take (Int.toNat c)).length+(([(a.1,a.2.1,a.2.2.1,a.2.2.2)]:List (Int×Int×Int×Int))++((b.drop (Int.toNat c)).take (Int.toNat (b.length:Int)-Int.toNat c))).length≤4294967296 then
some (.next (((b.take (Int.toNat c))++(([(a.1,a.2.1,a.2.2.1,a.2.2.2)]:List (Int×Int×Int×Int))++((b.drop (Int.toNat c)).take (Int.toNat (b.length:Int)-Int.toNat c)))),M4 (d+1)))
else none)
else none)
else none))
else none)
def W0 (b:List (Int×Int×Int×Int)) (c:List (Int×Int×Int×Int)) (d:Int) (e:Int):Option (Mm Int Int):=
match e with
| a=>
(if (decide (a>0))=true then
((idx c (M4 (a-1))).bind fun f=>
((idx b d).bind fun g=>
(if (decide (f.1>g.1))=true then
some (.next (M4 (a-1)))
else
some (.done a))))
else
some (.done a))
def Tm (b:List (Int×Int×Int×Int)) (f:(List (Int×Int×Int×Int))×Int):Option (Mm ((List (Int×Int×Int×Int))×Int) (List (Int×Int×Int×Int))):=
match f with
| (a,c)=>
(if (decide (c<((b).length:Int)))=true then
((loop (W0 b a c) ((a).length:Int)).bind fun d=>match d with
| e=>VZ b a c e)
else
some (.done a))
def Wq (c:List (List (Int×Int×Int×Int))) (f:List Int) (g:Int) (h:List (Int×Int)) (i:(List (Int×Int×Int×Int))×Int):Option (Mm ((List (Int×Int×Int×Int))×Int) (Int⊕(List (Int×Int×Int×Int)))):=
match i with
| (b,a)=>
(if (decide (a<((c).length:Int)))=true then
((loop (Tl c f g h a) (b,0)).bind fun d=>match d with
| (.inl j)=>some (.done (.inl j))
| (.inr e)=>some (.next (e,M4 (a+1))))
else
some (.done (.inr b)))
def WA (b:List (List (Int×Int×Int×Int))) (c:List Int) (d:Int) (e:List (Int×Int)):Option ((List (Int×Int×Int×Int))×Int):=
((ZR b c d e).bind fun f=>
(if (f != 0)=true then
some ([],f)
else
((loop (Wq b c d e) (([]:List (Int×Int×Int×Int)),0)).bind fun a=>match a with
| (.inl i)=>some ([],i)
| (.inr g)=>((loop (Tm g) (([]:List (Int×Int×Int×Int)),0)).bind fun a=>match a with
| h=>some (h,0)))))
theorem M3d (G H z S Y F ag U Z J a7 Q L)(c:MS Q [L])(h:Ma (Mi (M7)) Q (fl [L]) G H z)(i:Ma eI Q (fl [L]) S Y F)(k:Ma (M3 eI eI) Q (fl [L]) U Z J)(a:WA z F ag J=some a7):Md Tryz.prog 22 [Vl G z H,Vl S F Y,Vi ag,Vl U J Z] Q fun a8 m=>∃ aN bv,a8=.tuple #[Vl aN a7.1 bv,Vi a7.2]∧Ev [] Q m∧MS m [Bk aN,L]∧FR Q.heap.size [Bk aN]∧M9 (M7) 58 m (fl [Bk aN,L]) aN bv a7.1:=by
 refine Cw hmx Tryz.func22 R R R ?_;have f:=Ev.refl [] Q;have g:=FR.nil Q.heap.size;refine Cs (Xu 2 [(8,Z0),(9,Vi 0)] (Xk (Cq (Cs (Xu 4 [(24,Vl G z H),(25,Vl S F Y),(26,Vi ag),(27,Vl U J Z)] ?_)))));obtain ⟨aL,ay,a⟩:=Bs a;obtain ⟨aY,aC⟩:=Kc c [] [0];have aS:=M5y G H z S Y F ag U Z J _ Q _ aY (h.sub aC) (i.sub aC) (k.sub aC) ay;refine Xv aS R ?_;rintro a8 dw ⟨rfl,cB⟩;obtain ⟨h,i,k,c,f⟩:=E5 (Cx.e c cB) h i k c f;refine Xu 1 [(10,Vi aL)] (Xk (Cs (Xu 2 [(29,Vi aL),(30,.bool (aL != 0))] (Xk (Ci _ R a (fun a=>?_) (fun a=>?_))))))
 · refine Cs (Xu 3 [(31,Vi aL),(8,Z0),(9,Vi aL)] (Xk (Cr (Kr (Rr (Rv [Z0,Vi aL] ⟨R,R,T0⟩ ?_))))));obtain rfl:=Sj a;have aq:=c.pick [none,some 0] [Bk none,L] R;have ao:=g.pick [none] [Bk none] R;exact ⟨none,0,R,f,aq,ao,M9.nil _ _ _ _⟩
 refine Ck (Kt (Cs (Xu 1 [(11,Z0)] (Xk (Cq (Cs (Xu 1 [(12,Vi 0)] (Xk (Cb ?_)))))))));obtain ⟨h,i,k,c⟩:=E4 (Cx.n c) h i k c;have g:=g.pn;have cF:=M9.nil (M7) 58 dw (fl [Bk none,L]);obtain ⟨ch,bk,aQ⟩:=Bs a;obtain ⟨a3,bk⟩:=Lo bk;refine Cl (Lr hmx (σ:=Nat×(List (Int×Int×Int×Int))×Int×Option Addr×Nat) (fun r=>match r with | (_,O,t,C,ai)=>[(0,Vl G z H),(1,Vl S F Y),(2,Vi ag),(3,Vl U J Z),(11,Vl C O ai),(12,Vi t)]) (fun r m=>match r with | (au,O,t,C,ai)=>Mh (Wq z F ag J) au (O,t)=some ch∧Ev [] Q m∧(fun v=>MS m v∧FR Q.heap.size [Bk C]∧Ma (Mi (M7)) m (fl v) G H z∧Ma eI m (fl v) S Y F∧Ma (M3 eI eI) m (fl v) U Z J∧M9 (M7) 58 m (fl v) C ai O) [Bk C,L]) (fun r=>r.1) (a3,([]:List (Int×Int×Int×Int)),0,none,0) ⟨R,R,R,R,R,R,T0⟩ ⟨bk,f,c,g,h,i,k,cF⟩ ?_);rintro ⟨a3,O,t,C,ai⟩ ah dC ⟨aw,f,c,g,h,i,k,d⟩;rcases a3 with _ | a3
 · exact (Lz aw).elim
 obtain ⟨ec,a,aw⟩:=Bs aw;refine Cq (Cs (Xu 2 [(32,Vi t),(33,Vl G z H)] (Xz Y5 R (Xu 1 [(35,Bd (t<((z).length:Int)))] (Xk (Cn [(0,Vl G z H),(1,Vl S F Y),(2,Vi ag),(3,Vl U J Z),(11,Vl C O ai),(12,Vi t),(35,Bd (t<((z).length:Int)))] (fun ah=>?_)))))));refine Ci _ R a (fun a=>?_) (fun a=>?_)
 · refine Ck (Kt (Cq (Cb (Cs (Xu 1 [(13,Vi 0)] (Xk (Cb ?_)))))));obtain ⟨cc,bf,aO⟩:=Bs a;obtain ⟨aD,bf⟩:=Lo bf;refine Cl (Lr hmx (σ:=Nat×(List (Int×Int×Int×Int))×Int×Option Addr×Nat) (fun r=>match r with | (_,B,D,A,N)=>[(0,Vl G z H),(1,Vl S F Y),(2,Vi ag),(3,Vl U J Z),(11,Vl A B N),(12,Vi t),(13,Vi D)]) (fun r m=>match r with | (au,B,D,A,N)=>Mh (Tl z F ag J t) au (B,D)=some cc∧Ev [] Q m∧(fun v=>MS m v∧FR Q.heap.size [Bk A]∧Ma (Mi (M7)) m (fl v) G H z∧Ma eI m (fl v) S Y F∧Ma (M3 eI eI) m (fl v) U Z J∧M9 (M7) 58 m (fl v) A N B) [Bk A,L]) (fun r=>r.1) (aD,O,0,C,ai) ⟨R,R,R,R,R,R,R,T0⟩ ⟨bf,f,c,g,h,i,k,d⟩ ?_);rintro ⟨aD,B,D,A,N⟩ ah en ⟨ar,f,c,g,h,i,k,d⟩;rcases aD with _ | aD
   · exact (Lz ar).elim
   obtain ⟨d9,a,ar⟩:=Bs ar;refine Cq (Cs (Xu 3 [(38,Vi D),(39,Vl G z H),(40,Vi t)] ?_));obtain ⟨bq,dd,a⟩:=Bs a;obtain ⟨dI,dS,cI,cq,am⟩:=Ri (Mo:=[]) Y5 h dd;obtain ⟨b2,b7,rfl,d7⟩:=am;refine Yi _ _ _ R cI (Yl _ (Vl b2 bq b7) R (Rc Pu cq (fun _ a=>by cases a)) ?_);refine Xz PL R (Xu 1 [(44,Bd (D<((bq).length:Int)))] (Xk (Cn [(0,Vl G z H),(1,Vl S F Y),(2,Vi ag),(3,Vl U J Z),(11,Vl A B N),(12,Vi t),(13,Vi D),(44,Bd (D<((bq).length:Int)))] (fun ah=>?_))));refine Ci _ R a (fun a=>?_) (fun a=>?_)
   · refine Ck (Kt (Cq (Cb (Cs (Xu 2 [(47,Vl G z H),(48,Vi t)] ?_)))));obtain ⟨dD,de,a⟩:=Bs a;obtain ⟨dJ,dU,cJ,cr,am⟩:=Ri (Mo:=[]) Y5 h de;obtain ⟨b3,b8,rfl,c3⟩:=am;refine Yi _ _ _ R cJ (Yl _ (Vl b3 dD b8) R (Rc Pu cr (fun _ a=>by cases a)) ?_);refine Xu 1 [(51,Vi D)] ?_;obtain ⟨o,df,a⟩:=Bs a;refine Zf [Vi o.1,Vi o.2.1,Vi o.2.2.1,Vi o.2.2.2] (c3.el PL) MP df R (fun _=>R) (fun _=>Xj #[Vi 0,Vi 0,Vi 0,Vi 0] R (fun X ed bS x cx=>?_));have g:=g.box f.size bS;obtain ⟨h,i,k,d,c,f⟩:=E6 (Cx.b c cx bS x) h i k d c f;obtain ⟨dv,cK,cl,bD⟩:=Sa [Vi o.1,Vi o.2.1,Vi o.2.2.1,Vi o.2.2.2] MP x R R R;refine Xp cK R ?_;obtain ⟨h,i,k,d,c⟩:=E5 (Cx.j c 0 bD) h i k d c;have f:=f.th bD g 0;have x:=cl;refine Xk (Cq (Cs (Yg X 0 1 (Vi o.2.1) R R (Rf TH _) M5 x nn R (Xu 1 [(56,.bool (o.2.1==0))] (Xk (Ci _ R a (fun a=>?_) (fun a=>?_)))))))
     · refine Ce (Ke (Ki (Kt (Cp (Xu 3 [(45,Vi D),(46,Vi (M4 (D+1))),(13,Vi (M4 (D+1)))] (Xe R ?_))))));obtain rfl:=Sj a;obtain ⟨h,i,k,d,c⟩:=E5 (Cx.s c [1,2]) h i k d c;have g:=g.px [1];exact Kt ⟨(aD,B,M4 (D+1),A,N),⟨R,R,R,R,R,R,R,T0⟩,⟨ar,f,c,g,h,i,k,d⟩,Ns _⟩
     refine Ck (Kt (Cs (Xu 1 [(57,Vl U J Z)] (Yg X 0 0 (Vi o.1) R R (Rf Po _) M5 x nn R ?_))));obtain ⟨bY,ay,a⟩:=Bs a;obtain ⟨aY,aC⟩:=Kc c [] [0,1,2];have aS:=M5z U Z J o.1 _ dv _ aY (k.sub aC) ay;refine Xv aS R ?_;rintro a8 ee ⟨rfl,cy⟩;obtain ⟨h,i,k,d,x,c,f⟩:=E7 (Cx.e c cy) h i k d x c f;refine Xu 1 [(15,Vi bY)] (Xk (Cq (Cs (Xu 1 [(16,Vi 0)] (Xk (Cb ?_))))));obtain ⟨h,i,k,d,c⟩:=E5 (Cx.s c [1,0,2]) h i k d c;have g:=g.px [1,0];obtain ⟨cd,bg,ci⟩:=Bs a;obtain ⟨aI,bg⟩:=Lo bg;refine Cl (Lr hmx (σ:=Nat×Int×Int) (fun r=>match r with | (_,ax,ak)=>[(0,Vl G z H),(1,Vl S F Y),(2,Vi ag),(3,Vl U J Z),(11,Vl A B N),(12,Vi t),(13,Vi D),(14,Vp X 0),(15,Vi ax),(16,Vi ak)]) (fun r m=>match r with | (au,ax,ak)=>Mh (Tk B o) au (ax,ak)=some cd∧Ev [] Q m∧(fun v=>MS m v∧FR Q.heap.size [Bk A,[X]]∧Ma (Mi (M7)) m (fl v) G H z∧Ma eI m (fl v) S Y F∧Ma (M3 eI eI) m (fl v) U Z J∧M9 (M7) 58 m (fl v) A N B∧m.heap[X]? = some (.cells #[Vi o.1,Vi o.2.1,Vi o.2.2.1,Vi o.2.2.2] 49 (0,0))) [Bk A,[X],L]) (fun r=>r.1) (aI,bY,0) ⟨R,R,R,R,R,R,R,R,R,R,T0⟩ ⟨bg,f,c,g,h,i,k,d,x⟩ ?_);rintro ⟨aI,ax,ak⟩ ah dA ⟨aF,f,c,g,h,i,k,d,x⟩;rcases aI with _ | aI
     · exact (Lz aF).elim
     obtain ⟨ea,a,aF⟩:=Bs aF;refine Cq (Cs (Xu 2 [(61,Vi ak),(62,Vl A B N)] (Xz PB R (Xu 1 [(64,Bd (ak<((B).length:Int)))] (Xk (Cn [(0,Vl G z H),(1,Vl S F Y),(2,Vi ag),(3,Vl U J Z),(11,Vl A B N),(12,Vi t),(13,Vi D),(14,Vp X 0),(15,Vi ax),(16,Vi ak),(64,Bd (ak<((B).length:Int)))] (fun ah=>?_)))))));refine Ci _ R a (fun a=>?_) (fun a=>?_)
     · refine Ck (Kt (Cq (Cb (Cq (Cd [] [(0,false),(1,false),(2,false),(3,false),(4,false),(5,false),(6,false),(7,false)] _ (by kernel_rfl) R ?_)))));obtain ⟨h,i,k,d,x,c,f⟩:=E7 (Cx.e c (Ev.drew dA)) h i k d x c f;refine Xu 2 [(67,Vl A B N),(68,Vi ak)] ?_;obtain ⟨dE,dg,a⟩:=Bs a;refine Xq (d.el PB) Wh M5 dg R (fun _=>R) (fun _=>Yg X 0 0 (Vi o.1) R R (Rf Po _) M5 x nn R (Xu 1 [(74,.bool (dE.2.1==o.1))] (Xk (Ci _ R a (fun a=>?_) (fun a=>?_)))))
       · refine Cp (Xu 2 [(75,Vl A B N),(76,Vi ak)] ?_);obtain ⟨bZ,dh,a⟩:=Bs a;refine Xq (d.el PB) M0S M5 dh R (fun _=>R) (fun _=>Xu 1 [(15,Vi bZ.2.2.1)] (Xe R (Kl (Kt (Cp (Xu 3 [(65,Vi ak),(66,Vi (M4 (ak+1))),(16,Vi (M4 (ak+1)))] (Xe R ?_)))))));obtain rfl:=Sj a;exact Kt ⟨(aI,bZ.2.2.1,M4 (ak+1)),⟨R,R,R,R,R,R,R,R,R,R,T0⟩,⟨aF,f,c,g,h,i,k,d,x⟩,Ns _⟩
       refine Ck (Kl (Kt (Cp (Xu 3 [(65,Vi ak),(66,Vi (M4 (ak+1))),(16,Vi (M4 (ak+1)))] (Xe R ?_)))));obtain rfl:=Sj a;exact Kt ⟨(aI,ax,M4 (ak+1)),⟨R,R,R,R,R,R,R,R,R,R,T0⟩,⟨aF,f,c,g,h,i,k,d,x⟩,Ns _⟩
     refine Ce (Ke ?_);obtain rfl:=Sj a;have I:=Sj aF;subst I;have a:=ci;refine Ke (Ki (Kt (Cn [(0,Vl G z H),(1,Vl S F Y),(2,Vi ag),(3,Vl U J Z),(11,Vl A B N),(12,Vi t),(13,Vi D),(14,Vp X 0),(15,Vi ax)] (fun ah=>?_))));refine Cq (Cs (Xu 1 [(80,Vi ax)] (Yg X 0 1 (Vi o.2.1) R R (Rf TH _) M5 x nn R (Xu 1 [(83,.bool (ax==o.2.1))] (Xk (Ci _ R a (fun a=>?_) (fun a=>?_)))))))
     · refine Ce (Ke (Ki (Kt (Cp (Xu 3 [(45,Vi D),(46,Vi (M4 (D+1))),(13,Vi (M4 (D+1)))] (Xe R ?_))))));obtain rfl:=Sj a;obtain ⟨h,i,k,d,c⟩:=E5 (Cx.s c [0,2]) h i k d c;have g:=g.px [0];exact Kt ⟨(aD,B,M4 (D+1),A,N),⟨R,R,R,R,R,R,R,T0⟩,⟨ar,f,c,g,h,i,k,d⟩,Ns _⟩
     refine Ck (Kt (Cs (Yg X 0 0 (Vi o.1) R R (Rf Po _) M5 x nn R (Yg X 0 1 (Vi o.2.1) R R (Rf TH _) M5 x nn R (Xu 1 [(88,Vi t)] (Xg (.agg #[Vi 0,Vi o.1,Vi o.2.1,Vi t]) R (Xj #[Vi 0,Vi 0,Vi 0,Vi 0] R (fun al ef bU ab cz=>?_))))))));have g:=g.box f.size bU;obtain ⟨h,i,k,d,x,c,f⟩:=E7 (Cx.b c cz bU ab) h i k d x c f;obtain ⟨eg,cL,cm,bE⟩:=Sa [Vi 0,Vi o.1,Vi o.2.1,Vi t] Vj ab R R R;refine Xp cL R ?_;obtain ⟨h,i,k,d,x,c⟩:=E6 (Cx.j c 0 bE) h i k d x c;have f:=f.th bE g 0;have ab:=cm;refine Xk (Cs (Xu 1 [(18,.bool false)] (Xk (Cq (Cs (Xu 1 [(19,Vi 0)] (Xk (Cb ?_))))))));obtain ⟨h,i,k,d,c⟩:=E5 (Cx.s c [1,2,0,3]) h i k d c;have g:=g.px [1,2,0];obtain ⟨ce,bh,cj⟩:=Bs a;obtain ⟨aJ,bh⟩:=Lo bh;refine Cl (Lr hmx (σ:=Nat×Int×Bool×Int) (fun r=>match r with | (_,aa,an,af)=>[(0,Vl G z H),(1,Vl S F Y),(2,Vi ag),(3,Vl U J Z),(11,Vl A B N),(12,Vi t),(13,Vi D),(14,Vp X 0),(17,Vp al 0),(18,.bool an),(19,Vi af)]) (fun r m=>match r with | (au,aa,an,af)=>Mh (Tj z F t o) au (aa,an,af)=some ce∧Ev [] Q m∧(fun v=>MS m v∧FR Q.heap.size [Bk A,[X],[al]]∧Ma (Mi (M7)) m (fl v) G H z∧Ma eI m (fl v) S Y F∧Ma (M3 eI eI) m (fl v) U Z J∧M9 (M7) 58 m (fl v) A N B∧m.heap[X]? = some (.cells #[Vi o.1,Vi o.2.1,Vi o.2.2.1,Vi o.2.2.2] 49 (0,0))∧m.heap[al]? = some (.cells #[Vi aa,Vi o.1,Vi o.2.1,Vi t] 58 (0,0))) [Bk A,[X],[al],L]) (fun r=>r.1) (aJ,0,false,0) ⟨R,R,R,R,R,R,R,R,R,R,R,T0⟩ ⟨bh,f,c,g,h,i,k,d,x,ab⟩ ?_);rintro ⟨aJ,aa,an,af⟩ ah a4 ⟨aG,f,c,g,h,i,k,d,x,ab⟩;rcases aJ with _ | aJ
     · exact (Lz aG).elim
     obtain ⟨dt,a,aG⟩:=Bs aG;refine Cq (Cs (Xu 3 [(90,Vi af),(91,Vi t),(92,Bd (af<t))] (Xk (Cn [(0,Vl G z H),(1,Vl S F Y),(2,Vi ag),(3,Vl U J Z),(11,Vl A B N),(12,Vi t),(13,Vi D),(14,Vp X 0),(17,Vp al 0),(18,.bool an),(19,Vi af),(92,Bd (af<t))] (fun ah=>?_)))));refine Ci _ R a (fun a=>?_) (fun a=>?_)
     · refine Ck (Kt (Cq (Cb (Cq (Cd [] [(0,false),(1,false),(2,false),(3,false),(4,false),(5,false),(6,true),(7,false)] _ (by kernel_rfl) R ?_)))));obtain ⟨h,i,k,d,x,ab,c,f⟩:=E8 (Cx.e c (Ev.drew a4)) h i k d x ab c f;refine Xu 2 [(95,Vl G z H),(96,Vi af)] ?_;obtain ⟨b0,di,a⟩:=Bs a;obtain ⟨dK,dX,cN,cs,am⟩:=Ri (Mo:=[]) Y5 h di;obtain ⟨br,bw,rfl,c4⟩:=am;refine Yi _ _ _ R cN (Yl _ (Vl br b0 bw) R (Rc Pu cs (fun _ a=>by cases a)) ?_);refine Yg X 0 0 (Vi o.1) R R (Rf Po _) M5 x nn R ?_;obtain ⟨aE,ay,a⟩:=Bs a;obtain ⟨aY,aC⟩:=Kc c [] [0,1,2,3];have aS:=M3b br bw b0 o.1 _ (a4).drew _ aY (c4.sub aC) ay;refine Xv aS R ?_;rintro a8 eh ⟨rfl,cA⟩;obtain ⟨h,i,k,d,x,ab,c,f⟩:=E8 (Cx.e c cA) h i k d x ab c f;refine Xu 1 [(20,Vi aE)] (Xk (Cs (Xu 2 [(102,Vi aE),(103,Bd (aE≥0))] (Xk (Ci _ R a (fun a=>?_) (fun a=>?_))))))
       · refine Pg (σ:=Bool) (fun r=>match r with | aK=>[(0,Vl G z H),(1,Vl S F Y),(2,Vi ag),(3,Vl U J Z),(11,Vl A B N),(12,Vi t),(13,Vi D),(14,Vp X 0),(17,Vp al 0),(18,.bool aK),(19,Vi af),(20,Vi aE)]) (fun r m=>match r with | aK=>Rk z F aa af aE aK=some dt∧Ev [] Q m∧(fun v=>MS m v∧FR Q.heap.size [Bk A,[X],[al]]∧Ma (Mi (M7)) m (fl v) G H z∧Ma eI m (fl v) S Y F∧Ma (M3 eI eI) m (fl v) U Z J∧M9 (M7) 58 m (fl v) A N B∧m.heap[X]? = some (.cells #[Vi o.1,Vi o.2.1,Vi o.2.2.1,Vi o.2.2.2] 49 (0,0))∧m.heap[al]? = some (.cells #[Vi aa,Vi o.1,Vi o.2.1,Vi t] 58 (0,0))) [Bk A,[X],[al],L]) ?_ ?_
         · refine Cp (Xu 2 [(104,.bool an),(105,.bool an)] (Xw 105 an R a (fun a=>?_) (fun a=>?_)))
           · refine Xu 11 [(106,U0),(107,U0),(108,U0),(109,U0),(110,U0),(111,U0),(112,U0),(113,U0),(114,U0),(115,.bool true),(18,.bool true)] (Xe R ?_);exact Kt ⟨true,⟨R,R,R,R,R,R,R,R,R,R,R,R,T0⟩,a,f,c,g,h,i,k,d,x,ab⟩
           refine Xu 2 [(106,Vl G z H),(107,Vi af)] ?_;obtain ⟨dF,dj,a⟩:=Bs a;obtain ⟨dL,dY,cO,ct,am⟩:=Ri (Mo:=[]) Y5 h dj;obtain ⟨b4,b9,rfl,c5⟩:=am;refine Yi _ _ _ R cO (Yl _ (Vl b4 dF b9) R (Rc Pu ct (fun _ a=>by cases a)) ?_);refine Xu 1 [(110,Vi aE)] ?_;obtain ⟨a9,dk,a⟩:=Bs a;refine Xq (c5.el PL) Pn M5 dk R (fun _=>R) (fun _=>Xu 3 [(114,.bool (a9.2.2.2==1000000000)),(115,.bool (a9.2.2.2==1000000000)),(18,.bool (a9.2.2.2==1000000000))] (Xe R ?_));exact Kt ⟨a9.2.2.2==1000000000,⟨R,R,R,R,R,R,R,R,R,R,R,R,T0⟩,a,f,c,g,h,i,k,d,x,ab⟩
         rintro aK ah dz ⟨a,f,c,g,h,i,k,d,x,ab⟩;refine Cd [] [(0,false),(1,false),(2,false),(3,false),(4,false),(5,false),(6,false),(7,false),(8,false),(9,false),(10,false),(11,false),(12,false),(13,false),(14,false),(15,false),(16,false),(17,true)] _ (by kernel_rfl) R ?_;obtain ⟨h,i,k,d,x,ab,c,f⟩:=E8 (Cx.e c (Ev.drew dz)) h i k d x ab c f;refine Yg al 0 0 (Vi aa) R R (Rf MY _) M5 ab nn R (Xu 2 [(118,Vl S F Y),(119,Vi af)] ?_);obtain ⟨az,dl,a⟩:=Bs a;refine Z6 (i.el MB) M5 dl R (fun _=>R) (fun _=>Xu 2 [(122,Vl G z H),(123,Vi af)] ?_);obtain ⟨dG,dm,a⟩:=Bs a;obtain ⟨dN,dZ,cQ,cu,am⟩:=Ri (Mo:=[]) Y5 h dm;obtain ⟨b5,ca,rfl,c6⟩:=am;refine Yi _ _ _ R cQ (Yl _ (Vl b5 dG ca) R (Rc Pu cu (fun _ a=>by cases a)) ?_);refine Xu 1 [(126,Vi aE)] ?_;obtain ⟨aA,dn,a⟩:=Bs a;refine Xq (c6.el PL) Pn M5 dn R (fun _=>R) (fun _=>Xu 1 [(130,Vi (M4 (az+aA.2.2.2)))] (M1Y (vs:=[Vi aa,Vi (M4 (az+aA.2.2.2))]) (Vi (if (M4 (az+aA.2.2.2))>aa then (M4 (az+aA.2.2.2)) else aa)) R R R (fun _ _=>R) (Yf (Vp al 0) (Vp al 0) R (Rf MY _) ?_)));obtain ⟨ei,cS,cn,bF⟩:=Sx 0 (Vi (if (M4 (az+aA.2.2.2))>aa then (M4 (az+aA.2.2.2)) else aa)) M5 ab;refine Xp cS R ?_;obtain ⟨h,i,k,d,x,c⟩:=E6 (Cx.j c 2 bF) h i k d x c;have f:=f.th bF g 2;have ab:=cn;refine Xe R (Kl (Kt (Cn [(0,Vl G z H),(1,Vl S F Y),(2,Vi ag),(3,Vl U J Z),(11,Vl A B N),(12,Vi t),(13,Vi D),(14,Vp X 0),(17,Vp al 0),(18,.bool aK),(19,Vi af)] (fun ah=>?_))));refine Cp (Xu 3 [(93,Vi af),(94,Vi (M4 (af+1))),(19,Vi (M4 (af+1)))] (Xe R ?_));obtain rfl:=Sj a;exact Kt ⟨(aJ,if (M4 (az+aA.2.2.2))>aa then (M4 (az+aA.2.2.2)) else aa,aK,M4 (af+1)),⟨R,R,R,R,R,R,R,R,R,R,R,T0⟩,⟨aG,f,c,g,h,i,k,d,x,ab⟩,Ns _⟩
       refine Ck (Kl (Kt (Cp (Xu 3 [(93,Vi af),(94,Vi (M4 (af+1))),(19,Vi (M4 (af+1)))] (Xe R ?_)))));obtain rfl:=Sj a;exact Kt ⟨(aJ,aa,an,M4 (af+1)),⟨R,R,R,R,R,R,R,R,R,R,R,T0⟩,⟨aG,f,c,g,h,i,k,d,x,ab⟩,Ns _⟩
     refine Ce (Ke ?_);obtain rfl:=Sj a;have I:=Sj aG;subst I;have a:=cj;refine Ke (Ki (Kt (Cn [(0,Vl G z H),(1,Vl S F Y),(2,Vi ag),(3,Vl U J Z),(11,Vl A B N),(12,Vi t),(13,Vi D),(14,Vp X 0),(17,Vp al 0),(18,.bool an)] (fun ah=>?_))));refine Cq (Cs (Xu 1 [(133,.bool an)] (Xk (Ci an R a (fun a=>?_) (fun a=>?_)))))
     · refine Cs (Xu 2 [(8,Z0),(9,Vi 24)] (Xk (Cr (Kr (Kb (Kr ?_))))));obtain rfl:=Sj a;have I:=Sj ar;subst I;have a:=aO;refine Kr (Kb (Kb (Kr ?_)));obtain rfl:=Sj a;have I:=Sj aw;subst I;have a:=aQ;refine Kr (Kb (Kr (Rr (Rv [Z0,Vi 24] ⟨R,R,T0⟩ ?_))));obtain rfl:=Sj a;have aq:=c.pick [none,some 3] [Bk none,L] R;have ao:=g.pick [none] [Bk none] R;exact ⟨none,0,R,f,aq,ao,M9.nil _ _ _ _⟩
     refine Ck (Kt (Cq (Cs (Yg al 0 0 (Vi aa) R R (Rf MY _) M5 ab nn R (Xu 1 [(136,Bd (aa>1000000000))] (Xk (Ci _ R a (fun a=>?_) (fun a=>?_))))))))
     · refine Cs (Xu 2 [(8,Z0),(9,Vi 4)] (Xk (Cr (Kr (Kb (Kr ?_))))));obtain rfl:=Sj a;have I:=Sj ar;subst I;have a:=aO;refine Kr (Kb (Kb (Kr ?_)));obtain rfl:=Sj a;have I:=Sj aw;subst I;have a:=aQ;refine Kr (Kb (Kr (Rr (Rv [Z0,Vi 4] ⟨R,R,T0⟩ ?_))));obtain rfl:=Sj a;have aq:=c.pick [none,some 3] [Bk none,L] R;have ao:=g.pick [none] [Bk none] R;exact ⟨none,0,R,f,aq,ao,M9.nil _ _ _ _⟩
     refine Ck (Kt (Cq (Cq (Cd [] [(0,false),(1,false),(2,false),(3,false),(4,false),(5,false),(6,false),(7,false),(8,false),(9,false),(10,false),(11,false)] _ (by kernel_rfl) R ?_))));obtain ⟨h,i,k,d,x,ab,c,f⟩:=E8 (Cx.e c (Ev.drew a4)) h i k d x ab c f;refine Yg al 0 0 (Vi aa) R R (Rf MY _) M5 ab nn R (Xu 4 [(139,Vi ag),(140,Vi (M4 (aa+ag))),(141,Vl S F Y),(142,Vi t)] ?_);obtain ⟨b1,dp,a⟩:=Bs a;refine Z6 (i.el MB) M5 dp R (fun _=>R) (fun _=>Yg X 0 2 (Vi o.2.2.1) R R (Rf TG _) M5 x nn R (Xu 2 [(147,Vi (M4 (b1+o.2.2.1))),(148,Bd ((M4 (aa+ag))>(M4 (b1+o.2.2.1))))] (Xk (Ci _ R a (fun a=>?_) (fun a=>?_)))))
     · refine Cs (Xu 2 [(8,Z0),(9,Vi 21)] (Xk (Cr (Kr (Kb (Kr ?_))))));obtain rfl:=Sj a;have I:=Sj ar;subst I;have a:=aO;refine Kr (Kb (Kb (Kr ?_)));obtain rfl:=Sj a;have I:=Sj aw;subst I;have a:=aQ;refine Kr (Kb (Kr (Rr (Rv [Z0,Vi 21] ⟨R,R,T0⟩ ?_))));obtain rfl:=Sj a;have aq:MS (a4).drew [Bk none,L]:=c.pick [none,some 3] _ R;have ao:=g.pick [none] [Bk none] R;exact ⟨none,0,R,f,aq,ao,M9.nil _ _ _ _⟩
     refine Ck (Kt (Cq (Cs (Xu 1 [(149,Vl A B N)] (Xz PB R (Xu 1 [(151,.bool (((B).length:Int)==1024))] (Xk (Cn [(0,Vl G z H),(1,Vl S F Y),(2,Vi ag),(3,Vl U J Z),(11,Vl A B N),(12,Vi t),(13,Vi D),(17,Vp al 0),(151,.bool (((B).length:Int)==1024))] (fun ah=>?_)))))))));refine Ci _ R a (fun a=>?_) (fun a=>?_)
     · refine Cs (Xu 2 [(8,Z0),(9,Vi 3)] (Xk (Cr (Kr (Kb (Kr ?_))))));obtain rfl:=Sj a;have I:=Sj ar;subst I;have a:=aO;refine Kr (Kb (Kb (Kr ?_)));obtain rfl:=Sj a;have I:=Sj aw;subst I;have a:=aQ;refine Kr (Kb (Kr (Rr (Rv [Z0,Vi 3] ⟨R,R,T0⟩ ?_))));obtain rfl:=Sj a;have aq:MS (a4).drew [Bk none,L]:=c.pick [none,some 3] _ R;have ao:=g.pick [none] [Bk none] R;exact ⟨none,0,R,f,aq,ao,M9.nil _ _ _ _⟩
     refine Ck (Kt (Cp (Xu 1 [(152,Vl A B N)] (Yl _ _ R (Ra 0 [Vi aa,Vi o.1,Vi o.2.1,Vi t] Vj ab nn R) (Xh #[Vi aa,Vi o.1,Vi o.2.1,Vi t] 58 R (fun dO ej cG co cC=>?_))))));have a0:=Cx.e c cC;obtain ⟨h,i,k,d,c,f⟩:=E6 a0 h i k d c f;have c7:=a0.l (e:=(M7)) cG co 1 [(aa,o.1,o.2.1,t)];have ap:=Gl a;have a:=Gr a;obtain ⟨bs,bx,ek,cU,bG,bJ,d4,c9⟩:=Mb M3W 27 d (Mf 0 R) c7 ap;refine Xx R (Rn cU) ?_;have a0:=Cx.u c 0 bG bJ;obtain ⟨h,i,k,c⟩:=E4 a0 h i k c;have aU:=g.ux 0 f bJ;have f:=f.th bG g 0;have g:=aU;have d:=c9 _ a0.st.new;refine Xu 1 [(11,Vl bs ((B++([(aa,o.1,o.2.1,t)]:List (Int×Int×Int×Int)))) bx)] (Xe R (Kl (Kt (Cp (Xu 3 [(45,Vi D),(46,Vi (M4 (D+1))),(13,Vi (M4 (D+1)))] (Xe R ?_))))));obtain rfl:=Sj a;obtain ⟨h,i,k,d,c⟩:=E5 (Cx.s c [0,3]) h i k d c;have g:=g.px [0];exact Kt ⟨(aD,(B++([(aa,o.1,o.2.1,t)]:List (Int×Int×Int×Int))),M4 (D+1),bs,bx),⟨R,R,R,R,R,R,R,T0⟩,⟨ar,f,c,g,h,i,k,d⟩,Ns _⟩
   refine Ce (Ke ?_);obtain rfl:=Sj a;have I:=Sj ar;subst I;have a:=aO;refine Ke (Ki (Kl (Kt (Cn [(0,Vl G z H),(1,Vl S F Y),(2,Vi ag),(3,Vl U J Z),(11,Vl A B N),(12,Vi t)] (fun ah=>?_)))));refine Cp (Xu 3 [(36,Vi t),(37,Vi (M4 (t+1))),(12,Vi (M4 (t+1)))] (Xe R ?_));obtain rfl:=Sj a;exact Kt ⟨(a3,B,M4 (t+1),A,N),⟨R,R,R,R,R,R,T0⟩,⟨aw,f,c,g,h,i,k,d⟩,Ns _⟩
 refine Ce (Ke ?_);obtain rfl:=Sj a;have I:=Sj aw;subst I;have a:=aQ;refine Ke (Ki (Kt (Cn [(11,Vl C O ai)] (fun ah=>?_))));refine Cs (Xu 1 [(21,Z0)] (Xk (Cq (Cs (Xu 1 [(22,Vi 0)] (Xk (Cb ?_)))))));obtain ⟨d,c⟩:=E2 (Cx.n c) d c;have g:=g.pn;have bo:=M9.nil (M7) 58 dC (fl [Bk none,Bk C,L]);obtain ⟨d,bo,c⟩:=E3 (Cx.s c [1,0,2]) d bo c;have g:=g.px [1,0];obtain ⟨cf,bi,ck⟩:=Bs a;obtain ⟨a1,bi⟩:=Lo bi;refine Cl (Lr hmx (σ:=Nat×(List (Int×Int×Int×Int))×Int×Option Addr×Nat) (fun r=>match r with | (_,q,ae,y,ac)=>[(11,Vl C O ai),(21,Vl y q ac),(22,Vi ae)]) (fun r m=>match r with | (au,q,ae,y,ac)=>Mh (Tm O) au (q,ae)=some cf∧Ev [] Q m∧(fun v=>MS m v∧FR Q.heap.size [Bk C,Bk y]∧M9 (M7) 58 m (fl v) C ai O∧M9 (M7) 58 m (fl v) y ac q) [Bk C,Bk y,L]) (fun r=>r.1) (a1,([]:List (Int×Int×Int×Int)),0,none,0) ⟨R,R,R,T0⟩ ⟨bi,f,c,g,d,bo⟩ ?_);rintro ⟨a1,q,ae,y,ac⟩ ah eo ⟨aX,f,c,g,d,ad⟩;rcases a1 with _ | a1
 · exact (Lz aX).elim
 obtain ⟨du,a,aX⟩:=Bs aX;refine Cq (Cs (Xu 2 [(156,Vi ae),(157,Vl C O ai)] (Xz PB R (Xu 1 [(159,Bd (ae<((O).length:Int)))] (Xk (Cn [(11,Vl C O ai),(21,Vl y q ac),(22,Vi ae),(159,Bd (ae<((O).length:Int)))] (fun ah=>?_)))))));refine Ci _ R a (fun a=>?_) (fun a=>?_)
 · refine Ck (Kt (Cq (Cb (Cs (Xu 1 [(162,Vl y q ac)] (Xz PB R (Xu 1 [(23,Vi ((q).length:Int))] (Xk (Pg (σ:=Int) (fun r=>match r with | E=>[(11,Vl C O ai),(21,Vl y q ac),(22,Vi ae),(23,Vi E)]) (fun r m=>match r with | E=>VZ O q ae E=some du∧Ev [] Q m∧(fun v=>MS m v∧FR Q.heap.size [Bk C,Bk y]∧M9 (M7) 58 m (fl v) C ai O∧M9 (M7) 58 m (fl v) y ac q) [Bk C,Bk y,L]) ?_ ?_)))))))))
   · refine Cb ?_;obtain ⟨cg,bj,bC⟩:=Bs a;obtain ⟨a2,bj⟩:=Lo bj;refine Cl (Lr hmx (σ:=Nat×Int) (fun r=>match r with | (_,aj)=>[(11,Vl C O ai),(21,Vl y q ac),(22,Vi ae),(23,Vi aj)]) (fun r m=>match r with | (au,aj)=>Mh (W0 O q ae) au aj=some cg∧Ev [] Q m∧(fun v=>MS m v∧FR Q.heap.size [Bk C,Bk y]∧M9 (M7) 58 m (fl v) C ai O∧M9 (M7) 58 m (fl v) y ac q) [Bk C,Bk y,L]) (fun r=>r.1) (a2,((q).length:Int)) ⟨R,R,R,R,T0⟩ ⟨bj,f,c,g,d,ad⟩ ?_);rintro ⟨a2,aj⟩ ah dB ⟨aH,f,c,g,d,ad⟩;rcases a2 with _ | a2
     · exact (Lz aH).elim
     obtain ⟨eb,a,aH⟩:=Bs aH;refine Cq (Cq (Cd [] [(0,false),(1,false),(2,false),(3,false),(4,false),(5,false),(6,false),(7,false),(8,false),(9,false),(10,false),(11,false),(12,false),(13,false),(14,false),(15,false)] _ (by kernel_rfl) R ?_));obtain ⟨d,ad,c,f⟩:=E4 (Cx.e c (Ev.drew dB)) d ad c f;refine Xu 3 [(164,Vi aj),(165,Bd (aj>0)),(166,Bd (aj>0))] (Xw 166 _ R a (fun a=>?_) (fun a=>?_))
     · refine Xu 3 [(167,Vl y q ac),(168,Vi aj),(169,Vi (M4 (aj-1)))] ?_;obtain ⟨ba,dq,a⟩:=Bs a;obtain ⟨bA,d0,d2,cX,cv,am⟩:=Oi (Mo:=[]) PB ad dq;obtain ⟨_,_,rfl,rfl,⟨_,_,rfl,rfl,⟨_,_,rfl,rfl,rfl⟩⟩⟩:=am;refine Yi _ _ _ R cX (Yf ((Px bA ((Int.toNat (M4 (aj-1)))*(M7).n))) ((Px bA ((Int.toNat (M4 (aj-1)))*(M7).n))) R (Rf MY _) (Yl _ (Vi ba.1) R (Rc M5 cv (fun _ a=>by cases a)) ?_));refine Xu 2 [(173,Vl C O ai),(174,Vi ae)] ?_;obtain ⟨bb,dr,a⟩:=Bs a;obtain ⟨bB,d1,d3,cY,cw,am⟩:=Oi (Mo:=[]) PB d dr;obtain ⟨_,_,rfl,rfl,⟨_,_,rfl,rfl,⟨_,_,rfl,rfl,rfl⟩⟩⟩:=am;refine Yi _ _ _ R cY (Yf ((Px bB ((Int.toNat ae)*(M7).n))) ((Px bB ((Int.toNat ae)*(M7).n))) R (Rf MY _) (Yl _ (Vi bb.1) R (Rc M5 cw (fun _ a=>by cases a)) ?_));refine Xu 2 [(178,Bd (ba.1>bb.1)),(179,Bd (ba.1>bb.1))] (Xk (Cn [(11,Vl C O ai),(21,Vl y q ac),(22,Vi ae),(23,Vi aj),(179,Bd (ba.1>bb.1))] (fun ah=>?_)));refine Ci _ R a (fun a=>?_) (fun a=>?_)
       · refine Ck (Kt (Cb (Cp (Xu 3 [(180,Vi aj),(181,Vi (M4 (aj-1))),(23,Vi (M4 (aj-1)))] (Xe R (Kl ?_))))));obtain rfl:=Sj a;exact Kt ⟨(a2,M4 (aj-1)),⟨R,R,R,R,T0⟩,⟨aH,f,c,g,d,ad⟩,Ns _⟩
       refine Ce (Ke ?_);obtain rfl:=Sj a;have I:=Sj aH;subst I;have a:=bC;refine Ke (Ki ?_);exact Kt ⟨aj,⟨R,R,R,R,T0⟩,a,f,c,g,d,ad⟩
     refine Xu 13 (Un 167 12++[(179,.bool false)]) (Xk (Cn [(11,Vl C O ai),(21,Vl y q ac),(22,Vi ae),(23,Vi aj),(179,.bool false)] (fun ah=>?_)));refine PE R (Ce (Ke ?_));obtain rfl:=Sj a;have I:=Sj aH;subst I;have a:=bC;refine Ke (Ki ?_);exact Kt ⟨aj,⟨R,R,R,R,T0⟩,a,f,c,g,d,ad⟩
   rintro E ah av ⟨a,f,c,g,d,ad⟩;refine Cd (WO (av).drew) [(0,false),(1,false),(2,false),(3,false),(4,true),(5,true),(6,true),(7,true),(9,false),(10,false),(11,false),(8,false),(12,false),(13,true),(14,true)] _ (by kernel_rfl) R ?_;obtain ⟨d,ad,c,f⟩:=E4 (Cx.e c (Ev.drew av)) d ad c f;have bQ:((av).drew).heap.size=((av).drew).heap.size+0:=R;refine Xu 3 [(182,Vl y q ac),(183,Vi E),(184,Vi E)] ?_;have ap:=Gl a;have a:=Gr a;have bI:=ap;have cZ:=M4q (P:=Tryz.prog) (Mo:=(WO (av).drew)) (w:=(av).drew) PB y ac q E ap.1 ap.2 ad.le;refine M0J (xv:=Vl y q ac) (lv:=none) (hv:=some (Vi E)) (mv:=some (Vi E)) (.slice y ((q.take (Int.toNat E))).length (Int.toNat E)) R R R R R R cZ (Xu 2 [(186,Vl C O ai),(187,Vi ae)] ?_);obtain ⟨K,ds,a⟩:=Bs a;refine Zf [Vi K.1,Vi K.2.1,Vi K.2.2.1,Vi K.2.2.2] (d.el PB) Vj ds R (fun _=>R) (fun _=>Xu 2 [(191,Vl y q ac),(192,Vi E)] ?_);have ap:=Gl a;have a:=Gr a;obtain ⟨bc,bd,c0,aZ⟩:=Ma.sliced (P:=Tryz.prog) (Mo:=(WO (av).drew)) PB (M9.ro (M':=[]) ad (fun _ aB=>by cases aB) (fun _ _ aB=>by cases aB)) (some E) none ap;replace aZ:Ma (M7) (av).drew [] bc bd ((q.drop (Int.toNat E)).take (Int.toNat (q.length:Int)-Int.toNat E)):=aZ;refine M0J (xv:=Vl y q ac) (lv:=some (Vi E)) (hv:=none) (mv:=none) (Vl bc (((q.drop (Int.toNat E)).take (Int.toNat (q.length:Int)-Int.toNat E))) bd) R R R R R R c0 (Xb #[Vi K.1,Vi K.2.1,Vi K.2.2.1,Vi K.2.2.2] 58 R R R (by kernel_rfl) (fun b6 dx cH cp bl d8=>?_));refine ⟨.inr (bl.nil),?_⟩;have cE:b6=((av).drew).heap.size+0:=by omega
   replace bQ:dx.heap.size=((av).drew).heap.size+1:=by omega
   obtain ⟨a5,bz,da,bK⟩:=Ol (e:=(M7)) cH cp 1 [(K.1,K.2.1,K.2.2.1,K.2.2.2)];obtain ⟨d,ad,c⟩:=E3 (Cx.p c bl bK) d ad c;have g:=g.push (fun b aB=>Nat.le_trans f.size (bK b aB).1);have f:=f.ext bl;have bO:∀ bX∈Bk a5,bX∈(WO (av).drew):=by subst bz; intro bX ay; simp only [Bk,ML,List.mem_singleton] at ay; subst ay; exact WG cE R
   have bp:=da (fl [Bk a5,Bk C,Bk y,L]);rw [← bz];have aZ:=aZ.step (Ro.mk (M:=[]) (M':=[]) (by assumption:Ev [] _ _) (fun b aB=>by cases aB));have ap:=Gl a;have a:=Gr a;obtain ⟨bt,dQ,dy,c1,bm,bL,cD,db⟩:=Xs (M:=Bk a5) (M2:=[]) M3W 27 (M9.plain (Pp (Pi _) (Pp (Pi _) (Pp (Pi _) (Pi _)))) bp) (fun _ a=>a) aZ (fun cb dH bn=>(Pp (Pi _) (Pp (Pi _) (Pp (Pi _) (Pi _)))) _ _ _ _ _ _ bn) ap;refine Ta (vs:=[Vl a5 (([(K.1,K.2.1,K.2.2.1,K.2.2.2)]:List (Int×Int×Int×Int))) 1,Vl bc (((q.drop (Int.toNat E)).take (Int.toNat (q.length:Int)-Int.toNat E))) bd]) _ dy R R R R (MG _ _ _ _ c1) (⟨.inr (bm.sub bO),?_⟩);have d6:=ZI cD bO bQ R;obtain ⟨d,ad,c⟩:=E3 (Cx.u c 0 bm bL) d ad c;have aU:=g.ux 0 f bL;have f:=f.th bm g 0;have g:=aU;have bp:=M9.plain (M':=fl [Bk bt,Bk C,Bk y,L]) (Pp (Pi _) (Pp (Pi _) (Pp (Pi _) (Pi _)))) (db [] (fun _ a=>by cases a));have ap:=Gl a;have a:=Gr a;obtain ⟨a6,be,em,c2,bH,bN,d5,dc⟩:=M5j (M:=Bk y) M3W 27 E (M9.plain (Pp (Pi _) (Pp (Pi _) (Pp (Pi _) (Pi _)))) ad) (fun _ a=>a) (M9.ro (M:=Bk y) (M9.plain (Pp (Pi _) (Pp (Pi _) (Pp (Pi _) (Pi _)))) bp) (fun _ a=>a) (c.apart 0 2 R R R)) (fun cb dH bn=>bn) ⟨bI.1,bI.2,ap⟩;refine Xx R (Rn c2) ?_;obtain ⟨d,c⟩:=E2 (Cx.u c 2 bH bN) d c;have aU:=g.ux 2 f bN;have f:=f.th bH g 2;have g:=aU;have ad:=M9.plain (M':=fl [Bk bt,Bk C,Bk a6,L]) (Pp (Pi _) (Pp (Pi _) (Pp (Pi _) (Pi _)))) (dc [] (fun _ a=>by cases a));refine Xu 1 [(21,Vl a6 (((q.take (Int.toNat E))++(([(K.1,K.2.1,K.2.2.1,K.2.2.2)]:List (Int×Int×Int×Int))++((q.drop (Int.toNat E)).take (Int.toNat (q.length:Int)-Int.toNat E))))) be)] (Xe R (Kl (Kt (Cn [(11,Vl C O ai),(21,Vl a6 (((q.take (Int.toNat E))++(([(K.1,K.2.1,K.2.2.1,K.2.2.2)]:List (Int×Int×Int×Int))++((q.drop (Int.toNat E)).take (Int.toNat (q.length:Int)-Int.toNat E))))) be),(22,Vi ae)] (fun ah=>?_)))));refine Cp (Xu 3 [(160,Vi ae),(161,Vi (M4 (ae+1))),(22,Vi (M4 (ae+1)))] (Xe R ?_));obtain rfl:=Sj a;obtain ⟨d,ad,c⟩:=E3 (Cx.s c [1,2,3]) d ad c;have g:=g.px [1,2];exact Kt ⟨(a1,((q.take (Int.toNat E))++(([(K.1,K.2.1,K.2.2.1,K.2.2.2)]:List (Int×Int×Int×Int))++((q.drop (Int.toNat E)).take (Int.toNat (q.length:Int)-Int.toNat E)))),M4 (ae+1),a6,be),⟨R,R,R,T0⟩,⟨aX,f,c,g,d,ad⟩,Ns _⟩
 refine Ce (Ke ?_);obtain rfl:=Sj a;have I:=Sj aX;subst I;have a:=ck;refine Ke (Ki (Kt (Cn [(21,Vl y q ac)] (fun ah=>?_))));refine Cs (Xu 3 [(196,Vl y q ac),(8,Vl y q ac),(9,Vi 0)] (Xk (Cr (Rr (Rv [Vl y q ac,Vi 0] ⟨R,R,T0⟩ ?_)))));obtain rfl:=Sj a;have aq:=c.pk [1,2] [Bk y,L] R;have c8:=Pk (ls:=[Bk C,Bk y,L]) [1,2] [Bk y,L] R;have ao:=g.pk [1] [Bk y] R;exact ⟨y,ac,R,f,aq,ao,ad.sub c8⟩
end Go.Proofs.YtlihkahbjlnbbaaGreat
