
/- Walks, printed by program: each function returns what the partial function of the same name returns. Conditions: those of each theorem. -/
import Derived.Test.YtlejnkhaphlooaaGreatGT
import Derived.Test.YtlejnkhaphlooaaGreatGr11
import Derived.Test.YtlejnkhaphlooaaGreatGr12
set_option linter.unusedVariables false
set_option linter.unusedSimpArgs false
set_option maxRecDepth 4000
namespace Go.Proofs.YtlejnkhaphlooaaGreat
open Go Go.V Go.Proofs Go.IntKind
def r13_Least_L15 (e:List (Int×Int×Int×Int)) (f:Int) (g:Int) (h:(List Int)×Int×Int):Option (Step ((List Int)×Int×Int) (Int⊕((List Int)×Int))):=
match h with
| (b,d,a)=>
(if (decide (a<((b).length:Int)))=true then
((idx e a).bind fun i=>
(if (i.2.1 != g)=true then
some (.next (b,d,i64.wrap (a+1)))
else
((idx e a).bind fun j=>
((r11_Base e f b a).bind fun k=>
((r12_Next k j.2.2.1 f).bind fun c=>
(if (c.2 != 0)=true then
some (.done (.inl c.2))
else
((idx b a).bind fun l=>
some (.next ((b.set (Int.toNat a) c.1),if c.1>d then c.1 else d,i64.wrap (a+1))))))))))
else
some (.done (.inr (b,d))))
def r13_Least_L13 (g:List (Int×Int×Int×Int)) (h:Int) (i:(List Int)×Int×Int):Option (Step ((List Int)×Int×Int) (Int⊕((List Int)×Int))):=
match i with
| (b,c,a)=>
(if (decide (a<32))=true then
((loop (r13_Least_L15 g h a) (b,c,0)).bind fun d=>match d with
| (.inl j)=>some (.done (.inl j))
| (.inr (e,f))=>some (.next (e,f,i64.wrap (a+1))))
else
some (.done (.inr (b,c))))
def r13_Least (a:List (Int×Int×Int×Int)) (b:Int):Option ((Int×(List Int))×Int):=
((r11_Valid a b).bind fun c=>
(if (c != 0)=true then
some ((0,[]),c)
else
(if (0:Int)≤((a).length:Int)∧(((a).length:Int):Int)≤4294967296 then
((loop (r13_Least_L13 a b) ((List.replicate (Int.toNat ((a).length:Int)) 0:List Int),0,0)).bind fun d=>match d with
| (.inl g)=>some ((0,[]),g)
| (.inr (e,f))=>((r12_Long f).bind fun h=>
some ((h,e),0)))
else none)))
theorem r13_Least_w (x A n D aj F g)(d:MS F [g])(k:SlR (eIt4) F (fl [g]) x A n)(a:r13_Least n D=some aj):CallVC Tryz.prog 61 [.agg #[Vl x n A,Vi D]] F fun ak w=>∃ ab aC,ak=.tuple #[.agg #[Vi aj.1.1,Vl ab aj.1.2 aC],Vi aj.2]∧Ev [] F w∧MS w [Bk ab,g]∧FR F.heap.size [Bk ab]∧OwnS eI 3 w (fl [Bk ab,g]) ab aC aj.1.2:=by
 refine Cv hmx Tryz.func61 (by kernel_rfl) R (rs:=[.cell 2 52,.tmp 3]) R (by kernel_rfl) (args:=[.agg #[Vl x n A,Vi D]]) R ?_;have h:Ev [] F F:=Ev.refl _ _;have s:FR F.heap.size []:=FR.nil _;refine Cs (Yb _ R (fun c bf ay j av bt=>?_));replace j:bf.heap[c]? = some (.cells #[Vl x n A,Vi D] 50 (0,0)):=j;refine I1 ?_;have t:=Stp.box (ls:=[g]) av ay;have k:=k.step t;have d:=d.box av ay j;have s:=s.box h.size ay;have h:=h.ext av;refine Xa (z:=.agg #[Vi 0,Z0]) R R (by kernel_rfl) (fun f aK az i an bu=>?_);replace i:aK.heap[f]? = some (.cells #[Vi 0,Z0] 52 (0,0)):=i;refine I1 ?_;have t:=Stp.box (ls:=[[c],g]) an az;have k:=k.step t;have j:=an.box j nn;have d:=d.box an az i;have s:=s.box h.size az;have h:=h.ext an;refine Xu 1 [(3,Vi 0)] (Xk (Cq (Cs (Yl _ _ R (Ra 0 [Vl x n A,Vi D] tagg50 j nn R) ?_))));obtain ⟨U,H,a⟩:=Bs a;have N:=r11_Valid_w x A n D _ aK (fl [[f],[c],g]) (MS.fold (P:=[]) d) (k.sub fl1) H;refine Xc 60 #[] #[] _ _ R R R R N ?_;rintro ak bk ⟨rfl,af⟩;refine I1 ?_;have t:=Stp.ext (ls:=[[f],[c],g]) af;have k:=k.step t;have j:=af.box j nn;have i:=af.box i nn;have d:=d.ev af;have h:=h.ext af;refine Xu 1 [(4,Vi U)] (Xk (Cs (Xu 2 [(13,Vi U),(14,.bool (U != 0))] (Xk (Ci (U != 0) R a (fun a=>?_) (fun a=>?_))))))
 · refine Cs (Xd (vs:=[]) (.agg #[Vi 0,Z0]) R R R (fun _ _=>by kernel_rfl) ?_);refine Xu 1 [(16,Vi U)] ?_;obtain ⟨bl,a8,aX,aG⟩:=Sa [Vi 0,Z0] tagg52 i R R R;refine Ys bl _ _ R a8 (I1 ?_);have d:=d.ev aG;have h:=h.then aG (fun B E=>.inr (s.at 0 R B E));have i:=aX;refine Xu 1 [(3,Vi U)] (Xk (Cr (Kr (Rr (Rv [.agg #[Vi 0,Z0],Vi U] ⟨⟨_,R,Lv (Ra (Mo:=[]) 0 [Vi 0,Z0] tagg52 i nn R)⟩,R,T0⟩ ?_)))));obtain rfl:=Sj a;have ah:=d.pick [none,some 2] [Bk none,g] R;have ag:=s.pick [none] [Bk none] R;exact ⟨none,0,R,h,ah,ag,OwnS.nil _ _ _ _⟩
 refine Ck (Kt (Cs (Yg c 0 0 (Vl x n A) R R (Rf tfld50_0 _ _) tcell36 j nn R (Xn (vs:=[Vl x n A]) (Vi ((n).length:Int)) R R R (Rl tsl36 _ _ _ _ _) ?_))));have aH:=Gl a;have a:=Gr a;obtain ⟨b,o,be,a1,ac,aw,bb⟩:=own_make (e:=eI) tel22 bk ((n).length:Int) aH.1 aH.2 0 (fun _ _=>R);refine Xm _ be (xv:=Vi ((n).length:Int)) (yv:=Vi ((n).length:Int)) R R R R a1 (I1 ?_);have t:=Stp.push (ls:=[[f],[c],g]) (l:=Bk b) ac (fun _ a=>by cases a) (fun B E=>(aw B E).1);have k:=k.step t;have j:=ac.box j nn;have i:=ac.box i nn;have d:=d.push ac aw;have s:=s.push (fun B E=>Nat.le_trans h.size (aw B E).1);have h:=h.ext ac;have q:=bb (fl [Bk b,[f],[c],g]);refine Xu 1 [(5,Vl b ((List.replicate (Int.toNat ((n).length:Int)) 0:List Int)) o)] (Xk (Cn [(1,Vp c 0),(2,Vp f 0),(5,Vl b ((List.replicate (Int.toNat ((n).length:Int)) 0:List Int)) o)] (fun K=>?_)));refine Cs (Xu 1 [(6,Vi 0)] (Xk (Cq (Cs (Xu 1 [(7,Vi 0)] (Xk (Cb ?_)))))));have ax:=d.pk [2,1,0,3] [[c],[f],Bk b,g] R;have ao:=Pk (ls:=[Bk b,[f],[c],g]) [2,1,0,3] [[c],[f],Bk b,g] R;have k:=k.sub ao;have q:=q.sub ao;have d:=ax;have s:=s.pk [2,1,0] [[c],[f],Bk b] R;obtain ⟨aN,ar,aD⟩:=Bs a;obtain ⟨ai,ar⟩:=Lo ar;refine Cl (Lr hmx (σ:=Nat×(List Int)×Int×Int) (fun G=>match G with | (_,C,I,u)=>[(1,Vp c 0),(2,Vp f 0),(5,Vl b C o),(6,Vi I),(7,Vi u)]) (fun G w=>match G with | (aA,C,I,u)=>loopN (r13_Least_L13 n D) aA (C,I,u)=some aN∧Ev [] F w∧MS w [[c],[f],Bk b,g]∧FR F.heap.size [[c],[f],Bk b]∧SlR (eIt4) w (fl [[c],[f],Bk b,g]) x A n∧w.heap[c]? = some (.cells #[Vl x n A,Vi D] 50 (0,0))∧w.heap[f]? = some (.cells #[Vi 0,Z0] 52 (0,0))∧OwnS eI 3 w (fl [[c],[f],Bk b,g]) b o C) (fun G=>G.1) (ai,(List.replicate (Int.toNat ((n).length:Int)) 0:List Int),0,0) ⟨R,R,R,R,R,T0⟩ ⟨ar,h,d,s,k,j,i,q⟩ ?_);rintro ⟨ai,C,I,u⟩ K bm ⟨Y,h,d,s,k,j,i,q⟩;rcases ai with _ | ai
 · exact (Lz Y).elim
 obtain ⟨bv,a,Y⟩:=Bs Y;refine Cq (Cs (Xu 2 [(21,Vi u),(22,Bd (u<32))] (Xk (Cn [(1,Vp c 0),(2,Vp f 0),(5,Vl b C o),(6,Vi I),(7,Vi u),(22,Bd (u<32))] (fun K=>?_)))));refine Ci (decide (u<32)) R a (fun a=>?_) (fun a=>?_)
 · refine Ck (Kt (Cq (Cb (Cs (Xu 1 [(8,Vi 0)] (Xk (Cb ?_)))))));obtain ⟨aO,au,aE⟩:=Bs a;obtain ⟨Z,au⟩:=Lo au;refine Cl (Lr hmx (σ:=Nat×(List Int)×Int×Int) (fun G=>match G with | (_,r,v,p)=>[(1,Vp c 0),(2,Vp f 0),(5,Vl b r o),(6,Vi v),(7,Vi u),(8,Vi p)]) (fun G w=>match G with | (aA,r,v,p)=>loopN (r13_Least_L15 n D u) aA (r,v,p)=some aO∧Ev [] F w∧MS w [[c],[f],Bk b,g]∧FR F.heap.size [[c],[f],Bk b]∧SlR (eIt4) w (fl [[c],[f],Bk b,g]) x A n∧w.heap[c]? = some (.cells #[Vl x n A,Vi D] 50 (0,0))∧w.heap[f]? = some (.cells #[Vi 0,Z0] 52 (0,0))∧OwnS eI 3 w (fl [[c],[f],Bk b,g]) b o r) (fun G=>G.1) (Z,C,I,0) ⟨R,R,R,R,R,R,T0⟩ ⟨au,h,d,s,k,j,i,q⟩ ?_);rintro ⟨Z,r,v,p⟩ K J ⟨Q,h,d,s,k,j,i,q⟩;rcases Z with _ | Z
   · exact (Lz Q).elim
   obtain ⟨bw,a,Q⟩:=Bs Q;refine Cq (Cs (Xu 2 [(25,Vi p),(26,Vl b r o)] (Xn (vs:=[Vl b r o]) (Vi ((r).length:Int)) R R R (Rl tsl22 _ _ _ _ _) (Xu 1 [(28,Bd (p<((r).length:Int)))] (Xk (Cn [(1,Vp c 0),(2,Vp f 0),(5,Vl b r o),(6,Vi v),(7,Vi u),(8,Vi p),(28,Bd (p<((r).length:Int)))] (fun K=>?_)))))));refine Ci (decide (p<((r).length:Int))) R a (fun a=>?_) (fun a=>?_)
   · refine Ck (Kt (Cq (Cb (Cq (Cs (Yg c 0 0 (Vl x n A) R R (Rf tfld50_0 _ _) tcell36 j nn R (Xu 1 [(33,Vi p)] ?_)))))));obtain ⟨aB,bc,a⟩:=Bs a;obtain ⟨ap,bo,a2,aY,L⟩:=Ri (Mo:=[]) tsl36 k bc;obtain ⟨_,_,rfl,rfl,⟨_,_,rfl,rfl,⟨_,_,rfl,rfl,rfl⟩⟩⟩:=L;refine Yi _ _ _ R a2 (Yf (.pointer (some ap)) (.pointer (some (Addr.add ap 1))) R (Rf tfld76_1 _ _) (Yl (.pointer (some (Addr.add ap 1))) (Vi aB.2.1) R (reads_cell tcell3 aY (fun _ a=>by cases a) 1 _ R) ?_));refine Xu 2 [(37,Vi u),(38,.bool (aB.2.1 != u))] (Xk (Ci (aB.2.1 != u) R a (fun a=>?_) (fun a=>?_)))
     · refine Ce (Ke (Ki (Kt (Cp (Xu 3 [(29,Vi p),(30,Vi (i64.wrap (p+1))),(8,Vi (i64.wrap (p+1)))] (Xe R ?_))))));obtain rfl:=Sj a;exact Kt ⟨(Z,r,v,i64.wrap (p+1)),⟨R,R,R,R,R,R,T0⟩,⟨Q,h,d,s,k,j,i,q⟩,Ns _⟩
     refine Ck (Kt (Cq (Cd [] [(0,false),(1,false),(2,false),(4,false),(5,false),(6,false),(7,false),(8,false),(9,false),(10,false),(11,false),(3,false),(12,true),(13,false),(14,false),(15,false),(16,false),(17,false)] _ (by kernel_rfl) R ?_)));have t:=Stp.ext (ls:=[[c],[f],Bk b,g]) (Ev.drew J);have j:=(Ev.drew J).box j nn;have k:=k.step t;have i:=(Ev.drew J).box i nn;have q:=q.step t (Ev.drew J) nn2;have d:=d.ev (Ev.drew J);have h:=h.ext (Ev.drew J);refine Yl _ _ R (Ra 0 [Vl x n A,Vi D] tagg50 j nn R) (Xu 2 [(41,Vl b r o),(42,Vi p)] (Yg c 0 0 (Vl x n A) R R (Rf tfld50_0 _ _) tcell36 j nn R (Xu 1 [(46,Vi p)] ?_)));obtain ⟨aL,bd,a⟩:=Bs a;obtain ⟨aq,bp,a3,aZ,L⟩:=Ri (Mo:=[]) tsl36 k bd;obtain ⟨_,_,rfl,rfl,⟨_,_,rfl,rfl,⟨_,_,rfl,rfl,rfl⟩⟩⟩:=L;refine Yi _ _ _ R a3 (Yf (.pointer (some aq)) (.pointer (some (Addr.add aq 2))) R (Rf tfld76_2 _ _) (Yl (.pointer (some (Addr.add aq 2))) (Vi aL.2.2.1) R (reads_cell tcell3 aZ (fun _ a=>by cases a) 2 _ R) ?_));refine Yg c 0 1 (Vi D) R R (Rf tfld50_1 _ _) tcell3 j nn R ?_;obtain ⟨bn,H,a⟩:=Bs a;have ax:MS (J).drew ([]++[[c],[f],g]):=d.pk [0,1,3] _ R;have a9:∀ aa∈fl ([]++[[c],[f],g]),aa∈fl [[c],[f],Bk b,g]:=Pk [0,1,3] _ R;have aI:∀ aa∈fl ([]++[(fl [[c],[f],g])]),aa∈fl [[c],[f],Bk b,g]:=fun aa H=>a9 aa (Fu aa H)
     have N:=r11_Base_w x A n D b o r p _ (J).drew (fl [[c],[f],g]) (MS.fold (P:=[]) ax) (k.sub aI) (q.ro aI (fun B E j=>pick_out d 2 R [some 0,some 1,some 3] ([]++[[c],[f],g]) R R B E (Fu B j))) H;refine Xc 94 #[] #[] _ _ R R R R N ?_;rintro ak bg ⟨rfl,O⟩;refine ⟨.inr O,?_⟩;have t:=Stp.ext (ls:=[[c],[f],Bk b,g]) O;have j:=O.box j nn;have k:=k.step t;have i:=O.box i nn;have q:=q.step t O nn2;have d:=d.ev O;have h:=h.ext O;obtain ⟨m,H,a⟩:=Bs a;have N:=r12_Next_w bn aL.2.2.1 D _ bg H;refine Xc 93 #[] #[] _ _ R R R R N ?_;rintro ak bx ⟨rfl,X⟩;refine I1 ?_;have t:=Stp.ext (ls:=[[c],[f],Bk b,g]) X;have j:=X.box j nn;have k:=k.step t;have i:=X.box i nn;have q:=q.step t X nn2;have d:=d.ev X;have h:=h.ext X;refine Xu 5 [(39,.tuple #[Vi m.1,Vi m.2]),(53,Vi m.1),(54,Vi m.2),(9,Vi m.1),(10,Vi m.2)] (Xk (Cn [(1,Vp c 0),(2,Vp f 0),(5,Vl b r o),(6,Vi v),(7,Vi u),(8,Vi p),(9,Vi m.1),(10,Vi m.2)] (fun K=>?_)));refine Cq (Cs (Xu 2 [(55,Vi m.2),(56,.bool (m.2 != 0))] (Xk (Ci (m.2 != 0) R a (fun a=>?_) (fun a=>?_)))))
     · refine Cs (Xd (vs:=[]) (.agg #[Vi 0,Z0]) R R R (fun _ _=>by kernel_rfl) ?_);refine Xu 1 [(58,Vi m.2)] ?_;obtain ⟨bh,a4,aS,aF⟩:=Sa [Vi 0,Z0] tagg52 i R R R;refine Ys bh _ _ R a4 (I1 ?_);have d:=d.ev aF;have h:=h.then aF (fun B E=>.inr (s.at 1 R B E));have i:=aS;refine Xu 1 [(3,Vi m.2)] (Xk (Cr (Kr (Kb (Kr ?_)))));obtain rfl:=Sj a;have S:=Sj Q;subst S;have a:=aE;refine Kr (Kb (Kb (Kr ?_)));obtain rfl:=Sj a;have S:=Sj Y;subst S;have a:=aD;refine Kr (Kb (Kr (Rr (Rv [.agg #[Vi 0,Z0],Vi m.2] ⟨⟨_,R,Lv (Ra (Mo:=[]) 0 [Vi 0,Z0] tagg52 i nn R)⟩,R,T0⟩ ?_))));obtain rfl:=Sj a;have ah:=d.pick [none,some 3] [Bk none,g] R;have ag:=s.pick [none] [Bk none] R;exact ⟨none,0,R,h,ah,ag,OwnS.nil _ _ _ _⟩
     refine Ck (Kt (Cs (Xu 3 [(59,Vl b r o),(60,Vi p),(61,Vi m.1)] ?_)));obtain ⟨bA,aJ,a⟩:=Bs a;obtain ⟨br,bq,aQ,a5,bs,L⟩:=Oi (Mo:=[]) tsl22 q aJ;obtain rfl:=L;refine Yi _ _ _ R a5 ?_;obtain ⟨bi,a6,ad,a0⟩:=own_storeE aQ (y:=m.1) 0 (Vi m.1) tcell3 q (Mf 2 R) aJ R R (fun _ _ _ L=>set_int L);refine Ys bi _ _ R a6 (I1 ?_);have t:=Stp.ev' (ls:=[[c],[f],Bk b,g]) ad (Mf 2 R);have j:=ad.box j (d.apart 0 2 R R R _ mem1);have k:=k.step t;have i:=ad.box i (d.apart 1 2 R R R _ mem1);have d:=d.ev ad;have h:=h.then ad (fun B E=>.inr (s.at 2 R B E));have q:=a0;have ba:(Vl b r o)=(Vl b ((r.set (Int.toNat p) m.1)) o):=by simp only [Vl,List.length_set]
     try rw [ba]
     refine Xk (Cp (Xu 2 [(63,Vi v),(64,Vi m.1)] (x_max (vs:=[Vi v,Vi m.1]) (Vi (if m.1>v then m.1 else v)) R R R (fun _ _=>R) (Xu 1 [(6,Vi (if m.1>v then m.1 else v))] (Xe R (Kl (Kt (Cp (Xu 3 [(29,Vi p),(30,Vi (i64.wrap (p+1))),(8,Vi (i64.wrap (p+1)))] ?_)))))))));refine Xe R ?_;obtain rfl:=Sj a;exact Kt ⟨(Z,(r.set (Int.toNat p) m.1),if m.1>v then m.1 else v,i64.wrap (p+1)),⟨R,R,R,R,R,R,T0⟩,⟨Q,h,d,s,k,j,i,q⟩,Ns _⟩
   refine Ce (Ke ?_);obtain rfl:=Sj a;have S:=Sj Q;subst S;have a:=aE;refine Ke (Ki (Kl (Kt (Cn [(1,Vp c 0),(2,Vp f 0),(5,Vl b r o),(6,Vi v),(7,Vi u)] (fun K=>?_)))));refine Cp (Xu 3 [(23,Vi u),(24,Vi (i64.wrap (u+1))),(7,Vi (i64.wrap (u+1)))] (Xe R ?_));obtain rfl:=Sj a;exact Kt ⟨(ai,r,v,i64.wrap (u+1)),⟨R,R,R,R,R,T0⟩,⟨Y,h,d,s,k,j,i,q⟩,Ns _⟩
 refine Ce (Ke ?_);obtain rfl:=Sj a;have S:=Sj Y;subst S;have a:=aD;refine Ke (Ki (Kt (Cn [(2,Vp f 0),(5,Vl b C o),(6,Vi I)] (fun K=>?_))));refine Cs (Xu 1 [(66,Vi I)] ?_);obtain ⟨al,H,a⟩:=Bs a;have N:=r12_Long_w I _ bm H;refine Xc 95 #[] #[] _ _ R R R R N ?_;rintro ak bz ⟨rfl,ae⟩;refine I1 ?_;have t:=Stp.ext (ls:=[[c],[f],Bk b,g]) ae;have i:=ae.box i nn;have q:=q.step t ae nn2;have d:=d.ev ae;have h:=h.ext ae;refine Xu 1 [(68,Vl b C o)] (Xd (vs:=[(0,Vi al),(1,Vl b C o)]) (.agg #[Vi al,Vl b C o]) R R R (fun _ _=>by kernel_rfl) ?_);obtain ⟨bj,a7,aU,am⟩:=Sa [Vi al,Vl b C o] tagg52 i R R R;refine Ys bj _ _ R a7 (I1 ?_);have t:=Stp.ev' (ls:=[[c],[f],Bk b,g]) am (Mf 1 R);have q:=q.step t am (d.apart 2 1 R R R);have d:=d.ev am;have h:=h.then am (fun B E=>.inr (s.at 1 R B E));have i:=aU;refine Xu 1 [(3,Vi 0)] (Xk (Cr (Rr (Rv [.agg #[Vi al,Vl b C o],Vi 0] ⟨⟨_,R,Lv (Ra (Mo:=[]) 0 [Vi al,Vl b C o] tagg52 i nn R)⟩,R,T0⟩ ?_))));obtain rfl:=Sj a;have ah:=d.pk [2,3] [Bk b,g] R;have ao:=Pk (ls:=[[c],[f],Bk b,g]) [2,3] [Bk b,g] R;have ag:=s.pk [2] [Bk b] R;exact ⟨b,o,R,h,ah,ag,q.sub ao⟩
def r13_Witness (b:List (Int×Int×Int×Int)) (c:Int):Option ((List Int)×Int):=
((r13_Least b c).bind fun a=>
(if (a.2 != 0)=true then
some ([],a.2)
else
((r11_Back b c a.1.2).bind fun d=>
some (d,0))))
theorem r13_Witness_w (o p n q B r a)(e:MS r [a])(k:SlR (eIt4) r (fl [a]) o p n)(l:r13_Witness n q=some B):CallVC Tryz.prog 98 [.agg #[Vl o n p,Vi q]] r fun N O=>∃ u S,N=.tuple #[Vl u B.1 S,Vi B.2]∧Ev [] r O∧MS O [Bk u,a]∧FR r.heap.size [Bk u]∧OwnS eI 3 O (fl [Bk u,a]) u S B.1:=by
 refine Cv hmx Tryz.func98 (by kernel_rfl) R (rs:=[.tmp 2,.tmp 3]) R (by kernel_rfl) (args:=[.agg #[Vl o n p,Vi q]]) R ?_;have f:Ev [] r r:=Ev.refl _ _;have j:FR r.heap.size []:=FR.nil _;refine Cs (Yb _ R (fun c Z J i D al=>?_));replace i:Z.heap[c]? = some (.cells #[Vl o n p,Vi q] 50 (0,0)):=i;refine I1 ?_;have m:=Stp.box (ls:=[a]) D J;have k:=k.step m;have e:=e.box D J i;have j:=j.box f.size J;have f:=f.ext D;refine Xu 2 [(2,Z0),(3,Vi 0)] (Xk (Cs (Yl _ _ R (Ra 0 [Vl o n p,Vi q] tagg50 i nn R) ?_)));obtain ⟨d,L,l⟩:=Bs l;have C:=r13_Least_w o p n q _ Z (fl [[c],a]) (MS.fold (P:=[]) e) (k.sub fl1) L;refine Xc 61 #[] #[] _ _ R R R R C ?_;rintro N ao ⟨b,v,rfl,A,ag,G,s⟩;refine I1 ?_;have m:=Stp.call0 [[c],a] [Bk b] [Bk b,[c],a] A G R;have k:=k.step m;have i:=A.box i nn;have e:=MS.call0 [Bk b] [Bk b,[c],a] e A ag G R;have H:=FR.call0 [Bk b,[c]] f.size G j R;have f:=f.ext A;have j:=H;have s:=OwnS.plain (M':=fl [Bk b,[c],a]) (Pi _) s;refine Xu 3 [(6,.tuple #[.agg #[Vi d.1.1,Vl b d.1.2 v],Vi d.2]),(9,.agg #[Vi d.1.1,Vl b d.1.2 v]),(10,Vi d.2)] (Xa (z:=.agg #[Vi 0,Z0]) R R (by kernel_rfl) (fun h ak K t w am=>?_));replace t:ak.heap[h]? = some (.cells #[Vi 0,Z0] 52 (0,0)):=t;refine I1 ?_;have m:=Stp.box (ls:=[Bk b,[c],a]) w K;have k:=k.step m;have i:=w.box i nn;have s:=s.step m w nn2;have e:=e.box w K t;have j:=j.box f.size K;have f:=f.ext w;obtain ⟨aa,ai,ae,x⟩:=Sa [Vi d.1.1,Vl b d.1.2 v] tagg52 t R R R;refine Ys aa _ _ R ai (I1 ?_);have m:=Stp.ev' (ls:=[[h],Bk b,[c],a]) x (Mf 0 R);have k:=k.step m;have i:=x.box i (e.apart 2 0 R R R _ mem1);have s:=s.step m x (e.apart 1 0 R R R);have e:=e.ev x;have f:=f.then x (fun ac ad=>.inr (j.at 0 R ac ad));have t:=ae;refine Xu 1 [(5,Vi d.2)] (Xk (Cq (Cs (Xu 2 [(11,Vi d.2),(12,.bool (d.2 != 0))] (Xk (Ci (d.2 != 0) R l (fun l=>?_) (fun l=>?_)))))))
 · refine Cs (Xu 3 [(13,Vi d.2),(2,Z0),(3,Vi d.2)] (Xk (Cn [(2,Z0),(3,Vi d.2)] (fun ab=>?_))));refine Cr (Kr (Rr (Rv [Z0,Vi d.2] ⟨R,R,T0⟩ ?_)));obtain rfl:=Sj l;have I:=e.pick [none,some 3] [Bk none,a] R;have F:=j.pick [none] [Bk none] R;exact ⟨none,0,R,f,I,F,OwnS.nil _ _ _ _⟩
 refine Ck (Kt (Cs (Yl _ _ R (Ra 0 [Vl o n p,Vi q] tagg50 i nn R) (Yg h 0 1 (Vl b d.1.2 v) R R (Rf tfld52_1 _ _) tcell22 t nn R ?_))));obtain ⟨Q,L,l⟩:=Bs l;have ah:=e.pk [0,2,3] ([]++[[h],[c],a]) R;have Y:=Fk (ls:=[[h],Bk b,[c],a]) [0,2,3] [[h],[c],a] R;have C:=r11_Back_w o p n q b v d.1.2 _ aa (fl [[h],[c],a]) (MS.fold (P:=[]) ah) (k.sub Y) (s.ro Y (Po e 1 R [0,2,3] [[h],[c],a] R R)) L;refine Xc 125 #[] #[] _ _ R R R R C ?_;rintro N an ⟨g,y,rfl,U,af,X,E⟩;refine I1 ?_;have e:=MS.call0 [Bk g] [Bk g,[h],Bk b,[c],a] e U af X R;have H:=FR.call0 [Bk g,[h],Bk b,[c]] f.size X j R;have f:=f.ext U;have j:=H;have E:=OwnS.plain (M':=fl [Bk g,[h],Bk b,[c],a]) (Pi _) E;refine Xu 2 [(2,Vl g Q y),(3,Vi 0)] (Xk (Cn [(2,Vl g Q y),(3,Vi 0)] (fun ab=>?_)));refine Cr (Rr (Rv [Vl g Q y,Vi 0] ⟨R,R,T0⟩ ?_));obtain rfl:=Sj l;have I:=e.pk [0,4] [Bk g,a] R;have aj:=Pk (ls:=[Bk g,[h],Bk b,[c],a]) [0,4] [Bk g,a] R;have F:=j.pk [0] [Bk g] R;exact ⟨g,y,R,f,I,F,E.sub aj⟩
def r13_Bound_J23 (d:List (Int×Int×Int×Int)) (e:Int) (f:List Int) (b:Int) (c:Int):Option (Step (Int×Int) (Int⊕Int)):=
((idx f b).bind fun g=>
((idx d g).bind fun h=>
((r12_Next c h.2.2.1 e).bind fun a=>
(if (a.2 != 0)=true then
some (.done (.inl a.2))
else
some (.next (a.1,i64.wrap (b+1)))))))
def r13_Bound_L21 (d:List (Int×Int×Int×Int)) (e:Int) (b:List Int) (f:Int×Int):Option (Step (Int×Int) (Int⊕Int)):=
match f with
| (c,a)=>
(if (decide (a<((b).length:Int)))=true then
(if (decide (a>0))=true then
((idx b (i64.wrap (a-1))).bind fun g=>
((idx b a).bind fun h=>
((r11_Strict d e g h).bind fun i=>
r13_Bound_J23 d e b a (i64.wrap (c+i)))))
else
r13_Bound_J23 d e b a c)
else
some (.done (.inr c)))
def r13_Bound_L9 (c:List (Int×Int×Int×Int)) (d:Int) (b:List Int) (e:Int):Option (Step Int (Unit⊕Unit)):=
match e with
| a=>
(if (decide (a<((b).length:Int)))=true then
((idx b a).bind fun f=>
(if (decide (f<0))=true then
some (.done (.inl ()))
else
((idx b a).bind fun g=>
(if (decide (g≥((c).length:Int)))=true then
some (.done (.inl ()))
else
(if (decide (a>0))=true then
((idx b (i64.wrap (a-1))).bind fun h=>
((idx b a).bind fun i=>
((r11_Kind c d h i).bind fun j=>
(if (j==0)=true then
some (.done (.inl ()))
else
some (.next (i64.wrap (a+1)))))))
else
some (.next (i64.wrap (a+1))))))))
else
some (.done (.inr ())))
def r13_Bound (b:List (Int×Int×Int×Int)) (c:Int) (d:List Int):Option (Int×Int):=
((r11_Valid b c).bind fun e=>
(if (e != 0)=true then
some (0,e)
else
((loop (r13_Bound_L9 b c d) 0).bind fun a=>match a with
| (.inl _)=>some (0,1)
| (.inr _)=>((loop (r13_Bound_L21 b c d) (0,0)).bind fun a=>match a with
| (.inl g)=>some (0,g)
| (.inr f)=>some (f,0)))))
theorem r13_Bound_w (p q m s k l c al x d)(j:MS x [d])(h:SlR (eIt4) x (fl [d]) p q m)(g:SlR eI x (fl [d]) k l c)(a:r13_Bound m s c=some al):CallVC Tryz.prog 104 [.agg #[Vl p m q,Vi s],Vl k c l] x fun S r=>S=.tuple #[Vi al.1,Vi al.2]∧Ev [] x r:=by
 refine Cv hmx Tryz.func104 (by kernel_rfl) R (rs:=[.tmp 4,.tmp 5]) R (by kernel_rfl) (args:=[.agg #[Vl p m q,Vi s],Vl k c l]) R ?_;have f:Ev [] x x:=Ev.refl _ _;have z:FR x.heap.size []:=FR.nil _;refine Cs (Yb _ R (fun b ao ah e af bj=>?_));replace e:ao.heap[b]? = some (.cells #[Vl p m q,Vi s] 50 (0,0)):=e;refine I1 ?_;have n:=Stp.box (ls:=[d]) af ah;have h:=h.step n;have g:=g.step n;have j:=j.box af ah e;have z:=z.box f.size ah;have f:=f.ext af;refine Xu 2 [(4,Vi 0),(5,Vi 0)] (Xk (Cq (Cs (Yl _ _ R (Ra 0 [Vl p m q,Vi s] tagg50 e nn R) ?_))));obtain ⟨F,B,a⟩:=Bs a;have E:=r11_Valid_w p q m s _ ao (fl [[b],d]) (MS.fold (P:=[]) j) (h.sub fl1) B;refine Xc 60 #[] #[] _ _ R R R R E ?_;rintro S bo ⟨rfl,aa⟩;refine I1 ?_;have n:=Stp.ext (ls:=[[b],d]) aa;have h:=h.step n;have g:=g.step n;have e:=aa.box e nn;have j:=j.ev aa;have f:=f.ext aa;refine Xu 1 [(6,Vi F)] (Xk (Cs (Xu 2 [(14,Vi F),(15,.bool (F != 0))] (Xk (Ci (F != 0) R a (fun a=>?_) (fun a=>?_))))))
 · refine Cs (Xu 3 [(16,Vi F),(4,Vi 0),(5,Vi F)] (Xk (Cr (Kr (Rr (Rv [Vi 0,Vi F] ⟨R,R,T0⟩ ?_))))));obtain rfl:=Sj a;exact ⟨R,f⟩
 refine Ck (Kt (Cq (Cs (Xu 1 [(7,Vi 0)] (Xk (Cb ?_))))));obtain ⟨ax,ae,Z⟩:=Bs a;obtain ⟨H,ae⟩:=Lo ae;refine Cl (Lr hmx (σ:=Nat×Int) (fun v=>match v with | (_,i)=>[(1,Vl k c l),(2,Vp b 0),(7,Vi i)]) (fun v r=>match v with | (ak,i)=>loopN (r13_Bound_L9 m s c) ak i=some ax∧Ev [] x r∧MS r [[b],d]∧FR x.heap.size [[b]]∧SlR eI r (fl [[b],d]) k l c∧SlR (eIt4) r (fl [[b],d]) p q m∧r.heap[b]? = some (.cells #[Vl p m q,Vi s] 50 (0,0))) (fun v=>v.1) (H,0) ⟨R,R,R,T0⟩ ⟨ae,f,j,z,g,h,e⟩ ?_);rintro ⟨H,i⟩ A K ⟨D,f,j,z,g,h,e⟩;rcases H with _ | H
 · exact (Lz D).elim
 obtain ⟨bk,a,D⟩:=Bs D;refine Cq (Cs (Xu 2 [(17,Vi i),(18,Vl k c l)] (Xn (vs:=[Vl k c l]) (Vi ((c).length:Int)) R R R (Rl tsl22 _ _ _ _ _) (Xu 1 [(20,Bd (i<((c).length:Int)))] (Xk (Cn [(1,Vl k c l),(2,Vp b 0),(7,Vi i),(20,Bd (i<((c).length:Int)))] (fun A=>?_)))))));refine Ci (decide (i<((c).length:Int))) R a (fun a=>?_) (fun a=>?_)
 · refine Ck (Kt (Cq (Cb (Cq (Cd [] [(0,false),(1,false),(2,false),(3,false),(4,false),(5,false),(6,false),(7,false),(8,false),(9,false),(10,false),(11,false),(12,false),(13,false),(14,false),(15,false),(16,false),(17,false),(18,false),(19,false),(20,false),(21,false),(22,false),(23,false),(24,false),(25,false),(26,false),(27,false),(28,false),(29,false),(30,false),(31,false),(32,false)] _ (by kernel_rfl) R ?_)))));have n:=Stp.ext (ls:=[[b],d]) (Ev.drew K);have g:=g.step n;have e:=(Ev.drew K).box e nn;have h:=h.step n;have j:=j.ev (Ev.drew K);have f:=f.ext (Ev.drew K);refine Xu 2 [(23,Vl k c l),(24,Vi i)] ?_;obtain ⟨ab,aQ,a⟩:=Bs a;obtain ⟨a4,bb,aG,ay,u⟩:=Ri (Mo:=[]) tsl22 g aQ;obtain rfl:=u;refine Yi _ _ _ R aG (Yl _ (Vi ab) R (Rc tcell3 ay (fun _ a=>by cases a)) ?_);refine Xu 2 [(27,Bd (ab<0)),(28,Bd (ab<0))] (Xw 28 (decide (ab<0)) R a (fun a=>?_) (fun a=>?_))
   · refine Xu 27 [(29,U0),(30,U0),(31,U0),(32,U0),(33,U0),(34,U0),(35,U0),(36,U0),(37,.bool true),(38,.bool true),(39,U0),(40,U0),(41,U0),(42,U0),(43,U0),(44,U0),(45,U0),(46,U0),(47,U0),(48,U0),(49,U0),(50,U0),(51,U0),(52,U0),(53,U0),(54,U0),(55,.bool true)] (Xk (Cn [(1,Vl k c l),(2,Vp b 0),(7,Vi i),(55,.bool true)] (fun A=>?_)));refine c_true R (Cs (Xu 2 [(4,Vi 0),(5,Vi 1)] (Xk (Cr (Kb (Kr ?_))))));obtain rfl:=Sj a;have C:=Sj D;subst C;have a:=Z;refine Kr (Kb (Kr (Rr (Rv [Vi 0,Vi 1] ⟨R,R,T0⟩ ?_))));obtain rfl:=Sj a;exact ⟨R,f⟩
   refine Xu 2 [(29,Vl k c l),(30,Vi i)] ?_;obtain ⟨X,aS,a⟩:=Bs a;obtain ⟨a5,bc,aH,az,u⟩:=Ri (Mo:=[]) tsl22 g aS;obtain rfl:=u;refine Yi _ _ _ R aH (Yl _ (Vi X) R (Rc tcell3 az (fun _ a=>by cases a)) ?_);refine Yg b 0 0 (Vl p m q) R R (Rf tfld50_0 _ _) tcell36 e nn R (Xn (vs:=[Vl p m q]) (Vi ((m).length:Int)) R R R (Rl tsl36 _ _ _ _ _) (Xu 3 [(36,Bd (X≥((m).length:Int))),(37,Bd (X≥((m).length:Int))),(38,Bd (X≥((m).length:Int)))] (Xw 38 (decide (X≥((m).length:Int))) R a (fun a=>?_) (fun a=>?_))))
   · refine Xu 17 [(39,U0),(40,U0),(41,U0),(42,U0),(43,U0),(44,U0),(45,U0),(46,U0),(47,U0),(48,U0),(49,U0),(50,U0),(51,U0),(52,U0),(53,U0),(54,U0),(55,.bool true)] (Xk (Cn [(1,Vl k c l),(2,Vp b 0),(7,Vi i),(55,.bool true)] (fun A=>?_)));refine c_true R (Cs (Xu 2 [(4,Vi 0),(5,Vi 1)] (Xk (Cr (Kb (Kr ?_))))));obtain rfl:=Sj a;have C:=Sj D;subst C;have a:=Z;refine Kr (Kb (Kr (Rr (Rv [Vi 0,Vi 1] ⟨R,R,T0⟩ ?_))));obtain rfl:=Sj a;exact ⟨R,f⟩
   refine Xu 3 [(39,Vi i),(40,Bd (i>0)),(41,Bd (i>0))] (Xw 41 (decide (i>0)) R a (fun a=>?_) (fun a=>?_))
   · refine Yl _ _ R (Ra 0 [Vl p m q,Vi s] tagg50 e nn R) (Xu 3 [(43,Vl k c l),(44,Vi i),(45,Vi (i64.wrap (i-1)))] ?_);obtain ⟨ap,aU,a⟩:=Bs a;obtain ⟨a6,bd,aI,aA,u⟩:=Ri (Mo:=[]) tsl22 g aU;obtain rfl:=u;refine Yi _ _ _ R aI (Yl _ (Vi ap) R (Rc tcell3 aA (fun _ a=>by cases a)) ?_);refine Xu 2 [(48,Vl k c l),(49,Vi i)] ?_;obtain ⟨aq,aX,a⟩:=Bs a;obtain ⟨a7,be,aJ,aB,u⟩:=Ri (Mo:=[]) tsl22 g aX;obtain rfl:=u;refine Yi _ _ _ R aJ (Yl _ (Vi aq) R (Rc tcell3 aB (fun _ a=>by cases a)) ?_);obtain ⟨Y,B,a⟩:=Bs a;have ag:MS (K).drew ([]++[[b],d]):=j.pk [0,1] _ R;have aj:∀ y∈fl ([]++[[b],d]),y∈fl [[b],d]:=Pk [0,1] _ R;have ai:∀ y∈fl ([]++[(fl [[b],d])]),y∈fl [[b],d]:=fun y B=>aj y (Fu y B)
     have E:=r11_Kind_w p q m s ap aq _ (K).drew (fl [[b],d]) (MS.fold (P:=[]) ag) (h.sub ai) B;refine Xc 102 #[] #[] _ _ R R R R E ?_;rintro S bl ⟨rfl,L⟩;refine ⟨.inr L,?_⟩;have n:=Stp.ext (ls:=[[b],d]) L;have g:=g.step n;have e:=L.box e nn;have h:=h.step n;have j:=j.ev L;have f:=f.ext L;refine Xu 3 [(53,.bool (Y==0)),(54,.bool (Y==0)),(55,.bool (Y==0))] (Xk (Cn [(1,Vl k c l),(2,Vp b 0),(7,Vi i),(55,.bool (Y==0))] (fun A=>?_)));refine Ci (Y==0) R a (fun a=>?_) (fun a=>?_)
     · refine Cs (Xu 2 [(4,Vi 0),(5,Vi 1)] (Xk (Cr (Kb (Kr ?_)))));obtain rfl:=Sj a;have C:=Sj D;subst C;have a:=Z;refine Kr (Kb (Kr (Rr (Rv [Vi 0,Vi 1] ⟨R,R,T0⟩ ?_))));obtain rfl:=Sj a;exact ⟨R,f⟩
     refine Ck (Kl (Kt (Cp (Xu 3 [(21,Vi i),(22,Vi (i64.wrap (i+1))),(7,Vi (i64.wrap (i+1)))] (Xe R ?_)))));obtain rfl:=Sj a;exact Kt ⟨(H,i64.wrap (i+1)),⟨R,R,R,T0⟩,⟨D,f,j,z,g,h,e⟩,Ns _⟩
   refine Xu 14 [(42,U0),(43,U0),(44,U0),(45,U0),(46,U0),(47,U0),(48,U0),(49,U0),(50,U0),(51,U0),(52,U0),(53,U0),(54,.bool false),(55,.bool false)] (Xk (Cn [(1,Vl k c l),(2,Vp b 0),(7,Vi i),(55,.bool false)] (fun A=>?_)));refine c_false R (Ck (Kl (Kt (Cp (Xu 3 [(21,Vi i),(22,Vi (i64.wrap (i+1))),(7,Vi (i64.wrap (i+1)))] (Xe R ?_))))));obtain rfl:=Sj a;exact Kt ⟨(H,i64.wrap (i+1)),⟨R,R,R,T0⟩,⟨D,f,j,z,g,h,e⟩,Ns _⟩
 refine Ce (Ke ?_);obtain rfl:=Sj a;have C:=Sj D;subst C;have a:=Z;refine Ke (Ki (Kt (Cn [(1,Vl k c l),(2,Vp b 0)] (fun A=>?_))));refine Cs (Xu 1 [(8,Vi 0)] (Xk (Cq (Cs (Xu 1 [(9,Vi 0)] (Xk (Cb ?_)))))));obtain ⟨aw,ad,an⟩:=Bs a;obtain ⟨Q,ad⟩:=Lo ad;refine Cl (Lr hmx (σ:=Nat×Int×Int) (fun v=>match v with | (_,w,o)=>[(1,Vl k c l),(2,Vp b 0),(8,Vi w),(9,Vi o)]) (fun v r=>match v with | (ak,w,o)=>loopN (r13_Bound_L21 m s c) ak (w,o)=some aw∧Ev [] x r∧MS r [[b],d]∧FR x.heap.size [[b]]∧SlR eI r (fl [[b],d]) k l c∧SlR (eIt4) r (fl [[b],d]) p q m∧r.heap[b]? = some (.cells #[Vl p m q,Vi s] 50 (0,0))) (fun v=>v.1) (Q,0,0) ⟨R,R,R,R,T0⟩ ⟨ad,f,j,z,g,h,e⟩ ?_);rintro ⟨Q,w,o⟩ A J ⟨G,f,j,z,g,h,e⟩;rcases Q with _ | Q
 · exact (Lz G).elim
 obtain ⟨a2,a,G⟩:=Bs G;refine Cq (Cs (Xu 2 [(56,Vi o),(57,Vl k c l)] (Xn (vs:=[Vl k c l]) (Vi ((c).length:Int)) R R R (Rl tsl22 _ _ _ _ _) (Xu 1 [(59,Bd (o<((c).length:Int)))] (Xk (Cn [(1,Vl k c l),(2,Vp b 0),(8,Vi w),(9,Vi o),(59,Bd (o<((c).length:Int)))] (fun A=>?_)))))));refine Ci (decide (o<((c).length:Int))) R a (fun a=>?_) (fun a=>?_)
 · refine Ck (Kt (Cq (Cb (c_join (σ:=Int) (fun v=>match v with | I=>[(1,Vl k c l),(2,Vp b 0),(8,Vi I),(9,Vi o)]) (fun v r=>match v with | I=>r13_Bound_J23 m s c o I=some a2∧Ev [] x r∧MS r [[b],d]∧FR x.heap.size [[b]]∧SlR eI r (fl [[b],d]) k l c∧SlR (eIt4) r (fl [[b],d]) p q m∧r.heap[b]? = some (.cells #[Vl p m q,Vi s] 50 (0,0))) ?_ ?_))))
   · refine Cs (Xu 2 [(62,Vi o),(63,Bd (o>0))] (Xk (Ci (decide (o>0)) R a (fun a=>?_) (fun a=>?_))))
     · refine Cd [] [(0,false),(1,false),(2,false),(3,false),(4,false),(5,false),(6,false),(7,false),(8,false),(9,false),(10,false),(11,false),(12,false),(13,false)] _ (by kernel_rfl) R ?_;have n:=Stp.ext (ls:=[[b],d]) (Ev.drew J);have g:=g.step n;have e:=(Ev.drew J).box e nn;have h:=h.step n;have j:=j.ev (Ev.drew J);have f:=f.ext (Ev.drew J);refine Xu 1 [(64,Vi w)] (Yl _ _ R (Ra 0 [Vl p m q,Vi s] tagg50 e nn R) (Xu 3 [(66,Vl k c l),(67,Vi o),(68,Vi (i64.wrap (o-1)))] ?_));obtain ⟨ar,aY,a⟩:=Bs a;obtain ⟨a8,bf,aK,aC,u⟩:=Ri (Mo:=[]) tsl22 g aY;obtain rfl:=u;refine Yi _ _ _ R aK (Yl _ (Vi ar) R (Rc tcell3 aC (fun _ a=>by cases a)) ?_);refine Xu 2 [(71,Vl k c l),(72,Vi o)] ?_;obtain ⟨au,aZ,a⟩:=Bs a;obtain ⟨a9,bg,aL,aD,u⟩:=Ri (Mo:=[]) tsl22 g aZ;obtain rfl:=u;refine Yi _ _ _ R aL (Yl _ (Vi au) R (Rc tcell3 aD (fun _ a=>by cases a)) ?_);obtain ⟨am,B,a⟩:=Bs a;have ag:MS (J).drew ([]++[[b],d]):=j.pk [0,1] _ R;have aj:∀ y∈fl ([]++[[b],d]),y∈fl [[b],d]:=Pk [0,1] _ R;have ai:∀ y∈fl ([]++[(fl [[b],d])]),y∈fl [[b],d]:=fun y B=>aj y (Fu y B)
       have E:=r11_Strict_w p q m s ar au _ (J).drew (fl [[b],d]) (MS.fold (P:=[]) ag) (h.sub ai) B;refine Xc 103 #[] #[] _ _ R R R R E ?_;rintro S bm ⟨rfl,N⟩;refine ⟨.inr N,?_⟩;have n:=Stp.ext (ls:=[[b],d]) N;have g:=g.step n;have e:=N.box e nn;have h:=h.step n;have j:=j.ev N;have f:=f.ext N;refine Xu 2 [(76,Vi (i64.wrap (w+am))),(8,Vi (i64.wrap (w+am)))] (Xe R ?_);exact Kt ⟨i64.wrap (w+am),⟨R,R,R,R,T0⟩,a,f,j,z,g,h,e⟩
     refine Ck ?_;exact Kt ⟨w,⟨R,R,R,R,T0⟩,a,f,j,z,g,h,e⟩
   rintro I A U ⟨a,f,j,z,g,h,e⟩;refine Cq (Cd [] [(0,false),(1,false),(2,false),(3,false),(4,false),(5,false),(6,false),(7,false),(8,false),(9,false),(10,false),(11,false),(12,false),(13,false),(14,false),(15,false),(16,false),(17,false)] _ (by kernel_rfl) R ?_);have n:=Stp.ext (ls:=[[b],d]) (Ev.drew U);have g:=g.step n;have e:=(Ev.drew U).box e nn;have h:=h.step n;have j:=j.ev (Ev.drew U);have f:=f.ext (Ev.drew U);refine Xu 1 [(78,Vi I)] (Yg b 0 0 (Vl p m q) R R (Rf tfld50_0 _ _) tcell36 e nn R (Xu 2 [(81,Vl k c l),(82,Vi o)] ?_));obtain ⟨a3,a0,a⟩:=Bs a;obtain ⟨ba,bh,aN,aE,u⟩:=Ri (Mo:=[]) tsl22 g a0;obtain rfl:=u;refine Yi _ _ _ R aN (Yl _ (Vi a3) R (Rc tcell3 aE (fun _ a=>by cases a)) ?_);obtain ⟨av,a1,a⟩:=Bs a;obtain ⟨ac,bi,aO,aF,u⟩:=Ri (Mo:=[]) tsl36 h a1;obtain ⟨_,_,rfl,rfl,⟨_,_,rfl,rfl,⟨_,_,rfl,rfl,rfl⟩⟩⟩:=u;refine Yi _ _ _ R aO (Yf (.pointer (some ac)) (.pointer (some (Addr.add ac 2))) R (Rf tfld76_2 _ _) (Yl (.pointer (some (Addr.add ac 2))) (Vi av.2.2.1) R (reads_cell tcell3 aF (fun _ a=>by cases a) 2 _ R) ?_));refine Yg b 0 1 (Vi s) R R (Rf tfld50_1 _ _) tcell3 e nn R ?_;obtain ⟨t,B,a⟩:=Bs a;have E:=r12_Next_w I av.2.2.1 s _ (U).drew B;refine Xc 93 #[] #[] _ _ R R R R E ?_;rintro S bn ⟨rfl,O⟩;refine ⟨.inr O,?_⟩;have n:=Stp.ext (ls:=[[b],d]) O;have g:=g.step n;have e:=O.box e nn;have h:=h.step n;have j:=j.ev O;have f:=f.ext O;refine Xu 5 [(77,.tuple #[Vi t.1,Vi t.2]),(91,Vi t.1),(92,Vi t.2),(10,Vi t.1),(11,Vi t.2)] (Xk (Cn [(1,Vl k c l),(2,Vp b 0),(9,Vi o),(10,Vi t.1),(11,Vi t.2)] (fun A=>?_)));refine Cq (Cs (Xu 2 [(93,Vi t.2),(94,.bool (t.2 != 0))] (Xk (Ci (t.2 != 0) R a (fun a=>?_) (fun a=>?_)))))
   · refine Cs (Xu 3 [(95,Vi t.2),(4,Vi 0),(5,Vi t.2)] (Xk (Cr (Kr (Kb (Kr ?_))))));obtain rfl:=Sj a;have C:=Sj G;subst C;have a:=an;refine Kr (Kb (Kr (Rr (Rv [Vi 0,Vi t.2] ⟨R,R,T0⟩ ?_))));obtain rfl:=Sj a;exact ⟨R,f⟩
   refine Ck (Kt (Cp (Xu 2 [(96,Vi t.1),(8,Vi t.1)] (Xe R (Kl (Kt (Cp (Xu 3 [(60,Vi o),(61,Vi (i64.wrap (o+1))),(9,Vi (i64.wrap (o+1)))] (Xe R ?_)))))))));obtain rfl:=Sj a;exact Kt ⟨(Q,t.1,i64.wrap (o+1)),⟨R,R,R,R,T0⟩,⟨G,f,j,z,g,h,e⟩,Ns _⟩
 refine Ce (Ke ?_);obtain rfl:=Sj a;have C:=Sj G;subst C;have a:=an;refine Ke (Ki (Kt (Cn [(8,Vi w)] (fun A=>?_))));refine Cs (Xu 3 [(97,Vi w),(4,Vi w),(5,Vi 0)] (Xk (Cr (Rr (Rv [Vi w,Vi 0] ⟨R,R,T0⟩ ?_)))));obtain rfl:=Sj a;exact ⟨R,f⟩
end Go.Proofs.YtlejnkhaphlooaaGreat
