
/- Walks, printed by program: each function returns what the partial function of the same name returns. Conditions: those of each theorem. -/
import Derived.Test.YtlejnkhaphlooaaGreatGT
set_option linter.unusedVariables false
set_option linter.unusedSimpArgs false
set_option maxRecDepth 4000
namespace Go.Proofs.YtlejnkhaphlooaaGreat
open Go Go.V Go.Proofs Go.IntKind
def law17_items_L2 (c:List Int) (e:(List (Int×Int×Int×Int))×Int):Option (Step ((List (Int×Int×Int×Int))×Int) (List (Int×Int×Int×Int))):=
match e with
| (a,b)=>
(if (decide (b<((c).length:Int)))=true then
((idx c b).bind fun d=>
(if a.length+([(0,d,0,100)]:List (Int×Int×Int×Int)).length≤4294967296 then
some (.next ((a++([(0,d,0,100)]:List (Int×Int×Int×Int))),i64.wrap (b+1)))
else none))
else
some (.done a))
def law17_items (c:List Int):Option (List (Int×Int×Int×Int)):=
((loop (law17_items_L2 c) (([]:List (Int×Int×Int×Int)),0)).bind fun a=>match a with
| b=>some b)
theorem law17_items_w (p q e F h d)(j:MS h [d])(m:SlR eI h (fl [d]) p q e)(a:law17_items e=some F):CallVC Tryz.prog 30 [Vl p e q] h fun am r=>∃ v J,am=Vl v F J∧Ev [] h r∧MS r [Bk v,d]∧FR h.heap.size [Bk v]∧OwnS (eIt4) 76 r (fl [Bk v,d]) v J F:=by
 refine Cv hmx Tryz.func30 (by kernel_rfl) R (rs:=[.tmp 2]) R (by kernel_rfl) (args:=[Vl p e q]) R ?_;have n:Ev [] h h:=Ev.refl _ _;have o:FR h.heap.size []:=FR.nil _;refine Cs (Xu 1 [(2,Z0)] (Xk (Cs (Xu 1 [(3,Z0)] (Xk (Cq (Cs (Xu 1 [(6,Vl p e q)] (Xn (vs:=[Vl p e q]) (Vi ((e).length:Int)) R R R (Rl tsl22 _ _ _ _ _) ?_)))))))));refine Xu 1 [(8,Vi 0)] (Xk (Cb ?_));have s:=Stp.push (ls:=[d]) (l:=Bk none) (Ev.refl [] h) (fun _ a=>by cases a) (fun _ a=>by cases a);have m:=m.step s;have j:=j.push (l:=Bk none) (Ev.refl [] _) (fun _ a=>by cases a);have o:=o.push (l:=Bk none) (fun _ a=>by cases a);have ac:=OwnS.nil (eIt4) 76 h (fl [Bk none,d]);obtain ⟨N,C,O⟩:=Bs a;obtain ⟨z,C⟩:=Lo C;refine Cl (Lr hmx (σ:=Nat×(List (Int×Int×Int×Int))×Int×Option Addr×Nat) (fun A=>match A with | (_,g,k,b,i)=>[(3,Vl b g i),(6,Vl p e q),(7,Vi ((e).length:Int)),(8,Vi k)]) (fun A r=>match A with | (al,g,k,b,i)=>loopN (law17_items_L2 e) al (g,k)=some N∧Ev [] h r∧MS r [Bk b,d]∧FR h.heap.size [Bk b]∧OwnS (eIt4) 76 r (fl [Bk b,d]) b i g∧SlR eI r (fl [Bk b,d]) p q e) (fun A=>A.1) (z,([]:List (Int×Int×Int×Int)),0,none,0) ⟨R,R,R,R,T0⟩ ⟨C,n,j,o,ac,m⟩ ?_);rintro ⟨z,g,k,b,i⟩ H au ⟨y,n,j,o,u,m⟩;rcases z with _ | z
 · exact (Lz y).elim
 obtain ⟨ar,a,y⟩:=Bs y;refine Cs (Xu 1 [(9,Bd (k<((e).length:Int)))] (Xk (Cn [(3,Vl b g i),(6,Vl p e q),(7,Vi ((e).length:Int)),(8,Vi k),(9,Bd (k<((e).length:Int)))] (fun H=>?_))));refine Cq (Ci (decide (k<((e).length:Int))) R a (fun a=>?_) (fun a=>?_))
 · refine Ck (Kt (Cq (Cb (Cs ?_))));obtain ⟨f,aj,a⟩:=Bs a;obtain ⟨an,ao,af,U,Q⟩:=Ri (Mo:=[]) tsl22 m aj;obtain rfl:=Q;refine Yi _ _ _ R af (Yl _ (Vi f) R (Rc tcell3 U (fun _ a=>by cases a)) ?_);refine Xu 1 [(5,Vi f)] (Xk (Cp (Xu 2 [(12,Vl b g i),(13,Vi f)] (Xd (vs:=[(1,Vi f),(3,Vi 100)]) (.agg #[Vi 0,Vi f,Vi 0,Vi 100]) R R R (fun _ _=>by kernel_rfl) ?_))));refine Xb (vs:=[(0,.agg #[Vi 0,Vi f,Vi 0,Vi 100])]) #[Vi 0,Vi f,Vi 0,Vi 100] 76 R R R (by kernel_rfl) (fun I L ad S B aq=>?_);refine I1 ?_;have ab:=j;have s:=Stp.ext (ls:=[Bk b,d]) B;have u:=u.step s B nn2;have m:=m.step s;have j:=j.ev B;have n:=n.ext B;have ag:SlR (eIt4) L (fl [Bk b,d]) (Ad I 0) 1 ([(0,f,0,100)]:List (Int×Int×Int×Int)):=ro_of_box ab ad S R R (cells_at (cs:=[Vi 0,Vi f,Vi 0,Vi 100]) (CellsOf.cons (c:=[Vi 0,Vi f,Vi 0,Vi 100]) ⟨[Vi 0],[Vi f,Vi 0,Vi 100],R,R,⟨[Vi f],[Vi 0,Vi 100],R,R,⟨[Vi 0],[Vi 100],R,R,R⟩⟩⟩ CellsOf.nil));have Z:=Gl a;have a:=Gr a;obtain ⟨t,K,G,ae,D,E,ap,ai⟩:=own_appendN tel36 36 u (Mf 0 R) ag Z;refine x_builtin (vs:=[Vl b g i,Vl (Ad I 0) (([(0,f,0,100)]:List (Int×Int×Int×Int))) 1]) _ G R R R R (run_value _ _ _ _ ae) (I1 ?_);have s:Stp (fl [Bk b,d]) L (fl [Bk t,d]) G:=Stp.upd 0 D R (fun w x=>(E w x).1);have m:=m.step s;replace j:MS G [Bk t,d]:=j.upd 0 D R E;have Y:FR h.heap.size [Bk t]:=o.upd 0 R n.size (fun w x=>(E w x).1);have n:=n.then D (fun w x=>.inr (o.at 0 R w x));have o:=Y;have u:=ai (fl [Bk t,d]) s.new;refine Xu 1 [(3,Vl t ((g++([(0,f,0,100)]:List (Int×Int×Int×Int)))) K)] (Xe R (Kl (Kt (Cp (Xu 2 [(17,Vi (i64.wrap (k+1))),(8,Vi (i64.wrap (k+1)))] (Xe R ?_))))));obtain rfl:=Sj a;exact Kt ⟨(z,(g++([(0,f,0,100)]:List (Int×Int×Int×Int))),i64.wrap (k+1),t,K),⟨R,R,R,R,T0⟩,⟨y,n,j,o,u,m⟩,Ns _⟩
 refine Ce (Ke ?_);obtain rfl:=Sj a;have ak:=Sj y;subst ak;have a:=O;refine Ke (Ki (Kt (Cn [(3,Vl b g i)] (fun H=>?_))));refine Cs (Xu 2 [(18,Vl b g i),(2,Vl b g i)] (Xk (Cr (Rr (Rv [Vl b g i] ⟨R,T0⟩ ?_)))));obtain rfl:=Sj a;have aa:=j.pk [0,1] [Bk b,d] R;have ah:=Pk (ls:=[Bk b,d]) [0,1] [Bk b,d] R;have X:=o.pk [0] [Bk b] R;exact ⟨b,i,R,n,aa,X,u.sub ah⟩
end Go.Proofs.YtlejnkhaphlooaaGreat
