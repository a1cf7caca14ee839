
/- Walks, printed by program: each function returns what the partial function of the same name returns. Conditions: those of each theorem. -/
import Derived.Test.YtlejnkhaphlooaaGreatGT
set_option linter.unusedVariables false
set_option linter.unusedSimpArgs false
set_option maxRecDepth 4000
namespace Go.Proofs.YtlejnkhaphlooaaGreat
open Go Go.V Go.Proofs Go.IntKind
def cmp_Or_int__L2 (b:List Int) (d:Int):Option (Step Int (Int⊕Unit)):=
match d with
| a=>
(if (decide (a<((b).length:Int)))=true then
((idx b a).bind fun c=>
(if (c != 0)=true then
some (.done (.inl c))
else
some (.next (i64.wrap (a+1)))))
else
some (.done (.inr ())))
def cmp_Or_int_ (b:List Int):Option Int:=
((loop (cmp_Or_int__L2 b) 0).bind fun a=>match a with
| (.inl c)=>some c
| (.inr _)=>some 0)
theorem cmp_Or_int__w (e f b u d m)(q:MS d [m])(n:SlR eI d (fl [m]) e f b)(a:cmp_Or_int_ b=some u):CallVC Tryz.prog 50 [Vl e b f] d fun B l=>B=Vi u∧Ev [] d l:=by
 refine Cv hmx Tryz.func50 (by kernel_rfl) R (rs:=[.tmp 2]) R (by kernel_rfl) (args:=[Vl e b f]) R ?_;have i:Ev [] d d:=Ev.refl _ _;have p:FR d.heap.size []:=FR.nil _;refine Cs (Xu 1 [(2,Vi 0)] (Xk (Cs (Xu 1 [(3,Vi 0)] (Xk (Cq (Cs (Xu 1 [(6,Vl e b f)] (Xn (vs:=[Vl e b f]) (Vi ((b).length:Int)) R R R (Rl tsl22 _ _ _ _ _) ?_)))))))));refine Xu 1 [(8,Vi 0)] (Xk (Cb ?_));obtain ⟨v,o,t⟩:=Bs a;obtain ⟨j,o⟩:=Lo o;refine Cl (Lr hmx (σ:=Nat×Int) (fun k=>match k with | (_,c)=>[(3,Vi 0),(6,Vl e b f),(7,Vi ((b).length:Int)),(8,Vi c)]) (fun k l=>match k with | (A,c)=>loopN (cmp_Or_int__L2 b) A c=some v∧Ev [] d l∧MS l [m]∧FR d.heap.size []∧SlR eI l (fl [m]) e f b) (fun k=>k.1) (j,0) ⟨R,R,R,R,T0⟩ ⟨o,i,q,p,n⟩ ?_);rintro ⟨j,c⟩ s F ⟨h,i,q,p,n⟩;rcases j with _ | j
 · exact (Lz h).elim
 obtain ⟨E,a,h⟩:=Bs h;refine Cs (Xu 1 [(9,Bd (c<((b).length:Int)))] (Xk (Cn [(3,Vi 0),(6,Vl e b f),(7,Vi ((b).length:Int)),(8,Vi c),(9,Bd (c<((b).length:Int)))] (fun s=>?_))));refine Cq (Ci (decide (c<((b).length:Int))) R a (fun a=>?_) (fun a=>?_))
 · refine Ck (Kt (Cq (Cb (Cs ?_))));obtain ⟨g,z,a⟩:=Bs a;obtain ⟨C,D,y,x,w⟩:=Ri (Mo:=[]) tsl22 n z;obtain rfl:=w;refine Yi _ _ _ R y (Yl _ (Vi g) R (Rc tcell3 x (fun _ a=>by cases a)) ?_);refine Xu 1 [(5,Vi g)] (Xk (Cs (Xu 3 [(12,Vi g),(13,Vi 0),(14,.bool (g != 0))] (Xk (Ci (g != 0) R a (fun a=>?_) (fun a=>?_))))))
   · refine Cs (Xu 2 [(15,Vi g),(2,Vi g)] (Xk (Cr (Kb (Kr ?_)))));obtain rfl:=Sj a;have r:=Sj h;subst r;have a:=t;refine Kr (Kb (Kr (Rr (Rv [Vi g] ⟨R,T0⟩ ?_))));obtain rfl:=Sj a;exact ⟨R,i⟩
   refine Ck (Kl (Kt (Cp (Xu 2 [(16,Vi (i64.wrap (c+1))),(8,Vi (i64.wrap (c+1)))] (Xe R ?_)))));obtain rfl:=Sj a;exact Kt ⟨(j,i64.wrap (c+1)),⟨R,R,R,R,T0⟩,⟨h,i,q,p,n⟩,Ns _⟩
 refine Ce (Ke ?_);obtain rfl:=Sj a;have r:=Sj h;subst r;have a:=t;refine Ke (Ki (Kt (Cn [(3,Vi 0)] (fun s=>?_))));refine Cs (Xu 2 [(17,Vi 0),(2,Vi 0)] (Xk (Cr (Rr (Rv [Vi 0] ⟨R,T0⟩ ?_)))));obtain rfl:=Sj a;exact ⟨R,i⟩
end Go.Proofs.YtlejnkhaphlooaaGreat
