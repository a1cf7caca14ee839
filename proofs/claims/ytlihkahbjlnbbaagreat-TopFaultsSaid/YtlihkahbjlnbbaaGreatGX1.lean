/- Walks, printed by program: each function returns what the partial function of the same name returns. Conditions: those of each theorem. -/
import Derived.Test.YtlihkahbjlnbbaaGreatGT
import Derived.Test.YtlihkahbjlnbbaaGreatGX0
set_option linter.unusedVariables false
set_option linter.unusedSimpArgs false
set_option maxRecDepth 4000
namespace Go.Proofs.YtlihkahbjlnbbaaGreat
open Go Go.V Go.Proofs Go.IntKind
def TU (a:Int) (b:Int) (c:Int):Option Bool:=
(if (decide (a≥b))=true then
some (decide (a≤c))
else
some false)
theorem Te (a d b g e)(c:TU a d b=some g):Md Tryz.prog 50 [Vi a,Vi d,Vi b] e fun h i=>h=.bool g∧Ev [] e i:=by
 refine Cw hmx Tryz.func50 R R R ?_;have f:=Ev.refl [] e;refine Cs (Xu 1 [(6,.bool false)] (Xk (Cs (Xu 4 [(7,Vi a),(8,Vi d),(9,Bd (a≥d)),(10,Bd (a≥d))] (Xw 10 _ R c (fun c=>?_) (fun c=>?_))))))
 · refine Xu 5 [(11,Vi a),(12,Vi b),(13,Bd (a≤b)),(14,Bd (a≤b)),(6,Bd (a≤b))] (Xk (Cr (Rz (Bd (a≤b)) R ?_)));obtain rfl:=Sj c;exact ⟨R,f⟩
 refine Xu 5 [(11,U0),(12,U0),(13,U0),(14,.bool false),(6,.bool false)] (Xk (Cr (Rz (.bool false) R ?_)));obtain rfl:=Sj c;exact ⟨R,f⟩
def WH (a:List (Int×(List UInt8)×Int×Int×Int×Int×Int×Int)) (b:Int) (c:Int):Option Bool:=
((TU b 0 (M4 (((a).length:Int)-1))).bind fun d=>
(if d=true then
((idx a b).bind fun e=>
some (e.1==c))
else
some false))
theorem Zq (g h b f c m d l)(r:MS d [l])(k:Ma (M3 eI (M3 Mv (M3 eI (M3 eI (M7))))) d (fl [l]) g h b)(a:WH b f c=some m):Md Tryz.prog 51 [Vl g b h,Vi f,Vi c] d fun n u=>n=.bool m∧Ev [] d u:=by
 refine Cw hmx Tryz.func51 R R R ?_;have i:=Ev.refl [] d;refine Cs (Xu 1 [(6,.bool false)] (Xk (Cs (Xu 2 [(7,Vi f),(8,Vl g b h)] (Xz My R (Xu 1 [(10,Vi (M4 (((b).length:Int)-1)))] ?_))))));obtain ⟨o,s,a⟩:=Bs a;have p:=Te f 0 (M4 (((b).length:Int)-1)) _ d s;refine Xv p R ?_;rintro n v ⟨rfl,q⟩;obtain ⟨k,i⟩:=E2 (Cx.e r q) k i;refine Xu 1 [(12,.bool o)] (Xw 12 o R a (fun a=>?_) (fun a=>?_))
 · refine Xu 2 [(13,Vl g b h),(14,Vi f)] ?_;obtain ⟨j,t,a⟩:=Bs a;refine Xq (k.el My) MC M5 t R (fun _=>R) (fun _=>Xu 4 [(18,Vi c),(19,.bool (j.1==c)),(20,.bool (j.1==c)),(6,.bool (j.1==c))] (Xk (Cr (Rz (.bool (j.1==c)) R ?_))));obtain rfl:=Sj a;exact ⟨R,i⟩
 refine Xu 9 [(13,U0),(14,U0),(15,U0),(16,U0),(17,U0),(18,U0),(19,U0),(20,.bool false),(6,.bool false)] (Xk (Cr (Rz (.bool false) R ?_)));obtain rfl:=Sj a;exact ⟨R,i⟩
def Ye (a:Int):Option Bool:=
(if (a==1)=true then
some true
else
some (a==2))
theorem M24 (a e c)(b:Ye a=some e):Md Tryz.prog 52 [Vi a] c fun f g=>f=.bool e∧Ev [] c g:=by
 refine Cw hmx Tryz.func52 R R R ?_;have d:=Ev.refl [] c;refine Cs (Xu 1 [(2,.bool false)] (Xk (Cs (Xu 3 [(3,Vi a),(4,.bool (a==1)),(5,.bool (a==1))] (Xw 5 _ R b (fun b=>?_) (fun b=>?_))))))
 · refine Xu 4 [(6,U0),(7,U0),(8,.bool true),(2,.bool true)] (Xk (Cr (Rz (.bool true) R ?_)));obtain rfl:=Sj b;exact ⟨R,d⟩
 refine Xu 4 [(6,Vi a),(7,.bool (a==2)),(8,.bool (a==2)),(2,.bool (a==2))] (Xk (Cr (Rz (.bool (a==2)) R ?_)));obtain rfl:=Sj b;exact ⟨R,d⟩
def Tf (d:List (Int×(List UInt8)×Int×Int×Int×Int×Int×Int)) (e:Int×Int):Option (Mm (Int×Int) Int):=
match e with
| (a,b)=>
(if (decide (b<((d).length:Int)))=true then
((idx d b).bind fun c=>
(if (c.1==4)=true then
some (.next (if c.2.2.2.2.1<a then c.2.2.2.2.1 else a,M4 (b+1)))
else
some (.next (a,M4 (b+1)))))
else
some (.done a))
def W6 (c:List (Int×(List UInt8)×Int×Int×Int×Int×Int×Int)):Option Int:=
((loop (Tf c) (1000000,0)).bind fun a=>match a with
| b=>some b)
theorem M2m (m n h A l u)(d:MS l [u])(f:Ma (M3 eI (M3 Mv (M3 eI (M3 eI (M7))))) l (fl [u]) m n h)(e:W6 h=some A):Md Tryz.prog 53 [Vl m h n] l fun J t=>J=Vi A∧Ev [] l t:=by
 refine Cw hmx Tryz.func53 R R R ?_;have k:=Ev.refl [] l;have i:=FR.nil l.heap.size;refine Cs (Xu 1 [(2,Vi 0)] (Xk (Cs (Xu 1 [(3,Vi 1000000)] (Xk (Cq (Cs (Xu 1 [(6,Vl m h n)] (Xz My R ?_)))))))));refine Xu 1 [(8,Vi 0)] (Xk (Cb ?_));obtain ⟨B,v,C⟩:=Bs e;obtain ⟨p,v⟩:=Lo v;refine Cl (Lr hmx (σ:=Nat×Int×Int) (fun r=>match r with | (_,c,g)=>[(3,Vi c),(6,Vl m h n),(7,Vi ((h).length:Int)),(8,Vi g)]) (fun r t=>match r with | (I,c,g)=>Mh (Tf h) I (c,g)=some B∧Ev [] l t∧MS t [u]∧FR l.heap.size []∧Ma (M3 eI (M3 Mv (M3 eI (M3 eI (M7))))) t (fl [u]) m n h) (fun r=>r.1) (p,1000000,0) ⟨R,R,R,R,T0⟩ ⟨v,k,d,i,f⟩ ?_);rintro ⟨p,c,g⟩ w O ⟨o,k,d,i,f⟩;rcases p with _ | p
 · exact (Lz o).elim
 obtain ⟨K,e,o⟩:=Bs o;refine Cs (Xu 1 [(9,Bd (g<((h).length:Int)))] (Xk (Cn [(3,Vi c),(6,Vl m h n),(7,Vi ((h).length:Int)),(8,Vi g),(9,Bd (g<((h).length:Int)))] (fun w=>?_))));refine Cq (Ci _ R e (fun e=>?_) (fun e=>?_))
 · refine Ck (Kt (Cq (Cb (Cs ?_))));obtain ⟨a,G,e⟩:=Bs e;refine Zf [Vi a.1,Vs a.2.1,Vi a.2.2.1,Vi a.2.2.2.1,Vi a.2.2.2.2.1,Vi a.2.2.2.2.2.1,Vi a.2.2.2.2.2.2.1,Vi a.2.2.2.2.2.2.2] (f.el My) Pb G R (fun _=>R) (fun _=>Xj #[Vi 0,Vs ([]:List UInt8),Vi 0,Vi 0,Vi 0,Vi 0,Vi 0,Vi 0] R (fun x L z q E=>?_));have i:=i.box k.size z;obtain ⟨f,d,k⟩:=E3 (Cx.b d E z q) f d k;obtain ⟨N,F,D,y⟩:=Sa [Vi a.1,Vs a.2.1,Vi a.2.2.1,Vi a.2.2.2.1,Vi a.2.2.2.2.1,Vi a.2.2.2.2.2.1,Vi a.2.2.2.2.2.2.1,Vi a.2.2.2.2.2.2.2] Pb q R R R;refine Xp F R ?_;obtain ⟨f,d⟩:=E2 (Cx.j d 0 y) f d;have k:=k.th y i 0;have q:=D;refine Xk (Cs (Yg x 0 0 (Vi a.1) R R (Rf MC _) M5 q nn R (Xu 1 [(14,.bool (a.1==4))] (Xk (Ci _ R e (fun e=>?_) (fun e=>?_))))))
   · refine Cp (Xu 1 [(15,Vi c)] (Yg x 0 4 (Vi a.2.2.2.2.1) R R (Rf TF _) M5 q nn R (M0K (vs:=[Vi c,Vi a.2.2.2.2.1]) (Vi (if a.2.2.2.2.1<c then a.2.2.2.2.1 else c)) R R R (fun _ _=>R) (Xu 1 [(3,Vi (if a.2.2.2.2.1<c then a.2.2.2.2.1 else c))] (Xe R (Kl (Kt (Cp ?_))))))));refine Xu 2 [(19,Vi (M4 (g+1))),(8,Vi (M4 (g+1)))] (Xe R ?_);obtain rfl:=Sj e;obtain ⟨f,d⟩:=E2 (Cx.s d [1]) f d;have i:=i.px [];exact Kt ⟨(p,if a.2.2.2.2.1<c then a.2.2.2.2.1 else c,M4 (g+1)),⟨R,R,R,R,T0⟩,⟨o,k,d,i,f⟩,Ns _⟩
   refine Ck (Kl (Kt (Cp (Xu 2 [(19,Vi (M4 (g+1))),(8,Vi (M4 (g+1)))] (Xe R ?_)))));obtain rfl:=Sj e;obtain ⟨f,d⟩:=E2 (Cx.s d [1]) f d;have i:=i.px [];exact Kt ⟨(p,c,M4 (g+1)),⟨R,R,R,R,T0⟩,⟨o,k,d,i,f⟩,Ns _⟩
 refine Ce (Ke ?_);obtain rfl:=Sj e;have H:=Sj o;subst H;have e:=C;refine Ke (Ki (Kt (Cn [(3,Vi c)] (fun w=>?_))));refine Cs (Xu 2 [(20,Vi c),(2,Vi c)] (Xk (Cr (Rz (Vi c) R ?_))));obtain rfl:=Sj e;exact ⟨R,k⟩
def Rj (b:List (Int×(List UInt8)×Int×Int×Int×Int×Int×Int)) (c:List Int) (d:List Int) (e:Int):Option (Mm Int (Unit⊕Unit)):=
match e with
| a=>
(if (decide (a<((b).length:Int)))=true then
((idx c a).bind fun f=>
((TU f (-5000) 10000).bind fun g=>
(if (!g)=true then
some (.done (.inl ()))
else
((idx d a).bind fun h=>
((TU h (-1) 20000).bind fun i=>
(if (!i)=true then
some (.done (.inl ()))
else
some (.next (M4 (a+1)))))))))
else
some (.done (.inr ())))
def Ww (a:List (Int×(List UInt8)×Int×Int×Int×Int×Int×Int)) (e:Int) (f:Int) (g:Int) (h:Int) (b:List Int) (c:List Int) (i:Int):Option Bool:=
((TU e 0 1000000000).bind fun l=>
(if (!l)=true then
some false
else
((TU f 1 i).bind fun m=>
(if (!m)=true then
some false
else
((WH a g 4).bind fun j=>
(if (!j)=true then
some false
else
((TU h 0 20000).bind fun k=>
(if (!k)=true then
some false
else
(if (((b).length:Int)!=((a).length:Int))=true then
some false
else
(if (((c).length:Int)!=((a).length:Int))=true then
some false
else
((loop (Rj a b c) 0).bind fun d=>match d with
| (.inl _)=>some false
| (.inr _)=>some true)))))))))))
theorem M34 (l m f F G H I x z p y A q K Y r B)(d:MS r [B])(u:Ma (M3 eI (M3 Mv (M3 eI (M3 eI (M7))))) r (fl [B]) l m f)(i:Ma eI r (fl [B]) x z p)(j:Ma eI r (fl [B]) y A q)(a:Ww f F G H I p q K=some Y):Md Tryz.prog 54 [Vl l f m,.agg #[Vi F,Vi G,Vi H,Vi I,Vl x p z,Vl y q A],Vi K] r fun v w=>v=.bool Y∧Ev [] r w:=by
 refine Cw hmx Tryz.func54 R R R ?_;have c:=Ev.refl [] r;have C:=FR.nil r.heap.size;refine Cs (Xo R (fun h au X g ai=>?_));have C:=C.box c.size X;obtain ⟨u,i,j,d,c⟩:=E5 (Cx.b d ai X g) u i j d c;refine Xu 1 [(6,.bool false)] (Xk (Cq (Cs (Yg h 0 0 (Vi F) R R (Rf T1 _) M5 g nn R ?_))));obtain ⟨ab,o,a⟩:=Bs a;have n:=Te F 0 1000000000 _ au o;refine Xv n R ?_;rintro v av ⟨rfl,aj⟩;obtain ⟨u,i,j,g,d,c⟩:=E6 (Cx.e d aj) u i j g d c;refine Xu 2 [(11,.bool (!ab)),(12,.bool (!ab))] (Xw 12 _ R a (fun a=>?_) (fun a=>?_))
 · refine Xu 35 (Un 13 5++[(18,.bool true),(19,.bool true)]++Un 20 5++[(25,.bool true),(26,.bool true)]++Un 27 4++[(31,.bool true),(32,.bool true)]++Un 33 6++[(39,.bool true),(40,.bool true)]++Un 41 6++[(47,.bool true)]) (Xk (Cn [(0,Vl l f m),(4,Vp h 0),(47,.bool true)] (fun s=>?_)));refine Me R (Cs (Xu 1 [(6,.bool false)] (Xk (Cr (Kr (Rz (.bool false) R ?_))))));obtain rfl:=Sj a;exact ⟨R,c⟩
 refine Yg h 0 1 (Vi G) R R (Rf TI _) M5 g nn R (Xu 1 [(15,Vi K)] ?_);obtain ⟨S,o,a⟩:=Bs a;have n:=Te G 1 K _ av o;refine Xv n R ?_;rintro v ap ⟨rfl,ad⟩;obtain ⟨u,i,j,g,d,c⟩:=E6 (Cx.e d ad) u i j g d c;refine Xu 3 [(17,.bool (!S)),(18,.bool (!S)),(19,.bool (!S))] (Xw 19 _ R a (fun a=>?_) (fun a=>?_))
 · refine Xu 28 (Un 20 5++[(25,.bool true),(26,.bool true)]++Un 27 4++[(31,.bool true),(32,.bool true)]++Un 33 6++[(39,.bool true),(40,.bool true)]++Un 41 6++[(47,.bool true)]) (Xk (Cn [(0,Vl l f m),(4,Vp h 0),(47,.bool true)] (fun s=>?_)));refine Me R (Cs (Xu 1 [(6,.bool false)] (Xk (Cr (Kr (Rz (.bool false) R ?_))))));obtain rfl:=Sj a;exact ⟨R,c⟩
 refine Xu 1 [(20,Vl l f m)] (Yg h 0 2 (Vi H) R R (Rf WW _) M5 g nn R ?_);obtain ⟨O,o,a⟩:=Bs a;obtain ⟨ak,al⟩:=Kc d [] [0,1];have n:=Zq l m f H 4 _ ap _ ak (u.sub al) o;refine Xv n R ?_;rintro v aq ⟨rfl,ae⟩;obtain ⟨i,j,g,d,c⟩:=E5 (Cx.e d ae) i j g d c;refine Xu 3 [(24,.bool (!O)),(25,.bool (!O)),(26,.bool (!O))] (Xw 26 _ R a (fun a=>?_) (fun a=>?_))
 · refine Xu 21 (Un 27 4++[(31,.bool true),(32,.bool true)]++Un 33 6++[(39,.bool true),(40,.bool true)]++Un 41 6++[(47,.bool true)]) (Xk (Cn [(0,Vl l f m),(4,Vp h 0),(47,.bool true)] (fun s=>?_)));refine Me R (Cs (Xu 1 [(6,.bool false)] (Xk (Cr (Kr (Rz (.bool false) R ?_))))));obtain rfl:=Sj a;exact ⟨R,c⟩
 refine Yg h 0 3 (Vi I) R R (Rf Y8 _) M5 g nn R ?_;obtain ⟨Q,o,a⟩:=Bs a;have n:=Te I 0 20000 _ aq o;refine Xv n R ?_;rintro v aA ⟨rfl,af⟩;obtain ⟨i,j,g,d,c⟩:=E5 (Cx.e d af) i j g d c;refine Xu 3 [(30,.bool (!Q)),(31,.bool (!Q)),(32,.bool (!Q))] (Xw 32 _ R a (fun a=>?_) (fun a=>?_))
 · refine Xu 15 (Un 33 6++[(39,.bool true),(40,.bool true)]++Un 41 6++[(47,.bool true)]) (Xk (Cn [(0,Vl l f m),(4,Vp h 0),(47,.bool true)] (fun s=>?_)));refine Me R (Cs (Xu 1 [(6,.bool false)] (Xk (Cr (Kr (Rz (.bool false) R ?_))))));obtain rfl:=Sj a;exact ⟨R,c⟩
 refine Yg h 0 4 (Vl x p z) R R (Rf PP _) Mp g nn R (Xz MB R (Xu 1 [(36,Vl l f m)] (Xz My R (Xu 3 [(38,.bool (((p).length:Int)!=((f).length:Int))),(39,.bool (((p).length:Int)!=((f).length:Int))),(40,.bool (((p).length:Int)!=((f).length:Int)))] (Xw 40 _ R a (fun a=>?_) (fun a=>?_))))))
 · refine Xu 7 (Un 41 6++[(47,.bool true)]) (Xk (Cn [(0,Vl l f m),(4,Vp h 0),(47,.bool true)] (fun s=>?_)));refine Me R (Cs (Xu 1 [(6,.bool false)] (Xk (Cr (Kr (Rz (.bool false) R ?_))))));obtain rfl:=Sj a;exact ⟨R,c⟩
 refine Yg h 0 5 (Vl y q A) R R (Rf Re _) Mp g nn R (Xz MB R (Xu 1 [(44,Vl l f m)] (Xz My R (Xu 2 [(46,.bool (((q).length:Int)!=((f).length:Int))),(47,.bool (((q).length:Int)!=((f).length:Int)))] (Xk (Cn [(0,Vl l f m),(4,Vp h 0),(47,.bool (((q).length:Int)!=((f).length:Int)))] (fun s=>?_)))))));refine Ci _ R a (fun a=>?_) (fun a=>?_)
 · refine Cs (Xu 1 [(6,.bool false)] (Xk (Cr (Kr (Rz (.bool false) R ?_)))));obtain rfl:=Sj a;exact ⟨R,c⟩
 refine Ck (Kt (Cq (Cs (Xu 1 [(48,Vl l f m)] (Xz My R (Xu 1 [(50,Vi 0)] (Xk (Cb ?_))))))));obtain ⟨ac,N,L⟩:=Bs a;obtain ⟨E,N⟩:=Lo N;refine Cl (Lr hmx (σ:=Nat×Int) (fun J=>match J with | (_,k)=>[(4,Vp h 0),(49,Vi ((f).length:Int)),(50,Vi k)]) (fun J w=>match J with | (ao,k)=>Mh (Rj f p q) ao k=some ac∧Ev [] r w∧(fun U=>MS w U∧FR r.heap.size [[h]]∧Ma eI w (fl U) x z p∧Ma eI w (fl U) y A q∧w.heap[h]? = some (.cells #[Vi F,Vi G,Vi H,Vi I,Vl x p z,Vl y q A] 47 (0,0))) [[h],B]) (fun J=>J.1) (E,0) ⟨R,R,R,T0⟩ ⟨N,c,d,C,i,j,g⟩ ?_);rintro ⟨E,k⟩ s aw ⟨t,c,d,C,i,j,g⟩;rcases E with _ | E
 · exact (Lz t).elim
 obtain ⟨az,a,t⟩:=Bs t;refine Cs (Xu 1 [(51,Bd (k<((f).length:Int)))] (Xk (Cn [(4,Vp h 0),(49,Vi ((f).length:Int)),(50,Vi k),(51,Bd (k<((f).length:Int)))] (fun s=>?_))));refine Cq (Ci _ R a (fun a=>?_) (fun a=>?_))
 · refine Ck (Kt (Cq (Cb (Cs (Xu 2 [(52,Vi k),(7,Vi k)] (Xk (Cs (Yg h 0 4 (Vl x p z) R R (Rf PP _) Mp g nn R ?_))))))));refine Xu 1 [(55,Vi k)] ?_;obtain ⟨ax,am,a⟩:=Bs a;refine Z6 (i.el MB) M5 am R (fun _=>R) (fun _=>?_);obtain ⟨Z,o,a⟩:=Bs a;have n:=Te ax (-5000) 10000 _ aw o;refine Xv n R ?_;rintro v ar ⟨rfl,ag⟩;obtain ⟨g,i,j,d,c⟩:=E5 (Cx.e d ag) g i j d c;refine Xu 2 [(59,.bool (!Z)),(60,.bool (!Z))] (Xw 60 _ R a (fun a=>?_) (fun a=>?_))
   · refine Xu 8 [(61,U0),(62,U0),(63,U0),(64,U0),(65,U0),(66,U0),(67,U0),(68,.bool true)] (Xk (Me R (Cs (Xu 1 [(6,.bool false)] (Xk (Cr (Kb (Kr ?_))))))));obtain rfl:=Sj a;have D:=Sj t;subst D;have a:=L;refine Kr (Kb (Kr (Rz (.bool false) R ?_)));obtain rfl:=Sj a;exact ⟨R,c⟩
   refine Yg h 0 5 (Vl y q A) R R (Rf Re _) Mp g nn R (Xu 1 [(63,Vi k)] ?_);obtain ⟨ay,an,a⟩:=Bs a;refine Z6 (j.el MB) M5 an R (fun _=>R) (fun _=>?_);obtain ⟨aa,o,a⟩:=Bs a;have n:=Te ay (-1) 20000 _ ar o;refine Xv n R ?_;rintro v aB ⟨rfl,ah⟩;obtain ⟨g,i,j,d,c⟩:=E5 (Cx.e d ah) g i j d c;refine Xu 2 [(67,.bool (!aa)),(68,.bool (!aa))] (Xk (Ci _ R a (fun a=>?_) (fun a=>?_)))
   · refine Cs (Xu 1 [(6,.bool false)] (Xk (Cn [(6,.bool false)] (fun s=>?_))));refine Cr (Kb (Kr ?_));obtain rfl:=Sj a;have D:=Sj t;subst D;have a:=L;refine Kr (Kb (Kr (Rz (.bool false) R ?_)));obtain rfl:=Sj a;exact ⟨R,c⟩
   refine Ck (Kl (Kt (Cp (Xu 2 [(69,Vi (M4 (k+1))),(50,Vi (M4 (k+1)))] (Xe R ?_)))));obtain rfl:=Sj a;exact Kt ⟨(E,M4 (k+1)),⟨R,R,R,T0⟩,⟨t,c,d,C,i,j,g⟩,Ns _⟩
 refine Ce (Ke ?_);obtain rfl:=Sj a;have D:=Sj t;subst D;have a:=L;refine Ke (Ki (Kt (RJ [] T0 (fun s=>?_))));refine Cs (Xu 1 [(6,.bool true)] (Xk (Cr (Rz (.bool true) R ?_))));obtain rfl:=Sj a;exact ⟨R,c⟩
def T4 (d:List (Int×(List UInt8)×Int×Int×Int×Int×Int×Int)) (c:List (Int×Int×Int×Int×(List Int)×(List Int))) (f:Int) (e:Int):Option (Mm Int (Unit⊕Unit)):=
match e with
| b=>
(if (decide (b<((c).length:Int)))=true then
((idx c b).bind fun a=>
((Ww d a.1 a.2.1 a.2.2.1 a.2.2.2.1 a.2.2.2.2.1 a.2.2.2.2.2 f).bind fun g=>
(if (!g)=true then
some (.done (.inl ()))
else
(if (decide (b>0))=true then
((idx c (M4 (b-1))).bind fun h=>
(if (decide (a.1<h.1))=true then
some (.done (.inl ()))
else
some (.next (M4 (b+1)))))
else
some (.next (M4 (b+1)))))))
else
some (.done (.inr ())))
def T5 (d:List (Int×(List UInt8)×Int×Int×Int×Int×Int×Int)) (c:List (Int×Int×Int×Int)) (e:List (Int×Int×Int×Int×(List Int)×(List Int))) (f:Int):Option (Mm Int (Unit⊕Unit)):=
match f with
| b=>
(if (decide (b<((c).length:Int)))=true then
((idx c b).bind fun a=>
((TU a.1 0 1000000000).bind fun g=>
(if (!g)=true then
some (.done (.inl ()))
else
((WH d a.2.1 3).bind fun h=>
(if (!h)=true then
some (.done (.inl ()))
else
((Ye a.2.2.1).bind fun i=>
(if (!i)=true then
some (.done (.inl ()))
else
((TU a.2.2.2 0 (M4 (((e).length:Int)-1))).bind fun j=>
(if (!j)=true then
some (.done (.inl ()))
else
some (.next (M4 (b+1))))))))))))
else
some (.done (.inr ())))
def T6 (e:List (Int×(List UInt8)×Int×Int×Int×Int×Int×Int)) (d:List (Int×Int)) (f:(List (Int×Bool))×Int):Option (Mm ((List (Int×Bool))×Int) (Unit⊕Unit)):=
match f with
| (c,b)=>
(if (decide (b<((d).length:Int)))=true then
((idx d b).bind fun a=>
((WH e a.1 3).bind fun g=>
(if (!g)=true then
some (.done (.inl ()))
else
(if ((Mu c a.1).getD false)=true then
some (.done (.inl ()))
else
((Ye a.2).bind fun h=>
(if (!h)=true then
some (.done (.inl ()))
else
some (.next ((P4 c a.1 true),M4 (b+1)))))))))
else
some (.done (.inr ())))
def YC (b:List (Int×(List UInt8)×Int×Int×Int×Int×Int×Int)) (f:Int) (g:List (Int×Int)) (d:List (Int×Int×Int×Int)) (c:List (Int×Int×Int×Int×(List Int)×(List Int))):Option Int:=
((Vo b).bind fun e=>
(if (e != 0)=true then
some e
else
(if (decide (((d).length:Int)>1024))=true then
some 3
else
(if (decide (((c).length:Int)>96))=true then
some 3
else
((TU f 0 1000000000).bind fun h=>
(if (!h)=true then
some 1
else
((loop (T6 b g) (([]:List (Int×Bool)),0)).bind fun a=>match a with
| (.inl _)=>some 1
| (.inr _)=>((loop (T5 b d c) 0).bind fun a=>match a with
| (.inl _)=>some 1
| (.inr _)=>((W6 b).bind fun i=>
((loop (T4 b c i) 0).bind fun a=>match a with
| (.inl _)=>some 1
| (.inr _)=>some 0))))))))))
theorem M4y (z A v al K N t G H p C D n a1 I M)(c:MS I [M])(f:Ma (M3 eI (M3 Mv (M3 eI (M3 eI (M7))))) I (fl [M]) z A v)(h:Ma (M3 eI eI) I (fl [M]) K N t)(i:Ma (M7) I (fl [M]) G H p)(g:Ma (M3 eI (M3 eI (M3 eI (M3 eI (M3 (Mi eI) (Mi eI)))))) I (fl [M]) C D n)(a:YC v al t p n=some a1):Md Tryz.prog 23 [.agg #[Vl z v A,Vi al,Vl K t N,Vl G p H,Vl C n D]] I fun Z q=>Z=Vi a1∧Ev [] I q:=by
 refine Cw hmx Tryz.func23 R R R ?_;have d:=Ev.refl [] I;have m:=FR.nil I.heap.size;refine Cs (Xo R (fun l bU aZ k bs=>?_));have m:=m.box d.size aZ;obtain ⟨f,h,i,g,c,d⟩:=E6 (Cx.b c bs aZ k) f h i g c d;refine Xu 1 [(2,Vi 0)] (Xk (Cq (Cs (Yg l 0 0 (Vl z v A) R R (Rf Ru _) TR k nn R ?_))));obtain ⟨an,y,a⟩:=Bs a;obtain ⟨ac,Y⟩:=Kc c [] [0,1];have x:=M32 z A v _ bU _ ac (f.sub Y) y;refine Xv x R ?_;rintro Z bX ⟨rfl,bv⟩;obtain ⟨f,h,i,g,k,c,d⟩:=E7 (Cx.e c bv) f h i g k c d;refine Xu 1 [(3,Vi an)] (Xk (Cs (Xu 2 [(15,Vi an),(16,.bool (an != 0))] (Xk (Ci _ R a (fun a=>?_) (fun a=>?_))))))
 · refine Cs (Xu 2 [(17,Vi an),(2,Vi an)] (Xk (Cr (Kr (Rz (Vi an) R ?_)))));obtain rfl:=Sj a;exact ⟨R,d⟩
 refine Ck (Kt (Cq (Cs (Yg l 0 3 (Vl G p H) R R (Rf Pq _) PQ k nn R (Xz PB R (Xu 2 [(21,Bd (((p).length:Int)>1024)),(22,Bd (((p).length:Int)>1024))] (Xw 22 _ R a (fun a=>?_) (fun a=>?_))))))))
 · refine Xu 5 [(23,U0),(24,U0),(25,U0),(26,U0),(27,.bool true)] (Xk (Me R (Cs (Xu 1 [(2,Vi 3)] (Xk (Cr (Kr (Rz (Vi 3) R ?_))))))));obtain rfl:=Sj a;exact ⟨R,d⟩
 refine Yg l 0 4 (Vl C n D) R R (Rf MK _) MQ k nn R (Xz TK R (Xu 2 [(26,Bd (((n).length:Int)>96)),(27,Bd (((n).length:Int)>96))] (Xk (Ci _ R a (fun a=>?_) (fun a=>?_)))))
 · refine Cs (Xu 1 [(2,Vi 3)] (Xk (Cn [(2,Vi 3)] (fun w=>?_))));refine Cr (Kr (Rz (Vi 3) R ?_));obtain rfl:=Sj a;exact ⟨R,d⟩
 refine Ck (Kt (Cq (Cs (Yg l 0 1 (Vi al) R R (Rf Vk _) M5 k nn R ?_))));obtain ⟨a3,y,a⟩:=Bs a;have x:=Te al 0 1000000000 _ bX y;refine Xv x R ?_;rintro Z cb ⟨rfl,bh⟩;obtain ⟨f,h,i,g,k,c,d⟩:=E7 (Cx.e c bh) f h i g k c d;refine Xu 1 [(31,.bool (!a3))] (Xk (Cn [(1,Vp l 0),(31,.bool (!a3))] (fun w=>?_)));refine Ci _ R a (fun a=>?_) (fun a=>?_)
 · refine Cs (Xu 1 [(2,Vi 1)] (Xk (Cr (Kr (Rz (Vi 1) R ?_)))));obtain rfl:=Sj a;exact ⟨R,d⟩
 refine Ck (Kt (Cs (Y2 M4v none .i64 R R R (fun L bI aU aL bi b7=>?_))));refine I1 ?_;have O:PA (Value.int .i64) Value.bool bI L ([]:List (Int×Bool)):=PA.mk aL;have m:=m.box d.size aU;obtain ⟨f,h,i,g,k,c,d⟩:=E7 (Cx.b c bi aU aL) f h i g k c d;refine Xu 1 [(4,.map (some L))] (Xk (Cq (Cs (Yg l 0 2 (Vl K t N) R R (Rf TJ _) W4 k nn R (Xz Vh R (Xu 1 [(36,Vi 0)] (Xk (Cb ?_))))))));obtain ⟨f,h,i,g,c⟩:=E5 (Cx.s c [1,0,2]) f h i g c;have m:=m.px [1,0];obtain ⟨a9,aE,aA⟩:=Bs a;obtain ⟨aq,aE⟩:=Lo aE;refine Cl (Lr hmx (σ:=Nat×(List (Int×Bool))×Int) (fun E=>match E with | (_,af,U)=>[(1,Vp l 0),(4,.map (some L)),(34,Vl K t N),(35,Vi ((t).length:Int)),(36,Vi U)]) (fun E q=>match E with | (ap,af,U)=>Mh (T6 v t) ap (af,U)=some a9∧Ev [] I q∧(fun F=>MS q F∧FR I.heap.size [[l],[L]]∧Ma (M3 eI (M3 Mv (M3 eI (M3 eI (M7))))) q (fl F) z A v∧Ma (M3 eI eI) q (fl F) K N t∧Ma (M7) q (fl F) G H p∧Ma (M3 eI (M3 eI (M3 eI (M3 eI (M3 (Mi eI) (Mi eI)))))) q (fl F) C D n∧q.heap[l]? = some (.cells #[Vl z v A,Vi al,Vl K t N,Vl G p H,Vl C n D] 30 (0,0))∧PA (Value.int .i64) Value.bool q L af) [[l],[L],M]) (fun E=>E.1) (aq,([]:List (Int×Bool)),0) ⟨R,R,R,R,R,T0⟩ ⟨aE,d,c,m,f,h,i,g,k,O⟩ ?_);rintro ⟨aq,af,U⟩ w cj ⟨ag,d,c,m,f,h,i,g,k,O⟩;rcases aq with _ | aq
 · exact (Lz ag).elim
 obtain ⟨b8,a,ag⟩:=Bs ag;refine Cs (Xu 1 [(37,Bd (U<((t).length:Int)))] (Xk (Cn [(1,Vp l 0),(4,.map (some L)),(34,Vl K t N),(35,Vi ((t).length:Int)),(36,Vi U),(37,Bd (U<((t).length:Int)))] (fun w=>?_))));refine Cq (Ci _ R a (fun a=>?_) (fun a=>?_))
 · refine Ck (Kt (Cq (Cb (Cs ?_))));obtain ⟨B,bE,a⟩:=Bs a;refine Zf [Vi B.1,Vi B.2] (h.el Vh) M4w bE R (fun _=>R) (fun _=>Xj #[Vi 0,Vi 0] R (fun ai cc aX X bj=>?_));have m:=m.box d.size aX;obtain ⟨k,f,h,i,g,O,c,d⟩:=E8 (Cx.b c bj aX X) k f h i g O c d;obtain ⟨bJ,bx,bc,aN⟩:=Sa [Vi B.1,Vi B.2] M4w X R R R;refine Xp bx R ?_;obtain ⟨k,f,h,i,g,O,c⟩:=E7 (Cx.j c 0 aN) k f h i g O c;have d:=d.th aN m 0;have X:=bc;refine Xk (Cq (Cs (Yg l 0 0 (Vl z v A) R R (Rf Ru _) TR k nn R (Yg ai 0 0 (Vi B.1) R R (Rf RZ _) M5 X nn R ?_))));obtain ⟨a4,y,a⟩:=Bs a;obtain ⟨ac,Y⟩:=Kc c [] [0,1,2,3];have x:=Zq z A v B.1 3 _ bJ _ ac (f.sub Y) y;refine Xv x R ?_;rintro Z bK ⟨rfl,bk⟩;obtain ⟨k,f,h,i,g,O,X,c,d⟩:=E9 (Cx.e c bk) k f h i g O X c d;refine Xu 2 [(45,.bool (!a4)),(46,.bool (!a4))] (Xw 46 _ R a (fun a=>?_) (fun a=>?_))
   · refine Xu 11 (Un 47 4++[(51,.bool true),(52,.bool true)]++Un 53 4++[(57,.bool true)]) (Xk (Cn [(1,Vp l 0),(4,.map (some L)),(6,Vp ai 0),(34,Vl K t N),(35,Vi ((t).length:Int)),(36,Vi U),(57,.bool true)] (fun w=>?_)));refine Me R (Cs (Xu 1 [(2,Vi 1)] (Xk (Cr (Kr (Kb (Kr ?_)))))));obtain rfl:=Sj a;have r:=Sj ag;subst r;have a:=aA;refine Kr (Kb (Kr (Rz (Vi 1) R ?_)));obtain rfl:=Sj a;exact ⟨R,d⟩
   refine Xu 1 [(47,.map (some L))] (Yg ai 0 0 (Vi B.1) R R (Rf RZ _) M5 X nn R (WQ (xv:=.map (some L)) (yv:=Vi B.1) (.bool ((Mu af B.1).getD false)) R R R R (PA.get M4v M23 B.1 false (fun I=>by kernel_rfl) O nn) ?_));refine Xu 2 [(51,.bool ((Mu af B.1).getD false)),(52,.bool ((Mu af B.1).getD false))] (Xw 52 _ R a (fun a=>?_) (fun a=>?_))
   · refine Xu 5 (Un 53 4++[(57,.bool true)]) (Xk (Cn [(1,Vp l 0),(4,.map (some L)),(6,Vp ai 0),(34,Vl K t N),(35,Vi ((t).length:Int)),(36,Vi U),(57,.bool true)] (fun w=>?_)));refine Me R (Cs (Xu 1 [(2,Vi 1)] (Xk (Cr (Kr (Kb (Kr ?_)))))));obtain rfl:=Sj a;have r:=Sj ag;subst r;have a:=aA;refine Kr (Kb (Kr (Rz (Vi 1) R ?_)));obtain rfl:=Sj a;exact ⟨R,d⟩
   refine Yg ai 0 1 (Vi B.2) R R (Rf Y6 _) M5 X nn R ?_;obtain ⟨aH,y,a⟩:=Bs a;have x:=M24 B.2 _ bK y;refine Xv x R ?_;rintro Z cd ⟨rfl,bl⟩;obtain ⟨k,f,h,i,g,O,X,c,d⟩:=E9 (Cx.e c bl) k f h i g O X c d;refine Xu 2 [(56,.bool (!aH)),(57,.bool (!aH))] (Xk (Cn [(1,Vp l 0),(4,.map (some L)),(6,Vp ai 0),(34,Vl K t N),(35,Vi ((t).length:Int)),(36,Vi U),(57,.bool (!aH))] (fun w=>?_)));refine Ci _ R a (fun a=>?_) (fun a=>?_)
   · refine Cs (Xu 1 [(2,Vi 1)] (Xk (Cr (Kr (Kb (Kr ?_))))));obtain rfl:=Sj a;have r:=Sj ag;subst r;have a:=aA;refine Kr (Kb (Kr (Rz (Vi 1) R ?_)));obtain rfl:=Sj a;exact ⟨R,d⟩
   refine Ck (Kt (Cp (Xu 1 [(58,.map (some L))] (Yg ai 0 0 (Vi B.1) R R (Rf RZ _) M5 X nn R ?_))));obtain ⟨bL,bz,bw,aO⟩:=PA.upd M4v M23 B.1 true O;refine Wc (xv:=.map (some L)) (yv:=Vi B.1) (zv:=.bool true) bL R R R R R bz (I1 ?_);obtain ⟨k,f,h,i,g,c⟩:=E6 (Cx.j c 2 aO) k f h i g c;have d:=d.th aO m 2;have O:=bw;refine Xe R (Kl (Kt (Cp (Xu 2 [(61,Vi (M4 (U+1))),(36,Vi (M4 (U+1)))] (Xe R ?_)))));obtain rfl:=Sj a;obtain ⟨f,h,i,g,c⟩:=E5 (Cx.s c [1,2,3]) f h i g c;have m:=m.px [1,2];exact Kt ⟨(aq,(P4 af B.1 true),M4 (U+1)),⟨R,R,R,R,R,T0⟩,⟨ag,d,c,m,f,h,i,g,k,O⟩,Ns _⟩
 refine Ce (Ke ?_);obtain rfl:=Sj a;have r:=Sj ag;subst r;have a:=aA;refine Ke (Ki (Kt (Cn [(1,Vp l 0)] (fun w=>?_))));refine Cq (Cs (Yg l 0 3 (Vl G p H) R R (Rf Pq _) PQ k nn R (Xz PB R (Xu 1 [(65,Vi 0)] (Xk (Cb ?_))))));obtain ⟨f,h,i,g,c⟩:=E5 (Cx.s c [0,2]) f h i g c;have m:=m.px [0];obtain ⟨ba,aF,ao⟩:=Bs a;obtain ⟨ar,aF⟩:=Lo aF;refine Cl (Lr hmx (σ:=Nat×Int) (fun E=>match E with | (_,Q)=>[(1,Vp l 0),(63,Vl G p H),(64,Vi ((p).length:Int)),(65,Vi Q)]) (fun E q=>match E with | (ap,Q)=>Mh (T5 v p n) ap Q=some ba∧Ev [] I q∧(fun F=>MS q F∧FR I.heap.size [[l]]∧Ma (M3 eI (M3 Mv (M3 eI (M3 eI (M7))))) q (fl F) z A v∧Ma (M3 eI eI) q (fl F) K N t∧Ma (M7) q (fl F) G H p∧Ma (M3 eI (M3 eI (M3 eI (M3 eI (M3 (Mi eI) (Mi eI)))))) q (fl F) C D n∧q.heap[l]? = some (.cells #[Vl z v A,Vi al,Vl K t N,Vl G p H,Vl C n D] 30 (0,0))) [[l],M]) (fun E=>E.1) (ar,0) ⟨R,R,R,R,T0⟩ ⟨aF,d,c,m,f,h,i,g,k⟩ ?_);rintro ⟨ar,Q⟩ w bY ⟨ab,d,c,m,f,h,i,g,k⟩;rcases ar with _ | ar
 · exact (Lz ab).elim
 obtain ⟨b9,a,ab⟩:=Bs ab;refine Cs (Xu 1 [(66,Bd (Q<((p).length:Int)))] (Xk (Cn [(1,Vp l 0),(63,Vl G p H),(64,Vi ((p).length:Int)),(65,Vi Q),(66,Bd (Q<((p).length:Int)))] (fun w=>?_))));refine Cq (Ci _ R a (fun a=>?_) (fun a=>?_))
 · refine Ck (Kt (Cq (Cb (Cs ?_))));obtain ⟨J,bF,a⟩:=Bs a;refine Zf [Vi J.1,Vi J.2.1,Vi J.2.2.1,Vi J.2.2.2] (i.el PB) Vj bF R (fun _=>R) (fun _=>Xj #[Vi 0,Vi 0,Vi 0,Vi 0] R (fun ax ce aY S bm=>?_));have m:=m.box d.size aY;obtain ⟨k,f,h,i,g,c,d⟩:=E7 (Cx.b c bm aY S) k f h i g c d;obtain ⟨bN,bA,bd,aQ⟩:=Sa [Vi J.1,Vi J.2.1,Vi J.2.2.1,Vi J.2.2.2] Vj S R R R;refine Xp bA R ?_;obtain ⟨k,f,h,i,g,c⟩:=E6 (Cx.j c 0 aQ) k f h i g c;have d:=d.th aQ m 0;have S:=bd;refine Xk (Cs (Yg ax 0 0 (Vi J.1) R R (Rf MY _) M5 S nn R ?_));obtain ⟨a5,y,a⟩:=Bs a;have x:=Te J.1 0 1000000000 _ bN y;refine Xv x R ?_;rintro Z bO ⟨rfl,bn⟩;obtain ⟨k,f,h,i,g,S,c,d⟩:=E8 (Cx.e c bn) k f h i g S c d;refine Xu 2 [(72,.bool (!a5)),(73,.bool (!a5))] (Xw 73 _ R a (fun a=>?_) (fun a=>?_))
   · refine Xu 23 (Un 74 6++[(80,.bool true),(81,.bool true)]++Un 82 4++[(86,.bool true),(87,.bool true)]++Un 88 8++[(96,.bool true)]) (Xk (Cn [(1,Vp l 0),(63,Vl G p H),(64,Vi ((p).length:Int)),(65,Vi Q),(96,.bool true)] (fun w=>?_)));refine Me R (Cs (Xu 1 [(2,Vi 1)] (Xk (Cr (Kb (Kr ?_))))));obtain rfl:=Sj a;have r:=Sj ab;subst r;have a:=ao;refine Kr (Kb (Kr (Rz (Vi 1) R ?_)));obtain rfl:=Sj a;exact ⟨R,d⟩
   refine Yg l 0 0 (Vl z v A) R R (Rf Ru _) TR k nn R (Yg ax 0 1 (Vi J.2.1) R R (Rf Wh _) M5 S nn R ?_);obtain ⟨aI,y,a⟩:=Bs a;obtain ⟨ac,Y⟩:=Kc c [] [0,1,2];have x:=Zq z A v J.2.1 3 _ bO _ ac (f.sub Y) y;refine Xv x R ?_;rintro Z bQ ⟨rfl,bo⟩;obtain ⟨k,f,h,i,g,S,c,d⟩:=E8 (Cx.e c bo) k f h i g S c d;refine Xu 3 [(79,.bool (!aI)),(80,.bool (!aI)),(81,.bool (!aI))] (Xw 81 _ R a (fun a=>?_) (fun a=>?_))
   · refine Xu 15 (Un 82 4++[(86,.bool true),(87,.bool true)]++Un 88 8++[(96,.bool true)]) (Xk (Cn [(1,Vp l 0),(63,Vl G p H),(64,Vi ((p).length:Int)),(65,Vi Q),(96,.bool true)] (fun w=>?_)));refine Me R (Cs (Xu 1 [(2,Vi 1)] (Xk (Cr (Kb (Kr ?_))))));obtain rfl:=Sj a;have r:=Sj ab;subst r;have a:=ao;refine Kr (Kb (Kr (Rz (Vi 1) R ?_)));obtain rfl:=Sj a;exact ⟨R,d⟩
   refine Yg ax 0 2 (Vi J.2.2.1) R R (Rf M0S _) M5 S nn R ?_;obtain ⟨aJ,y,a⟩:=Bs a;have x:=M24 J.2.2.1 _ bQ y;refine Xv x R ?_;rintro Z bS ⟨rfl,bp⟩;obtain ⟨k,f,h,i,g,S,c,d⟩:=E8 (Cx.e c bp) k f h i g S c d;refine Xu 3 [(85,.bool (!aJ)),(86,.bool (!aJ)),(87,.bool (!aJ))] (Xw 87 _ R a (fun a=>?_) (fun a=>?_))
   · refine Xu 9 (Un 88 8++[(96,.bool true)]) (Xk (Cn [(1,Vp l 0),(63,Vl G p H),(64,Vi ((p).length:Int)),(65,Vi Q),(96,.bool true)] (fun w=>?_)));refine Me R (Cs (Xu 1 [(2,Vi 1)] (Xk (Cr (Kb (Kr ?_))))));obtain rfl:=Sj a;have r:=Sj ab;subst r;have a:=ao;refine Kr (Kb (Kr (Rz (Vi 1) R ?_)));obtain rfl:=Sj a;exact ⟨R,d⟩
   refine Yg ax 0 3 (Vi J.2.2.2) R R (Rf Zk _) M5 S nn R (Yg l 0 4 (Vl C n D) R R (Rf MK _) MQ k nn R (Xz TK R (Xu 1 [(93,Vi (M4 (((n).length:Int)-1)))] ?_)));obtain ⟨aK,y,a⟩:=Bs a;have x:=Te J.2.2.2 0 (M4 (((n).length:Int)-1)) _ bS y;refine Xv x R ?_;rintro Z cf ⟨rfl,bq⟩;obtain ⟨k,f,h,i,g,c,d⟩:=E7 (Cx.e c bq) k f h i g c d;refine Xu 2 [(95,.bool (!aK)),(96,.bool (!aK))] (Xk (Cn [(1,Vp l 0),(63,Vl G p H),(64,Vi ((p).length:Int)),(65,Vi Q),(96,.bool (!aK))] (fun w=>?_)));refine Ci _ R a (fun a=>?_) (fun a=>?_)
   · refine Cs (Xu 1 [(2,Vi 1)] (Xk (Cr (Kb (Kr ?_)))));obtain rfl:=Sj a;have r:=Sj ab;subst r;have a:=ao;refine Kr (Kb (Kr (Rz (Vi 1) R ?_)));obtain rfl:=Sj a;exact ⟨R,d⟩
   refine Ck (Kl (Kt (Cp (Xu 2 [(97,Vi (M4 (Q+1))),(65,Vi (M4 (Q+1)))] (Xe R ?_)))));obtain rfl:=Sj a;obtain ⟨f,h,i,g,c⟩:=E5 (Cx.s c [1,2]) f h i g c;have m:=m.px [1];exact Kt ⟨(ar,M4 (Q+1)),⟨R,R,R,R,T0⟩,⟨ab,d,c,m,f,h,i,g,k⟩,Ns _⟩
 refine Ce (Ke ?_);obtain rfl:=Sj a;have r:=Sj ab;subst r;have a:=ao;refine Ke (Ki (Kt (Cn [(1,Vp l 0)] (fun w=>?_))));refine Cs (Yg l 0 0 (Vl z v A) R R (Rf Ru _) TR k nn R ?_);obtain ⟨ad,y,a⟩:=Bs a;obtain ⟨ac,Y⟩:=Kc c [] [0,1];have x:=M2m z A v _ bY _ ac (f.sub Y) y;refine Xv x R ?_;rintro Z cg ⟨rfl,br⟩;obtain ⟨k,f,h,i,g,c,d⟩:=E7 (Cx.e c br) k f h i g c d;refine Xu 1 [(9,Vi ad)] (Xk (Cq (Cs (Yg l 0 4 (Vl C n D) R R (Rf MK _) MQ k nn R (Xz TK R (Xu 1 [(104,Vi 0)] (Xk (Cb ?_))))))));obtain ⟨bb,aG,aC⟩:=Bs a;obtain ⟨am,aG⟩:=Lo aG;refine Cl (Lr hmx (σ:=Nat×Int) (fun E=>match E with | (_,u)=>[(1,Vp l 0),(9,Vi ad),(102,Vl C n D),(103,Vi ((n).length:Int)),(104,Vi u)]) (fun E q=>match E with | (ap,u)=>Mh (T4 v n ad) ap u=some bb∧Ev [] I q∧(fun F=>MS q F∧FR I.heap.size [[l]]∧Ma (M3 eI (M3 Mv (M3 eI (M3 eI (M7))))) q (fl F) z A v∧Ma (M3 eI eI) q (fl F) K N t∧Ma (M7) q (fl F) G H p∧Ma (M3 eI (M3 eI (M3 eI (M3 eI (M3 (Mi eI) (Mi eI)))))) q (fl F) C D n∧q.heap[l]? = some (.cells #[Vl z v A,Vi al,Vl K t N,Vl G p H,Vl C n D] 30 (0,0))) [[l],M]) (fun E=>E.1) (am,0) ⟨R,R,R,R,R,T0⟩ ⟨aG,d,c,m,f,h,i,g,k⟩ ?_);rintro ⟨am,u⟩ w ck ⟨ah,d,c,m,f,h,i,g,k⟩;rcases am with _ | am
 · exact (Lz ah).elim
 obtain ⟨ca,a,ah⟩:=Bs ah;refine Cs (Xu 1 [(105,Bd (u<((n).length:Int)))] (Xk (Cn [(1,Vp l 0),(9,Vi ad),(102,Vl C n D),(103,Vi ((n).length:Int)),(104,Vi u),(105,Bd (u<((n).length:Int)))] (fun w=>?_))));refine Cq (Ci _ R a (fun a=>?_) (fun a=>?_))
 · refine Ck (Kt (Cq (Cb (Cs (Xu 1 [(106,Vi u)] ?_)))));obtain ⟨o,bG,a⟩:=Bs a;obtain ⟨a7,b3,bB,bf,aD⟩:=Ri (Mo:=[]) TK g bG;obtain ⟨_,_,rfl,rfl,⟨_,_,rfl,rfl,⟨_,_,rfl,rfl,⟨_,_,rfl,rfl,⟨_,_,rfl,⟨av,ay,rfl,aj⟩,⟨aw,az,rfl,ak⟩⟩⟩⟩⟩⟩:=aD;refine Yi _ _ _ R bB (Yl (.pointer (some a7)) (.agg #[Vi o.1,Vi o.2.1,Vi o.2.2.1,Vi o.2.2.2.1,Vl av o.2.2.2.2.1 ay,Vl aw o.2.2.2.2.2 az]) R (R8 TY bf (fun _ a=>by cases a)) ?_);refine Xj #[Vi 0,Vi 0,Vi 0,Vi 0,Z0,Z0] R (fun a8 ch a0 aa bt=>?_);have m:=m.box d.size a0;obtain ⟨k,f,h,i,g,aj,ak,c,d⟩:=E9 (Cx.b c bt a0 aa) k f h i g aj ak c d;refine Xu 1 [(10,Vi u)] ?_;obtain ⟨a2,bC,be,aS⟩:=Sa [Vi o.1,Vi o.2.1,Vi o.2.2.1,Vi o.2.2.2.1,Vl av o.2.2.2.2.1 ay,Vl aw o.2.2.2.2.2 az] TY aa R R R;refine Xp bC R ?_;obtain ⟨k,f,h,i,g,aj,ak,c⟩:=E8 (Cx.j c 0 aS) k f h i g aj ak c;have d:=d.th aS m 0;have aa:=be;refine Xk (Cq (Cd [] [(0,false),(1,false),(2,false),(3,false),(4,true),(5,false),(6,false),(7,false),(8,false),(9,false),(10,false),(11,false),(12,false),(13,false),(14,false),(15,false),(16,false),(17,false),(18,false),(19,false),(20,false),(21,false)] _ (by kernel_rfl) R ?_));obtain ⟨k,f,h,i,g,aj,ak,aa,c,d⟩:=TX (Cx.e c (Ev.drew a2)) k f h i g aj ak aa c d;refine Yg l 0 0 (Vl z v A) R R (Rf Ru _) TR k nn R (Yl _ _ R (Ra 0 [Vi o.1,Vi o.2.1,Vi o.2.2.1,Vi o.2.2.2.1,Vl av o.2.2.2.2.1 ay,Vl aw o.2.2.2.2.2 az] TY aa nn R) (Xu 1 [(112,Vi ad)] ?_));obtain ⟨a6,y,a⟩:=Bs a;obtain ⟨ac,Y⟩:=Kc c [] [0,1,2];have x:=M34 z A v o.1 o.2.1 o.2.2.1 o.2.2.2.1 av ay o.2.2.2.2.1 aw az o.2.2.2.2.2 ad _ (a2).drew _ ac (f.sub Y) (aj.sub Y) (ak.sub Y) y;refine Xv x R ?_;rintro Z ci ⟨rfl,bu⟩;obtain ⟨k,f,h,i,g,aa,c,d⟩:=E8 (Cx.e c bu) k f h i g aa c d;refine Xu 2 [(114,.bool (!a6)),(115,.bool (!a6))] (Xw 115 _ R a (fun a=>?_) (fun a=>?_))
   · refine Xu 15 (Un 116 14++[(130,.bool true)]) (Xk (Cn [(1,Vp l 0),(9,Vi ad),(102,Vl C n D),(103,Vi ((n).length:Int)),(104,Vi u),(130,.bool true)] (fun w=>?_)));refine Me R (Cs (Xu 1 [(2,Vi 1)] (Xk (Cr (Kb (Kr ?_))))));obtain rfl:=Sj a;have r:=Sj ah;subst r;have a:=aC;refine Kr (Kb (Kr (Rz (Vi 1) R ?_)));obtain rfl:=Sj a;exact ⟨R,d⟩
   refine Xu 3 [(116,Vi u),(117,Bd (u>0)),(118,Bd (u>0))] (Xw 118 _ R a (fun a=>?_) (fun a=>?_))
   · refine Yg a8 0 0 (Vi o.1) R R (Rf T1 _) M5 aa nn R (Yg l 0 4 (Vl C n D) R R (Rf MK _) MQ k nn R (Xu 2 [(123,Vi u),(124,Vi (M4 (u-1)))] ?_));obtain ⟨au,bH,a⟩:=Bs a;obtain ⟨aB,b4,bD,bg,aD⟩:=Ri (Mo:=[]) TK g bH;obtain ⟨_,_,rfl,rfl,⟨_,_,rfl,rfl,⟨_,_,rfl,rfl,⟨_,_,rfl,rfl,⟨_,_,rfl,⟨bZ,b1,rfl,b5⟩,⟨b0,b2,rfl,b6⟩⟩⟩⟩⟩⟩:=aD;refine Yi _ _ _ R bD (Yf (.pointer (some aB)) (.pointer (some (Addr.add aB 0))) R (Rf T1 _) (Yl (.pointer (some (Addr.add aB 0))) (Vi au.1) R (Mw M5 bg (fun _ a=>by cases a) 0 _ R) ?_));refine Xu 3 [(128,Bd (o.1<au.1)),(129,Bd (o.1<au.1)),(130,Bd (o.1<au.1))] (Xk (Cn [(1,Vp l 0),(9,Vi ad),(102,Vl C n D),(103,Vi ((n).length:Int)),(104,Vi u),(130,Bd (o.1<au.1))] (fun w=>?_)));refine Ci _ R a (fun a=>?_) (fun a=>?_)
     · refine Cs (Xu 1 [(2,Vi 1)] (Xk (Cr (Kb (Kr ?_)))));obtain rfl:=Sj a;have r:=Sj ah;subst r;have a:=aC;refine Kr (Kb (Kr (Rz (Vi 1) R ?_)));obtain rfl:=Sj a;exact ⟨R,d⟩
     refine Ck (Kl (Kt (Cp (Xu 2 [(131,Vi (M4 (u+1))),(104,Vi (M4 (u+1)))] (Xe R ?_)))));obtain rfl:=Sj a;obtain ⟨f,h,i,g,c⟩:=E5 (Cx.s c [1,2]) f h i g c;have m:=m.px [1];exact Kt ⟨(am,M4 (u+1)),⟨R,R,R,R,R,T0⟩,⟨ah,d,c,m,f,h,i,g,k⟩,Ns _⟩
   refine Xu 12 (Un 119 10++[(129,.bool false),(130,.bool false)]) (Xk (Cn [(1,Vp l 0),(9,Vi ad),(102,Vl C n D),(103,Vi ((n).length:Int)),(104,Vi u),(130,.bool false)] (fun w=>?_)));refine PE R (Ck (Kl (Kt (Cp (Xu 2 [(131,Vi (M4 (u+1))),(104,Vi (M4 (u+1)))] (Xe R ?_))))));obtain rfl:=Sj a;obtain ⟨f,h,i,g,c⟩:=E5 (Cx.s c [1,2]) f h i g c;have m:=m.px [1];exact Kt ⟨(am,M4 (u+1)),⟨R,R,R,R,R,T0⟩,⟨ah,d,c,m,f,h,i,g,k⟩,Ns _⟩
 refine Ce (Ke ?_);obtain rfl:=Sj a;have r:=Sj ah;subst r;have a:=aC;refine Ke (Ki (Kt (RJ [] T0 (fun w=>?_))));refine Cs (Xu 1 [(2,Vi 0)] (Xk (Cr (Rz (Vi 0) R ?_))));obtain rfl:=Sj a;exact ⟨R,d⟩
def Tg (e:Int) (f:Int) (a:Int) (b:Int) (g:Int) (h:Int) (c:Int) (d:Int):Option Bool:=
(if (decide (a<d))=true then
some (decide (c<b))
else
some false)
theorem WZ (m n e a o p b f q h)(d:Tg m n e a o p b f=some q):Md Tryz.prog 10 [.agg #[Vi m,Vi n,Vi e,Vi a],.agg #[Vi o,Vi p,Vi b,Vi f]] h fun s t=>s=.bool q∧Ev [] h t:=by
 refine Cw hmx Tryz.func10 R R R ?_;have c:=Ev.refl [] h;refine Cs (Xo R (fun i w u g r=>?_));have c:=c.ext r;refine Xo R (fun j x v k l=>?_);have g:=l.box g nn;have c:=c.ext l;refine Xu 1 [(4,.bool false)] (Xk (Cs (Yg i 0 2 (Vi e) R R (Rf TG _) M5 g nn R (Yg j 0 3 (Vi f) R R (Rf Pn _) M5 k nn R (Xu 2 [(9,Bd (e<f)),(10,Bd (e<f))] (Xw 10 _ R d (fun d=>?_) (fun d=>?_)))))))
 · refine Yg j 0 2 (Vi b) R R (Rf TG _) M5 k nn R (Yg i 0 3 (Vi a) R R (Rf Pn _) M5 g nn R (Xu 3 [(15,Bd (b<a)),(16,Bd (b<a)),(4,Bd (b<a))] (Xk (Cr (Rz (Bd (b<a)) R ?_)))));obtain rfl:=Sj d;exact ⟨R,c⟩
 refine Xu 7 [(11,U0),(12,U0),(13,U0),(14,U0),(15,U0),(16,.bool false),(4,.bool false)] (Xk (Cr (Rz (.bool false) R ?_)));obtain rfl:=Sj d;exact ⟨R,c⟩
def Tx (c:Int) (e:Int) (f:Int) (g:Int) (d:Int×(List (Int×Int×Int×Int))) (h:Int):Option (Mm Int (Unit⊕Unit)):=
match h with
| b=>
(if (decide (b<((d.2).length:Int)))=true then
((idx d.2 b).bind fun a=>
(if (c==a.1)=true then
((Tg c e f g a.1 a.2.1 a.2.2.1 a.2.2.2).bind fun i=>
(if i=true then
some (.done (.inl ()))
else
some (.next (M4 (b+1)))))
else
some (.next (M4 (b+1)))))
else
some (.done (.inr ())))
def Tz (b:List (Int×(List (Int×Int×Int×Int)))) (d:Int) (e:Int) (f:Int) (g:Int) (h:Int):Option (Mm Int (Int⊕Unit)):=
match h with
| a=>
(if (decide (a<((b).length:Int)))=true then
((idx b a).bind fun i=>
((loop (Tx d e f g i) 0).bind fun c=>match c with
| (.inl _)=>some (.done (.inl a))
| (.inr _)=>some (.next (M4 (a+1)))))
else
some (.done (.inr ())))
def TV (h:List (Int×(List UInt8)×Int×Int×Int×Int×Int×Int)) (i:Int) (j:List (Int×Int)) (k:List (Int×Int×Int×Int)) (l:List (Int×Int×Int×Int×(List Int)×(List Int))) (m:List (Int×Int)) (n:List (Int×(List (Int×Int×Int×Int)))) (b:List (Int×(List (Int×Int×Int×Int)))) (o:List (Int×Int×Int×Int×Int)) (c:Int) (d:Int) (e:Int) (f:Int):Option Int:=
((loop (Tz b c d e f) 0).bind fun a=>match a with
| (.inl g)=>some g
| (.inr _)=>some (-1))
theorem M0Z (p U ad I ar X ae J Y af K Z ag L ab av ac aw A B r aa ah N G O Q S aH z F)(c:MS z [[p],F])(g:Ma (M3 eI (M3 Mv (M3 eI (M3 eI (M7))))) z (fl [[p],F]) U ad I)(h:Ma (M3 eI eI) z (fl [[p],F]) X ae J)(i:Ma (M7) z (fl [[p],F]) Y af K)(k:Ma (M3 eI (M3 eI (M3 eI (M3 eI (M3 (Mi eI) (Mi eI)))))) z (fl [[p],F]) Z ag L)(l:P5 (Value.int .i64) eI z (fl [[p],F]) ab av)(m:P5 (Value.int .i64) (Mi (M7)) z (fl [[p],F]) ac aw)(f:Ma (M3 eI (Mi (M7))) z (fl [[p],F]) A B r)(n:Ma (M3 eI (M7)) z (fl [[p],F]) aa ah N)(q:z.heap[p]? = some (.cells #[Vl U I ad,Vi ar,Vl X J ae,Vl Y K af,Vl Z L ag,.map (some ab),.map (some ac),Vl A r B,Vl aa N ah] 95 (0,0)))(a:TV I ar J K L av aw r N G O Q S=some aH):Md Tryz.prog 55 [Vp p 0,.agg #[Vi G,Vi O,Vi Q,Vi S]] z fun aI d=>aI=Vi aH∧Ev [p] z d∧d.heap[p]? = some (.cells #[Vl U I ad,Vi ar,Vl X J ae,Vl Y K af,Vl Z L ag,.map (some ab),.map (some ac),Vl A r B,Vl aa N ah] 95 (0,0)):=by
 refine Cw hmx Tryz.func55 R R R ?_;have o:=Ev.refl [p] z;have t:=FR.nil z.heap.size;refine Cs (Xo R (fun E be aE v a0=>?_));have t:=t.box o.size aE;obtain ⟨g,h,i,k,l,m,f,n,q,c,o⟩:=E11 (Cx.b c a0 aE v) g h i k l m f n q c o;refine Xu 1 [(4,Vi 0)] (Xk (Cq (Cs (Xu 2 [(9,Vp p 0),(10,Vp p 0)] (Yg p 0 7 (Vl A r B) R R (Rf Zl _) M0T q nn R (Xz Y9 R (Xu 1 [(14,Vi 0)] (Xk ?_))))))));refine Cb ?_;obtain ⟨aO,ax,aA⟩:=Bs a;obtain ⟨aq,ax⟩:=Lo ax;refine Cl (Lr hmx (σ:=Nat×Int) (fun H=>match H with | (_,w)=>[(3,Vp E 0),(12,Vl A r B),(13,Vi ((r).length:Int)),(14,Vi w)]) (fun H d=>match H with | (az,w)=>Mh (Tz r G O Q S) az w=some aO∧Ev [p] z d∧(fun x=>MS d x∧FR z.heap.size [[E]]∧Ma (M3 eI (M3 Mv (M3 eI (M3 eI (M7))))) d (fl x) U ad I∧Ma (M3 eI eI) d (fl x) X ae J∧Ma (M7) d (fl x) Y af K∧Ma (M3 eI (M3 eI (M3 eI (M3 eI (M3 (Mi eI) (Mi eI)))))) d (fl x) Z ag L∧P5 (Value.int .i64) eI d (fl x) ab av∧P5 (Value.int .i64) (Mi (M7)) d (fl x) ac aw∧Ma (M3 eI (Mi (M7))) d (fl x) A B r∧Ma (M3 eI (M7)) d (fl x) aa ah N∧d.heap[p]? = some (.cells #[Vl U I ad,Vi ar,Vl X J ae,Vl Y K af,Vl Z L ag,.map (some ab),.map (some ac),Vl A r B,Vl aa N ah] 95 (0,0))∧d.heap[E]? = some (.cells #[Vi G,Vi O,Vi Q,Vi S] 49 (0,0))) [[E],[p],F]) (fun H=>H.1) (aq,0) ⟨R,R,R,R,T0⟩ ⟨ax,o,c,t,g,h,i,k,l,m,f,n,q,v⟩ ?_);rintro ⟨aq,w⟩ ao bj ⟨am,o,c,t,g,h,i,k,l,m,f,n,q,v⟩;rcases aq with _ | aq
 · exact (Lz am).elim
 obtain ⟨bc,a,am⟩:=Bs am;refine Cs (Xu 1 [(15,Bd (w<((r).length:Int)))] (Xk (Cn [(3,Vp E 0),(12,Vl A r B),(13,Vi ((r).length:Int)),(14,Vi w),(15,Bd (w<((r).length:Int)))] (fun ao=>?_))));refine Cq (Ci _ R a (fun a=>?_) (fun a=>?_))
 · refine Ck (Kt (Cq (Cb (Cs (Xu 1 [(16,Vi w)] ?_)))));obtain ⟨D,a8,a⟩:=Bs a;obtain ⟨aK,bb,a4,aY,aS⟩:=Ri (Mo:=[]) Y9 f a8;obtain ⟨_,_,rfl,rfl,⟨ak,al,rfl,u⟩⟩:=aS;refine Yi _ _ _ R a4 (Yl (.pointer (some aK)) (.agg #[Vi D.1,Vl ak D.2 al]) R (R8 WY aY (fun _ a=>by cases a)) ?_);refine Xj #[Vi 0,Z0] R (fun aL bf aF au a1=>?_);have t:=t.box o.size aF;obtain ⟨q,g,h,i,k,l,m,f,n,v,u,c,o⟩:=E13 (Cx.b c a1 aF au) q g h i k l m f n v u c o;refine Xu 1 [(5,Vi w)] ?_;obtain ⟨bg,a5,aU,aC⟩:=Sa [Vi D.1,Vl ak D.2 al] WY au R R R;refine Xp a5 R ?_;obtain ⟨q,g,h,i,k,l,m,f,n,v,u,c⟩:=E12 (Cx.j c 0 aC) q g h i k l m f n v u c;have o:=o.th aC t 0;have au:=aU;refine Xk (Cs (Yg aL 0 1 (Vl ak D.2 al) R R (Rf Rw _) Pu au nn R (Xz PL R (Xu 1 [(22,Vi 0)] (Xk (Cb ?_))))));obtain ⟨g,h,i,k,l,m,f,n,u,c⟩:=TX (Cx.s c [1,2,3]) g h i k l m f n u c;have t:=t.px [1];obtain ⟨aQ,ay,aB⟩:=Bs a;obtain ⟨an,ay⟩:=Lo ay;refine Cl (Lr hmx (σ:=Nat×Int) (fun H=>match H with | (_,C)=>[(3,Vp E 0),(5,Vi w),(12,Vl A r B),(13,Vi ((r).length:Int)),(14,Vi w),(20,Vl ak D.2 al),(21,Vi ((D.2).length:Int)),(22,Vi C)]) (fun H d=>match H with | (az,C)=>Mh (Tx G O Q S D) az C=some aQ∧Ev [p] z d∧(fun x=>MS d x∧FR z.heap.size [[E]]∧Ma (M3 eI (M3 Mv (M3 eI (M3 eI (M7))))) d (fl x) U ad I∧Ma (M3 eI eI) d (fl x) X ae J∧Ma (M7) d (fl x) Y af K∧Ma (M3 eI (M3 eI (M3 eI (M3 eI (M3 (Mi eI) (Mi eI)))))) d (fl x) Z ag L∧P5 (Value.int .i64) eI d (fl x) ab av∧P5 (Value.int .i64) (Mi (M7)) d (fl x) ac aw∧Ma (M3 eI (Mi (M7))) d (fl x) A B r∧Ma (M3 eI (M7)) d (fl x) aa ah N∧d.heap[p]? = some (.cells #[Vl U I ad,Vi ar,Vl X J ae,Vl Y K af,Vl Z L ag,.map (some ab),.map (some ac),Vl A r B,Vl aa N ah] 95 (0,0))∧d.heap[E]? = some (.cells #[Vi G,Vi O,Vi Q,Vi S] 49 (0,0))∧Ma (M7) d (fl x) ak al D.2) [[E],[p],F]) (fun H=>H.1) (an,0) ⟨R,R,R,R,R,R,R,R,T0⟩ ⟨ay,o,c,t,g,h,i,k,l,m,f,n,q,v,u⟩ ?_);rintro ⟨an,C⟩ ao bk ⟨ai,o,c,t,g,h,i,k,l,m,f,n,q,v,u⟩;rcases an with _ | an
   · exact (Lz ai).elim
   obtain ⟨bd,a,ai⟩:=Bs ai;refine Cs (Xu 1 [(23,Bd (C<((D.2).length:Int)))] (Xk (Cn [(3,Vp E 0),(5,Vi w),(12,Vl A r B),(13,Vi ((r).length:Int)),(14,Vi w),(20,Vl ak D.2 al),(21,Vi ((D.2).length:Int)),(22,Vi C),(23,Bd (C<((D.2).length:Int)))] (fun ao=>?_))));refine Cq (Ci _ R a (fun a=>?_) (fun a=>?_))
   · refine Ck (Kt (Cq (Cb (Cs ?_))));obtain ⟨y,a9,a⟩:=Bs a;refine Zf [Vi y.1,Vi y.2.1,Vi y.2.2.1,Vi y.2.2.2] (u.el PL) MP a9 R (fun _=>R) (fun _=>Xj #[Vi 0,Vi 0,Vi 0,Vi 0] R (fun aN bh aG ap a2=>?_));have t:=t.box o.size aG;obtain ⟨q,g,h,i,k,l,m,f,n,v,u,c,o⟩:=E13 (Cx.b c a2 aG ap) q g h i k l m f n v u c o;obtain ⟨ba,a6,aX,aD⟩:=Sa [Vi y.1,Vi y.2.1,Vi y.2.2.1,Vi y.2.2.2] MP ap R R R;refine Xp a6 R ?_;obtain ⟨q,g,h,i,k,l,m,f,n,v,u,c⟩:=E12 (Cx.j c 0 aD) q g h i k l m f n v u c;have o:=o.th aD t 0;have ap:=aX;refine Xk (Cs (Yg E 0 0 (Vi G) R R (Rf Po _) M5 v nn R (Yg aN 0 0 (Vi y.1) R R (Rf Po _) M5 ap nn R (Xu 2 [(30,.bool (G==y.1)),(31,.bool (G==y.1))] (Xw 31 _ R a (fun a=>?_) (fun a=>?_))))))
     · refine Yl _ _ R (Ra 0 [Vi G,Vi O,Vi Q,Vi S] MP v nn R) (Yl _ _ R (Ra 0 [Vi y.1,Vi y.2.1,Vi y.2.2.1,Vi y.2.2.2] MP ap nn R) ?_);obtain ⟨aJ,a7,a⟩:=Bs a;have aZ:=WZ G O Q S y.1 y.2.1 y.2.2.1 y.2.2.2 _ ba a7;refine Xv aZ R ?_;rintro aI bi ⟨rfl,a3⟩;obtain ⟨q,g,h,i,k,l,m,f,n,v,u,c,o⟩:=E13 (Cx.e c a3) q g h i k l m f n v u c o;refine Xu 1 [(35,.bool aJ)] (Xk (Ci aJ R a (fun a=>?_) (fun a=>?_)))
       · refine Cs (Xu 2 [(36,Vi w),(4,Vi w)] (Xk (Cr (Kb (Kr ?_)))));obtain rfl:=Sj a;have aj:=Sj ai;subst aj;have a:=aB;refine Kr (Kb (Kb (Kr ?_)));obtain rfl:=Sj a;have aj:=Sj am;subst aj;have a:=aA;refine Kr (Kb (Kr (Rz (Vi w) R ?_)));obtain rfl:=Sj a;exact ⟨R,o,q⟩
       refine Ck (Kl (Kt (Cp (Xu 2 [(37,Vi (M4 (C+1))),(22,Vi (M4 (C+1)))] (Xe R ?_)))));obtain rfl:=Sj a;obtain ⟨g,h,i,k,l,m,f,n,u,c⟩:=TX (Cx.s c [1,2,3]) g h i k l m f n u c;have t:=t.px [1];exact Kt ⟨(an,M4 (C+1)),⟨R,R,R,R,R,R,R,R,T0⟩,⟨ai,o,c,t,g,h,i,k,l,m,f,n,q,v,u⟩,Ns _⟩
     refine Xu 4 [(32,U0),(33,U0),(34,U0),(35,.bool false)] (Xk (PE R (Ck (Kl (Kt (Cp (Xu 2 [(37,Vi (M4 (C+1))),(22,Vi (M4 (C+1)))] (Xe R ?_))))))));obtain rfl:=Sj a;obtain ⟨g,h,i,k,l,m,f,n,u,c⟩:=TX (Cx.s c [1,2,3]) g h i k l m f n u c;have t:=t.px [1];exact Kt ⟨(an,M4 (C+1)),⟨R,R,R,R,R,R,R,R,T0⟩,⟨ai,o,c,t,g,h,i,k,l,m,f,n,q,v,u⟩,Ns _⟩
   refine Ce (Ke ?_);obtain rfl:=Sj a;have aj:=Sj ai;subst aj;have a:=aB;refine Ke (Ki (Kl (Kt (Cn [(3,Vp E 0),(12,Vl A r B),(13,Vi ((r).length:Int)),(14,Vi w)] (fun ao=>?_)))));refine Cp (Xu 2 [(38,Vi (M4 (w+1))),(14,Vi (M4 (w+1)))] (Xe R ?_));obtain rfl:=Sj a;exact Kt ⟨(aq,M4 (w+1)),⟨R,R,R,R,T0⟩,⟨am,o,c,t,g,h,i,k,l,m,f,n,q,v⟩,Ns _⟩
 refine Ce (Ke ?_);obtain rfl:=Sj a;have aj:=Sj am;subst aj;have a:=aA;refine Ke (Ki (Kt (RJ [] T0 (fun ao=>?_))));refine Cs (Xu 1 [(4,Vi (-1))] (Xk (Cr (Rz (Vi (-1)) R ?_))));obtain rfl:=Sj a;exact ⟨R,o,q⟩
def T7 (d:Int) (b:List (Int×(List (Int×Int×Int×Int)))) (e:Int) (c:Int) (f:Int):Option (Mm Int (Unit⊕Unit)):=
match f with
| a=>
(if (decide (a<((((Mu b c).getD [])).length:Int)))=true then
((idx ((Mu b c).getD []) a).bind fun g=>
(if (decide ((M4 (g.1+d))>e))=true then
some (.done (.inl ()))
else
some (.next (M4 (a+1)))))
else
some (.done (.inr ())))
def Th (f:List (Int×(List UInt8)×Int×Int×Int×Int×Int×Int)) (a:Int) (g:List (Int×Int)) (h:List (Int×Int×Int×Int)) (i:List (Int×Int×Int×Int×(List Int)×(List Int))) (j:List (Int×Int)) (c:List (Int×(List (Int×Int×Int×Int)))) (k:List (Int×(List (Int×Int×Int×Int)))) (l:List (Int×Int×Int×Int×Int)) (d:Int) (e:Int) (m:Int) (n:Int):Option Bool:=
((loop (T7 a c d e) 0).bind fun b=>match b with
| (.inl _)=>some (decide (a>0))
| (.inr _)=>some false)
theorem M0t (a Q ab H v S ac I U ad J X ae K aa ao E x Y af L Z ag N O t ap aq ax h z)(c:MS h [[a],z])(l:Ma (M3 eI (M3 Mv (M3 eI (M3 eI (M7))))) h (fl [[a],z]) Q ab H)(m:Ma (M3 eI eI) h (fl [[a],z]) S ac I)(n:Ma (M7) h (fl [[a],z]) U ad J)(o:Ma (M3 eI (M3 eI (M3 eI (M3 eI (M3 (Mi eI) (Mi eI)))))) h (fl [[a],z]) X ae K)(p:P5 (Value.int .i64) eI h (fl [[a],z]) aa ao)(i:P5 (Value.int .i64) (Mi (M7)) h (fl [[a],z]) E x)(q:Ma (M3 eI (Mi (M7))) h (fl [[a],z]) Y af L)(r:Ma (M3 eI (M7)) h (fl [[a],z]) Z ag N)(f:h.heap[a]? = some (.cells #[Vl Q H ab,Vi v,Vl S I ac,Vl U J ad,Vl X K ae,.map (some aa),.map (some E),Vl Y L af,Vl Z N ag] 95 (0,0)))(d:Th H v I J K ao x L N O t ap aq=some ax):Md Tryz.prog 56 [Vp a 0,.agg #[Vi O,Vi t,Vi ap,Vi aq]] h fun aI k=>aI=.bool ax∧Ev [a] h k∧k.heap[a]? = some (.cells #[Vl Q H ab,Vi v,Vl S I ac,Vl U J ad,Vl X K ae,.map (some aa),.map (some E),Vl Y L af,Vl Z N ag] 95 (0,0)):=by
 refine Cw hmx Tryz.func56 R R R ?_;have g:=Ev.refl [a] h;have A:=FR.nil h.heap.size;refine Cs (Xo R (fun D aJ av u aC=>?_));have A:=A.box g.size av;obtain ⟨l,m,n,o,p,i,q,r,f,c,g⟩:=E11 (Cx.b c aC av u) l m n o p i q r f c g;refine Xu 1 [(4,.bool false)] (Xk (Cq (Cq (Cd [] [(0,false),(1,false),(2,false),(3,false),(4,false),(5,false),(6,false),(7,false),(8,false)] _ (by kernel_rfl) R ?_))));obtain ⟨l,m,n,o,p,i,q,r,f,u,c,g⟩:=E12 (Cx.e c (Ev.drew aJ)) l m n o p i q r f u c g;refine Xu 2 [(7,Vp a 0),(8,Vp a 0)] (Yg a 0 6 (.map (some E)) R R (Rf M0U _) M2w f nn R (Yg D 0 1 (Vi t) R R (Rf Wh _) M5 u nn R ?_));obtain ⟨aL,aA,aE⟩:=P5.get (e:=(Mi (M7))) (Mo:=[]) M2Z M23 t [] (Z0) (fun h=>by kernel_rfl) ⟨none,0,R,Ma.empty _ _ _⟩ i (fun _ d=>by cases d);obtain ⟨aj,ak,rfl,w⟩:=aA;refine WQ (xv:=.map (some E)) (yv:=Vi t) (Vl aj (((Mu x t).getD [])) ak) R R R R aE (Xz PB R (Xu 1 [(15,Vi 0)] (Xk (Cb ?_))));obtain ⟨az,am,ar⟩:=Bs d;obtain ⟨ah,am⟩:=Lo am;refine Cl (Lr hmx (σ:=Nat×Int) (fun s=>match s with | (_,B)=>[(0,Vp a 0),(3,Vp D 0),(13,Vl aj (((Mu x t).getD [])) ak),(14,Vi ((((Mu x t).getD [])).length:Int)),(15,Vi B)]) (fun s k=>match s with | (aH,B)=>Mh (T7 v x O t) aH B=some az∧Ev [a] h k∧(fun C=>MS k C∧FR h.heap.size [[D]]∧Ma (M3 eI (M3 Mv (M3 eI (M3 eI (M7))))) k (fl C) Q ab H∧Ma (M3 eI eI) k (fl C) S ac I∧Ma (M7) k (fl C) U ad J∧Ma (M3 eI (M3 eI (M3 eI (M3 eI (M3 (Mi eI) (Mi eI)))))) k (fl C) X ae K∧P5 (Value.int .i64) eI k (fl C) aa ao∧P5 (Value.int .i64) (Mi (M7)) k (fl C) E x∧Ma (M3 eI (Mi (M7))) k (fl C) Y af L∧Ma (M3 eI (M7)) k (fl C) Z ag N∧k.heap[a]? = some (.cells #[Vl Q H ab,Vi v,Vl S I ac,Vl U J ad,Vl X K ae,.map (some aa),.map (some E),Vl Y L af,Vl Z N ag] 95 (0,0))∧k.heap[D]? = some (.cells #[Vi O,Vi t,Vi ap,Vi aq] 58 (0,0))∧Ma (M7) k (fl C) aj ak ((Mu x t).getD [])) [[D],[a],z]) (fun s=>s.1) (ah,0) ⟨R,R,R,R,R,T0⟩ ⟨am,g,c,A,l,m,n,o,p,i,q,r,f,u,w⟩ ?_);rintro ⟨ah,B⟩ al aQ ⟨G,g,c,A,l,m,n,o,p,i,q,r,f,u,w⟩;rcases ah with _ | ah
 · exact (Lz G).elim
 obtain ⟨aN,d,G⟩:=Bs G;refine Cs (Xu 1 [(16,Bd (B<((((Mu x t).getD [])).length:Int)))] (Xk (Cn [(0,Vp a 0),(3,Vp D 0),(13,Vl aj (((Mu x t).getD [])) ak),(14,Vi ((((Mu x t).getD [])).length:Int)),(15,Vi B),(16,Bd (B<((((Mu x t).getD [])).length:Int)))] (fun al=>?_))));refine Cq (Ci _ R d (fun d=>?_) (fun d=>?_))
 · refine Ck (Kt (Cq (Cb (Cs ?_))));obtain ⟨y,aG,d⟩:=Bs d;refine Zf [Vi y.1,Vi y.2.1,Vi y.2.2.1,Vi y.2.2.2] (w.el PB) Vj aG R (fun _=>R) (fun _=>Xj #[Vi 0,Vi 0,Vi 0,Vi 0] R (fun ay aO aw F aD=>?_));have A:=A.box g.size aw;obtain ⟨f,l,m,n,o,p,i,q,r,u,w,c,g⟩:=E13 (Cx.b c aD aw F) f l m n o p i q r u w c g;obtain ⟨aK,aF,aB,au⟩:=Sa [Vi y.1,Vi y.2.1,Vi y.2.2.1,Vi y.2.2.2] Vj F R R R;refine Xp aF R ?_;obtain ⟨f,l,m,n,o,p,i,q,r,u,w,c⟩:=E12 (Cx.j c 0 au) f l m n o p i q r u w c;have g:=g.th au A 0;have F:=aB;refine Xk (Cq (Cd [] [(0,false),(1,false),(2,false),(3,false),(4,false),(5,false),(6,false),(7,false),(8,false),(9,false),(10,false)] _ (by kernel_rfl) R ?_));obtain ⟨f,l,m,n,o,p,i,q,r,u,w,F,c,g⟩:=E14 (Cx.e c (Ev.drew aK)) f l m n o p i q r u w F c g;refine Yg ay 0 0 (Vi y.1) R R (Rf MY _) M5 F nn R (Xu 2 [(21,Vp a 0),(22,Vp a 0)] (Yf (Vp a 0) (Vp a 0) R (Rf Wi _) (Yg a 0 1 (Vi v) R R (Rf Vk _) M5 f nn R (Xu 1 [(26,Vi (M4 (y.1+v)))] (Yg D 0 0 (Vi O) R R (Rf MY _) M5 u nn R (Xu 1 [(29,Bd ((M4 (y.1+v))>O))] ?_))))));refine Xk (Ci _ R d (fun d=>?_) (fun d=>?_))
   · refine Cs (Xu 2 [(30,Vp a 0),(31,Vp a 0)] (Yf (Vp a 0) (Vp a 0) R (Rf Wi _) (Yg a 0 1 (Vi v) R R (Rf Vk _) M5 f nn R (Xu 2 [(35,Bd (v>0)),(4,Bd (v>0))] (Xk (Cn [(4,Bd (v>0))] (fun al=>?_)))))));refine Cr (Kb (Kr ?_));obtain rfl:=Sj d;have an:=Sj G;subst an;have d:=ar;refine Kr (Kb (Kr (Rz (Bd (v>0)) R ?_)));obtain rfl:=Sj d;exact ⟨R,g,f⟩
   refine Ck (Kl (Kt (Cp (Xu 2 [(36,Vi (M4 (B+1))),(15,Vi (M4 (B+1)))] (Xe R ?_)))));obtain rfl:=Sj d;obtain ⟨l,m,n,o,p,i,q,r,w,c⟩:=TX (Cx.s c [1,2,3]) l m n o p i q r w c;have A:=A.px [1];exact Kt ⟨(ah,M4 (B+1)),⟨R,R,R,R,R,T0⟩,⟨G,g,c,A,l,m,n,o,p,i,q,r,f,u,w⟩,Ns _⟩
 refine Ce (Ke ?_);obtain rfl:=Sj d;have an:=Sj G;subst an;have d:=ar;refine Ke (Ki (Kt (RJ [] T0 (fun al=>?_))));refine Cs (Xu 1 [(4,.bool false)] (Xk (Cr (Rz (.bool false) R ?_))));obtain rfl:=Sj d;exact ⟨R,g,f⟩
def XN (c:List (Int×(List UInt8)×Int×Int×Int×Int×Int×Int)) (d:Int) (e:Int) (f:Int):Option (Mm Int (Int⊕Unit)):=
match f with
| a=>
(if (decide (a<((c).length:Int)))=true then
((idx c a).bind fun b=>
(if (b.1 != 0)=true then
(if (b.2.2.1==d)=true then
(if (b.2.2.2.1==e)=true then
some (.done (.inl a))
else
some (.next (M4 (a+1))))
else
some (.next (M4 (a+1))))
else
some (.next (M4 (a+1)))))
else
some (.done (.inr ())))
def X0 (b:List (Int×(List UInt8)×Int×Int×Int×Int×Int×Int)) (c:Int) (d:Int):Option Int:=
((loop (XN b c d) 0).bind fun a=>match a with
| (.inl e)=>some e
| (.inr _)=>some (-1))
theorem M10 (m n f k l D p w)(e:MS p [w])(g:Ma (M3 eI (M3 Mv (M3 eI (M3 eI (M7))))) p (fl [w]) m n f)(d:X0 f k l=some D):Md Tryz.prog 79 [Vl m f n,Vi k,Vi l] p fun K v=>K=Vi D∧Ev [] p v:=by
 refine Cw hmx Tryz.func79 R R R ?_;have i:=Ev.refl [] p;have h:=FR.nil p.heap.size;refine Cs (Xu 1 [(6,Vi 0)] (Xk (Cq (Cs (Xu 1 [(9,Vl m f n)] (Xz My R (Xu 1 [(11,Vi 0)] (Xk (Cb ?_)))))))));obtain ⟨E,y,A⟩:=Bs d;obtain ⟨q,y⟩:=Lo y;refine Cl (Lr hmx (σ:=Nat×Int) (fun u=>match u with | (_,a)=>[(1,Vi k),(2,Vi l),(9,Vl m f n),(10,Vi ((f).length:Int)),(11,Vi a)]) (fun u v=>match u with | (J,a)=>Mh (XN f k l) J a=some E∧Ev [] p v∧MS v [w]∧FR p.heap.size []∧Ma (M3 eI (M3 Mv (M3 eI (M3 eI (M7))))) v (fl [w]) m n f) (fun u=>u.1) (q,0) ⟨R,R,R,R,R,T0⟩ ⟨y,i,e,h,g⟩ ?_);rintro ⟨q,a⟩ t Q ⟨o,i,e,h,g⟩;rcases q with _ | q
 · exact (Lz o).elim
 obtain ⟨L,d,o⟩:=Bs o;refine Cs (Xu 1 [(12,Bd (a<((f).length:Int)))] (Xk (Cn [(1,Vi k),(2,Vi l),(9,Vl m f n),(10,Vi ((f).length:Int)),(11,Vi a),(12,Bd (a<((f).length:Int)))] (fun t=>?_))));refine Cq (Ci _ R d (fun d=>?_) (fun d=>?_))
 · refine Ck (Kt (Cq (Cb (Cs (Xu 1 [(13,Vi a)] ?_)))));obtain ⟨c,I,d⟩:=Bs d;refine Zf [Vi c.1,Vs c.2.1,Vi c.2.2.1,Vi c.2.2.2.1,Vi c.2.2.2.2.1,Vi c.2.2.2.2.2.1,Vi c.2.2.2.2.2.2.1,Vi c.2.2.2.2.2.2.2] (g.el My) Pb I R (fun _=>R) (fun _=>Xj #[Vi 0,Vs ([]:List UInt8),Vi 0,Vi 0,Vi 0,Vi 0,Vi 0,Vi 0] R (fun x N C r G=>?_));have h:=h.box i.size C;obtain ⟨g,e,i⟩:=E3 (Cx.b e G C r) g e i;refine Xu 1 [(7,Vi a)] ?_;obtain ⟨O,H,F,B⟩:=Sa [Vi c.1,Vs c.2.1,Vi c.2.2.1,Vi c.2.2.2.1,Vi c.2.2.2.2.1,Vi c.2.2.2.2.2.1,Vi c.2.2.2.2.2.2.1,Vi c.2.2.2.2.2.2.2] Pb r R R R;refine Xp H R ?_;obtain ⟨g,e⟩:=E2 (Cx.j e 0 B) g e;have i:=i.th B h 0;have r:=F;refine Xk (Cs (Yg x 0 0 (Vi c.1) R R (Rf MC _) M5 r nn R (Xu 2 [(18,.bool (c.1 != 0)),(19,.bool (c.1 != 0))] (Xw 19 _ R d (fun d=>?_) (fun d=>?_)))))
   · refine Yg x 0 2 (Vi c.2.2.1) R R (Rf PO _) M5 r nn R (Xu 4 [(22,Vi k),(23,.bool (c.2.2.1==k)),(24,.bool (c.2.2.1==k)),(25,.bool (c.2.2.1==k))] (Xw 25 _ R d (fun d=>?_) (fun d=>?_)))
     · refine Yg x 0 3 (Vi c.2.2.2.1) R R (Rf R9 _) M5 r nn R (Xu 3 [(28,Vi l),(29,.bool (c.2.2.2.1==l)),(30,.bool (c.2.2.2.1==l))] (Xk (Cn [(1,Vi k),(2,Vi l),(7,Vi a),(9,Vl m f n),(10,Vi ((f).length:Int)),(11,Vi a),(30,.bool (c.2.2.2.1==l))] (fun t=>?_))));refine Ci _ R d (fun d=>?_) (fun d=>?_)
       · refine Cs (Xu 2 [(31,Vi a),(6,Vi a)] (Xk (Cr (Kb (Kr ?_)))));obtain rfl:=Sj d;have z:=Sj o;subst z;have d:=A;refine Kr (Kb (Kr (Rz (Vi a) R ?_)));obtain rfl:=Sj d;exact ⟨R,i⟩
       refine Ck (Kl (Kt (Cp (Xu 2 [(32,Vi (M4 (a+1))),(11,Vi (M4 (a+1)))] (Xe R ?_)))));obtain rfl:=Sj d;obtain ⟨g,e⟩:=E2 (Cx.s e [1]) g e;have h:=h.px [];exact Kt ⟨(q,M4 (a+1)),⟨R,R,R,R,R,T0⟩,⟨o,i,e,h,g⟩,Ns _⟩
     refine Xu 5 (Un 26 4++[(30,.bool false)]) (Xk (Cn [(1,Vi k),(2,Vi l),(7,Vi a),(9,Vl m f n),(10,Vi ((f).length:Int)),(11,Vi a),(30,.bool false)] (fun t=>?_)));refine PE R (Ck (Kl (Kt (Cp (Xu 2 [(32,Vi (M4 (a+1))),(11,Vi (M4 (a+1)))] (Xe R ?_))))));obtain rfl:=Sj d;obtain ⟨g,e⟩:=E2 (Cx.s e [1]) g e;have h:=h.px [];exact Kt ⟨(q,M4 (a+1)),⟨R,R,R,R,R,T0⟩,⟨o,i,e,h,g⟩,Ns _⟩
   refine Xu 11 (Un 20 4++[(24,.bool false),(25,.bool false)]++Un 26 4++[(30,.bool false)]) (Xk (Cn [(1,Vi k),(2,Vi l),(7,Vi a),(9,Vl m f n),(10,Vi ((f).length:Int)),(11,Vi a),(30,.bool false)] (fun t=>?_)));refine PE R (Ck (Kl (Kt (Cp (Xu 2 [(32,Vi (M4 (a+1))),(11,Vi (M4 (a+1)))] (Xe R ?_))))));obtain rfl:=Sj d;obtain ⟨g,e⟩:=E2 (Cx.s e [1]) g e;have h:=h.px [];exact Kt ⟨(q,M4 (a+1)),⟨R,R,R,R,R,T0⟩,⟨o,i,e,h,g⟩,Ns _⟩
 refine Ce (Ke ?_);obtain rfl:=Sj d;have z:=Sj o;subst z;have d:=A;refine Ke (Ki (Kt (RJ [] T0 (fun t=>?_))));refine Cs (Xu 1 [(6,Vi (-1))] (Xk (Cr (Rz (Vi (-1)) R ?_))));obtain rfl:=Sj d;exact ⟨R,i⟩
def YD (f:List (Int×Int×Int×Int×Int)) (h:List Int) (i:List Int) (j:(List Int)×(List Int)×Int):Option (Mm ((List Int)×(List Int)×Int) ((List Int)×(List Int))):=
match j with
| (a,b,c)=>
(if (decide (c<((f).length:Int)))=true then
((idx f c).bind fun d=>
((idx h d.1).bind fun e=>
(if a.length+([e]).length≤4294967296 then
(if (decide (d.2.2.2.2>0))=true then
((idx i d.1).bind fun g=>
(if b.length+([g]).length≤4294967296 then
some (.next ((a++[e]),(b++[g]),M4 (c+1)))
else none))
else
some (.next ((a++[e]),b,M4 (c+1))))
else none)))
else
some (.done (a,b)))
def Zr (a:List (Int×Int×Int×Int×Int)) (i:Int) (j:Int) (k:Int) (f:Int) (g:List Int) (h:List Int):Option ((List (Int×Int))×Int):=
((loop (YD a g h) (([]:List Int),([]:List Int),0)).bind fun c=>match c with
| (d,e)=>((Wv a f d e).bind fun b=>
some (b.1,b.2.1)))
theorem M35 (z A r aw ax ay L ab ad S ac ae U aj J C)(a:MS J [C])(d:Ma (M3 eI (M7)) J (fl [C]) z A r)(f:Ma eI J (fl [C]) ab ad S)(g:Ma eI J (fl [C]) ac ae U)(o:Zr r aw ax ay L S U=some aj):Md Tryz.prog 58 [Vl z r A,.agg #[Vi aw,Vi ax,Vi ay,Vi L,Vl ab S ad,Vl ac U ae]] J fun aX B=>∃ aa aA,aX=.tuple #[Vl aa aj.1 aA,Vi aj.2]∧Ev [] J B∧MS B [Bk aa,C]∧FR J.heap.size [Bk aa]∧M9 (M3 eI eI) 211 B (fl [Bk aa,C]) aa aA aj.1:=by
 refine Cw hmx Tryz.func58 R R R ?_;have h:=Ev.refl [] J;have m:=FR.nil J.heap.size;refine Cs (Xo R (fun D bU aS i a9=>?_));have m:=m.box h.size aS;obtain ⟨d,f,g,a,h⟩:=E5 (Cx.b a a9 aS i) d f g a h;refine Xu 2 [(4,Z0),(5,Vi 0)] (Xk (Cs (Yg D 0 3 (Vi L) R R (Rf Y8 _) M5 i nn R (Xg (.agg #[Vi L,Z0,Z0]) R (Xj #[Vi 0,Z0,Z0] R (fun t bX aU k ba=>?_))))));have m:=m.box h.size aU;obtain ⟨d,f,g,i,a,h⟩:=E6 (Cx.b a ba aU k) d f g i a h;obtain ⟨aY,bm,a6,aK⟩:=Sa [Vi L,Z0,Z0] M7l k R R R;refine Xp bm R ?_;obtain ⟨d,f,g,i,a⟩:=E5 (Cx.j a 0 aK) d f g i a;have h:=h.th aK m 0;have k:=a6;refine Xk (Cq (Cs (Xu 1 [(15,Vl z r A)] (Xz MF R (Xu 1 [(17,Vi 0)] (Xk (Cb ?_)))))));obtain ⟨d,f,g,i,k,a⟩:=E6 (Cx.n a) d f g i k a;have m:=m.pn;have ag:=M9.nil eI 3 aY (fl [Bk none,[t],[D],C]);obtain ⟨d,f,g,i,k,ag,a⟩:=E7 (Cx.n a) d f g i k ag a;have m:=m.pn;have au:=M9.nil eI 3 aY (fl [Bk none,Bk none,[t],[D],C]);obtain ⟨d,f,g,ag,au,a⟩:=E6 (Cx.s a [3,1,0,2,4]) d f g ag au a;have m:=m.px [3,1,0,2];obtain ⟨aZ,ap,a0⟩:=Bs o;obtain ⟨Y,ap⟩:=Lo ap;refine Cl (Lr hmx (σ:=Nat×(List Int)×(List Int)×Int×Option Addr×Nat×Option Addr×Nat) (fun s=>match s with | (_,G,H,x,K,Q,F,N)=>[(0,Vl z r A),(3,Vp D 0),(6,Vp t 0),(15,Vl z r A),(16,Vi ((r).length:Int)),(17,Vi x)]) (fun s B=>match s with | (bx,G,H,x,K,Q,F,N)=>Mh (YD r S U) bx (G,H,x)=some aZ∧Ev [] J B∧(fun Z=>MS B Z∧FR J.heap.size [[D],Bk K,Bk F,[t]]∧Ma (M3 eI (M7)) B (fl Z) z A r∧Ma eI B (fl Z) ab ad S∧Ma eI B (fl Z) ac ae U∧B.heap[D]? = some (.cells #[Vi aw,Vi ax,Vi ay,Vi L,Vl ab S ad,Vl ac U ae] 47 (0,0))∧M9 eI 3 B (fl Z) K Q G∧M9 eI 3 B (fl Z) F N H∧B.heap[t]? = some (.cells #[Vi L,Vl K G Q,Vl F H N] 205 (0,0))) [[D],Bk K,Bk F,[t],C]) (fun s=>s.1) (Y,([]:List Int),([]:List Int),0,none,0,none,0) ⟨R,R,R,R,R,R,T0⟩ ⟨ap,h,a,m,d,f,g,i,ag,au,k⟩ ?_);rintro ⟨Y,G,H,x,K,Q,F,N⟩ al bB ⟨X,h,a,m,d,f,g,i,p,q,k⟩;rcases Y with _ | Y
 · exact (Lz X).elim
 obtain ⟨bI,o,X⟩:=Bs X;refine Cs (Xu 1 [(18,Bd (x<((r).length:Int)))] (Xk (Cn [(0,Vl z r A),(3,Vp D 0),(6,Vp t 0),(15,Vl z r A),(16,Vi ((r).length:Int)),(17,Vi x),(18,Bd (x<((r).length:Int)))] (fun al=>?_))));refine Cq (Ci _ R o (fun o=>?_) (fun o=>?_))
 · refine Ck (Kt (Cq (Cb (Cs ?_))));obtain ⟨y,bt,o⟩:=Bs o;refine Zf [Vi y.1,Vi y.2.1,Vi y.2.2.1,Vi y.2.2.2.1,Vi y.2.2.2.2] (d.el MF) R3 bt R (fun _=>R) (fun _=>Xj #[Vi 0,Vi 0,Vi 0,Vi 0,Vi 0] R (fun an bJ aQ v a8=>?_));have m:=m.box h.size aQ;obtain ⟨d,i,f,g,k,p,q,a,h⟩:=E9 (Cx.b a a8 aQ v) d i f g k p q a h;obtain ⟨bz,bh,a1,aC⟩:=Sa [Vi y.1,Vi y.2.1,Vi y.2.2.1,Vi y.2.2.2.1,Vi y.2.2.2.2] R3 v R R R;refine Xp bh R ?_;obtain ⟨d,i,f,g,k,p,q,a⟩:=E8 (Cx.j a 0 aC) d i f g k p q a;have h:=h.th aC m 0;have v:=a1;refine Xk (Cq (Cd [] [(0,false),(1,false),(2,false),(3,false),(4,false),(5,false),(6,false),(7,false),(8,false),(9,true),(10,false),(11,true)] _ (by kernel_rfl) R ?_));obtain ⟨d,i,f,g,k,p,q,v,a,h⟩:=TX (Cx.e a (Ev.drew bz)) d i f g k p q v a h;refine Yg t 0 1 (Vl K G Q) R R (Rf Yc _) Mp k nn R (Yg D 0 4 (Vl ab S ad) R R (Rf PP _) Mp i nn R (Yg an 0 0 (Vi y.1) R R (Rf Pm _) M5 v nn R ?_));obtain ⟨ai,bu,o⟩:=Bs o;refine Z6 (f.el MB) M5 bu R (fun _=>R) (fun _=>Xb #[Vi ai] 3 R R R (by kernel_rfl) (fun bC bK bf a2 aD bG=>?_));refine ⟨.inr aD,?_⟩;have I:=Cx.e a aD;obtain ⟨d,i,f,g,k,p,q,v,a,h⟩:=TX I d i f g k p q v a h;have bn:=I.l (e:=eI) bf a2 1 [ai];have ar:=Gl o;have o:=Gr o;obtain ⟨am,ao,bL,bi,aE,aN,bE,bq⟩:=Mb Wg 22 p (Mf 2 R) bn ar;refine Xx R (Rn bi) ?_;have I:=Cx.u a 2 aE aN;obtain ⟨d,i,f,g,k,q,v,a⟩:=E8 I d i f g k q v a;have af:=m.ux 2 h aN;have h:=h.th aE m 2;have m:=af;have p:=bq _ I.st.new;refine Yf (Vp t 0) (Vp t 1) R (Rf Yc _) ?_;obtain ⟨bA,bj,a3,aF⟩:=Sx 1 (Vl am ((G++[ai])) ao) Mp k;refine Xp bj R ?_;obtain ⟨d,i,f,g,p,q,v,a⟩:=E8 (Cx.j a 4 aF) d i f g p q v a;have h:=h.th aF m 4;have k:=a3;refine Xk (Cs (Yg an 0 4 (Vi y.2.2.2.2) R R (Rf RY _) M5 v nn R (Xu 1 [(34,Bd (y.2.2.2.2>0))] (Xk (Ci _ R o (fun o=>?_) (fun o=>?_))))))
   · refine Cd [] [(0,false),(1,false),(2,false),(3,false),(4,false),(5,false),(6,false),(7,false),(8,false),(9,true),(10,false),(11,true)] _ (by kernel_rfl) R ?_;obtain ⟨d,i,f,g,k,p,q,v,a,h⟩:=TX (Cx.e a (Ev.drew bA)) d i f g k p q v a h;refine Yg t 0 2 (Vl F H N) R R (Rf Ya _) Mp k nn R (Yg D 0 5 (Vl ac U ae) R R (Rf Re _) Mp i nn R (Yg an 0 0 (Vi y.1) R R (Rf Pm _) M5 v nn R ?_));obtain ⟨ak,bv,o⟩:=Bs o;refine Z6 (g.el MB) M5 bv R (fun _=>R) (fun _=>Xb #[Vi ak] 3 R R R (by kernel_rfl) (fun bD bN bg a4 aG bH=>?_));refine ⟨.inr aG,?_⟩;have I:=Cx.e a aG;obtain ⟨d,i,f,g,k,p,q,a,h⟩:=E9 I d i f g k p q a h;have bo:=I.l (e:=eI) bg a4 1 [ak];have ar:=Gl o;have o:=Gr o;obtain ⟨az,aB,bO,bk,aH,aO,bF,br⟩:=Mb Wg 22 q (Mf 3 R) bo ar;refine Xx R (Rn bk) ?_;have I:=Cx.u a 3 aH aO;obtain ⟨d,i,f,g,k,p,a⟩:=E7 I d i f g k p a;have af:=m.ux 3 h aO;have h:=h.th aH m 3;have m:=af;have q:=br _ I.st.new;refine Yf (Vp t 0) (Vp t 2) R (Rf Ya _) ?_;obtain ⟨bQ,bl,a5,aI⟩:=Sx 2 (Vl az ((H++[ak])) aB) Mp k;refine Xp bl R ?_;obtain ⟨d,i,f,g,p,q,a⟩:=E7 (Cx.j a 4 aI) d i f g p q a;have h:=h.th aI m 4;have k:=a5;refine Xe R (Kl (Kt (Cn [(0,Vl z r A),(3,Vp D 0),(6,Vp t 0),(15,Vl z r A),(16,Vi ((r).length:Int)),(17,Vi x)] (fun al=>?_))));refine Cp (Xu 2 [(46,Vi (M4 (x+1))),(17,Vi (M4 (x+1)))] (Xe R ?_));obtain rfl:=Sj o;obtain ⟨d,f,g,p,q,a⟩:=E6 (Cx.s a [1,2,3,4,5]) d f g p q a;have m:=m.px [1,2,3,4];exact Kt ⟨(Y,(G++[ai]),(H++[ak]),M4 (x+1),am,ao,az,aB),⟨R,R,R,R,R,R,T0⟩,⟨X,h,a,m,d,f,g,i,p,q,k⟩,Ns _⟩
   refine Ck (Kl (Kt (Cp (Xu 2 [(46,Vi (M4 (x+1))),(17,Vi (M4 (x+1)))] (Xe R ?_)))));obtain rfl:=Sj o;obtain ⟨d,f,g,p,q,a⟩:=E6 (Cx.s a [1,2,3,4,5]) d f g p q a;have m:=m.px [1,2,3,4];exact Kt ⟨(Y,(G++[ai]),H,M4 (x+1),am,ao,F,N),⟨R,R,R,R,R,R,T0⟩,⟨X,h,a,m,d,f,g,i,p,q,k⟩,Ns _⟩
 refine Ce (Ke ?_);obtain rfl:=Sj o;have bw:=Sj X;subst bw;have o:=a0;refine Ke (Ki (Kt (Cn [(0,Vl z r A),(6,Vp t 0)] (fun al=>?_))));refine Cs (Xu 1 [(48,Vl z r A)] (Yl _ _ R (Ra 0 [Vi L,Vl K G Q,Vl F H N] M7l k nn R) ?_));obtain ⟨w,bs,o⟩:=Bs o;obtain ⟨be,av⟩:=Kc a [] [0,3,4];have a7:=M33 z A r L K Q G F N H _ bB _ be (d.sub av) (p.ro av (Ko a 1 [0,3,4])) (q.ro av (Ko a 2 [0,3,4])) bs;refine Xv a7 R ?_;rintro aX bS ⟨E,O,rfl,aJ,bc,aL,aq⟩;have a:=E1 (Cx.c a [] aJ bc aL) a;have af:=m.cc h aL;have h:=h.ext aJ;have m:=af;have aq:=aq.pl a;refine Xu 7 [(47,.tuple #[Vl E w.1 O,Vi w.2.1,Vi w.2.2]),(51,Vl E w.1 O),(52,Vi w.2.1),(53,Vi w.2.2),(9,Vl E w.1 O),(10,Vi w.2.1),(11,Vi w.2.2)] (Xk (Cs (Xu 4 [(54,Vl E w.1 O),(55,Vi w.2.1),(4,Vl E w.1 O),(5,Vi w.2.1)] (Xk (Cr (Rr (Rv [Vl E w.1 O,Vi w.2.1] ⟨R,R,T0⟩ ?_)))))));obtain rfl:=Sj o;have bd:=a.pk [0,5] [Bk E,C] R;have bp:=Pk (ls:=[Bk E,[D],Bk K,Bk F,[t],C]) [0,5] [Bk E,C] R;have bb:=m.pk [0] [Bk E] R;exact ⟨E,O,R,h,bd,bb,aq.sub bp⟩
def YE (c:List (Int×Int×Int×Int×Int)) (a:Int) (d:Int) (e:Int) (f:Int) (g:List Int) (h:List Int):Option (Int×Bool):=
(if (((c).length:Int)==0)=true then
some (a,true)
else
((Zr c a d e f g h).bind fun b=>
(if (decide (b.2≥0))=true then
some (0,false)
else
((idx b.1 (M4 (((b.1).length:Int)-1))).bind fun i=>
some (M4 (a+i.1),true)))))
theorem M4z (p r l f y z A u w s v x t H m i)(d:MS m [i])(D:Ma (M3 eI (M7)) m (fl [i]) p r l)(E:Ma eI m (fl [i]) u w s)(F:Ma eI m (fl [i]) v x t)(a:YE l f y z A s t=some H):Md Tryz.prog 80 [Vl p l r,.agg #[Vi f,Vi y,Vi z,Vi A,Vl u s w,Vl v t x]] m fun J Y=>J=.tuple #[Vi H.1,.bool H.2]∧Ev [] m Y:=by
 refine Cw hmx Tryz.func80 R R R ?_;have h:=Ev.refl [] m;refine Cs (Xo R (fun o Z Q j L=>?_));obtain ⟨D,E,F,d,h⟩:=E5 (Cx.b d L Q j) D E F d h;refine Xu 2 [(4,Vi 0),(5,.bool false)] (Xk (Cq (Cs (Xu 1 [(8,Vl p l r)] (Xz MF R (Xu 1 [(10,.bool (((l).length:Int)==0))] (Xk (Ci _ R a (fun a=>?_) (fun a=>?_)))))))))
 · refine Cs (Yg o 0 0 (Vi f) R R (Rf T1 _) M5 j nn R (Xu 2 [(4,Vi f),(5,.bool true)] (Xk (Cr (Kr (Rr (Rv [Vi f,.bool true] ⟨R,R,T0⟩ ?_)))))));obtain rfl:=Sj a;exact ⟨R,h⟩
 refine Ck (Kt (Cs (Xu 1 [(14,Vl p l r)] (Yl _ _ R (Ra 0 [Vi f,Vi y,Vi z,Vi A,Vl u s w,Vl v t x] TY j nn R) ?_))));obtain ⟨g,U,a⟩:=Bs a;obtain ⟨C,G⟩:=Kc d [] [0,1];have K:=M35 p r l f y z A u w s v x t _ Z _ C (D.sub G) (E.sub G) (F.sub G) U;refine Xv K R ?_;rintro J aa ⟨n,q,rfl,I,O,N,k⟩;obtain ⟨j,d⟩:=E2 (Cx.c d [] I O N) j d;have h:=h.ext I;have k:=k.pl d;have C:=d.pk [1,2] [[o],i] R;have S:=Pk (ls:=[Bk n,[o],i]) [1,2] [[o],i] R;have k:=k.ro S (Mq d 0 R [some 1,some 2] [[o],i] R R);have d:=C;refine Xu 5 [(13,.tuple #[Vl n g.1 q,Vi g.2]),(17,Vl n g.1 q),(18,Vi g.2),(6,Vl n g.1 q),(7,Vi g.2)] (Xk (Cq (Cs (Xu 2 [(19,Vi g.2),(20,Bd (g.2≥0))] (Xk (Ci _ R a (fun a=>?_) (fun a=>?_)))))))
 · refine Cs (Xu 2 [(4,Vi 0),(5,.bool false)] (Xk (Cr (Kr (Rr (Rv [Vi 0,.bool false] ⟨R,R,T0⟩ ?_))))));obtain rfl:=Sj a;exact ⟨R,h⟩
 refine Ck (Kt (Cq (Cd [] [(0,false),(1,false),(2,false),(3,false),(4,false),(5,false),(6,false),(7,false),(8,false),(9,false),(10,false),(11,false)] _ (by kernel_rfl) R ?_)));obtain ⟨j,k,h⟩:=E3 (Cx.e d (Ev.drew aa)) j k h;refine Yg o 0 0 (Vi f) R R (Rf T1 _) M5 j nn R (Xu 2 [(23,Vl n g.1 q),(24,Vl n g.1 q)] (Xz M0p R (Xu 1 [(26,Vi (M4 (((g.1).length:Int)-1)))] ?_)));obtain ⟨B,X,a⟩:=Bs a;refine Xq (k.el M0p) Yb M5 X R (fun _=>R) (fun _=>Xu 3 [(30,Vi (M4 (f+B.1))),(4,Vi (M4 (f+B.1))),(5,.bool true)] (Xk (Cn [(4,Vi (M4 (f+B.1))),(5,.bool true)] (fun ab=>?_))));refine Cr (Rr (Rv [Vi (M4 (f+B.1)),.bool true] ⟨R,R,T0⟩ ?_));obtain rfl:=Sj a;exact ⟨R,h⟩
def V1 (e:Int) (b:List (Int×(List (Int×Int×Int×Int)))) (c:Int) (d:Int) (f:Int):Option (Mm Int ((Int×Bool)⊕Unit)):=
match f with
| a=>
(if (decide (a≥0))=true then
((idx ((Mu b c).getD []) a).bind fun g=>
(if (decide (g.1≤d))=true then
((idx ((Mu b c).getD []) a).bind fun h=>
((idx ((Mu b c).getD []) a).bind fun i=>
some (.done (.inl (h.2.2.1,decide ((M4 (i.1+e))>d))))))
else
some (.next (M4 (a-1)))))
else
some (.done (.inr ())))
def Vy (i:List (Int×(List UInt8)×Int×Int×Int×Int×Int×Int)) (e:Int) (j:List (Int×Int)) (k:List (Int×Int×Int×Int)) (l:List (Int×Int×Int×Int×(List Int)×(List Int))) (b:List (Int×Int)) (c:List (Int×(List (Int×Int×Int×Int)))) (m:List (Int×(List (Int×Int×Int×Int)))) (n:List (Int×Int×Int×Int×Int)) (a:Int) (f:Int):Option (Int×Bool):=
((loop (V1 e c a f) (M4 (((((Mu c a).getD [])).length:Int)-1))).bind fun d=>match d with
| (.inl (g,h))=>some (g,h)
| (.inr _)=>(if ((Mu b a).isSome)=true then
some (((Mu b a).getD 0),false)
else
some (1,false)))
theorem M1J (b B H v l C I w D J x E K y s h t f F L z G N A a j ak d m)(U:MS d [[b],m])(ad:Ma (M3 eI (M3 Mv (M3 eI (M3 eI (M7))))) d (fl [[b],m]) B H v)(ae:Ma (M3 eI eI) d (fl [[b],m]) C I w)(af:Ma (M7) d (fl [[b],m]) D J x)(ag:Ma (M3 eI (M3 eI (M3 eI (M3 eI (M3 (Mi eI) (Mi eI)))))) d (fl [[b],m]) E K y)(X:P5 (Value.int .i64) eI d (fl [[b],m]) s h)(Y:P5 (Value.int .i64) (Mi (M7)) d (fl [[b],m]) t f)(ah:Ma (M3 eI (Mi (M7))) d (fl [[b],m]) F L z)(ai:Ma (M3 eI (M7)) d (fl [[b],m]) G N A)(k:d.heap[b]? = some (.cells #[Vl B v H,Vi l,Vl C w I,Vl D x J,Vl E y K,.map (some s),.map (some t),Vl F z L,Vl G A N] 95 (0,0)))(c:Vy v l w x y h f z A a j=some ak):Md Tryz.prog 81 [Vp b 0,Vi a,Vi j] d fun aw i=>aw=.tuple #[Vi ak.1,.bool ak.2]∧Ev [b] d i∧i.heap[b]? = some (.cells #[Vl B v H,Vi l,Vl C w I,Vl D x J,Vl E y K,.map (some s),.map (some t),Vl F z L,Vl G A N] 95 (0,0)):=by
 refine Cw hmx Tryz.func81 R R R ?_;have q:=Ev.refl [b] d;have ac:=FR.nil d.heap.size;refine Cs (Xu 2 [(6,Vi 0),(7,.bool false)] (Xk (Cs (Xu 2 [(12,Vp b 0),(13,Vp b 0)] (Yg b 0 6 (.map (some t)) R R (Rf M0U _) M2w k nn R (Xu 1 [(16,Vi a)] ?_))))));obtain ⟨az,aa,ao⟩:=P5.get (e:=(Mi (M7))) (Mo:=[]) M2Z M23 a [] (Z0) (fun d=>by kernel_rfl) ⟨none,0,R,Ma.empty _ _ _⟩ Y (fun _ c=>by cases c);obtain ⟨o,p,rfl,r⟩:=aa;refine WQ (xv:=.map (some t)) (yv:=Vi a) (Vl o (((Mu f a).getD [])) p) R R R R ao (Xu 1 [(8,Vl o (((Mu f a).getD [])) p)] (Xk (Cq (Cs (Xu 1 [(18,Vl o (((Mu f a).getD [])) p)] (Xz PB R (Xu 2 [(20,Vi (M4 (((((Mu f a).getD [])).length:Int)-1))),(9,Vi (M4 (((((Mu f a).getD [])).length:Int)-1)))] (Xk (Cb ?_)))))))));obtain ⟨an,ab,am⟩:=Bs c;obtain ⟨O,ab⟩:=Lo ab;refine Cl (Lr hmx (σ:=Nat×Int) (fun Q=>match Q with | (_,g)=>[(0,Vp b 0),(1,Vi a),(2,Vi j),(8,Vl o (((Mu f a).getD [])) p),(9,Vi g)]) (fun Q i=>match Q with | (av,g)=>Mh (V1 l f a j) av g=some an∧Ev [b] d i∧(fun n=>MS i n∧FR d.heap.size []∧Ma (M3 eI (M3 Mv (M3 eI (M3 eI (M7))))) i (fl n) B H v∧Ma (M3 eI eI) i (fl n) C I w∧Ma (M7) i (fl n) D J x∧Ma (M3 eI (M3 eI (M3 eI (M3 eI (M3 (Mi eI) (Mi eI)))))) i (fl n) E K y∧P5 (Value.int .i64) eI i (fl n) s h∧P5 (Value.int .i64) (Mi (M7)) i (fl n) t f∧Ma (M3 eI (Mi (M7))) i (fl n) F L z∧Ma (M3 eI (M7)) i (fl n) G N A∧i.heap[b]? = some (.cells #[Vl B v H,Vi l,Vl C w I,Vl D x J,Vl E y K,.map (some s),.map (some t),Vl F z L,Vl G A N] 95 (0,0))∧Ma (M7) i (fl n) o p ((Mu f a).getD [])) [[b],m]) (fun Q=>Q.1) (O,M4 (((((Mu f a).getD [])).length:Int)-1)) ⟨R,R,R,R,R,T0⟩ ⟨ab,q,U,ac,ad,ae,af,ag,X,Y,ah,ai,k,r⟩ ?_);rintro ⟨O,g⟩ Z ax ⟨u,q,U,ac,ad,ae,af,ag,X,Y,ah,ai,k,r⟩;rcases O with _ | O
 · exact (Lz u).elim
 obtain ⟨aB,c,u⟩:=Bs u;refine Cq (Cs (Xu 2 [(21,Vi g),(22,Bd (g≥0))] (Xk (Cn [(0,Vp b 0),(1,Vi a),(2,Vi j),(8,Vl o (((Mu f a).getD [])) p),(9,Vi g),(22,Bd (g≥0))] (fun Z=>?_)))));refine Ci _ R c (fun c=>?_) (fun c=>?_)
 · refine Ck (Kt (Cq (Cb (Cs (Xu 2 [(25,Vl o (((Mu f a).getD [])) p),(26,Vi g)] ?_)))));obtain ⟨ay,aq,c⟩:=Bs c;refine Xq (r.el PB) MY M5 aq R (fun _=>R) (fun _=>Xu 2 [(30,Vi j),(31,Bd (ay.1≤j))] (Xk (Ci _ R c (fun c=>?_) (fun c=>?_))))
   · refine Cq (Cd [] [(0,false),(1,false),(2,false),(3,false),(4,false),(5,false),(6,false),(7,false),(8,false),(9,false),(10,false),(11,false),(12,false),(13,false),(14,false),(15,false),(16,false),(17,false),(18,false),(19,false)] _ (by kernel_rfl) R ?_);obtain ⟨k,r,q⟩:=E3 (Cx.e U (Ev.drew ax)) k r q;refine Xu 2 [(32,Vl o (((Mu f a).getD [])) p),(33,Vi g)] ?_;obtain ⟨al,ar,c⟩:=Bs c;refine Xq (r.el PB) M0S M5 ar R (fun _=>R) (fun _=>Xu 2 [(37,Vl o (((Mu f a).getD [])) p),(38,Vi g)] ?_);obtain ⟨S,au,c⟩:=Bs c;refine Xq (r.el PB) MY M5 au R (fun _=>R) (fun _=>Xu 2 [(42,Vp b 0),(43,Vp b 0)] (Yf (Vp b 0) (Vp b 0) R (Rf Wi _) (Yg b 0 1 (Vi l) R R (Rf Vk _) M5 k nn R (Xu 5 [(47,Vi (M4 (S.1+l))),(48,Vi j),(49,Bd ((M4 (S.1+l))>j)),(6,Vi al.2.2.1),(7,Bd ((M4 (S.1+l))>j))] (Xk (Cn [(6,Vi al.2.2.1),(7,Bd ((M4 (S.1+l))>j))] (fun Z=>?_)))))));refine Cr (Kb (Kr ?_));obtain rfl:=Sj c;have aj:=Sj u;subst aj;have c:=am;refine Kr (Kb (Kr (Rr (Rv [Vi al.2.2.1,Bd ((M4 (S.1+l))>j)] ⟨R,R,T0⟩ ?_))));obtain rfl:=Sj c;exact ⟨R,q,k⟩
   refine Ck (Kl (Kt (Cp (Xu 3 [(23,Vi g),(24,Vi (M4 (g-1))),(9,Vi (M4 (g-1)))] (Xe R ?_)))));obtain rfl:=Sj c;exact Kt ⟨(O,M4 (g-1)),⟨R,R,R,R,R,T0⟩,⟨u,q,U,ac,ad,ae,af,ag,X,Y,ah,ai,k,r⟩,Ns _⟩
 refine Ce (Ke ?_);obtain rfl:=Sj c;have aj:=Sj u;subst aj;have c:=am;refine Ke (Ki (Kt (Cn [(0,Vp b 0),(1,Vi a)] (fun Z=>?_))));refine Cq (Cs (Xu 2 [(51,Vp b 0),(52,Vp b 0)] (Yg b 0 5 (.map (some s)) R R (Rf M5q _) M7m k nn R (Xu 1 [(55,Vi a)] ?_))));obtain ⟨aA,aa,ap⟩:=P5.getok (e:=eI) (Mo:=[]) M6s M23 a 0 (Vi 0) (fun d=>by kernel_rfl) R X (fun _ c=>by cases c);obtain rfl:=aa;refine WQ (xv:=.map (some s)) (yv:=Vi a) (.tuple #[Vi ((Mu h a).getD 0),.bool ((Mu h a).isSome)]) R R R R ap (Xu 5 [(50,.tuple #[Vi ((Mu h a).getD 0),.bool ((Mu h a).isSome)]),(57,Vi ((Mu h a).getD 0)),(58,.bool ((Mu h a).isSome)),(10,Vi ((Mu h a).getD 0)),(11,.bool ((Mu h a).isSome))] (Xk (Cs (Xu 1 [(59,.bool ((Mu h a).isSome))] (Xk (Ci _ R c (fun c=>?_) (fun c=>?_)))))))
 · refine Cs (Xu 3 [(60,Vi ((Mu h a).getD 0)),(6,Vi ((Mu h a).getD 0)),(7,.bool false)] (Xk (Cr (Kr (Rr (Rv [Vi ((Mu h a).getD 0),.bool false] ⟨R,R,T0⟩ ?_))))));obtain rfl:=Sj c;exact ⟨R,q,k⟩
 refine Ck (Kt (Cs (Xu 2 [(6,Vi 1),(7,.bool false)] (Xk (Cr (Rr (Rv [Vi 1,.bool false] ⟨R,R,T0⟩ ?_)))))));obtain rfl:=Sj c;exact ⟨R,q,k⟩
def MU (e:List (Int×(List UInt8)×Int×Int×Int×Int×Int×Int)) (c:List (Int×Int×Int×Int×Int)) (b:Int) (a:Int×(List UInt8)×Int×Int×Int×Int×Int×Int) (d:List (Int×Int×Int×Int×Int)) (f:Int):Option (Mm ((List (Int×Int×Int×Int×Int))×(List (Int×Int×Int×Int×Int))×Int) ((List (Int×Int×Int×Int×Int))×(List (Int×Int×Int×Int×Int)))):=
(if c.length+([(b,a.2.2.2.2.1,a.2.2.2.2.2.1,a.2.2.2.2.2.2.1,a.2.2.2.2.2.2.2)]:List (Int×Int×Int×Int×Int)).length≤4294967296 then
((X0 e b f).bind fun g=>
some (.next (d,(c++([(b,a.2.2.2.2.1,a.2.2.2.2.2.1,a.2.2.2.2.2.2.1,a.2.2.2.2.2.2.2)]:List (Int×Int×Int×Int×Int))),g)))
else none)
def V2 (f:List (Int×(List UInt8)×Int×Int×Int×Int×Int×Int)) (j:Int) (k:List (Int×Int)) (l:List (Int×Int×Int×Int)) (m:List (Int×Int×Int×Int×(List Int)×(List Int))) (n:List (Int×Int)) (o:List (Int×(List (Int×Int×Int×Int)))) (p:List (Int×(List (Int×Int×Int×Int)))) (i:Int) (c:Int×Int×Int×Int×(List Int)×(List Int)) (q:(List (Int×Int×Int×Int×Int))×(List (Int×Int×Int×Int×Int))×Int):Option (Mm ((List (Int×Int×Int×Int×Int))×(List (Int×Int×Int×Int×Int))×Int) ((List (Int×Int×Int×Int×Int))×(List (Int×Int×Int×Int×Int)))):=
match q with
| (e,d,b)=>
((idx f b).bind fun a=>
(if (a.1==4)=true then
(if d.length+([(b,c.2.1,a.2.2.2.2.2.1,a.2.2.2.2.2.2.1,a.2.2.2.2.2.2.2)]:List (Int×Int×Int×Int×Int)).length≤4294967296 then
some (.done (e,(d++([(b,c.2.1,a.2.2.2.2.2.1,a.2.2.2.2.2.2.1,a.2.2.2.2.2.2.2)]:List (Int×Int×Int×Int×Int)))))
else none)
else
(if (a.1==3)=true then
((YE d c.1 c.2.1 c.2.2.1 c.2.2.2.1 c.2.2.2.2.1 c.2.2.2.2.2).bind fun g=>
(if g.2=true then
((Vy f j k l m n o p e b g.1).bind fun h=>
(if h.2=true then
(if e.length+([(2,i,(-1),b,g.1)]:List (Int×Int×Int×Int×Int)).length≤4294967296 then
MU f d b a (e++([(2,i,(-1),b,g.1)]:List (Int×Int×Int×Int×Int))) h.1
else none)
else
MU f d b a e h.1))
else
MU f d b a e 1))
else
MU f d b a e 0)))
def Vz (a:List (Int×(List UInt8)×Int×Int×Int×Int×Int×Int)) (g:Int) (h:List (Int×Int)) (i:List (Int×Int×Int×Int)) (b:List (Int×Int×Int×Int×(List Int)×(List Int))) (j:List (Int×Int)) (k:List (Int×(List (Int×Int×Int×Int)))) (l:List (Int×(List (Int×Int×Int×Int)))) (m:List (Int×Int×Int×Int×Int)) (c:Int):Option ((List (Int×Int×Int×Int×Int))×(List (Int×Int×Int×Int×Int))):=
((idx b c).bind fun n=>
((X0 a 0 0).bind fun o=>
((loop (V2 a g h i b j k l c n) (m,([]:List (Int×Int×Int×Int×Int)),o)).bind fun d=>match d with
| (f,e)=>some (e,f))))
theorem M1K (d N O J aJ av aD ai aw aE aj am an ag az aQ aA aS ax aF ak H a9 a5 ab a2 E F)(a:MS E [[d],Bk H,F])(g:Ma (M3 eI (M3 Mv (M3 eI (M3 eI (M7))))) E (fl [[d],Bk H,F]) N O J)(i:Ma (M3 eI eI) E (fl [[d],Bk H,F]) av aD ai)(k:Ma (M7) E (fl [[d],Bk H,F]) aw aE aj)(h:Ma (M3 eI (M3 eI (M3 eI (M3 eI (M3 (Mi eI) (Mi eI)))))) E (fl [[d],Bk H,F]) am an ag)(m:P5 (Value.int .i64) eI E (fl [[d],Bk H,F]) az aQ)(o:P5 (Value.int .i64) (Mi (M7)) E (fl [[d],Bk H,F]) aA aS)(p:Ma (M3 eI (Mi (M7))) E (fl [[d],Bk H,F]) ax aF ak)(f:M9 (M3 eI (M7)) 52 E (fl [[d],Bk H,F]) H a9 a5)(v:E.heap[d]? = some (.cells #[Vl N J O,Vi aJ,Vl av ai aD,Vl aw aj aE,Vl am ag an,.map (some az),.map (some aA),Vl ax ak aF,Vl H a5 a9] 95 (0,0)))(w:Vz J aJ ai aj ag aQ aS ak a5 ab=some a2):Md Tryz.prog 57 [Vp d 0,Vi ab] E fun a3 C=>∃ aL be aN bf,a3=Vl aL a2.1 be∧Ev (fl [[d],Bk H]) E C∧C.heap[d]? = some (.cells #[Vl N J O,Vi aJ,Vl av ai aD,Vl aw aj aE,Vl am ag an,.map (some az),.map (some aA),Vl ax ak aF,Vl aN a2.2 bf] 95 (0,0))∧M9 (M3 eI (M7)) 52 C (fl [Bk aL,[d],Bk aN,F]) aN bf a2.2∧MS C [Bk aL,[d],Bk aN,F]∧FR E.heap.size [Bk aL]∧NP (fl [[d],Bk H]) E.heap.size [[d],Bk aN]∧M9 (M3 eI (M7)) 75 C (fl [Bk aL,[d],Bk aN,F]) aL be a2.1:=by
 refine Cw hmx Tryz.func57 R R R ?_;have q:=Ev.refl (fl [[d],Bk H]) E;have B:=FR.nil E.heap.size;have Y:NP (fl [[d],Bk H]) E.heap.size [[d],Bk H]:=NP.init _ _;refine Cs (Xu 1 [(4,Z0)] (Xk (Cq (Cd [] [(0,false),(1,false),(2,false),(3,false),(4,false),(5,false),(6,false),(7,false),(8,false),(9,false),(10,false),(11,false),(12,false),(13,false),(14,false),(15,true)] _ (by kernel_rfl) R ?_))));obtain ⟨g,i,k,h,m,o,p,f,v,a,q⟩:=E11 (Cx.e a (Ev.drew E)) g i k h m o p f v a q;refine Xu 2 [(15,Vp d 0),(16,Vp d 0)] (Yf (Vp d 0) (Vp d 0) R (Rf Wi _) (Yg d 0 0 (Vl N J O) R R (Rf Ru _) TR v nn R (Xu 2 [(20,Vp d 0),(21,Vp d 0)] (Yf (Vp d 0) (Vp d 0) R (Rf Wi _) (Yg d 0 4 (Vl am ag an) R R (Rf MK _) MQ v nn R (Xu 1 [(25,Vi ab)] ?_))))));obtain ⟨x,cs,w⟩:=Bs w;obtain ⟨bC,cF,cc,bU,bG⟩:=Ri (Mo:=[]) TK h cs;obtain ⟨_,_,rfl,rfl,⟨_,_,rfl,rfl,⟨_,_,rfl,rfl,⟨_,_,rfl,rfl,⟨_,_,rfl,⟨aq,aB,rfl,r⟩,⟨ar,aC,rfl,t⟩⟩⟩⟩⟩⟩:=bG;refine Yi _ _ _ R cc (Yl (.pointer (some bC)) (.agg #[Vi x.1,Vi x.2.1,Vi x.2.2.1,Vi x.2.2.2.1,Vl aq x.2.2.2.2.1 aB,Vl ar x.2.2.2.2.2 aC]) R (R8 TY bU (fun _ w=>by cases w)) ?_);refine Xa (z:=.agg #[Vi 0,Vi 0,Vi 0,Vi 0,Z0,Z0]) R R (by kernel_rfl) (fun K cx bu A bh cJ=>?_);replace A:cx.heap[K]? = some (.cells #[Vi 0,Vi 0,Vi 0,Vi 0,Z0,Z0] 47 (0,0)):=A;refine ⟨.inr bh,?_⟩;have B:=B.box q.size bu;obtain ⟨g,i,k,h,m,o,p,f,v,r,t,a,q⟩:=E13 (Cx.b a bh bu A) g i k h m o p f v r t a q;refine Xu 1 [(5,Vl N J O)] ?_;obtain ⟨cy,cd,bH,bi⟩:=Sa [Vi x.1,Vi x.2.1,Vi x.2.2.1,Vi x.2.2.2.1,Vl aq x.2.2.2.2.1 aB,Vl ar x.2.2.2.2.2 aC] TY A R R R;refine Xp cd R ?_;obtain ⟨g,i,k,h,m,o,p,f,v,r,t,a⟩:=E12 (Cx.j a 0 bi) g i k h m o p f v r t a;have q:=q.th bi B 0;have A:=bH;refine Xk (Cs (Xu 1 [(7,Z0)] (Xk (Cs (Xu 1 [(28,Vl N J O)] ?_)))));obtain ⟨bA,ao,w⟩:=Bs w;obtain ⟨aI,Z⟩:=Kc a [] [0,1,2,3];have aH:=M10 N O J 0 0 _ cy _ aI (g.sub Z) ao;refine Xv aH R ?_;rintro a3 cz ⟨rfl,bX⟩;obtain ⟨g,i,k,h,m,o,p,f,v,r,t,A,a,q⟩:=E14 (Cx.e a bX) g i k h m o p f v r t A a q;refine Xu 1 [(8,Vi bA)] (Xk (Cb ?_));obtain ⟨g,i,k,h,m,o,p,f,v,r,t,A,a⟩:=E13 (Cx.n a) g i k h m o p f v r t A a;have B:=B.pn;have bd:=M9.nil (M3 eI (M7)) 75 cz (fl [Bk none,[K],[d],Bk H,F]);obtain ⟨g,i,k,h,m,o,p,f,r,t,bd,a⟩:=E12 (Cx.s a [1,0,2,3,4]) g i k h m o p f r t bd a;have B:=B.px [1,0];obtain ⟨bD,bb,bE⟩:=Bs w;obtain ⟨a1,bb⟩:=Lo bb;refine Cl (Lr hmx (σ:=Nat×(List (Int×Int×Int×Int×Int))×(List (Int×Int×Int×Int×Int))×Int×Option Addr×Nat×Option Addr×Nat) (fun s=>match s with | (_,ae,Q,D,U,ah,I,ad)=>[(0,Vp d 0),(1,Vi ab),(5,Vl N J O),(6,Vp K 0),(7,Vl I Q ad),(8,Vi D)]) (fun s C=>match s with | (cv,ae,Q,D,U,ah,I,ad)=>Mh (V2 J aJ ai aj ag aQ aS ak ab x) cv (ae,Q,D)=some bD∧Ev (fl [[d],Bk H]) E C∧(fun G=>MS C G∧FR E.heap.size [[K],Bk I]∧NP (fl [[d],Bk H]) E.heap.size [[d],Bk U]∧Ma (M3 eI (M3 Mv (M3 eI (M3 eI (M7))))) C (fl G) N O J∧Ma (M3 eI eI) C (fl G) av aD ai∧Ma (M7) C (fl G) aw aE aj∧Ma (M3 eI (M3 eI (M3 eI (M3 eI (M3 (Mi eI) (Mi eI)))))) C (fl G) am an ag∧P5 (Value.int .i64) eI C (fl G) az aQ∧P5 (Value.int .i64) (Mi (M7)) C (fl G) aA aS∧Ma (M3 eI (Mi (M7))) C (fl G) ax aF ak∧M9 (M3 eI (M7)) 52 C (fl G) U ah ae∧C.heap[d]? = some (.cells #[Vl N J O,Vi aJ,Vl av ai aD,Vl aw aj aE,Vl am ag an,.map (some az),.map (some aA),Vl ax ak aF,Vl U ae ah] 95 (0,0))∧Ma eI C (fl G) aq aB x.2.2.2.2.1∧Ma eI C (fl G) ar aC x.2.2.2.2.2∧C.heap[K]? = some (.cells #[Vi x.1,Vi x.2.1,Vi x.2.2.1,Vi x.2.2.2.1,Vl aq x.2.2.2.2.1 aB,Vl ar x.2.2.2.2.2 aC] 47 (0,0))∧M9 (M3 eI (M7)) 75 C (fl G) I ad Q) [[K],Bk I,[d],Bk U,F]) (fun s=>s.1) (a1,a5,([]:List (Int×Int×Int×Int×Int)),bA,H,a9,none,0) ⟨R,R,R,R,R,R,T0⟩ ⟨bb,q,a,B,Y,g,i,k,h,m,o,p,f,v,r,t,A,bd⟩ ?_);rintro ⟨a1,ae,Q,D,U,ah,I,ad⟩ aX c4 ⟨a0,q,a,B,Y,g,i,k,h,m,o,p,f,v,r,t,A,y⟩;rcases a1 with _ | a1
 · exact (Lz a0).elim
 obtain ⟨cw,w,a0⟩:=Bs a0;refine Cb (Cs (Xu 2 [(30,Vl N J O),(31,Vi D)] ?_));obtain ⟨c,ct,w⟩:=Bs w;refine Zf [Vi c.1,Vs c.2.1,Vi c.2.2.1,Vi c.2.2.2.1,Vi c.2.2.2.2.1,Vi c.2.2.2.2.2.1,Vi c.2.2.2.2.2.2.1,Vi c.2.2.2.2.2.2.2] (g.el My) Pb ct R (fun _=>R) (fun _=>Xj #[Vi 0,Vs ([]:List UInt8),Vi 0,Vi 0,Vi 0,Vi 0,Vi 0,Vi 0] R (fun ac cK bv af bY=>?_));have B:=B.box q.size bv;obtain ⟨v,g,i,k,h,m,o,p,f,A,r,t,y,a,q⟩:=E15 (Cx.b a bY bv af) v g i k h m o p f A r t y a q;obtain ⟨cL,ce,bJ,bj⟩:=Sa [Vi c.1,Vs c.2.1,Vi c.2.2.1,Vi c.2.2.2.1,Vi c.2.2.2.2.1,Vi c.2.2.2.2.2.1,Vi c.2.2.2.2.2.2.1,Vi c.2.2.2.2.2.2.2] Pb af R R R;refine Xp ce R ?_;obtain ⟨v,g,i,k,h,m,o,p,f,A,r,t,y,a⟩:=E14 (Cx.j a 0 bj) v g i k h m o p f A r t y a;have q:=q.th bj B 0;have af:=bJ;refine Xk (Cn [(0,Vp d 0),(1,Vi ab),(5,Vl N J O),(6,Vp K 0),(7,Vl I Q ad),(8,Vi D),(9,Vp ac 0)] (fun aX=>?_));refine Cs (Xu 1 [(34,Vi D)] (Yg ac 0 4 (Vi c.2.2.2.2.1) R R (Rf TF _) M5 af nn R (Yg ac 0 5 (Vi c.2.2.2.2.2.1) R R (Rf Wf _) M5 af nn R (Yg ac 0 6 (Vi c.2.2.2.2.2.2.1) R R (Rf Vf _) M5 af nn R (Yg ac 0 7 (Vi c.2.2.2.2.2.2.2) R R (Rf TE _) M5 af nn R ?_)))));refine Xg (.agg #[Vi D,Vi c.2.2.2.2.1,Vi c.2.2.2.2.2.1,Vi c.2.2.2.2.2.2.1,Vi c.2.2.2.2.2.2.2]) R (Xj #[Vi 0,Vi 0,Vi 0,Vi 0,Vi 0] R (fun aa cN bw L bZ=>?_));have B:=B.box q.size bw;obtain ⟨v,g,i,k,h,m,o,p,f,A,r,t,y,af,a,q⟩:=E16 (Cx.b a bZ bw L) v g i k h m o p f A r t y af a q;obtain ⟨cA,cf,bK,bk⟩:=Sa [Vi D,Vi c.2.2.2.2.1,Vi c.2.2.2.2.2.1,Vi c.2.2.2.2.2.2.1,Vi c.2.2.2.2.2.2.2] R3 L R R R;refine Xp cf R ?_;obtain ⟨v,g,i,k,h,m,o,p,f,A,r,t,y,af,a⟩:=E15 (Cx.j a 0 bk) v g i k h m o p f A r t y af a;have q:=q.th bk B 0;have L:=bK;refine Xk (Cs (Xu 1 [(11,Vi 0)] (Xk (Pg (σ:=(List (Int×Int×Int×Int×Int))×Int×Option Addr×Nat) (fun s=>match s with | (aO,aK,aG,aY)=>[(0,Vp d 0),(1,Vi ab),(5,Vl N J O),(6,Vp K 0),(7,Vl I Q ad),(8,Vi D),(10,Vp aa 0),(11,Vi aK)]) (fun s C=>match s with | (aO,aK,aG,aY)=>MU J Q D c aO aK=some cw∧Ev (fl [[d],Bk H]) E C∧(fun G=>MS C G∧FR E.heap.size [[K],Bk I,[aa]]∧NP (fl [[d],Bk H]) E.heap.size [[d],Bk aG]∧Ma (M3 eI (M3 Mv (M3 eI (M3 eI (M7))))) C (fl G) N O J∧Ma (M3 eI eI) C (fl G) av aD ai∧Ma (M7) C (fl G) aw aE aj∧Ma (M3 eI (M3 eI (M3 eI (M3 eI (M3 (Mi eI) (Mi eI)))))) C (fl G) am an ag∧P5 (Value.int .i64) eI C (fl G) az aQ∧P5 (Value.int .i64) (Mi (M7)) C (fl G) aA aS∧Ma (M3 eI (Mi (M7))) C (fl G) ax aF ak∧M9 (M3 eI (M7)) 52 C (fl G) aG aY aO∧C.heap[d]? = some (.cells #[Vl N J O,Vi aJ,Vl av ai aD,Vl aw aj aE,Vl am ag an,.map (some az),.map (some aA),Vl ax ak aF,Vl aG aO aY] 95 (0,0))∧Ma eI C (fl G) aq aB x.2.2.2.2.1∧Ma eI C (fl G) ar aC x.2.2.2.2.2∧C.heap[K]? = some (.cells #[Vi x.1,Vi x.2.1,Vi x.2.2.1,Vi x.2.2.2.1,Vl aq x.2.2.2.2.1 aB,Vl ar x.2.2.2.2.2 aC] 47 (0,0))∧M9 (M3 eI (M7)) 75 C (fl G) I ad Q∧C.heap[aa]? = some (.cells #[Vi D,Vi c.2.2.2.2.1,Vi c.2.2.2.2.2.1,Vi c.2.2.2.2.2.2.1,Vi c.2.2.2.2.2.2.2] 75 (0,0))) [[K],Bk I,[aa],[d],Bk aG,F]) ?_ ?_))))
 · refine Cs (Yg ac 0 0 (Vi c.1) R R (Rf MC _) M5 af nn R (Xk (Cb (Cs (Xu 2 [(47,.bool (c.1==4)),(46,.bool (c.1==4))] (Xk (Ci _ R w (fun w=>?_) (fun w=>?_))))))))
   · refine Cs (Yg K 0 1 (Vi x.2.1) R R (Rf TI _) M5 A nn R (Yf (Vp aa 0) (Vp aa 1) R (Rf Pj _) ?_));obtain ⟨cO,cg,bL,bl⟩:=Sx 1 (Vi x.2.1) M5 L;refine Xp cg R ?_;obtain ⟨v,f,y,a⟩:=E4 (Cx.j a 0 bl) v f y a;have q:=q.th bl B 0;have L:=bL;refine Xk (Cs (Xu 1 [(51,Vl I Q ad)] (Yl _ _ R (Ra 0 [Vi D,Vi x.2.1,Vi c.2.2.2.2.2.1,Vi c.2.2.2.2.2.2.1,Vi c.2.2.2.2.2.2.2] R3 L nn R) (Xh #[Vi D,Vi x.2.1,Vi c.2.2.2.2.2.1,Vi c.2.2.2.2.2.2.1,Vi c.2.2.2.2.2.2.2] 75 R (fun cC cQ b9 bN b0=>?_)))));have X:=Cx.e a b0;obtain ⟨v,f,y,a,q⟩:=E5 X v f y a q;have cl:=X.l (e:=(M3 eI (M7))) b9 bN 1 [(D,x.2.1,c.2.2.2.2.2.1,c.2.2.2.2.2.2.1,c.2.2.2.2.2.2.2)];have aZ:=Gl w;have w:=Gr w;obtain ⟨au,a4,cS,ch,bm,br,cG,cp⟩:=Mb M7h 68 y (Mf 3 R) cl aZ;refine Xx R (Rn ch) ?_;have X:=Cx.u a 3 bm br;obtain ⟨v,f,a⟩:=E3 X v f a;have bc:=B.ux 3 q br;have q:=q.th bm B 3;have B:=bc;have y:=cp _ X.st.new;refine Xu 1 [(4,Vl au ((Q++([(D,x.2.1,c.2.2.2.2.2.1,c.2.2.2.2.2.2.1,c.2.2.2.2.2.2.2)]:List (Int×Int×Int×Int×Int)))) a4)] (Xk (Cn [(4,Vl au ((Q++([(D,x.2.1,c.2.2.2.2.2.1,c.2.2.2.2.2.2.1,c.2.2.2.2.2.2.2)]:List (Int×Int×Int×Int×Int)))) a4)] (fun aX=>?_)));refine Cr (Kb (Kr (Kb ?_)));obtain rfl:=Sj w;have cu:=Sj a0;subst cu;have w:=bE;refine Kr (Kb (Rz (Vl au ((Q++([(D,x.2.1,c.2.2.2.2.2.1,c.2.2.2.2.2.2.1,c.2.2.2.2.2.2.2)]:List (Int×Int×Int×Int×Int)))) a4) R ?_));obtain rfl:=Sj w;have b6:=a.pk [3,4,5,6] [Bk au,[d],Bk U,F] R;have bx:=Pk (ls:=[[aa],[ac],[K],Bk au,[d],Bk U,F]) [3,4,5,6] [Bk au,[d],Bk U,F] R;have b5:=B.pk [3] [Bk au] R;exact ⟨au,a4,U,ah,R,q,v,f.sub bx,b6,b5,(NP.cons (Y.at 0 R) (NP.cons (Y.at 1 R) (NP.nil _ _))),y.sub bx⟩
   refine Cs (Xu 2 [(56,.bool (c.1==3)),(55,.bool (c.1==3))] (Xk (Ci _ R w (fun w=>?_) (fun w=>?_))))
   · refine Cs (Xu 1 [(11,Vi 1)] (Xk (Cs (Xu 1 [(58,Vl I Q ad)] (Yl _ _ R (Ra 0 [Vi x.1,Vi x.2.1,Vi x.2.2.1,Vi x.2.2.2.1,Vl aq x.2.2.2.2.1 aB,Vl ar x.2.2.2.2.2 aC] TY A nn R) ?_)))));obtain ⟨S,ao,w⟩:=Bs w;obtain ⟨aI,Z⟩:=Kc a [] [0,1,2,4,5,6];have aH:=M4z I ad Q x.1 x.2.1 x.2.2.1 x.2.2.2.1 aq aB x.2.2.2.2.1 ar aC x.2.2.2.2.2 _ cA _ aI (y.ro Z (Ko a 3 [0,1,2,4,5,6])) (r.sub Z) (t.sub Z) ao;refine Xv aH R ?_;rintro a3 bz ⟨rfl,b1⟩;obtain ⟨v,g,i,k,h,m,o,p,f,A,r,t,y,L,a,q⟩:=E16 (Cx.e a b1) v g i k h m o p f A r t y L a q;refine Xu 5 [(57,.tuple #[Vi S.1,.bool S.2]),(61,Vi S.1),(62,.bool S.2),(12,Vi S.1),(13,.bool S.2)] (Xk (Cn [(0,Vp d 0),(1,Vi ab),(5,Vl N J O),(6,Vp K 0),(7,Vl I Q ad),(8,Vi D),(10,Vp aa 0),(11,Vi 1),(12,Vi S.1),(13,.bool S.2)] (fun aX=>?_)));refine Cs (Xu 1 [(63,.bool S.2)] (Xk (Ci S.2 R w (fun w=>?_) (fun w=>?_))))
     · refine Cs (Xu 1 [(14,.bool false)] (Xk (Cs (Xu 3 [(65,Vp d 0),(66,Vi D),(67,Vi S.1)] ?_))));obtain ⟨al,ao,w⟩:=Bs w;have aI:MS bz ([[d]]++[[aa],[ac],[K],Bk I,F]):=a.pk [4,0,1,2,3,6] _ R;have co:∀ aU∈fl ([[d]]++[[aa],[ac],[K],Bk I,F]),aU∈fl [[aa],[ac],[K],Bk I,[d],Bk U,F]:=Pk [4,0,1,2,3,6] _ R;have Z:∀ aU∈fl ([[d]]++[(fl [[aa],[ac],[K],Bk I,F])]),aU∈fl [[aa],[ac],[K],Bk I,[d],Bk U,F]:=fun aU ao=>co aU (Fu aU ao)
       have aH:=M1J d N O J aJ av aD ai aw aE aj am an ag az aQ aA aS ax aF ak U ah ae D S.1 _ bz (fl [[aa],[ac],[K],Bk I,F]) (aI.fold (P:=[[d]])) (g.sub Z) (i.sub Z) (k.sub Z) (h.sub Z) (m.sub Z) (o.sub Z) (p.sub Z) (f.ro Z (fun b ba bI=>Mq a 5 R [some 4,some 0,some 1,some 2,some 3,some 6] ([[d]]++[[aa],[ac],[K],Bk I,F]) R R b ba (Fu b bI))) v ao;refine Xv aH R ?_;rintro a3 cU ⟨rfl,bn,b7⟩;obtain ⟨g,i,k,h,m,o,p,f,A,r,t,y,L,a⟩:=E14 (Cx.c0 a [4] bn) g i k h m o p f A r t y L a;have bF:∀ b∈fl [[d]],b∈(fl [[d],Bk H])∨E.heap.size≤b:=NP.mem (ls:=[[d]]) (Y.pk [0] _ R);have q:=q.then bn bF;have v:=b7;refine Xu 5 [(64,.tuple #[Vi al.1,.bool al.2]),(69,Vi al.1),(70,.bool al.2),(11,Vi al.1),(14,.bool al.2)] (Xk (Cs (Xu 1 [(71,.bool al.2)] (Xk (Ci al.2 R w (fun w=>?_) (fun w=>?_))))))
       · refine Cp (Xu 3 [(72,Vp d 0),(73,Vp d 0),(74,Vp d 0)] (Yg d 0 8 (Vl U ae ah) R R (Rf Vm _) Wu v nn R (Xu 3 [(77,Vi ab),(78,Vi D),(79,Vi S.1)] (Xg (.agg #[Vi 2,Vi ab,Vi (-1),Vi D,Vi S.1]) R (Xh #[Vi 2,Vi ab,Vi (-1),Vi D,Vi S.1] 52 R (fun cD cX ca bO b2=>?_))))));have X:=Cx.e a b2;obtain ⟨v,g,i,k,h,m,o,p,f,A,r,t,y,L,a,q⟩:=E16 X v g i k h m o p f A r t y L a q;have cm:=X.l (e:=(M3 eI (M7))) ca bO 1 [(2,ab,(-1),D,S.1)];have aZ:=Gl w;have w:=Gr w;obtain ⟨a6,bg,cY,ci,bo,bs,cH,cq⟩:=Mb M7n 37 f (Mf 5 R) cm aZ;refine Xx R (Rn ci) ?_;have X:=Cx.u a 5 bo bs;obtain ⟨v,g,i,k,h,m,o,p,A,r,t,y,L,a⟩:=E14 X v g i k h m o p A r t y L a;have b8:NP (fl [[d],Bk H]) E.heap.size [[d],Bk a6]:=(NP.cons (Y.at 0 R) (NP.cons (fun b ba=>(bs b ba).1.elim (fun w=>Y.at 1 R b w) (fun w=>.inr (Nat.le_trans q.size w))) (NP.nil _ _)))
         have q:=q.then bo (Y.at 1 R);have Y:=b8;have f:=cq _ X.st.new;refine Xu 1 [(83,Vp d 0)] (Yf (Vp d 0) (Vp d 8) R (Rf Vm _) ?_);obtain ⟨cZ,cj,bQ,bp⟩:=Sx 8 (Vl a6 ((ae++([(2,ab,(-1),D,S.1)]:List (Int×Int×Int×Int×Int)))) bg) Wu v;refine Xp cj R ?_;obtain ⟨g,i,k,h,m,o,p,f,A,r,t,y,L,a⟩:=E14 (Cx.j a 4 bp) g i k h m o p f A r t y L a;have q:=q.then bp (Y.at 0 R);have v:=bQ;refine Xe R (Kl ?_);obtain ⟨g,i,k,h,m,o,p,f,r,t,y,a⟩:=E12 (Cx.s a [2,3,0,4,5,6]) g i k h m o p f r t y a;have B:=B.px [2,3,0];exact Kt ⟨((ae++([(2,ab,(-1),D,S.1)]:List (Int×Int×Int×Int×Int))),al.1,a6,bg),⟨R,R,R,R,R,R,R,R,T0⟩,w,q,a,B,Y,g,i,k,h,m,o,p,f,v,r,t,A,y,L⟩
       refine Ck (Kl ?_);obtain ⟨g,i,k,h,m,o,p,f,r,t,y,a⟩:=E12 (Cx.s a [2,3,0,4,5,6]) g i k h m o p f r t y a;have B:=B.px [2,3,0];exact Kt ⟨(ae,al.1,U,ah),⟨R,R,R,R,R,R,R,R,T0⟩,w,q,a,B,Y,g,i,k,h,m,o,p,f,v,r,t,A,y,L⟩
     refine Ck (Kl ?_);obtain ⟨g,i,k,h,m,o,p,f,r,t,y,a⟩:=E12 (Cx.s a [2,3,0,4,5,6]) g i k h m o p f r t y a;have B:=B.px [2,3,0];exact Kt ⟨(ae,1,U,ah),⟨R,R,R,R,R,R,R,R,T0⟩,w,q,a,B,Y,g,i,k,h,m,o,p,f,v,r,t,A,y,L⟩
   refine Ck (Kl ?_);obtain ⟨g,i,k,h,m,o,p,f,r,t,y,a⟩:=E12 (Cx.s a [2,3,0,4,5,6]) g i k h m o p f r t y a;have B:=B.px [2,3,0];exact Kt ⟨(ae,0,U,ah),⟨R,R,R,R,R,R,R,R,T0⟩,w,q,a,B,Y,g,i,k,h,m,o,p,f,v,r,t,A,y,L⟩
 rintro ⟨aO,aK,aG,aY⟩ aX c3 ⟨w,q,a,B,Y,g,i,k,h,m,o,p,f,v,r,t,A,y,L⟩;refine Cs (Xu 1 [(85,Vl I Q ad)] (Yl _ _ R (Ra 0 [Vi D,Vi c.2.2.2.2.1,Vi c.2.2.2.2.2.1,Vi c.2.2.2.2.2.2.1,Vi c.2.2.2.2.2.2.2] R3 L nn R) (Xh #[Vi D,Vi c.2.2.2.2.1,Vi c.2.2.2.2.2.1,Vi c.2.2.2.2.2.2.1,Vi c.2.2.2.2.2.2.2] 75 R (fun cE c1 cb bS b3=>?_))));have X:=Cx.e a b3;obtain ⟨v,g,i,k,h,m,o,p,f,A,r,t,y,a,q⟩:=E15 X v g i k h m o p f A r t y a q;have cn:=X.l (e:=(M3 eI (M7))) cb bS 1 [(D,c.2.2.2.2.1,c.2.2.2.2.2.1,c.2.2.2.2.2.2.1,c.2.2.2.2.2.2.2)];have aZ:=Gl w;have w:=Gr w;obtain ⟨a7,a8,cB,ck,bq,bt,cI,cr⟩:=Mb M7h 68 y (Mf 1 R) cn aZ;refine Xx R (Rn ck) ?_;have X:=Cx.u a 1 bq bt;obtain ⟨v,g,i,k,h,m,o,p,f,A,r,t,a⟩:=E13 X v g i k h m o p f A r t a;have bc:=B.ux 1 q bt;have q:=q.th bq B 1;have B:=bc;have y:=cr _ X.st.new;refine Xu 1 [(7,Vl a7 ((Q++([(D,c.2.2.2.2.1,c.2.2.2.2.2.1,c.2.2.2.2.2.2.1,c.2.2.2.2.2.2.2)]:List (Int×Int×Int×Int×Int)))) a8)] (Xk (Cn [(0,Vp d 0),(1,Vi ab),(5,Vl N J O),(6,Vp K 0),(7,Vl a7 ((Q++([(D,c.2.2.2.2.1,c.2.2.2.2.2.1,c.2.2.2.2.2.2.1,c.2.2.2.2.2.2.2)]:List (Int×Int×Int×Int×Int)))) a8),(8,Vi D),(11,Vi aK)] (fun aX=>?_)));refine Cp (Xu 3 [(89,Vl N J O),(90,Vi D),(91,Vi aK)] ?_);obtain ⟨bB,ao,w⟩:=Bs w;obtain ⟨aI,Z⟩:=Kc a [] [0,1,2,3,4,5];have aH:=M10 N O J D aK _ cB _ aI (g.sub Z) ao;refine Xv aH R ?_;rintro a3 c2 ⟨rfl,b4⟩;obtain ⟨v,g,i,k,h,m,o,p,f,A,r,t,y,a,q⟩:=E15 (Cx.e a b4) v g i k h m o p f A r t y a q;refine Xu 1 [(8,Vi bB)] (Xe R (Kl ?_));obtain rfl:=Sj w;obtain ⟨g,i,k,h,m,o,p,f,r,t,y,a⟩:=E12 (Cx.s a [0,1,3,4,5]) g i k h m o p f r t y a;have B:=B.px [0,1];exact Kt ⟨(a1,aO,(Q++([(D,c.2.2.2.2.1,c.2.2.2.2.2.1,c.2.2.2.2.2.2.1,c.2.2.2.2.2.2.2)]:List (Int×Int×Int×Int×Int))),bB,aG,aY,a7,a8),⟨R,R,R,R,R,R,T0⟩,⟨a0,q,a,B,Y,g,i,k,h,m,o,p,f,v,r,t,A,y⟩,Ns _⟩
def Rq (c:Int×Int×Int×Int×(List Int)×(List Int)) (f:(List (Int×Int×Int×Int))×Int) (e:(List (Int×Int×Int×Int))×Int):Option (Mm ((List (Int×Int×Int×Int))×Int) (List (Int×Int×Int×Int))):=
match e with
| (d,b)=>
(if (decide (b<((f.1).length:Int)))=true then
((idx d b).bind fun a=>
(if (a.2.2.2==1000000000)=true then
some (.next (((d.set (Int.toNat b) (a.1,a.2.1,M4 (a.2.2.1+c.1),a.2.2.2)).set (Int.toNat b) (a.1,a.2.1,M4 (a.2.2.1+c.1),2000000000)),M4 (b+1)))
else
some (.next (((d.set (Int.toNat b) (a.1,a.2.1,M4 (a.2.2.1+c.1),a.2.2.2)).set (Int.toNat b) (a.1,a.2.1,M4 (a.2.2.1+c.1),M4 (a.2.2.2+c.1))),M4 (b+1)))))
else
some (.done d))
def Pd (g:List (Int×(List UInt8)×Int×Int×Int×Int×Int×Int)) (a:Int×Int×Int×Int×(List Int)×(List Int)) (b:(List (Int×Int×Int×Int×Int))×(List (Int×Int×Int×Int×Int))) (h:(List (Int×Int))×Int) (f:Int):Option ((Int×(List (Int×Int×Int×Int)))×(List (Int×Int×Int×Int×Int))):=
((TT g b.1 h.1 a.2.1).bind fun c=>
((loop (Rq a c) (c.1,0)).bind fun d=>match d with
| e=>some ((f,e),b.2)))
def VA (d:List (Int×(List UInt8)×Int×Int×Int×Int×Int×Int)) (g:Int) (h:List (Int×Int)) (i:List (Int×Int×Int×Int)) (e:List (Int×Int×Int×Int×(List Int)×(List Int))) (j:List (Int×Int)) (k:List (Int×(List (Int×Int×Int×Int)))) (l:List (Int×(List (Int×Int×Int×Int)))) (m:List (Int×Int×Int×Int×Int)) (f:Int):Option ((Int×(List (Int×Int×Int×Int)))×(List (Int×Int×Int×Int×Int))):=
((idx e f).bind fun a=>
((Vz d g h i e j k l m f).bind fun b=>
((Zr b.1 a.1 a.2.1 a.2.2.1 a.2.2.2.1 a.2.2.2.2.1 a.2.2.2.2.2).bind fun c=>
(if (decide (c.2<0))=true then
((idx b.1 (M4 (((b.1).length:Int)-1))).bind fun n=>
Pd d a b c n.1)
else
(if (c.2==(M4 (((b.1).length:Int)-1)))=true then
((idx b.1 (M4 (((b.1).length:Int)-1))).bind fun o=>
Pd d a b c o.1)
else
Pd d a b c (-1))))))
theorem M1L (g ak al ag aZ az aH ar aA aI au an ao am aC a8 aD a9 aB aJ av E bf bd ba aN H F)(d:MS H [[g],Bk E,F])(m:Ma (M3 eI (M3 Mv (M3 eI (M3 eI (M7))))) H (fl [[g],Bk E,F]) ak al ag)(p:Ma (M3 eI eI) H (fl [[g],Bk E,F]) az aH ar)(q:Ma (M7) H (fl [[g],Bk E,F]) aA aI au)(o:Ma (M3 eI (M3 eI (M3 eI (M3 eI (M3 (Mi eI) (Mi eI)))))) H (fl [[g],Bk E,F]) an ao am)(r:P5 (Value.int .i64) eI H (fl [[g],Bk E,F]) aC a8)(t:P5 (Value.int .i64) (Mi (M7)) H (fl [[g],Bk E,F]) aD a9)(u:Ma (M3 eI (Mi (M7))) H (fl [[g],Bk E,F]) aB aJ av)(l:M9 (M3 eI (M7)) 52 H (fl [[g],Bk E,F]) E bf bd)(x:H.heap[g]? = some (.cells #[Vl ak ag al,Vi aZ,Vl az ar aH,Vl aA au aI,Vl an am ao,.map (some aC),.map (some aD),Vl aB av aJ,Vl E bd bf] 95 (0,0)))(i:VA ag aZ ar au am a8 a9 av bd ba=some aN):Md Tryz.prog 25 [Vp g 0,Vi ba] H fun be B=>∃ aQ bm aS bn,be=.agg #[Vi aN.1.1,Vl aQ aN.1.2 bm]∧Ev (fl [[g],Bk E]) H B∧B.heap[g]? = some (.cells #[Vl ak ag al,Vi aZ,Vl az ar aH,Vl aA au aI,Vl an am ao,.map (some aC),.map (some aD),Vl aB av aJ,Vl aS aN.2 bn] 95 (0,0))∧M9 (M3 eI (M7)) 52 B (fl [Bk aQ,[g],Bk aS,F]) aS bn aN.2∧MS B [Bk aQ,[g],Bk aS,F]∧FR H.heap.size [Bk aQ]∧NP (fl [[g],Bk E]) H.heap.size [[g],Bk aS]∧M9 (M7) 49 B (fl [Bk aQ,[g],Bk aS,F]) aQ bm aN.1.2:=by
 refine Cw hmx Tryz.func25 R R R ?_;have k:=Ev.refl (fl [[g],Bk E]) H;have C:=FR.nil H.heap.size;have af:NP (fl [[g],Bk E]) H.heap.size [[g],Bk E]:=NP.init _ _;refine Cs (Xj #[Vi 0,Z0] R (fun Q c2 bE z b9=>?_));have C:=C.box k.size bE;obtain ⟨m,p,q,o,r,t,u,l,x,d,k⟩:=E11 (Cx.b d b9 bE z) m p q o r t u l x d k;refine Xk (Cs (Xu 2 [(13,Vp g 0),(14,Vp g 0)] (Yf (Vp g 0) (Vp g 0) R (Rf Wi _) (Yg g 0 4 (Vl an am ao) R R (Rf MK _) MQ x nn R (Xu 1 [(18,Vi ba)] ?_)))));obtain ⟨f,cE,i⟩:=Bs i;obtain ⟨bQ,cL,co,b3,aa⟩:=Ri (Mo:=[]) TK o cE;obtain ⟨_,_,rfl,rfl,⟨_,_,rfl,rfl,⟨_,_,rfl,rfl,⟨_,_,rfl,rfl,⟨_,_,rfl,⟨ax,aF,rfl,v⟩,⟨ay,aG,rfl,w⟩⟩⟩⟩⟩⟩:=aa;refine Yi _ _ _ R co (Yl (.pointer (some bQ)) (.agg #[Vi f.1,Vi f.2.1,Vi f.2.2.1,Vi f.2.2.2.1,Vl ax f.2.2.2.2.1 aF,Vl ay f.2.2.2.2.2 aG]) R (R8 TY b3 (fun _ i=>by cases i)) ?_);refine Xj #[Vi 0,Vi 0,Vi 0,Vi 0,Z0,Z0] R (fun L c3 bF A ca=>?_);have C:=C.box k.size bF;obtain ⟨m,p,q,o,r,t,u,l,x,z,v,w,d,k⟩:=E14 (Cx.b d ca bF A) m p q o r t u l x z v w d k;obtain ⟨bL,cp,bX,bq⟩:=Sa [Vi f.1,Vi f.2.1,Vi f.2.2.1,Vi f.2.2.2.1,Vl ax f.2.2.2.2.1 aF,Vl ay f.2.2.2.2.2 aG] TY A R R R;refine Xp cp R ?_;obtain ⟨m,p,q,o,r,t,u,l,x,z,v,w,d⟩:=E13 (Cx.j d 0 bq) m p q o r t u l x z v w d;have k:=k.th bq C 0;have A:=bX;refine Xk (Cs (Xu 2 [(21,Vp g 0),(22,Vi ba)] ?_));obtain ⟨K,aL,i⟩:=Bs i;obtain ⟨a6,ad⟩:=Kc d [2,3] [0,1,4];have a3:=M1K g ak al ag aZ az aH ar aA aI au an ao am aC a8 aD a9 aB aJ av E bf bd ba _ bL _ a6 (m.sub ad) (p.sub ad) (q.sub ad) (o.sub ad) (r.sub ad) (t.sub ad) (u.sub ad) (l.sub ad) x aL;refine Xv a3 R ?_;rintro be bN ⟨Y,ai,Z,a1,rfl,a4,cl,cm,ce,bi,bb,G⟩;have bj:MS bL ([[g],Bk E]++[[L],[Q],F]):=d.pk [2,3,0,1,4] _ R;have bH:∀ a0∈fl ([[g],Bk E]++[[L],[Q],F]),a0∈fl [[L],[Q],[g],Bk E,F]:=Pk [2,3,0,1,4] _ R;have cD:=Ro.call (LS:=[[L],[Q],[g],Bk E,F]) (res:=[Bk Y]) (par:=[[g],Bk Z]) (R:=[[L],[Q],F]) a4 (fun b a2=>bH b (M2R (P:=[[g],Bk E]) b a2)) bi bb (fun a0 aL=>bH a0 (M1A (P:=[[g],Bk E]) a0 aL));have cC:∀ a0∈fl [Bk Y,[L],[Q],[g],Bk Z,F],a0∈fl ([Bk Y]++([[g],Bk Z]++[[L],[Q],F])):=Pk [0,3,4,1,2,5] _ R;have aq:=cD.res cC;have m:=m.step aq;have p:=p.step aq;have q:=q.step aq;have o:=o.step aq;have r:=r.step aq;have t:=t.step aq;have u:=u.step aq;have z:=a4.box z ((MS.outs (P:=[[g],Bk E]) bj 1 R) _ PI);have v:=v.step aq;have w:=w.step aq;have A:=a4.box A ((MS.outs (P:=[[g],Bk E]) bj 0 R) _ PI);replace d:MS bN [Bk Y,[L],[Q],[g],Bk Z,F]:=(MS.call (P:=[[g],Bk E]) (R:=[[L],[Q],F]) (res:=[Bk Y]) (par:=[[g],Bk Z]) bj a4 ce bi bb).pick [some 0,some 3,some 4,some 1,some 2,some 5] _ R;have bg:∀ b∈fl [[g],Bk E],b∈(fl [[g],Bk E])∨H.heap.size≤b:=NP.mem (ls:=[[g],Bk E]) (af.pk [0,1] _ R);have a5:=C.cc k bi;have cn:NP (fl [[g],Bk E]) H.heap.size [[g],Bk Z]:=(NP.cons (fun b a2=>(bb.at 0 R b a2).elim (fun i=>bg b i) (fun i=>.inr (Nat.le_trans k.size i))) (NP.cons (fun b a2=>(bb.at 1 R b a2).elim (fun i=>bg b i) (fun i=>.inr (Nat.le_trans k.size i))) (NP.nil _ _)))
 have k:=k.then a4 bg;have C:=a5;have af:=cn;have x:=cl;have l:=M9.plain (M':=fl [Bk Y,[L],[Q],[g],Bk Z,F]) (Pp (Pi _) (Pp (Pi _) (Pp (Pi _) (Pp (Pi _) (Pi _))))) cm;have G:=G.pl d;refine Xu 1 [(6,Vl Y K.1 ai)] (Xk (Cs (Xu 1 [(25,Vl Y K.1 ai)] (Yl _ _ R (Ra 0 [Vi f.1,Vi f.2.1,Vi f.2.2.1,Vi f.2.2.2.1,Vl ax f.2.2.2.2.1 aF,Vl ay f.2.2.2.2.2 aG] TY A nn R) ?_))));obtain ⟨ab,aL,i⟩:=Bs i;obtain ⟨a6,ad⟩:=Kc d [] [1,2,3,4,5];have a3:=M35 Y ai K.1 f.1 f.2.1 f.2.2.1 f.2.2.2.1 ax aF f.2.2.2.2.1 ay aG f.2.2.2.2.2 _ bN _ a6 (G.ro ad (Ko d 0 [1,2,3,4,5])) (v.sub ad) (w.sub ad) aL;refine Xv a3 R ?_;rintro be c4 ⟨aj,aE,rfl,br,cf,bC,S⟩;obtain ⟨m,p,q,o,r,t,u,l,x,z,v,w,A,G,d⟩:=E15 (Cx.c d [] br cf bC) m p q o r t u l x z v w A G d;have a5:=C.cc k bC;have k:=k.ext br;have C:=a5;have S:=S.pl d;refine Xu 5 [(24,.tuple #[Vl aj ab.1 aE,Vi ab.2]),(28,Vl aj ab.1 aE),(29,Vi ab.2),(7,Vl aj ab.1 aE),(8,Vi ab.2)] (Xk (Cn [(0,Vp g 0),(4,Vp Q 0),(5,Vp L 0),(6,Vl Y K.1 ai),(7,Vl aj ab.1 aE),(8,Vi ab.2)] (fun aO=>?_)));refine Cs (Xu 1 [(30,Vl Y K.1 ai)] (Xz MF R (Xu 2 [(32,Vi (M4 (((K.1).length:Int)-1))),(9,Vi (M4 (((K.1).length:Int)-1)))] (Xk (Cs (Xg (.agg #[Vi (-1),Z0]) R (Xj #[Vi 0,Z0] R (fun U c5 bG D cb=>?_))))))));have C:=C.box k.size bG;obtain ⟨m,p,q,o,r,t,u,l,x,z,v,w,A,G,S,d,k⟩:=E17 (Cx.b d cb bG D) m p q o r t u l x z v w A G S d k;obtain ⟨c6,cq,bY,bs⟩:=Sa [Vi (-1),Z0] WY D R R R;refine Xp cq R ?_;obtain ⟨m,p,q,o,r,t,u,l,x,z,v,w,A,G,S,d⟩:=E16 (Cx.j d 0 bs) m p q o r t u l x z v w A G S d;have k:=k.th bs C 0;have D:=bY;refine Xk (Pg (σ:=Int) (fun s=>match s with | ap=>[(0,Vp g 0),(4,Vp Q 0),(5,Vp L 0),(6,Vl Y K.1 ai),(7,Vl aj ab.1 aE),(10,Vp U 0)]) (fun s B=>match s with | ap=>Pd ag f K ab ap=some aN∧Ev (fl [[g],Bk E]) H B∧(fun N=>MS B N∧FR H.heap.size [[Q],[L],Bk Y,Bk aj,[U]]∧NP (fl [[g],Bk E]) H.heap.size [[g],Bk Z]∧Ma (M3 eI (M3 Mv (M3 eI (M3 eI (M7))))) B (fl N) ak al ag∧Ma (M3 eI eI) B (fl N) az aH ar∧Ma (M7) B (fl N) aA aI au∧Ma (M3 eI (M3 eI (M3 eI (M3 eI (M3 (Mi eI) (Mi eI)))))) B (fl N) an ao am∧P5 (Value.int .i64) eI B (fl N) aC a8∧P5 (Value.int .i64) (Mi (M7)) B (fl N) aD a9∧Ma (M3 eI (Mi (M7))) B (fl N) aB aJ av∧M9 (M3 eI (M7)) 52 B (fl N) Z a1 K.2∧B.heap[g]? = some (.cells #[Vl ak ag al,Vi aZ,Vl az ar aH,Vl aA au aI,Vl an am ao,.map (some aC),.map (some aD),Vl aB av aJ,Vl Z K.2 a1] 95 (0,0))∧B.heap[Q]? = some (.cells #[Vi 0,Z0] 45 (0,0))∧Ma eI B (fl N) ax aF f.2.2.2.2.1∧Ma eI B (fl N) ay aG f.2.2.2.2.2∧B.heap[L]? = some (.cells #[Vi f.1,Vi f.2.1,Vi f.2.2.1,Vi f.2.2.2.1,Vl ax f.2.2.2.2.1 aF,Vl ay f.2.2.2.2.2 aG] 47 (0,0))∧M9 (M3 eI (M7)) 75 B (fl N) Y ai K.1∧M9 (M3 eI eI) 211 B (fl N) aj aE ab.1∧B.heap[U]? = some (.cells #[Vi ap,Z0] 45 (0,0))) [[Q],[L],Bk Y,Bk aj,[U],[g],Bk Z,F]) ?_ ?_)
 · refine Cs (Xu 3 [(34,Vi ab.2),(35,Bd (ab.2<0)),(36,Bd (ab.2<0))] (Xw 36 _ R i (fun i=>?_) (fun i=>?_)))
   · refine Xu 4 [(37,U0),(38,U0),(39,U0),(40,.bool true)] (Xk (Me R (Cp (Xu 2 [(41,Vl Y K.1 ai),(42,Vi (M4 (((K.1).length:Int)-1)))] ?_))));obtain ⟨bk,cF,i⟩:=Bs i;obtain ⟨bo,cN,cY,cr,b4,aa⟩:=Oi (Mo:=[]) MF G cF;obtain ⟨_,_,rfl,rfl,⟨_,_,rfl,rfl,⟨_,_,rfl,rfl,⟨_,_,rfl,rfl,rfl⟩⟩⟩⟩:=aa;refine Yi _ _ _ R cr (Yf ((Px bo ((Int.toNat (M4 (((K.1).length:Int)-1)))*(M3 eI (M7)).n))) ((Px bo ((Int.toNat (M4 (((K.1).length:Int)-1)))*(M3 eI (M7)).n))) R (Rf Pm _) (Yl _ (Vi bk.1) R (Rc M5 b4 (fun _ i=>by cases i)) ?_));refine Yf (Vp U 0) (Vp U 0) R (Rf M0W _) ?_;obtain ⟨c7,ct,bZ,bt⟩:=Sx 0 (Vi bk.1) M5 D;refine Xp ct R ?_;obtain ⟨m,p,q,o,r,t,u,l,x,z,v,w,A,G,S,d⟩:=E16 (Cx.j d 0 bt) m p q o r t u l x z v w A G S d;have k:=k.th bt C 0;have D:=bZ;refine Xe R ?_;obtain ⟨m,p,q,o,r,t,u,l,v,w,G,S,d⟩:=E13 (Cx.s d [4,3,2,1,0,5,6,7]) m p q o r t u l v w G S d;have C:=C.px [4,3,2,1,0];exact Kt ⟨bk.1,⟨R,R,R,R,R,R,T0⟩,i,k,d,C,af,m,p,q,o,r,t,u,l,x,z,v,w,A,G,S,D⟩
   refine Xu 4 [(37,Vi ab.2),(38,Vi (M4 (((K.1).length:Int)-1))),(39,.bool (ab.2==(M4 (((K.1).length:Int)-1)))),(40,.bool (ab.2==(M4 (((K.1).length:Int)-1))))] (Xk (Ci _ R i (fun i=>?_) (fun i=>?_)))
   · refine Cp (Xu 2 [(41,Vl Y K.1 ai),(42,Vi (M4 (((K.1).length:Int)-1)))] ?_);obtain ⟨bl,cG,i⟩:=Bs i;obtain ⟨bp,cO,cZ,cu,b5,aa⟩:=Oi (Mo:=[]) MF G cG;obtain ⟨_,_,rfl,rfl,⟨_,_,rfl,rfl,⟨_,_,rfl,rfl,⟨_,_,rfl,rfl,rfl⟩⟩⟩⟩:=aa;refine Yi _ _ _ R cu (Yf ((Px bp ((Int.toNat (M4 (((K.1).length:Int)-1)))*(M3 eI (M7)).n))) ((Px bp ((Int.toNat (M4 (((K.1).length:Int)-1)))*(M3 eI (M7)).n))) R (Rf Pm _) (Yl _ (Vi bl.1) R (Rc M5 b5 (fun _ i=>by cases i)) ?_));refine Yf (Vp U 0) (Vp U 0) R (Rf M0W _) ?_;obtain ⟨c8,cv,b0,bu⟩:=Sx 0 (Vi bl.1) M5 D;refine Xp cv R ?_;obtain ⟨m,p,q,o,r,t,u,l,x,z,v,w,A,G,S,d⟩:=E16 (Cx.j d 0 bu) m p q o r t u l x z v w A G S d;have k:=k.th bu C 0;have D:=b0;refine Xe R ?_;obtain ⟨m,p,q,o,r,t,u,l,v,w,G,S,d⟩:=E13 (Cx.s d [4,3,2,1,0,5,6,7]) m p q o r t u l v w G S d;have C:=C.px [4,3,2,1,0];exact Kt ⟨bl.1,⟨R,R,R,R,R,R,T0⟩,i,k,d,C,af,m,p,q,o,r,t,u,l,x,z,v,w,A,G,S,D⟩
   refine Ck ?_;obtain ⟨m,p,q,o,r,t,u,l,v,w,G,S,d⟩:=E13 (Cx.s d [4,3,2,1,0,5,6,7]) m p q o r t u l v w G S d;have C:=C.px [4,3,2,1,0];exact Kt ⟨(-1),⟨R,R,R,R,R,R,T0⟩,i,k,d,C,af,m,p,q,o,r,t,u,l,x,z,v,w,A,G,S,D⟩
 rintro ap aO bO ⟨i,k,d,C,af,m,p,q,o,r,t,u,l,x,z,v,w,A,G,S,D⟩;refine Cq (Cd [] [(0,false),(1,false),(2,false),(3,false),(4,false),(5,false),(6,false),(7,false),(8,false),(9,true),(10,false),(11,false),(12,false),(13,false),(14,true)] _ (by kernel_rfl) R ?_);obtain ⟨x,m,p,q,o,r,t,u,l,z,A,v,w,G,S,D,d,k⟩:=E18 (Cx.e d (Ev.drew bO)) x m p q o r t u l z A v w G S D d k;refine Xu 2 [(48,Vp g 0),(49,Vp g 0)] (Yf (Vp g 0) (Vp g 0) R (Rf Wi _) (Yg g 0 0 (Vl ak ag al) R R (Rf Ru _) TR x nn R (Xu 2 [(53,Vl Y K.1 ai),(54,Vl aj ab.1 aE)] (Yg L 0 1 (Vi f.2.1) R R (Rf TI _) M5 A nn R ?_))));obtain ⟨ae,aL,i⟩:=Bs i;obtain ⟨a6,ad⟩:=Kc d [] [0,1,4,5,6,7];have a3:=M0Y ak al ag Y ai K.1 aj aE ab.1 f.2.1 _ (bO).drew _ a6 (m.sub ad) (G.ro ad (Ko d 2 [0,1,4,5,6,7])) (S.ro ad (Ko d 3 [0,1,4,5,6,7])) aL;refine Xv a3 R ?_;rintro be c9 ⟨O,ac,rfl,bv,cg,bD,J⟩;obtain ⟨x,m,p,q,o,r,t,u,l,z,A,v,w,D,d⟩:=E15 (Cx.c d [] bv cg bD) x m p q o r t u l z A v w D d;have a5:=C.cc k bD;have k:=k.ext bv;have C:=a5;have J:=J.pl d;refine Xu 3 [(47,.tuple #[Vl O ae.1 ac,Vi ae.2]),(58,Vl O ae.1 ac),(59,Vi ae.2)] (Yf (Vp U 0) (Vp U 1) R (Rf Rw _) ?_);obtain ⟨da,cw,b1,bw⟩:=Sx 1 (Vl O ae.1 ac) Pu D;refine Xp cw R ?_;obtain ⟨x,m,p,q,o,r,t,u,l,z,A,v,w,J,d⟩:=E15 (Cx.j d 5 bw) x m p q o r t u l z A v w J d;have k:=k.th bw C 5;have D:=b1;refine Xk (Cn [(4,Vp Q 0),(5,Vp L 0),(10,Vp U 0)] (fun aO=>?_));refine Cq (Cs (Yg U 0 1 (Vl O ae.1 ac) R R (Rf Rw _) Pu D nn R (Xz PL R (Xu 1 [(64,Vi 0)] (Xk (Cb ?_))))));obtain ⟨m,p,q,o,r,t,u,l,v,w,J,d⟩:=E12 (Cx.s d [1,2,0,5,6,7,8]) m p q o r t u l v w J d;have C:=C.px [1,2,0,5];obtain ⟨bS,bh,bU⟩:=Bs i;obtain ⟨aY,bh⟩:=Lo bh;refine Cl (Lr hmx (σ:=Nat×(List (Int×Int×Int×Int))×Int) (fun s=>match s with | (_,X,h)=>[(4,Vp Q 0),(5,Vp L 0),(10,Vp U 0),(63,Vi ((ae.1).length:Int)),(64,Vi h)]) (fun s B=>match s with | (cI,X,h)=>Mh (Rq f ae) cI (X,h)=some bS∧Ev (fl [[g],Bk E]) H B∧(fun N=>MS B N∧FR H.heap.size [[Q],[L],Bk O,[U]]∧NP (fl [[g],Bk E]) H.heap.size [[g],Bk Z]∧Ma (M3 eI (M3 Mv (M3 eI (M3 eI (M7))))) B (fl N) ak al ag∧Ma (M3 eI eI) B (fl N) az aH ar∧Ma (M7) B (fl N) aA aI au∧Ma (M3 eI (M3 eI (M3 eI (M3 eI (M3 (Mi eI) (Mi eI)))))) B (fl N) an ao am∧P5 (Value.int .i64) eI B (fl N) aC a8∧P5 (Value.int .i64) (Mi (M7)) B (fl N) aD a9∧Ma (M3 eI (Mi (M7))) B (fl N) aB aJ av∧M9 (M3 eI (M7)) 52 B (fl N) Z a1 K.2∧B.heap[g]? = some (.cells #[Vl ak ag al,Vi aZ,Vl az ar aH,Vl aA au aI,Vl an am ao,.map (some aC),.map (some aD),Vl aB av aJ,Vl Z K.2 a1] 95 (0,0))∧B.heap[Q]? = some (.cells #[Vi 0,Z0] 45 (0,0))∧Ma eI B (fl N) ax aF f.2.2.2.2.1∧Ma eI B (fl N) ay aG f.2.2.2.2.2∧B.heap[L]? = some (.cells #[Vi f.1,Vi f.2.1,Vi f.2.2.1,Vi f.2.2.2.1,Vl ax f.2.2.2.2.1 aF,Vl ay f.2.2.2.2.2 aG] 47 (0,0))∧M9 (M7) 49 B (fl N) O ac X∧B.heap[U]? = some (.cells #[Vi ap,Vl O X ac] 45 (0,0))) [[Q],[L],Bk O,[U],[g],Bk Z,F]) (fun s=>s.1) (aY,ae.1,0) ⟨R,R,R,R,R,T0⟩ ⟨bh,k,d,C,af,m,p,q,o,r,t,u,l,x,z,v,w,A,J,D⟩ ?_);rintro ⟨aY,X,h⟩ aO cK ⟨aX,k,d,C,af,m,p,q,o,r,t,u,l,x,z,v,w,A,J,D⟩;rcases aY with _ | aY
 · exact (Lz aX).elim
 obtain ⟨c1,i,aX⟩:=Bs aX;refine Cs (Xu 1 [(65,Bd (h<((ae.1).length:Int)))] (Xk (Cn [(4,Vp Q 0),(5,Vp L 0),(10,Vp U 0),(63,Vi ((ae.1).length:Int)),(64,Vi h),(65,Bd (h<((ae.1).length:Int)))] (fun aO=>?_))));refine Cq (Ci _ R i (fun i=>?_) (fun i=>?_))
 · refine Ck (Kt (Cq (Cb (Cs (Xu 2 [(66,Vi h),(11,Vi h)] (Xk (Cs (Yg U 0 1 (Vl O X ac) R R (Rf Rw _) Pu D nn R ?_))))))));refine Xu 1 [(69,Vi h)] ?_;obtain ⟨a,bc,i⟩:=Bs i;obtain ⟨I,cQ,aU,cx,c0,aa⟩:=Oi (Mo:=[]) PL J bc;obtain ⟨_,_,rfl,rfl,⟨_,_,rfl,rfl,⟨_,_,rfl,rfl,rfl⟩⟩⟩:=aa;refine Yi _ _ _ R cx (Xu 1 [(12,(Px I ((Int.toNat h)*(M7).n)))] (Xk (Cq (Cd [] [(0,false),(1,false),(2,false),(3,false),(4,false),(5,false),(6,false),(7,false),(8,false),(9,true)] _ (by kernel_rfl) R ?_))));obtain ⟨x,m,p,q,o,r,t,u,l,z,A,v,w,D,J,d,k⟩:=E17 (Cx.e d (Ev.drew cK)) x m p q o r t u l z A v w D J d k;refine Xu 2 [(71,(Px I ((Int.toNat h)*(M7).n))),(72,(Px I ((Int.toNat h)*(M7).n)))] (Yf ((Px I ((Int.toNat h)*(M7).n))) ((Px I ((Int.toNat h)*(M7).n+2))) R (Rf TG _) ?_);obtain ⟨cS,b6,aa⟩:=ZK aU J bc;obtain ⟨_,_,rfl,rfl,⟨_,_,rfl,rfl,⟨_,_,rfl,rfl,rfl⟩⟩⟩:=aa;refine Yl ((Px I ((Int.toNat h)*(M7).n+2))) (Vi a.2.2.1) R (Mw M5 b6 (fun _ i=>by cases i) 2 _ R) ?_;refine Yg L 0 0 (Vi f.1) R R (Rf T1 _) M5 A nn R (Xu 2 [(77,Vi (M4 (a.2.2.1+f.1))),(78,(Px I ((Int.toNat h)*(M7).n)))] (Yf ((Px I ((Int.toNat h)*(M7).n))) ((Px I ((Int.toNat h)*(M7).n+2))) R (Rf TG _) ?_));have aK:=bc;obtain ⟨cJ,cy,bx,ci⟩:=PH aU (y:=(a.1,a.2.1,M4 (a.2.2.1+f.1),a.2.2.2)) 2 (Vi (M4 (a.2.2.1+f.1))) M5 J (Mf 2 R) bc R R (by intro H F cs aa; obtain ⟨_,_,rfl,rfl,⟨_,_,rfl,rfl,⟨_,_,rfl,rfl,rfl⟩⟩⟩:=aa; exact ⟨[_],_,R,R,⟨[_],_,R,R,⟨[_],_,R,R,R⟩⟩⟩);refine Xp cy R ?_;obtain ⟨x,m,p,q,o,r,t,u,l,z,A,v,w,D,d⟩:=E15 (Cx.j d 2 bx) x m p q o r t u l z A v w D d;have k:=k.th bx C 2;have J:=ci;have a7:(Vl O X ac)=(Vl O ((X.set (Int.toNat h) (a.1,a.2.1,M4 (a.2.2.1+f.1),a.2.2.2))) ac):=by simp only [Vl,List.length_set]
   rw [a7] at D;replace aK:idx (X.set (Int.toNat h) (a.1,a.2.1,M4 (a.2.2.1+f.1),a.2.2.2)) h=some (a.1,a.2.1,M4 (a.2.2.1+f.1),a.2.2.2):=MX aK _;refine Xk (Cs (Xu 2 [(80,(Px I ((Int.toNat h)*(M7).n))),(81,(Px I ((Int.toNat h)*(M7).n)))] (Yf ((Px I ((Int.toNat h)*(M7).n))) ((Px I ((Int.toNat h)*(M7).n+3))) R (Rf Pn _) ?_)));obtain ⟨cU,b7,aa⟩:=ZK aU J aK;obtain ⟨_,_,rfl,rfl,⟨_,_,rfl,rfl,⟨_,_,rfl,rfl,rfl⟩⟩⟩:=aa;refine Yl ((Px I ((Int.toNat h)*(M7).n+3))) (Vi a.2.2.2) R (Mw M5 b7 (fun _ i=>by cases i) 3 _ R) ?_;refine Xu 1 [(84,.bool (a.2.2.2==1000000000))] (Xk (Cn [(4,Vp Q 0),(5,Vp L 0),(10,Vp U 0),(12,(Px I ((Int.toNat h)*(M7).n))),(63,Vi ((ae.1).length:Int)),(64,Vi h),(84,.bool (a.2.2.2==1000000000))] (fun aO=>?_)));refine Ci _ R i (fun i=>?_) (fun i=>?_)
   · refine Cp (Xu 2 [(85,(Px I ((Int.toNat h)*(M7).n))),(86,(Px I ((Int.toNat h)*(M7).n)))] (Yf ((Px I ((Int.toNat h)*(M7).n))) ((Px I ((Int.toNat h)*(M7).n+3))) R (Rf Pn _) ?_));have bJ:=aK;obtain ⟨db,cz,bz,cj⟩:=PH aU (y:=(a.1,a.2.1,M4 (a.2.2.1+f.1),2000000000)) 3 (Vi 2000000000) M5 J (Mf 2 R) aK R R (by intro H F cs aa; obtain ⟨_,_,rfl,rfl,⟨_,_,rfl,rfl,⟨_,_,rfl,rfl,rfl⟩⟩⟩:=aa; exact ⟨[_],_,R,R,⟨[_],_,R,R,⟨[_],_,R,R,R⟩⟩⟩);refine Xp cz R ?_;obtain ⟨x,m,p,q,o,r,t,u,l,z,A,v,w,D,d⟩:=E15 (Cx.j d 2 bz) x m p q o r t u l z A v w D d;have k:=k.th bz C 2;have J:=cj;have a7:(Vl O ((X.set (Int.toNat h) (a.1,a.2.1,M4 (a.2.2.1+f.1),a.2.2.2))) ac)=(Vl O (((X.set (Int.toNat h) (a.1,a.2.1,M4 (a.2.2.1+f.1),a.2.2.2)).set (Int.toNat h) (a.1,a.2.1,M4 (a.2.2.1+f.1),2000000000))) ac):=by simp only [Vl,List.length_set]
     rw [a7] at D;replace bJ:idx ((X.set (Int.toNat h) (a.1,a.2.1,M4 (a.2.2.1+f.1),a.2.2.2)).set (Int.toNat h) (a.1,a.2.1,M4 (a.2.2.1+f.1),2000000000)) h=some (a.1,a.2.1,M4 (a.2.2.1+f.1),2000000000):=MX bJ _;refine Xe R (Kl (Kt (Cp (Xu 2 [(97,Vi (M4 (h+1))),(64,Vi (M4 (h+1)))] (Xe R ?_)))));obtain rfl:=Sj i;exact Kt ⟨(aY,((X.set (Int.toNat h) (a.1,a.2.1,M4 (a.2.2.1+f.1),a.2.2.2)).set (Int.toNat h) (a.1,a.2.1,M4 (a.2.2.1+f.1),2000000000)),M4 (h+1)),⟨R,R,R,R,R,T0⟩,⟨aX,k,d,C,af,m,p,q,o,r,t,u,l,x,z,v,w,A,J,D⟩,Ns _⟩
   refine Cd [] [(0,false),(1,false),(2,false),(3,false),(4,false),(5,false),(6,false),(7,false),(8,false),(9,true)] _ (by kernel_rfl) R ?_;obtain ⟨x,m,p,q,o,r,t,u,l,z,A,v,w,D,J,d,k⟩:=E17 (Cx.e d (Ev.drew cJ)) x m p q o r t u l z A v w D J d k;refine Xu 2 [(88,(Px I ((Int.toNat h)*(M7).n))),(89,(Px I ((Int.toNat h)*(M7).n)))] (Yf ((Px I ((Int.toNat h)*(M7).n))) ((Px I ((Int.toNat h)*(M7).n+3))) R (Rf Pn _) ?_);obtain ⟨cX,b8,aa⟩:=ZK aU J aK;obtain ⟨_,_,rfl,rfl,⟨_,_,rfl,rfl,⟨_,_,rfl,rfl,rfl⟩⟩⟩:=aa;refine Yl ((Px I ((Int.toNat h)*(M7).n+3))) (Vi a.2.2.2) R (Mw M5 b8 (fun _ i=>by cases i) 3 _ R) ?_;refine Yg L 0 0 (Vi f.1) R R (Rf T1 _) M5 A nn R (Xu 2 [(94,Vi (M4 (a.2.2.2+f.1))),(95,(Px I ((Int.toNat h)*(M7).n)))] (Yf ((Px I ((Int.toNat h)*(M7).n))) ((Px I ((Int.toNat h)*(M7).n+3))) R (Rf Pn _) ?_));have bK:=aK;obtain ⟨dc,cA,bA,ck⟩:=PH aU (y:=(a.1,a.2.1,M4 (a.2.2.1+f.1),M4 (a.2.2.2+f.1))) 3 (Vi (M4 (a.2.2.2+f.1))) M5 J (Mf 2 R) aK R R (by intro H F cs aa; obtain ⟨_,_,rfl,rfl,⟨_,_,rfl,rfl,⟨_,_,rfl,rfl,rfl⟩⟩⟩:=aa; exact ⟨[_],_,R,R,⟨[_],_,R,R,⟨[_],_,R,R,R⟩⟩⟩);refine Xp cA R ?_;obtain ⟨x,m,p,q,o,r,t,u,l,z,A,v,w,D,d⟩:=E15 (Cx.j d 2 bA) x m p q o r t u l z A v w D d;have k:=k.th bA C 2;have J:=ck;have a7:(Vl O ((X.set (Int.toNat h) (a.1,a.2.1,M4 (a.2.2.1+f.1),a.2.2.2))) ac)=(Vl O (((X.set (Int.toNat h) (a.1,a.2.1,M4 (a.2.2.1+f.1),a.2.2.2)).set (Int.toNat h) (a.1,a.2.1,M4 (a.2.2.1+f.1),M4 (a.2.2.2+f.1)))) ac):=by simp only [Vl,List.length_set]
   rw [a7] at D;replace bK:idx ((X.set (Int.toNat h) (a.1,a.2.1,M4 (a.2.2.1+f.1),a.2.2.2)).set (Int.toNat h) (a.1,a.2.1,M4 (a.2.2.1+f.1),M4 (a.2.2.2+f.1))) h=some (a.1,a.2.1,M4 (a.2.2.1+f.1),M4 (a.2.2.2+f.1)):=MX bK _;refine Xe R (Kl (Kt (Cp (Xu 2 [(97,Vi (M4 (h+1))),(64,Vi (M4 (h+1)))] (Xe R ?_)))));obtain rfl:=Sj i;exact Kt ⟨(aY,((X.set (Int.toNat h) (a.1,a.2.1,M4 (a.2.2.1+f.1),a.2.2.2)).set (Int.toNat h) (a.1,a.2.1,M4 (a.2.2.1+f.1),M4 (a.2.2.2+f.1))),M4 (h+1)),⟨R,R,R,R,R,T0⟩,⟨aX,k,d,C,af,m,p,q,o,r,t,u,l,x,z,v,w,A,J,D⟩,Ns _⟩
 refine Ce (Ke ?_);obtain rfl:=Sj i;have cH:=Sj aX;subst cH;have i:=bU;refine Ke (Ki (Kt (Cn [(4,Vp Q 0),(10,Vp U 0)] (fun aO=>?_))));refine Cs (Yl _ _ R (Ra 0 [Vi ap,Vl O X ac] WY D nn R) ?_);obtain ⟨dd,cB,b2,bB⟩:=Sa [Vi ap,Vl O X ac] WY z R R R;refine Xp cB R ?_;obtain ⟨x,l,J,d⟩:=E4 (Cx.j d 0 bB) x l J d;have k:=k.th bB C 0;have z:=b2;refine Xk (Cr (Rr (Rv [.agg #[Vi ap,Vl O X ac]] ⟨⟨_,R,Lv (Ra (Mo:=[]) 0 [Vi ap,Vl O X ac] WY z nn R)⟩,T0⟩ ?_)));obtain rfl:=Sj i;have ch:=d.pk [2,4,5,6] [Bk O,[g],Bk Z,F] R;have bI:=Pk (ls:=[[Q],[L],Bk O,[U],[g],Bk Z,F]) [2,4,5,6] [Bk O,[g],Bk Z,F] R;have cd:=C.pk [2] [Bk O] R;exact ⟨O,ac,Z,a1,R,k,x,l.sub bI,ch,cd,(NP.cons (af.at 0 R) (NP.cons (af.at 1 R) (NP.nil _ _))),J.sub bI⟩
def RP (c:Int) (b:List (Int×Int×Int×Int×Int)) (d:Int) (a:Int×Int×Int×Int) (e:Int) (f:Bool):Option (Mm Int (Unit⊕Unit)):=
(if f=true then
(if b.length+([(3,c,d,a.1,a.2.2.1)]:List (Int×Int×Int×Int×Int)).length≤4294967296 then
some (.done (.inl ()))
else none)
else
some (.next (M4 (e+1))))
def PT (e:Int) (d:List (Int×Int×Int×Int×Int)) (f:Int) (g:Int×(List (Int×Int×Int×Int))) (a:Int×Int×Int×Int) (h:Int):Option (Mm Int (Unit⊕Unit)):=
match h with
| c=>
(if (decide (c<((g.2).length:Int)))=true then
((idx g.2 c).bind fun b=>
(if (a.1==b.1)=true then
((Tg a.1 a.2.1 a.2.2.1 a.2.2.2 b.1 b.2.1 b.2.2.1 b.2.2.2).bind fun i=>
RP e d f a c i)
else
RP e d f a c false))
else
some (.done (.inr ())))
def RQ (d:Int) (e:List (Int×Int×Int×Int)) (c:List (Int×Int×Int×Int×Int)) (f:Int) (i:Int×(List (Int×Int×Int×Int))) (h:Int):Option (Mm Int ((List (Int×Int×Int×Int×Int))⊕Unit)):=
match h with
| a=>
(if (decide (a<((e).length:Int)))=true then
((idx e a).bind fun b=>
((loop (PT d c f i b) 0).bind fun g=>match g with
| (.inl _)=>some (.done (.inl (c++([(3,d,f,b.1,b.2.2.1)]:List (Int×Int×Int×Int×Int)))))
| (.inr _)=>some (.next (M4 (a+1)))))
else
some (.done (.inr ())))
def VB (c:List (Int×(List (Int×Int×Int×Int)))) (f:Int) (g:List (Int×Int×Int×Int)) (h:(List (Int×Int×Int×Int×Int))×Int):Option (Mm ((List (Int×Int×Int×Int×Int))×Int) (List (Int×Int×Int×Int×Int))):=
match h with
| (b,a)=>
(if (decide (a<((c).length:Int)))=true then
((idx c a).bind fun i=>
((loop (RQ f g b a i) 0).bind fun d=>match d with
| (.inl e)=>some (.next (e,M4 (a+1)))
| (.inr _)=>some (.next (b,M4 (a+1)))))
else
some (.done b))
def W7 (g:List (Int×(List UInt8)×Int×Int×Int×Int×Int×Int)) (h:Int) (i:List (Int×Int)) (j:List (Int×Int×Int×Int)) (k:List (Int×Int×Int×Int×(List Int)×(List Int))) (l:List (Int×Int)) (m:List (Int×(List (Int×Int×Int×Int)))) (c:List (Int×(List (Int×Int×Int×Int)))) (d:List (Int×Int×Int×Int×Int)) (e:Int) (n:Int) (f:List (Int×Int×Int×Int)):Option (List (Int×Int×Int×Int×Int)):=
((loop (VB c e f) (d,0)).bind fun a=>match a with
| b=>some b)
theorem M2n (c am au ah az an av ai ao aw aj ap ax ak aq aE ar aF I J y E aU aQ K aG X Y D a0 C S)(a:MS C [[c],Bk E,S])(k:Ma (M3 eI (M3 Mv (M3 eI (M3 eI (M7))))) C (fl [[c],Bk E,S]) am au ah)(m:Ma (M3 eI eI) C (fl [[c],Bk E,S]) an av ai)(n:Ma (M7) C (fl [[c],Bk E,S]) ao aw aj)(o:Ma (M3 eI (M3 eI (M3 eI (M3 eI (M3 (Mi eI) (Mi eI)))))) C (fl [[c],Bk E,S]) ap ax ak)(p:P5 (Value.int .i64) eI C (fl [[c],Bk E,S]) aq aE)(q:P5 (Value.int .i64) (Mi (M7)) C (fl [[c],Bk E,S]) ar aF)(g:Ma (M3 eI (Mi (M7))) C (fl [[c],Bk E,S]) I J y)(h:M9 (M3 eI (M7)) 52 C (fl [[c],Bk E,S]) E aU aQ)(x:C.heap[c]? = some (.cells #[Vl am ah au,Vi az,Vl an ai av,Vl ao aj aw,Vl ap ak ax,.map (some aq),.map (some ar),Vl I y J,Vl E aQ aU] 95 (0,0)))(i:Ma (M7) C (fl [[c],Bk E,S]) X Y D)(f:W7 ah az ai aj ak aE aF y aQ K aG D=some a0):Md Tryz.prog 26 [Vp c 0,Vi K,.agg #[Vi aG,Vl X D Y]] C fun bh d=>∃ aH a2,bh=.tuple #[]∧Ev (fl [[c],Bk E]) C d∧d.heap[c]? = some (.cells #[Vl am ah au,Vi az,Vl an ai av,Vl ao aj aw,Vl ap ak ax,.map (some aq),.map (some ar),Vl I y J,Vl aH a0 a2] 95 (0,0))∧M9 (M3 eI (M7)) 52 d (fl [[c],Bk aH,S]) aH a2 a0∧MS d [[c],Bk aH,S]∧FR C.heap.size []∧NP (fl [[c],Bk E]) C.heap.size [[c],Bk aH]:=by
 refine Cw hmx Tryz.func26 R R R ?_;have t:=Ev.refl (fl [[c],Bk E]) C;have z:=FR.nil C.heap.size;have Q:NP (fl [[c],Bk E]) C.heap.size [[c],Bk E]:=NP.init _ _;refine Cs (Xo R (fun F cb bd A bz=>?_));have z:=z.box t.size bd;obtain ⟨k,m,n,o,p,q,g,h,x,i,a,t⟩:=E12 (Cx.b a bz bd A) k m n o p q g h x i a t;refine Xk (M9N (Cq (M9O (Kt (Cs (Xu 2 [(12,Vp c 0),(13,Vp c 0)] (Yg c 0 7 (Vl I y J) R R (Rf Zl _) M0T x nn R (Xz Y9 R ?_))))))));refine Xu 1 [(17,Vi 0)] (Xk (Cb ?_));obtain ⟨bl,aX,bo⟩:=Bs f;obtain ⟨aD,aX⟩:=Lo aX;refine Cl (Lr hmx (σ:=Nat×(List (Int×Int×Int×Int×Int))×Int×Option Addr×Nat) (fun O=>match O with | (_,Z,v,H,af)=>[(0,Vp c 0),(1,Vi K),(5,Vp F 0),(15,Vl I y J),(16,Vi ((y).length:Int)),(17,Vi v)]) (fun O d=>match O with | (aK,Z,v,H,af)=>Mh (VB y K D) aK (Z,v)=some bl∧Ev (fl [[c],Bk E]) C d∧(fun r=>MS d r∧FR C.heap.size [[F]]∧NP (fl [[c],Bk E]) C.heap.size [[c],Bk H]∧Ma (M3 eI (M3 Mv (M3 eI (M3 eI (M7))))) d (fl r) am au ah∧Ma (M3 eI eI) d (fl r) an av ai∧Ma (M7) d (fl r) ao aw aj∧Ma (M3 eI (M3 eI (M3 eI (M3 eI (M3 (Mi eI) (Mi eI)))))) d (fl r) ap ax ak∧P5 (Value.int .i64) eI d (fl r) aq aE∧P5 (Value.int .i64) (Mi (M7)) d (fl r) ar aF∧Ma (M3 eI (Mi (M7))) d (fl r) I J y∧M9 (M3 eI (M7)) 52 d (fl r) H af Z∧d.heap[c]? = some (.cells #[Vl am ah au,Vi az,Vl an ai av,Vl ao aj aw,Vl ap ak ax,.map (some aq),.map (some ar),Vl I y J,Vl H Z af] 95 (0,0))∧Ma (M7) d (fl r) X Y D∧d.heap[F]? = some (.cells #[Vi aG,Vl X D Y] 45 (0,0))) [[F],[c],Bk H,S]) (fun O=>O.1) (aD,aQ,0,E,aU) ⟨R,R,R,R,R,R,T0⟩ ⟨aX,t,a,z,Q,k,m,n,o,p,q,g,h,x,i,A⟩ ?_);rintro ⟨aD,Z,v,H,af⟩ al cl ⟨aA,t,a,z,Q,k,m,n,o,p,q,g,h,x,i,A⟩;rcases aD with _ | aD
 · exact (Lz aA).elim
 obtain ⟨b9,f,aA⟩:=Bs aA;refine Cs (Xu 1 [(18,Bd (v<((y).length:Int)))] (Xk (Cn [(0,Vp c 0),(1,Vi K),(5,Vp F 0),(15,Vl I y J),(16,Vi ((y).length:Int)),(17,Vi v),(18,Bd (v<((y).length:Int)))] (fun al=>?_))));refine Cq (Ci _ R f (fun f=>?_) (fun f=>?_))
 · refine Ck (Kt (Cq (Cb (Cs (Xu 1 [(19,Vi v)] ?_)))));obtain ⟨G,bZ,f⟩:=Bs f;obtain ⟨bj,b6,bJ,bw,bp⟩:=Ri (Mo:=[]) Y9 g bZ;obtain ⟨_,_,rfl,rfl,⟨ac,ae,rfl,B⟩⟩:=bp;refine Yi _ _ _ R bJ (Yl (.pointer (some bj)) (.agg #[Vi G.1,Vl ac G.2 ae]) R (R8 WY bw (fun _ f=>by cases f)) ?_);refine Xj #[Vi 0,Z0] R (fun aa cc be L bA=>?_);have z:=z.box t.size be;obtain ⟨x,k,m,n,o,p,q,g,h,A,i,B,a,t⟩:=E14 (Cx.b a bA be L) x k m n o p q g h A i B a t;refine Xu 1 [(6,Vi v)] ?_;obtain ⟨cd,bK,br,a6⟩:=Sa [Vi G.1,Vl ac G.2 ae] WY L R R R;refine Xp bK R ?_;obtain ⟨x,k,m,n,o,p,q,g,h,A,i,B,a⟩:=E13 (Cx.j a 0 a6) x k m n o p q g h A i B a;have t:=t.th a6 z 0;have L:=br;refine Xk (Cs (Yg F 0 1 (Vl X D Y) R R (Rf Rw _) Pu A nn R (Xz PL R (Xu 1 [(25,Vi 0)] (Xk (Cb ?_))))));obtain ⟨k,m,n,o,p,q,g,h,i,B,a⟩:=E11 (Cx.s a [1,0,2,3,4]) k m n o p q g h i B a;have z:=z.px [1,0];obtain ⟨bm,aY,a4⟩:=Bs f;obtain ⟨aL,aY⟩:=Lo aY;refine Cl (Lr hmx (σ:=Nat×Int) (fun O=>match O with | (_,ab)=>[(0,Vp c 0),(1,Vi K),(5,Vp F 0),(6,Vi v),(7,Vp aa 0),(15,Vl I y J),(16,Vi ((y).length:Int)),(17,Vi v),(23,Vl X D Y),(24,Vi ((D).length:Int)),(25,Vi ab)]) (fun O d=>match O with | (aK,ab)=>Mh (RQ K D Z v G) aK ab=some bm∧Ev (fl [[c],Bk E]) C d∧(fun r=>MS d r∧FR C.heap.size [[F],[aa]]∧NP (fl [[c],Bk E]) C.heap.size [[c],Bk H]∧Ma (M3 eI (M3 Mv (M3 eI (M3 eI (M7))))) d (fl r) am au ah∧Ma (M3 eI eI) d (fl r) an av ai∧Ma (M7) d (fl r) ao aw aj∧Ma (M3 eI (M3 eI (M3 eI (M3 eI (M3 (Mi eI) (Mi eI)))))) d (fl r) ap ax ak∧P5 (Value.int .i64) eI d (fl r) aq aE∧P5 (Value.int .i64) (Mi (M7)) d (fl r) ar aF∧Ma (M3 eI (Mi (M7))) d (fl r) I J y∧M9 (M3 eI (M7)) 52 d (fl r) H af Z∧d.heap[c]? = some (.cells #[Vl am ah au,Vi az,Vl an ai av,Vl ao aj aw,Vl ap ak ax,.map (some aq),.map (some ar),Vl I y J,Vl H Z af] 95 (0,0))∧Ma (M7) d (fl r) X Y D∧d.heap[F]? = some (.cells #[Vi aG,Vl X D Y] 45 (0,0))∧Ma (M7) d (fl r) ac ae G.2∧d.heap[aa]? = some (.cells #[Vi G.1,Vl ac G.2 ae] 45 (0,0))) [[F],[aa],[c],Bk H,S]) (fun O=>O.1) (aL,0) ⟨R,R,R,R,R,R,R,R,R,R,R,T0⟩ ⟨aY,t,a,z,Q,k,m,n,o,p,q,g,h,x,i,A,B,L⟩ ?_);rintro ⟨aL,ab⟩ al cm ⟨aB,t,a,z,Q,k,m,n,o,p,q,g,h,x,i,A,B,L⟩;rcases aL with _ | aL
   · exact (Lz aB).elim
   obtain ⟨ca,f,aB⟩:=Bs aB;refine Cs (Xu 1 [(26,Bd (ab<((D).length:Int)))] (Xk (Cn [(0,Vp c 0),(1,Vi K),(5,Vp F 0),(6,Vi v),(7,Vp aa 0),(15,Vl I y J),(16,Vi ((y).length:Int)),(17,Vi v),(23,Vl X D Y),(24,Vi ((D).length:Int)),(25,Vi ab),(26,Bd (ab<((D).length:Int)))] (fun al=>?_))));refine Cq (Ci _ R f (fun f=>?_) (fun f=>?_))
   · refine Ck (Kt (Cq (Cb (Cs ?_))));obtain ⟨w,b0,f⟩:=Bs f;refine Zf [Vi w.1,Vi w.2.1,Vi w.2.2.1,Vi w.2.2.2] (i.el PL) MP b0 R (fun _=>R) (fun _=>Xj #[Vi 0,Vi 0,Vi 0,Vi 0] R (fun ad ce bf N bB=>?_));have z:=z.box t.size bf;obtain ⟨x,k,m,n,o,p,q,g,h,A,i,L,B,a,t⟩:=E15 (Cx.b a bB bf N) x k m n o p q g h A i L B a t;obtain ⟨cf,bL,bs,a7⟩:=Sa [Vi w.1,Vi w.2.1,Vi w.2.2.1,Vi w.2.2.2] MP N R R R;refine Xp bL R ?_;obtain ⟨x,k,m,n,o,p,q,g,h,A,i,L,B,a⟩:=E14 (Cx.j a 0 a7) x k m n o p q g h A i L B a;have t:=t.th a7 z 0;have N:=bs;refine Xk (Cs (Yg aa 0 1 (Vl ac G.2 ae) R R (Rf Rw _) Pu L nn R (Xz PL R (Xu 1 [(32,Vi 0)] (Xk (Cb ?_))))));obtain ⟨k,m,n,o,p,q,g,h,i,B,a⟩:=E11 (Cx.s a [1,2,0,3,4,5]) k m n o p q g h i B a;have z:=z.px [1,2,0];obtain ⟨bn,aZ,a5⟩:=Bs f;obtain ⟨aN,aZ⟩:=Lo aZ;refine Cl (Lr hmx (σ:=Nat×Int) (fun O=>match O with | (_,ag)=>[(0,Vp c 0),(1,Vi K),(5,Vp F 0),(6,Vi v),(7,Vp aa 0),(9,Vp ad 0),(15,Vl I y J),(16,Vi ((y).length:Int)),(17,Vi v),(23,Vl X D Y),(24,Vi ((D).length:Int)),(25,Vi ab),(30,Vl ac G.2 ae),(31,Vi ((G.2).length:Int)),(32,Vi ag)]) (fun O d=>match O with | (aK,ag)=>Mh (PT K Z v G w) aK ag=some bn∧Ev (fl [[c],Bk E]) C d∧(fun r=>MS d r∧FR C.heap.size [[F],[aa],[ad]]∧NP (fl [[c],Bk E]) C.heap.size [[c],Bk H]∧Ma (M3 eI (M3 Mv (M3 eI (M3 eI (M7))))) d (fl r) am au ah∧Ma (M3 eI eI) d (fl r) an av ai∧Ma (M7) d (fl r) ao aw aj∧Ma (M3 eI (M3 eI (M3 eI (M3 eI (M3 (Mi eI) (Mi eI)))))) d (fl r) ap ax ak∧P5 (Value.int .i64) eI d (fl r) aq aE∧P5 (Value.int .i64) (Mi (M7)) d (fl r) ar aF∧Ma (M3 eI (Mi (M7))) d (fl r) I J y∧M9 (M3 eI (M7)) 52 d (fl r) H af Z∧d.heap[c]? = some (.cells #[Vl am ah au,Vi az,Vl an ai av,Vl ao aj aw,Vl ap ak ax,.map (some aq),.map (some ar),Vl I y J,Vl H Z af] 95 (0,0))∧Ma (M7) d (fl r) X Y D∧d.heap[F]? = some (.cells #[Vi aG,Vl X D Y] 45 (0,0))∧Ma (M7) d (fl r) ac ae G.2∧d.heap[aa]? = some (.cells #[Vi G.1,Vl ac G.2 ae] 45 (0,0))∧d.heap[ad]? = some (.cells #[Vi w.1,Vi w.2.1,Vi w.2.2.1,Vi w.2.2.2] 49 (0,0))) [[F],[aa],[ad],[c],Bk H,S]) (fun O=>O.1) (aN,0) ⟨R,R,R,R,R,R,R,R,R,R,R,R,R,R,R,T0⟩ ⟨aZ,t,a,z,Q,k,m,n,o,p,q,g,h,x,i,A,B,L,N⟩ ?_);rintro ⟨aN,ag⟩ al cn ⟨aC,t,a,z,Q,k,m,n,o,p,q,g,h,x,i,A,B,L,N⟩;rcases aN with _ | aN
     · exact (Lz aC).elim
     obtain ⟨b2,f,aC⟩:=Bs aC;refine Cs (Xu 1 [(33,Bd (ag<((G.2).length:Int)))] (Xk (Cn [(0,Vp c 0),(1,Vi K),(5,Vp F 0),(6,Vi v),(7,Vp aa 0),(9,Vp ad 0),(15,Vl I y J),(16,Vi ((y).length:Int)),(17,Vi v),(23,Vl X D Y),(24,Vi ((D).length:Int)),(25,Vi ab),(30,Vl ac G.2 ae),(31,Vi ((G.2).length:Int)),(32,Vi ag),(33,Bd (ag<((G.2).length:Int)))] (fun al=>?_))));refine Cq (Ci _ R f (fun f=>?_) (fun f=>?_))
     · refine Ck (Kt (Cq (Cb (Cs ?_))));obtain ⟨U,b1,f⟩:=Bs f;refine Zf [Vi U.1,Vi U.2.1,Vi U.2.2.1,Vi U.2.2.2] (B.el PL) MP b1 R (fun _=>R) (fun _=>Xj #[Vi 0,Vi 0,Vi 0,Vi 0] R (fun bk cg bg aI bC=>?_));have z:=z.box t.size bg;obtain ⟨x,k,m,n,o,p,q,g,h,A,i,L,B,N,a,t⟩:=E16 (Cx.b a bC bg aI) x k m n o p q g h A i L B N a t;obtain ⟨b3,bN,bt,a8⟩:=Sa [Vi U.1,Vi U.2.1,Vi U.2.2.1,Vi U.2.2.2] MP aI R R R;refine Xp bN R ?_;obtain ⟨x,k,m,n,o,p,q,g,h,A,i,L,B,N,a⟩:=E15 (Cx.j a 0 a8) x k m n o p q g h A i L B N a;have t:=t.th a8 z 0;have aI:=bt;refine Xk (Pg (σ:=Bool) (fun O=>match O with | aO=>[(0,Vp c 0),(1,Vi K),(5,Vp F 0),(6,Vi v),(7,Vp aa 0),(9,Vp ad 0),(15,Vl I y J),(16,Vi ((y).length:Int)),(17,Vi v),(23,Vl X D Y),(24,Vi ((D).length:Int)),(25,Vi ab),(30,Vl ac G.2 ae),(31,Vi ((G.2).length:Int)),(32,Vi ag),(45,.bool aO)]) (fun O d=>match O with | aO=>RP K Z v w ag aO=some b2∧Ev (fl [[c],Bk E]) C d∧(fun r=>MS d r∧FR C.heap.size [[F],[aa],[ad]]∧NP (fl [[c],Bk E]) C.heap.size [[c],Bk H]∧Ma (M3 eI (M3 Mv (M3 eI (M3 eI (M7))))) d (fl r) am au ah∧Ma (M3 eI eI) d (fl r) an av ai∧Ma (M7) d (fl r) ao aw aj∧Ma (M3 eI (M3 eI (M3 eI (M3 eI (M3 (Mi eI) (Mi eI)))))) d (fl r) ap ax ak∧P5 (Value.int .i64) eI d (fl r) aq aE∧P5 (Value.int .i64) (Mi (M7)) d (fl r) ar aF∧Ma (M3 eI (Mi (M7))) d (fl r) I J y∧M9 (M3 eI (M7)) 52 d (fl r) H af Z∧d.heap[c]? = some (.cells #[Vl am ah au,Vi az,Vl an ai av,Vl ao aj aw,Vl ap ak ax,.map (some aq),.map (some ar),Vl I y J,Vl H Z af] 95 (0,0))∧Ma (M7) d (fl r) X Y D∧d.heap[F]? = some (.cells #[Vi aG,Vl X D Y] 45 (0,0))∧Ma (M7) d (fl r) ac ae G.2∧d.heap[aa]? = some (.cells #[Vi G.1,Vl ac G.2 ae] 45 (0,0))∧d.heap[ad]? = some (.cells #[Vi w.1,Vi w.2.1,Vi w.2.2.1,Vi w.2.2.2] 49 (0,0))) [[F],[aa],[ad],[c],Bk H,S]) ?_ ?_)
       · refine Cp (Yg ad 0 0 (Vi w.1) R R (Rf Po _) M5 N nn R (Yg bk 0 0 (Vi U.1) R R (Rf Po _) M5 aI nn R (Xu 2 [(40,.bool (w.1==U.1)),(41,.bool (w.1==U.1))] (Xw 41 _ R f (fun f=>?_) (fun f=>?_)))))
         · refine Yl _ _ R (Ra 0 [Vi w.1,Vi w.2.1,Vi w.2.2.1,Vi w.2.2.2] MP N nn R) (Yl _ _ R (Ra 0 [Vi U.1,Vi U.2.1,Vi U.2.2.1,Vi U.2.2.2] MP aI nn R) ?_);obtain ⟨bi,bY,f⟩:=Bs f;have bx:=WZ w.1 w.2.1 w.2.2.1 w.2.2.2 U.1 U.2.1 U.2.2.1 U.2.2.2 _ b3 bY;refine Xv bx R ?_;rintro bh ch ⟨rfl,bD⟩;obtain ⟨x,k,m,n,o,p,q,g,h,A,i,L,B,N,a,t⟩:=E16 (Cx.e a bD) x k m n o p q g h A i L B N a t;refine Xu 1 [(45,.bool bi)] (Xe R ?_);obtain ⟨k,m,n,o,p,q,g,h,i,B,a⟩:=E11 (Cx.s a [1,2,3,4,5,6]) k m n o p q g h i B a;have z:=z.px [1,2,3];exact Kt ⟨bi,⟨R,R,R,R,R,R,R,R,R,R,R,R,R,R,R,R,T0⟩,f,t,a,z,Q,k,m,n,o,p,q,g,h,x,i,A,B,L,N⟩
         refine Xu 4 [(42,U0),(43,U0),(44,U0),(45,.bool false)] (Xe R ?_);obtain ⟨k,m,n,o,p,q,g,h,i,B,a⟩:=E11 (Cx.s a [1,2,3,4,5,6]) k m n o p q g h i B a;have z:=z.px [1,2,3];exact Kt ⟨false,⟨R,R,R,R,R,R,R,R,R,R,R,R,R,R,R,R,T0⟩,f,t,a,z,Q,k,m,n,o,p,q,g,h,x,i,A,B,L,N⟩
       rintro aO al b4 ⟨f,t,a,z,Q,k,m,n,o,p,q,g,h,x,i,A,B,L,N⟩;refine Ci aO R f (fun f=>?_) (fun f=>?_)
       · refine Cq (Cd [] [(0,false),(1,false),(2,false),(3,false),(4,false),(5,false),(6,false),(7,false),(8,false),(9,false),(10,false),(11,false),(12,false),(13,true),(14,false),(15,false),(16,true)] _ (by kernel_rfl) R ?_);obtain ⟨x,k,m,n,o,p,q,g,h,A,i,N,a,t⟩:=E14 (Cx.e a (Ev.drew b4)) x k m n o p q g h A i N a t;refine Xu 3 [(46,Vp c 0),(47,Vp c 0),(48,Vp c 0)] (Yg c 0 8 (Vl H Z af) R R (Rf Vm _) Wu x nn R (Xu 2 [(51,Vi K),(52,Vi v)] (Yg ad 0 0 (Vi w.1) R R (Rf Po _) M5 N nn R (Yg ad 0 2 (Vi w.2.2.1) R R (Rf TG _) M5 N nn R (Xg (.agg #[Vi 3,Vi K,Vi v,Vi w.1,Vi w.2.2.1]) R (Xb #[Vi 3,Vi K,Vi v,Vi w.1,Vi w.2.2.1] 52 R R R (by kernel_rfl) (fun b5 ci bI bu a9 b8=>?_)))))));refine ⟨.inr a9,?_⟩;have aJ:=Cx.e a a9;obtain ⟨x,k,m,n,o,p,q,g,h,A,i,a,t⟩:=E13 aJ x k m n o p q g h A i a t;have bS:=aJ.l (e:=(M3 eI (M7))) bI bu 1 [(3,K,v,w.1,w.2.2.1)];have bF:=Gl f;have f:=Gr f;obtain ⟨aS,a3,cj,bO,ba,bc,b7,bX⟩:=Mb M7n 37 h (Mf 4 R) bS bF;refine Xx R (Rn bO) ?_;have aJ:=Cx.u a 4 ba bc;obtain ⟨x,k,m,n,o,p,q,g,A,i,a⟩:=E11 aJ x k m n o p q g A i a;have bH:NP (fl [[c],Bk E]) C.heap.size [[c],Bk aS]:=(NP.cons (Q.at 0 R) (NP.cons (fun b bq=>(bc b bq).1.elim (fun f=>Q.at 1 R b f) (fun f=>.inr (Nat.le_trans t.size f))) (NP.nil _ _)))
         have t:=t.then ba (Q.at 1 R);have Q:=bH;have h:=bX _ aJ.st.new;refine Xu 1 [(60,Vp c 0)] (Yf (Vp c 0) (Vp c 8) R (Rf Vm _) ?_);obtain ⟨ck,bQ,bv,bb⟩:=Sx 8 (Vl aS ((Z++([(3,K,v,w.1,w.2.2.1)]:List (Int×Int×Int×Int×Int)))) a3) Wu x;refine Xp bQ R ?_;obtain ⟨k,m,n,o,p,q,g,h,A,i,a⟩:=E11 (Cx.j a 3 bb) k m n o p q g h A i a;have t:=t.then bb (Q.at 0 R);have x:=bv;refine Xk (Cn [(0,Vp c 0),(1,Vi K),(5,Vp F 0),(15,Vl I y J),(16,Vi ((y).length:Int)),(17,Vi v)] (fun al=>?_));refine Ce (Wa R (Ke ?_));obtain rfl:=Sj f;have ay:=Sj aC;subst ay;have f:=a5;refine Ke (Wa R (Wa R (Ke ?_)));obtain rfl:=Sj f;have ay:=Sj aB;subst ay;have f:=a4;refine Ke (Wa R (Ki (Kt (Cn [(0,Vp c 0),(1,Vi K),(5,Vp F 0),(15,Vl I y J),(16,Vi ((y).length:Int)),(17,Vi v)] (fun al=>?_)))));refine Cp (Xu 2 [(64,Vi (M4 (v+1))),(17,Vi (M4 (v+1)))] (Xe R ?_));obtain rfl:=Sj f;obtain ⟨k,m,n,o,p,q,g,h,i,a⟩:=TX (Cx.s a [0,3,4,5]) k m n o p q g h i a;have z:=z.px [0];exact Kt ⟨(aD,(Z++([(3,K,v,w.1,w.2.2.1)]:List (Int×Int×Int×Int×Int))),M4 (v+1),aS,a3),⟨R,R,R,R,R,R,T0⟩,⟨aA,t,a,z,Q,k,m,n,o,p,q,g,h,x,i,A⟩,Ns _⟩
       refine Ck (Kl (Kt (Cn [(0,Vp c 0),(1,Vi K),(5,Vp F 0),(6,Vi v),(7,Vp aa 0),(9,Vp ad 0),(15,Vl I y J),(16,Vi ((y).length:Int)),(17,Vi v),(23,Vl X D Y),(24,Vi ((D).length:Int)),(25,Vi ab),(30,Vl ac G.2 ae),(31,Vi ((G.2).length:Int)),(32,Vi ag)] (fun al=>?_))));refine Cp (Xu 2 [(62,Vi (M4 (ag+1))),(32,Vi (M4 (ag+1)))] (Xe R ?_));obtain rfl:=Sj f;exact Kt ⟨(aN,M4 (ag+1)),⟨R,R,R,R,R,R,R,R,R,R,R,R,R,R,R,T0⟩,⟨aC,t,a,z,Q,k,m,n,o,p,q,g,h,x,i,A,B,L,N⟩,Ns _⟩
     refine Ce (Ke ?_);obtain rfl:=Sj f;have ay:=Sj aC;subst ay;have f:=a5;refine Ke (Ki (Kl (Kt (Cn [(0,Vp c 0),(1,Vi K),(5,Vp F 0),(6,Vi v),(7,Vp aa 0),(15,Vl I y J),(16,Vi ((y).length:Int)),(17,Vi v),(23,Vl X D Y),(24,Vi ((D).length:Int)),(25,Vi ab)] (fun al=>?_)))));refine Cp (Xu 2 [(63,Vi (M4 (ab+1))),(25,Vi (M4 (ab+1)))] (Xe R ?_));obtain rfl:=Sj f;obtain ⟨k,m,n,o,p,q,g,h,i,B,a⟩:=E11 (Cx.s a [0,1,3,4,5]) k m n o p q g h i B a;have z:=z.px [0,1];exact Kt ⟨(aL,M4 (ab+1)),⟨R,R,R,R,R,R,R,R,R,R,R,T0⟩,⟨aB,t,a,z,Q,k,m,n,o,p,q,g,h,x,i,A,B,L⟩,Ns _⟩
   refine Ce (Ke ?_);obtain rfl:=Sj f;have ay:=Sj aB;subst ay;have f:=a4;refine Ke (Ki (Kl (Kt (Cn [(0,Vp c 0),(1,Vi K),(5,Vp F 0),(15,Vl I y J),(16,Vi ((y).length:Int)),(17,Vi v)] (fun al=>?_)))));refine Cp (Xu 2 [(64,Vi (M4 (v+1))),(17,Vi (M4 (v+1)))] (Xe R ?_));obtain rfl:=Sj f;obtain ⟨k,m,n,o,p,q,g,h,i,a⟩:=TX (Cx.s a [0,2,3,4]) k m n o p q g h i a;have z:=z.px [0];exact Kt ⟨(aD,Z,M4 (v+1),H,af),⟨R,R,R,R,R,R,T0⟩,⟨aA,t,a,z,Q,k,m,n,o,p,q,g,h,x,i,A⟩,Ns _⟩
 refine Ce (Ke ?_);obtain rfl:=Sj f;have ay:=Sj aA;subst ay;have f:=bo;refine Ke (Ki (M9Q (M5c (Rv [] T0 ?_))));obtain rfl:=Sj f;have bG:=a.pk [1,2,3] [[c],Bk H,S] R;have bU:=Pk (ls:=[[F],[c],Bk H,S]) [1,2,3] [[c],Bk H,S] R;have bE:=z.pick [] [] R;exact ⟨H,af,R,t,x,h.sub bU,bG,bE,(NP.cons (Q.at 0 R) (NP.cons (Q.at 1 R) (NP.nil _ _)))⟩
def VC (b:List (Int×(List (Int×Int×Int×Int)))) (c:List (Int×Int×Int×Int×Int)) (d:Int) (a:Int×Int×Int×Int) (e:Int) (f:Bool):Option (Mm ((List (Int×(List (Int×Int×Int×Int))))×(List (Int×Int×Int×Int×Int))×Int) ((List (Int×(List (Int×Int×Int×Int))))×(List (Int×Int×Int×Int×Int)))):=
(if f=true then
(if c.length+([(1,a.2.2.2,e,a.2.1,a.1)]:List (Int×Int×Int×Int×Int)).length≤4294967296 then
some (.next (b,(c++([(1,a.2.2.2,e,a.2.1,a.1)]:List (Int×Int×Int×Int×Int))),M4 (d+1)))
else none)
else
(if ((Mu b a.2.1).getD []).length+([(a.1,a.2.1,a.2.2.1,a.2.2.2)]:List (Int×Int×Int×Int)).length≤4294967296 then
some (.next ((P4 b a.2.1 (((Mu b a.2.1).getD [])++([(a.1,a.2.1,a.2.2.1,a.2.2.2)]:List (Int×Int×Int×Int)))),c,M4 (d+1)))
else none))
def VD (b:List (Int×(List (Int×Int×Int×Int)))) (e:Int) (c:List (Int×(List (Int×Int×Int×Int)))) (a:(Int×(List (Int×Int×Int×Int)))×(List (Int×Int×Int×Int×Int))) (d:List (Int×Int×Int×Int×Int)):Option (Mm ((List (Int×(List (Int×Int×Int×Int))))×(List (Int×(List (Int×Int×Int×Int))))×(List (Int×Int×Int×Int×Int))×Int) ((List (Int×(List (Int×Int×Int×Int))))×(List (Int×(List (Int×Int×Int×Int))))×(List (Int×Int×Int×Int×Int)))):=
(if b.length+([(a.1.1,a.1.2)]:List (Int×(List (Int×Int×Int×Int)))).length≤4294967296 then
some (.next (c,(b++([(a.1.1,a.1.2)]:List (Int×(List (Int×Int×Int×Int))))),d,M4 (e+1)))
else none)
def Wx (j:List (Int×(List UInt8)×Int×Int×Int×Int×Int×Int)) (f:Int) (k:List (Int×Int)) (e:List (Int×Int×Int×Int)) (l:List (Int×Int×Int×Int×(List Int)×(List Int))) (h:List (Int×Int)) (i:List (Int×(List (Int×Int×Int×Int)))) (n:Int) (m:(List (Int×(List (Int×Int×Int×Int))))×(List (Int×Int×Int×Int×Int))×Int):Option (Mm ((List (Int×(List (Int×Int×Int×Int))))×(List (Int×Int×Int×Int×Int))×Int) ((List (Int×(List (Int×Int×Int×Int))))×(List (Int×Int×Int×Int×Int)))):=
match m with
| (b,c,d)=>
(if (decide (d<((e).length:Int)))=true then
((idx e d).bind fun a=>
(if (a.2.2.2==n)=true then
((TV j f k e l h b i c a.2.1 0 a.1 (M4 (a.1+f))).bind fun g=>
(if (decide (g≥0))=true then
VC b c d a g true
else
((Th j f k e l h b i c a.1 a.2.1 a.2.2.1 a.2.2.2).bind fun o=>
VC b c d a g o)))
else
some (.next (b,c,M4 (d+1)))))
else
some (.done (b,c)))
def YF (g:List (Int×(List UInt8)×Int×Int×Int×Int×Int×Int)) (h:Int) (i:List (Int×Int)) (j:List (Int×Int×Int×Int)) (d:List (Int×Int×Int×Int×(List Int)×(List Int))) (f:List (Int×Int)) (p:(List (Int×(List (Int×Int×Int×Int))))×(List (Int×(List (Int×Int×Int×Int))))×(List (Int×Int×Int×Int×Int))×Int):Option (Mm ((List (Int×(List (Int×Int×Int×Int))))×(List (Int×(List (Int×Int×Int×Int))))×(List (Int×Int×Int×Int×Int))×Int) ((List (Int×(List (Int×Int×Int×Int))))×(List (Int×(List (Int×Int×Int×Int))))×(List (Int×Int×Int×Int×Int)))):=
match p with
| (l,b,m,a)=>
(if (decide (a<((d).length:Int)))=true then
((idx d a).bind fun q=>
((loop (Wx g h i j d f b a) (l,m,0)).bind fun n=>match n with
| (e,o)=>((VA g h i j d f e b o a).bind fun c=>
((W7 g h i j d f e b c.2 a c.1.1 c.1.2).bind fun k=>
(if (c.1.1 != q.2.2.1)=true then
(if k.length+([(4,a,(-1),(-1),0)]:List (Int×Int×Int×Int×Int)).length≤4294967296 then
VD b a e c (k++([(4,a,(-1),(-1),0)]:List (Int×Int×Int×Int×Int)))
else none)
else
VD b a e c k)))))
else
some (.done (l,b,m)))
def YG (c:List (Int×Int)) (e:(List (Int×Int))×Int):Option (Mm ((List (Int×Int))×Int) (List (Int×Int))):=
match e with
| (b,a)=>
(if (decide (a<((c).length:Int)))=true then
((idx c a).bind fun d=>
some (.next ((P4 b d.1 d.2),M4 (a+1))))
else
some (.done b))
def M11 (c:List (Int×(List UInt8)×Int×Int×Int×Int×Int×Int)) (d:Int) (b:List (Int×Int)) (e:List (Int×Int×Int×Int)) (f:List (Int×Int×Int×Int×(List Int)×(List Int))):Option ((List (Int×(List (Int×Int×Int×Int))))×(List (Int×Int×Int×Int×Int))×Int):=
((YC c d b e f).bind fun g=>
(if (g != 0)=true then
some ([],[],g)
else
((loop (YG b) (([]:List (Int×Int)),0)).bind fun a=>match a with
| h=>((loop (YF c d b e f h) (([]:List (Int×(List (Int×Int×Int×Int)))),([]:List (Int×(List (Int×Int×Int×Int)))),([]:List (Int×Int×Int×Int×Int)),0)).bind fun a=>match a with
| (k,i,j)=>some (i,j,0)))))
theorem M6t (ax ay au aw ao ap Y ah ai U Z aa L bp am y)(a:MS am [y])(i:Ma (M3 eI (M3 Mv (M3 eI (M3 eI (M7))))) am (fl [y]) ax ay au)(f:Ma (M3 eI eI) am (fl [y]) ao ap Y)(g:Ma (M7) am (fl [y]) ah ai U)(h:Ma (M3 eI (M3 eI (M3 eI (M3 eI (M3 (Mi eI) (Mi eI)))))) am (fl [y]) Z aa L)(t:M11 au aw Y U L=some bp):Md Tryz.prog 7 [.agg #[Vl ax au ay,Vi aw,Vl ao Y ap,Vl ah U ai,Vl Z L aa]] am fun bq D=>∃ bi b9 bj cb,bq=.tuple #[Vl bi bp.1 b9,Vl bj bp.2.1 cb,Vi bp.2.2]∧Ev [] am D∧MS D [Bk bi,Bk bj,y]∧FR am.heap.size [Bk bi,Bk bj]∧M9 (M3 eI (Mi (M7))) 45 D (fl [Bk bi,Bk bj,y]) bi b9 bp.1∧M9 (M3 eI (M7)) 52 D (fl [Bk bi,Bk bj,y]) bj cb bp.2.1:=by
 refine Cw hmx Tryz.func7 R R R ?_;have m:=Ev.refl [] am;have k:=FR.nil am.heap.size;refine Cs (Xo R (fun o et cN q dy=>?_));have k:=k.box m.size cN;obtain ⟨i,f,g,h,a,m⟩:=E6 (Cx.b a dy cN q) i f g h a m;refine Xu 3 [(2,Z0),(3,Z0),(4,Vi 0)] (Xk (Cq (Cs (Yl _ _ R (Ra 0 [Vl ax au ay,Vi aw,Vl ao Y ap,Vl ah U ai,Vl Z L aa] WX q nn R) ?_))));obtain ⟨br,ar,t⟩:=Bs t;obtain ⟨a0,ae⟩:=Kc a [] [0,1];have a7:=M4y ax ay au aw ao ap Y ah ai U Z aa L _ et _ a0 (i.sub ae) (f.sub ae) (g.sub ae) (h.sub ae) ar;refine Xv a7 R ?_;rintro bq e9 ⟨rfl,dB⟩;obtain ⟨i,f,g,h,q,a,m⟩:=E7 (Cx.e a dB) i f g h q a m;refine Xu 1 [(5,Vi br)] (Xk (Cs (Xu 2 [(16,Vi br),(17,.bool (br != 0))] (Xk (Ci _ R t (fun t=>?_) (fun t=>?_))))))
 · refine Cs (Xu 4 [(18,Vi br),(2,Z0),(3,Z0),(4,Vi br)] (Xk (Cr (Kr (Rr (Rv [Z0,Z0,Vi br] ⟨R,R,R,T0⟩ ?_))))));obtain rfl:=Sj t;have bQ:=a.pick [none,none,some 1] [Bk none,Bk none,y] R;have bN:=k.pick [none,none] [Bk none,Bk none] R;exact ⟨none,0,none,0,R,m,bQ,bN,M9.nil _ _ _ _,M9.nil _ _ _ _⟩
 refine Ck (Kt (Cs (Yl _ _ R (Ra 0 [Vl ax au ay,Vi aw,Vl ao Y ap,Vl ah U ai,Vl Z L aa] WX q nn R) (Y2 M6s none .i64 R R R (fun F ep cF ch dr eF=>?_)))));refine I1 ?_;have z:PA (Value.int .i64) (Value.int .i64) ep F ([]:List (Int×Int)):=PA.mk ch;have k:=k.box m.size cF;obtain ⟨i,f,g,h,q,a,m⟩:=E7 (Cx.b a dr cF ch) i f g h q a m;refine Y2 M2Z none .i64 R R R (fun av eq cG ci ds eG=>?_);refine I1 ?_;have x:Ve (Value.int .i64) (M7) 58 eq [av] av ([]:List (Int×(List (Int×Int×Int×Int)))) none:=Ve.mk0 _ _ ci;have k:=k.box m.size cG;obtain ⟨i,f,g,h,q,z,a,m⟩:=E8 (Cx.b a ds cG ci) i f g h q z a m;refine Xg (.agg #[Vl ax au ay,Vi aw,Vl ao Y ap,Vl ah U ai,Vl Z L aa,.map (some F),.map (some av),Z0,Z0]) R (Xo R (fun d eN cH v dt=>?_));have k:=k.box m.size cH;obtain ⟨i,f,g,h,q,z,x,a,m⟩:=E9 (Cx.b a dt cH v) i f g h q z x a m;refine Xu 1 [(6,Vp d 0)] (Xk (Cq (Cs (Yg o 0 2 (Vl ao Y ap) R R (Rf TJ _) W4 q nn R (Xz Vh R (Xu 1 [(27,Vi 0)] (Xk (Cb ?_))))))));obtain ⟨i,f,g,h,a⟩:=E5 (Cx.s a [3,2,1,0,4]) i f g h a;have k:=k.px [3,2,1,0];obtain ⟨c6,bJ,c9⟩:=Bs t;obtain ⟨bB,bJ⟩:=Lo bJ;refine Cl (Lr hmx (σ:=Nat×(List (Int×Int))×Int) (fun s=>match s with | (_,aK,a2)=>[(1,Vp o 0),(6,Vp d 0),(25,Vl ao Y ap),(26,Vi ((Y).length:Int)),(27,Vi a2)]) (fun s D=>match s with | (bA,aK,a2)=>Mh (YG Y) bA (aK,a2)=some c6∧Ev [] am D∧(fun S=>MS D S∧FR am.heap.size [[o],[F],[av],[d]]∧Ma (M3 eI (M3 Mv (M3 eI (M3 eI (M7))))) D (fl S) ax ay au∧Ma (M3 eI eI) D (fl S) ao ap Y∧Ma (M7) D (fl S) ah ai U∧Ma (M3 eI (M3 eI (M3 eI (M3 eI (M3 (Mi eI) (Mi eI)))))) D (fl S) Z aa L∧D.heap[o]? = some (.cells #[Vl ax au ay,Vi aw,Vl ao Y ap,Vl ah U ai,Vl Z L aa] 30 (0,0))∧PA (Value.int .i64) (Value.int .i64) D F aK∧Ve (Value.int .i64) (M7) 58 D ([av]) av ([]:List (Int×(List (Int×Int×Int×Int)))) none∧D.heap[d]? = some (.cells #[Vl ax au ay,Vi aw,Vl ao Y ap,Vl ah U ai,Vl Z L aa,.map (some F),.map (some av),Z0,Z0] 95 (0,0))) [[o],[F],[av],[d],y]) (fun s=>s.1) (bB,([]:List (Int×Int)),0) ⟨R,R,R,R,R,T0⟩ ⟨bJ,m,a,k,i,f,g,h,q,z,x,v⟩ ?_);rintro ⟨bB,aK,a2⟩ aG cX ⟨bu,m,a,k,i,f,g,h,q,z,x,v⟩;rcases bB with _ | bB
 · exact (Lz bu).elim
 obtain ⟨eL,t,bu⟩:=Bs bu;refine Cs (Xu 1 [(28,Bd (a2<((Y).length:Int)))] (Xk (Cn [(1,Vp o 0),(6,Vp d 0),(25,Vl ao Y ap),(26,Vi ((Y).length:Int)),(27,Vi a2),(28,Bd (a2<((Y).length:Int)))] (fun aG=>?_))));refine Cq (Ci _ R t (fun t=>?_) (fun t=>?_))
 · refine Ck (Kt (Cq (Cb (Cs ?_))));obtain ⟨aQ,ej,t⟩:=Bs t;refine Zf [Vi aQ.1,Vi aQ.2] (f.el Vh) M4w ej R (fun _=>R) (fun _=>Xj #[Vi 0,Vi 0] R (fun b8 eO cI bc du=>?_));have k:=k.box m.size cI;obtain ⟨q,i,f,g,h,v,z,x,a,m⟩:=TX (Cx.b a du cI bc) q i f g h v z x a m;obtain ⟨er,dU,de,cj⟩:=Sa [Vi aQ.1,Vi aQ.2] M4w bc R R R;refine Xp dU R ?_;obtain ⟨q,i,f,g,h,v,z,x,a⟩:=E9 (Cx.j a 0 cj) q i f g h v z x a;have m:=m.th cj k 0;have bc:=de;refine Xk (Cd [] [(0,false),(1,false),(2,false),(3,false),(4,false),(5,false),(6,false),(7,false),(8,true)] _ (by kernel_rfl) R ?_);obtain ⟨q,i,f,g,h,v,z,x,bc,a,m⟩:=E11 (Cx.e a (Ev.drew er)) q i f g h v z x bc a m;refine Xu 2 [(31,Vp d 0),(32,Vp d 0)] (Yg d 0 5 (.map (some F)) R R (Rf M5q _) M7m v nn R (Yg b8 0 0 (Vi aQ.1) R R (Rf RZ _) M5 bc nn R (Yg b8 0 1 (Vi aQ.2) R R (Rf Y6 _) M5 bc nn R ?_)));obtain ⟨es,dX,dC,ck⟩:=PA.upd M6s M23 aQ.1 aQ.2 z;refine Wc (xv:=.map (some F)) (yv:=Vi aQ.1) (zv:=Vi aQ.2) es R R R R R dX (I1 ?_);obtain ⟨q,i,f,g,h,v,x,a⟩:=E8 (Cx.j a 2 ck) q i f g h v x a;have m:=m.th ck k 2;have z:=dC;refine Xe R (Kl (Kt (Cp (Xu 2 [(39,Vi (M4 (a2+1))),(27,Vi (M4 (a2+1)))] (Xe R ?_)))));obtain rfl:=Sj t;obtain ⟨i,f,g,h,a⟩:=E5 (Cx.s a [1,2,3,4,5]) i f g h a;have k:=k.px [1,2,3,4];exact Kt ⟨(bB,(P4 aK aQ.1 aQ.2),M4 (a2+1)),⟨R,R,R,R,R,T0⟩,⟨bu,m,a,k,i,f,g,h,q,z,x,v⟩,Ns _⟩
 refine Ce (Ke ?_);obtain rfl:=Sj t;have bz:=Sj bu;subst bz;have t:=c9;refine Ke (Ki (Kt (Cn [(1,Vp o 0),(6,Vp d 0)] (fun aG=>?_))));refine Cq (Cs (Yg o 0 4 (Vl Z L aa) R R (Rf MK _) MQ q nn R (Xz TK R (Xu 1 [(43,Vi 0)] (Xk (Cb ?_))))));obtain ⟨q,i,f,g,h,v,z,x,a⟩:=E9 (Cx.n a) q i f g h v z x a;have k:=k.pn;have bw:=M9.nil (M3 eI (Mi (M7))) 45 cX (fl [Bk none,[o],[F],[av],[d],y]);obtain ⟨q,i,f,g,h,v,z,x,bw,a⟩:=TX (Cx.n a) q i f g h v z x bw a;have k:=k.pn;have bU:=M9.nil (M3 eI (M7)) 52 cX (fl [Bk none,Bk none,[o],[F],[av],[d],y]);obtain ⟨i,f,g,h,bw,bU,a⟩:=E7 (Cx.s a [2,3,4,1,0,5,6]) i f g h bw bU a;have k:=k.px [2,3,4,1,0,5];obtain ⟨c7,bK,da⟩:=Bs t;obtain ⟨bC,bK⟩:=Lo bK;refine Cl (Lr hmx (σ:=Nat×(List (Int×(List (Int×Int×Int×Int))))×(List (Int×(List (Int×Int×Int×Int))))×(List (Int×Int×Int×Int×Int))×Int×List Nat×Option Addr×Nat×Option Addr×Nat) (fun s=>match s with | (_,bt,aB,a6,X,ba,E,aD,aJ,a5)=>[(1,Vp o 0),(6,Vp d 0),(41,Vl Z L aa),(42,Vi ((L).length:Int)),(43,Vi X)]) (fun s D=>match s with | (bA,bt,aB,a6,X,ba,E,aD,aJ,a5)=>Mh (YF au aw Y U L aK) bA (bt,aB,a6,X)=some c7∧Ev [] am D∧(fun S=>MS D S∧FR am.heap.size [[o],[F],ba,Bk E,Bk aJ,[d]]∧Ma (M3 eI (M3 Mv (M3 eI (M3 eI (M7))))) D (fl S) ax ay au∧Ma (M3 eI eI) D (fl S) ao ap Y∧Ma (M7) D (fl S) ah ai U∧Ma (M3 eI (M3 eI (M3 eI (M3 eI (M3 (Mi eI) (Mi eI)))))) D (fl S) Z aa L∧D.heap[o]? = some (.cells #[Vl ax au ay,Vi aw,Vl ao Y ap,Vl ah U ai,Vl Z L aa] 30 (0,0))∧PA (Value.int .i64) (Value.int .i64) D F aK∧Ve (Value.int .i64) (M7) 58 D ba av bt none∧M9 (M3 eI (Mi (M7))) 45 D (fl S) E aD aB∧M9 (M3 eI (M7)) 52 D (fl S) aJ a5 a6∧D.heap[d]? = some (.cells #[Vl ax au ay,Vi aw,Vl ao Y ap,Vl ah U ai,Vl Z L aa,.map (some F),.map (some av),Vl E aB aD,Vl aJ a6 a5] 95 (0,0))) [[o],[F],ba,Bk E,Bk aJ,[d],y]) (fun s=>s.1) (bC,([]:List (Int×(List (Int×Int×Int×Int)))),([]:List (Int×(List (Int×Int×Int×Int)))),([]:List (Int×Int×Int×Int×Int)),0,[av],none,0,none,0) ⟨R,R,R,R,R,T0⟩ ⟨bK,m,a,k,i,f,g,h,q,z,x,bw,bU,v⟩ ?_);rintro ⟨bC,bt,aB,a6,X,ba,E,aD,aJ,a5⟩ aG cY ⟨bv,m,a,k,i,f,g,h,q,z,x,r,w,v⟩;rcases bC with _ | bC
 · exact (Lz bv).elim
 obtain ⟨en,t,bv⟩:=Bs bv;refine Cs (Xu 1 [(44,Bd (X<((L).length:Int)))] (Xk (Cn [(1,Vp o 0),(6,Vp d 0),(41,Vl Z L aa),(42,Vi ((L).length:Int)),(43,Vi X),(44,Bd (X<((L).length:Int)))] (fun aG=>?_))));refine Cq (Ci _ R t (fun t=>?_) (fun t=>?_))
 · refine Ck (Kt (Cq (Cb (Cs (Xu 1 [(45,Vi X)] ?_)))));obtain ⟨aj,ek,t⟩:=Bs t;obtain ⟨c1,eA,dY,dq,dd⟩:=Ri (Mo:=[]) TK h ek;obtain ⟨_,_,rfl,rfl,⟨_,_,rfl,rfl,⟨_,_,rfl,rfl,⟨_,_,rfl,rfl,⟨_,_,rfl,⟨bk,bm,rfl,H⟩,⟨bl,bn,rfl,I⟩⟩⟩⟩⟩⟩:=dd;refine Yi _ _ _ R dY (Yl (.pointer (some c1)) (.agg #[Vi aj.1,Vi aj.2.1,Vi aj.2.2.1,Vi aj.2.2.2.1,Vl bk aj.2.2.2.2.1 bm,Vl bl aj.2.2.2.2.2 bn]) R (R8 TY dq (fun _ t=>by cases t)) ?_);refine Xj #[Vi 0,Vi 0,Vi 0,Vi 0,Z0,Z0] R (fun B eQ cJ N dv=>?_);have k:=k.box m.size cJ;obtain ⟨q,i,f,g,h,v,z,x,r,w,H,I,a,m⟩:=E14 (Cx.b a dv cJ N) q i f g h v z x r w H I a m;refine Xu 1 [(9,Vi X)] ?_;obtain ⟨eS,dZ,df,cl⟩:=Sa [Vi aj.1,Vi aj.2.1,Vi aj.2.2.1,Vi aj.2.2.2.1,Vl bk aj.2.2.2.2.1 bm,Vl bl aj.2.2.2.2.2 bn] TY N R R R;refine Xp dZ R ?_;obtain ⟨q,i,f,g,h,v,z,x,r,w,H,I,a⟩:=E13 (Cx.j a 0 cl) q i f g h v z x r w H I a;have m:=m.th cl k 0;have N:=df;refine Xk (Cq (Cs (Yg o 0 3 (Vl ah U ai) R R (Rf Pq _) PQ q nn R (Xz PB R (Xu 1 [(51,Vi 0)] (Xk (Cb ?_)))))));obtain ⟨i,f,g,h,r,w,H,I,a⟩:=E9 (Cx.s a [1,2,3,4,5,6,0,7]) i f g h r w H I a;have k:=k.px [1,2,3,4,5,6,0];obtain ⟨c8,bL,db⟩:=Bs t;obtain ⟨bh,bL⟩:=Lo bL;refine Cl (Lr hmx (σ:=Nat×(List (Int×(List (Int×Int×Int×Int))))×(List (Int×Int×Int×Int×Int))×Int×List Nat×Option Addr×Nat) (fun s=>match s with | (_,aC,aH,aF,K,J,aO)=>[(1,Vp o 0),(6,Vp d 0),(9,Vi X),(10,Vp B 0),(41,Vl Z L aa),(42,Vi ((L).length:Int)),(43,Vi X),(49,Vl ah U ai),(50,Vi ((U).length:Int)),(51,Vi aF)]) (fun s D=>match s with | (bA,aC,aH,aF,K,J,aO)=>Mh (Wx au aw Y U L aK aB X) bA (aC,aH,aF)=some c8∧Ev [] am D∧(fun S=>MS D S∧FR am.heap.size [[o],[F],K,Bk E,Bk J,[d],[B]]∧Ma (M3 eI (M3 Mv (M3 eI (M3 eI (M7))))) D (fl S) ax ay au∧Ma (M3 eI eI) D (fl S) ao ap Y∧Ma (M7) D (fl S) ah ai U∧Ma (M3 eI (M3 eI (M3 eI (M3 eI (M3 (Mi eI) (Mi eI)))))) D (fl S) Z aa L∧D.heap[o]? = some (.cells #[Vl ax au ay,Vi aw,Vl ao Y ap,Vl ah U ai,Vl Z L aa] 30 (0,0))∧PA (Value.int .i64) (Value.int .i64) D F aK∧Ve (Value.int .i64) (M7) 58 D K av aC none∧M9 (M3 eI (Mi (M7))) 45 D (fl S) E aD aB∧M9 (M3 eI (M7)) 52 D (fl S) J aO aH∧D.heap[d]? = some (.cells #[Vl ax au ay,Vi aw,Vl ao Y ap,Vl ah U ai,Vl Z L aa,.map (some F),.map (some av),Vl E aB aD,Vl J aH aO] 95 (0,0))∧Ma eI D (fl S) bk bm aj.2.2.2.2.1∧Ma eI D (fl S) bl bn aj.2.2.2.2.2∧D.heap[B]? = some (.cells #[Vi aj.1,Vi aj.2.1,Vi aj.2.2.1,Vi aj.2.2.2.1,Vl bk aj.2.2.2.2.1 bm,Vl bl aj.2.2.2.2.2 bn] 47 (0,0))) [[o],[F],K,Bk E,Bk J,[d],[B],y]) (fun s=>s.1) (bh,bt,a6,0,ba,aJ,a5) ⟨R,R,R,R,R,R,R,R,R,R,T0⟩ ⟨bL,m,a,k,i,f,g,h,q,z,x,r,w,v,H,I,N⟩ ?_);rintro ⟨bh,aC,aH,aF,K,J,aO⟩ aG b4 ⟨bf,m,a,k,i,f,g,h,q,z,x,r,w,v,H,I,N⟩;rcases bh with _ | bh
   · exact (Lz bf).elim
   obtain ⟨eo,t,bf⟩:=Bs bf;refine Cs (Xu 1 [(52,Bd (aF<((U).length:Int)))] (Xk (Cn [(1,Vp o 0),(6,Vp d 0),(9,Vi X),(10,Vp B 0),(41,Vl Z L aa),(42,Vi ((L).length:Int)),(43,Vi X),(49,Vl ah U ai),(50,Vi ((U).length:Int)),(51,Vi aF),(52,Bd (aF<((U).length:Int)))] (fun aG=>?_))));refine Cq (Ci _ R t (fun t=>?_) (fun t=>?_))
   · refine Ck (Kt (Cq (Cb (Cs ?_))));obtain ⟨p,em,t⟩:=Bs t;refine Zf [Vi p.1,Vi p.2.1,Vi p.2.2.1,Vi p.2.2.2] (g.el PB) Vj em R (fun _=>R) (fun _=>Xj #[Vi 0,Vi 0,Vi 0,Vi 0] R (fun ad eU cK aI dw=>?_));have k:=k.box m.size cK;obtain ⟨q,i,f,g,h,v,z,x,r,w,N,H,I,a,m⟩:=E15 (Cx.b a dw cK aI) q i f g h v z x r w N H I a m;obtain ⟨eX,d0,dg,cm⟩:=Sa [Vi p.1,Vi p.2.1,Vi p.2.2.1,Vi p.2.2.2] Vj aI R R R;refine Xp d0 R ?_;obtain ⟨q,i,f,g,h,v,z,x,r,w,N,H,I,a⟩:=E14 (Cx.j a 0 cm) q i f g h v z x r w N H I a;have m:=m.th cm k 0;have aI:=dg;refine Xk (Cs (Yg ad 0 3 (Vi p.2.2.2) R R (Rf Zk _) M5 aI nn R (Xu 2 [(57,Vi X),(58,.bool (p.2.2.2==X))] (Xk (Ci _ R t (fun t=>?_) (fun t=>?_))))))
     · refine Cp (Xu 1 [(59,Vp d 0)] (Yl _ _ R (Ra 0 [Vi p.1,Vi p.2.1,Vi p.2.2.1,Vi p.2.2.2] Vj aI nn R) (M8E 24 #[] #[] [Vp d 0,.agg #[Vi p.1,Vi p.2.1,Vi p.2.2.1,Vi p.2.2.2]] R R R R (Cv hmx Tryz.func24 (by kernel_rfl) R (rs:=[]) R (by kernel_rfl) (by kernel_rfl) ?_))));refine Cs (Xo R (fun Q b1 cL aA dx=>?_));have k:=k.box m.size cL;obtain ⟨q,i,f,g,h,v,z,x,r,w,N,H,I,aI,a,m⟩:=E16 (Cx.b a dx cL aA) q i f g h v z x r w N H I aI a m;refine Xk (Cn [(0,Vp d 0),(3,Vp Q 0)] (fun aG=>?_));refine Cq (Cd [] [(0,false),(1,false),(2,false),(3,false),(4,false),(5,false),(6,false),(7,false),(8,false),(9,false),(10,false),(11,false),(12,false),(13,false),(14,true),(15,false)] _ (by kernel_rfl) R ?_);obtain ⟨q,i,f,g,h,v,z,x,r,w,N,H,I,aI,aA,a,m⟩:=E17 (Cx.e a (Ev.drew b1)) q i f g h v z x r w N H I aI aA a m;refine Xu 1 [(5,Vp d 0)] (Yg Q 0 1 (Vi p.2.1) R R (Rf Wh _) M5 aA nn R (Yg Q 0 0 (Vi p.1) R R (Rf MY _) M5 aA nn R (Yg Q 0 0 (Vi p.1) R R (Rf MY _) M5 aA nn R (Xu 2 [(12,Vp d 0),(13,Vp d 0)] (Yf (Vp d 0) (Vp d 0) R (Rf Wi _) (Yf (Vp d 0) (Vp d 1) R (Rf Vk _) ?_))))));refine Yl _ (Vi aw) R (Rb M5 v nn 1 _ R) (Xu 1 [(17,Vi (M4 (p.1+aw)))] (Xg (.agg #[Vi p.2.1,Vi 0,Vi p.1,Vi (M4 (p.1+aw))]) R ?_));obtain ⟨aS,ar,t⟩:=Bs t;have a0:MS (b1).drew ([[d]]++[[Q],[ad],[o],[B],y]):=a.pk [7,0,1,2,8,9] _ R;have bg:∀ O∈fl ([[d]]++[[Q],[ad],[o],[B],y]),O∈fl [[Q],[ad],[o],[F],K,Bk E,Bk J,[d],[B],y]:=Pk [7,0,1,2,8,9] _ R;have ae:∀ O∈fl ([[d]]++[(fl [[Q],[ad],[o],[B],y])]),O∈fl [[Q],[ad],[o],[F],K,Bk E,Bk J,[d],[B],y]:=fun O ar=>bg O (Fu O ar)
       have a7:=M0Z d ax ay au aw ao ap Y ah ai U Z aa L F aK av aC E aD aB J aO aH p.2.1 0 p.1 (M4 (p.1+aw)) _ (b1).drew (fl [[Q],[ad],[o],[B],y]) (a0.fold (P:=[[d]])) (i.sub ae) (f.sub ae) (g.sub ae) (h.sub ae) (PA.ro (fun _ _ _=>R) z ((fun A G ak=>Mq a 3 R [some 7,some 0,some 1,some 2,some 8,some 9] ([[d]]++[[Q],[ad],[o],[B],y]) R R A G (Fu A ak)) _ PI)) (Ve.ro (Pp (Pi _) (Pp (Pi _) (Pp (Pi _) (Pi _)))) x (fun A G ak=>Mq a 4 R [some 7,some 0,some 1,some 2,some 8,some 9] ([[d]]++[[Q],[ad],[o],[B],y]) R R A G (Fu A ak))) (r.ro ae (fun A G ak=>Mq a 5 R [some 7,some 0,some 1,some 2,some 8,some 9] ([[d]]++[[Q],[ad],[o],[B],y]) R R A G (Fu A ak))) (w.ro ae (fun A G ak=>Mq a 6 R [some 7,some 0,some 1,some 2,some 8,some 9] ([[d]]++[[Q],[ad],[o],[B],y]) R R A G (Fu A ak))) v ar;refine Xv a7 R ?_;rintro bq cQ ⟨rfl,cn,dG⟩;obtain ⟨q,i,f,g,h,z,x,r,w,N,H,I,aI,aA,a⟩:=E15 (Cx.c0 a [7] cn) q i f g h z x r w N H I aI aA a;have aY:∀ A∈fl [[d]],am.heap.size≤A:=FR.mem (ls:=[[d]]) (k.pk [7] _ R);have m:=m.then cn (fun A G=>.inr (aY A G));have v:=dG;refine Xu 1 [(4,Vi aS)] (Xk (Cq (Pg (σ:=Bool) (fun s=>match s with | bD=>[(0,Vp d 0),(3,Vp Q 0),(4,Vi aS),(26,.bool bD)]) (fun s D=>match s with | bD=>VC aC aH aF p aS bD=some eo∧Ev [] am D∧(fun S=>MS D S∧FR am.heap.size [[F],K,Bk E,Bk J,[d],[Q],[o],[B],[ad]]∧Ma (M3 eI (M3 Mv (M3 eI (M3 eI (M7))))) D (fl S) ax ay au∧Ma (M3 eI eI) D (fl S) ao ap Y∧Ma (M7) D (fl S) ah ai U∧Ma (M3 eI (M3 eI (M3 eI (M3 eI (M3 (Mi eI) (Mi eI)))))) D (fl S) Z aa L∧PA (Value.int .i64) (Value.int .i64) D F aK∧Ve (Value.int .i64) (M7) 58 D K av aC none∧M9 (M3 eI (Mi (M7))) 45 D (fl S) E aD aB∧M9 (M3 eI (M7)) 52 D (fl S) J aO aH∧D.heap[d]? = some (.cells #[Vl ax au ay,Vi aw,Vl ao Y ap,Vl ah U ai,Vl Z L aa,.map (some F),.map (some av),Vl E aB aD,Vl J aH aO] 95 (0,0))∧D.heap[Q]? = some (.cells #[Vi p.1,Vi p.2.1,Vi p.2.2.1,Vi p.2.2.2] 58 (0,0))∧D.heap[o]? = some (.cells #[Vl ax au ay,Vi aw,Vl ao Y ap,Vl ah U ai,Vl Z L aa] 30 (0,0))∧Ma eI D (fl S) bk bm aj.2.2.2.2.1∧Ma eI D (fl S) bl bn aj.2.2.2.2.2∧D.heap[B]? = some (.cells #[Vi aj.1,Vi aj.2.1,Vi aj.2.2.1,Vi aj.2.2.2.1,Vl bk aj.2.2.2.2.1 bm,Vl bl aj.2.2.2.2.2 bn] 47 (0,0))∧D.heap[ad]? = some (.cells #[Vi p.1,Vi p.2.1,Vi p.2.2.1,Vi p.2.2.2] 58 (0,0))) [[F],K,Bk E,Bk J,[d],[Q],[o],[B],[ad],y]) ?_ ?_)))
       · refine Cp (Xu 3 [(20,Vi aS),(21,Bd (aS≥0)),(22,Bd (aS≥0))] (Xw 22 _ R t (fun t=>?_) (fun t=>?_)))
         · refine Xu 4 [(23,U0),(24,U0),(25,U0),(26,.bool true)] (Xe R ?_);obtain ⟨i,f,g,h,r,w,H,I,a⟩:=E9 (Cx.s a [3,4,5,6,7,0,2,8,1,9]) i f g h r w H I a;have k:=k.px [3,4,5,6,7,0,2,8,1];exact Kt ⟨true,⟨R,R,R,R,T0⟩,t,m,a,k,i,f,g,h,z,x,r,w,v,aA,q,H,I,N,aI⟩
         refine Xu 1 [(23,Vp d 0)] (Yl _ _ R (Ra 0 [Vi p.1,Vi p.2.1,Vi p.2.2.1,Vi p.2.2.2] Vj aA nn R) ?_);obtain ⟨cZ,ar,t⟩:=Bs t;have a0:MS cQ ([[d]]++[[Q],[ad],[o],[B],y]):=a.pk [7,0,1,2,8,9] _ R;have bg:∀ O∈fl ([[d]]++[[Q],[ad],[o],[B],y]),O∈fl [[Q],[ad],[o],[F],K,Bk E,Bk J,[d],[B],y]:=Pk [7,0,1,2,8,9] _ R;have ae:∀ O∈fl ([[d]]++[(fl [[Q],[ad],[o],[B],y])]),O∈fl [[Q],[ad],[o],[F],K,Bk E,Bk J,[d],[B],y]:=fun O ar=>bg O (Fu O ar)
         have a7:=M0t d ax ay au aw ao ap Y ah ai U Z aa L F aK av aC E aD aB J aO aH p.1 p.2.1 p.2.2.1 p.2.2.2 _ cQ (fl [[Q],[ad],[o],[B],y]) (a0.fold (P:=[[d]])) (i.sub ae) (f.sub ae) (g.sub ae) (h.sub ae) (PA.ro (fun _ _ _=>R) z ((fun A G ak=>Mq a 3 R [some 7,some 0,some 1,some 2,some 8,some 9] ([[d]]++[[Q],[ad],[o],[B],y]) R R A G (Fu A ak)) _ PI)) (Ve.ro (Pp (Pi _) (Pp (Pi _) (Pp (Pi _) (Pi _)))) x (fun A G ak=>Mq a 4 R [some 7,some 0,some 1,some 2,some 8,some 9] ([[d]]++[[Q],[ad],[o],[B],y]) R R A G (Fu A ak))) (r.ro ae (fun A G ak=>Mq a 5 R [some 7,some 0,some 1,some 2,some 8,some 9] ([[d]]++[[Q],[ad],[o],[B],y]) R R A G (Fu A ak))) (w.ro ae (fun A G ak=>Mq a 6 R [some 7,some 0,some 1,some 2,some 8,some 9] ([[d]]++[[Q],[ad],[o],[B],y]) R R A G (Fu A ak))) v ar;refine Xv a7 R ?_;rintro bq eY ⟨rfl,co,dH⟩;obtain ⟨q,i,f,g,h,z,x,r,w,N,H,I,aI,aA,a⟩:=E15 (Cx.c0 a [7] co) q i f g h z x r w N H I aI aA a;have aY:∀ A∈fl [[d]],am.heap.size≤A:=FR.mem (ls:=[[d]]) (k.pk [7] _ R);have m:=m.then co (fun A G=>.inr (aY A G));have v:=dH;refine Xu 1 [(26,.bool cZ)] (Xe R ?_);obtain ⟨i,f,g,h,r,w,H,I,a⟩:=E9 (Cx.s a [3,4,5,6,7,0,2,8,1,9]) i f g h r w H I a;have k:=k.px [3,4,5,6,7,0,2,8,1];exact Kt ⟨cZ,⟨R,R,R,R,T0⟩,t,m,a,k,i,f,g,h,z,x,r,w,v,aA,q,H,I,N,aI⟩
       rintro bD aG b3 ⟨t,m,a,k,i,f,g,h,z,x,r,w,v,aA,q,H,I,N,aI⟩;refine Ci bD R t (fun t=>?_) (fun t=>?_)
       · refine Cq (Cd [] [(0,false),(1,false),(2,false),(3,false),(4,false),(5,false),(6,false),(7,false),(8,false),(9,false),(10,false),(11,false),(12,false),(13,false),(14,true),(15,false),(16,false),(17,true)] _ (by kernel_rfl) R ?_);obtain ⟨v,i,f,g,h,z,x,r,w,aA,q,N,H,I,a,m⟩:=E16 (Cx.e a (Ev.drew b3)) v i f g h z x r w aA q N H I a m;refine Xu 3 [(27,Vp d 0),(28,Vp d 0),(29,Vp d 0)] (Yg d 0 8 (Vl J aH aO) R R (Rf Vm _) Wu v nn R (Yg Q 0 3 (Vi p.2.2.2) R R (Rf Zk _) M5 aA nn R (Xu 1 [(34,Vi aS)] (Yg Q 0 1 (Vi p.2.1) R R (Rf Wh _) M5 aA nn R (Yg Q 0 0 (Vi p.1) R R (Rf MY _) M5 aA nn R ?_)))));refine Xg (.agg #[Vi 1,Vi p.2.2.2,Vi aS,Vi p.2.1,Vi p.1]) R (Xb #[Vi 1,Vi p.2.2.2,Vi aS,Vi p.2.1,Vi p.1] 52 R R R (by kernel_rfl) (fun ey eZ dN dh cp eH=>?_));refine ⟨.inr cp,?_⟩;have af:=Cx.e a cp;obtain ⟨v,i,f,g,h,z,x,r,w,q,N,H,I,a,m⟩:=E15 af v i f g h z x r w q N H I a m;have eb:=af.l (e:=(M3 eI (M7))) dN dh 1 [(1,p.2.2.2,aS,p.2.1,p.1)];have bd:=Gl t;have t:=Gr t;obtain ⟨b5,cc,e0,d1,cq,cB,eB,ef⟩:=Mb M7n 37 w (Mf 3 R) eb bd;refine Xx R (Rn d1) ?_;have af:=Cx.u a 3 cq cB;obtain ⟨v,i,f,g,h,z,x,r,q,N,H,I,a⟩:=E13 af v i f g h z x r q N H I a;have aZ:=k.ux 3 m cB;have m:=m.th cq k 3;have k:=aZ;have w:=ef _ af.st.new;refine Xu 1 [(42,Vp d 0)] (Yf (Vp d 0) (Vp d 8) R (Rf Vm _) ?_);obtain ⟨e1,d2,di,cr⟩:=Sx 8 (Vl b5 ((aH++([(1,p.2.2.2,aS,p.2.1,p.1)]:List (Int×Int×Int×Int×Int)))) cc) Wu v;refine Xp d2 R ?_;obtain ⟨i,f,g,h,z,x,r,w,q,N,H,I,a⟩:=E13 (Cx.j a 4 cr) i f g h z x r w q N H I a;have m:=m.th cr k 4;have v:=di;refine Xk (RJ [] T0 (fun aG=>?_));refine Cr (Kr (Rr (Rv [] T0 ?_)));refine I1 (Xe R (Kl (Kt (Cn [(1,Vp o 0),(6,Vp d 0),(9,Vi X),(10,Vp B 0),(41,Vl Z L aa),(42,Vi ((L).length:Int)),(43,Vi X),(49,Vl ah U ai),(50,Vi ((U).length:Int)),(51,Vi aF)] (fun aG=>?_)))));refine Cp (Xu 2 [(62,Vi (M4 (aF+1))),(51,Vi (M4 (aF+1)))] (Xe R ?_));obtain rfl:=Sj t;obtain ⟨i,f,g,h,r,w,H,I,a⟩:=E9 (Cx.s a [6,0,1,2,3,4,7,9]) i f g h r w H I a;have k:=k.px [6,0,1,2,3,4,7];exact Kt ⟨(bh,aC,(aH++([(1,p.2.2.2,aS,p.2.1,p.1)]:List (Int×Int×Int×Int×Int))),M4 (aF+1),K,b5,cc),⟨R,R,R,R,R,R,R,R,R,R,T0⟩,⟨bf,m,a,k,i,f,g,h,q,z,x,r,w,v,H,I,N⟩,Ns _⟩
       refine Ck (Kt (Cn [(0,Vp d 0),(3,Vp Q 0)] (fun aG=>?_)));obtain ⟨bb,cd,aU,be,dc,a8,bX,bY,ea⟩:=Ve.opn p.2.1 x;have x:=dc;have bS:=a.split 1 R bY bX ea;have aq:∀ O∈fl [Bk bb,[F],aU,Bk E,Bk J,[d],[Q],[o],[B],[ad],y],O∈fl [[F],K,Bk E,Bk J,[d],[Q],[o],[B],[ad],y]:=M7P (ls:=[[F],K,Bk E,Bk J,[d],[Q],[o],[B],[ad],y]) 1 R bY bX;replace a:MS b3 [Bk bb,[F],aU,Bk E,Bk J,[d],[Q],[o],[B],[ad],y]:=bS;replace k:FR am.heap.size [Bk bb,[F],aU,Bk E,Bk J,[d],[Q],[o],[B],[ad]]:=(k.upd 1 R m.size (fun A G=>.inl (bX A G))).push (fun A G=>k.at 1 R A (bY A G));have i:=i.sub aq;have f:=f.sub aq;have g:=g.sub aq;have h:=h.sub aq;have r:=r.sub aq;have w:=w.sub aq;have H:=H.sub aq;have I:=I.sub aq;have a8:=a8.pl a;refine Cd (Bk bb) [(0,false),(1,false),(2,false),(3,false),(4,false),(5,false),(6,false),(7,false),(8,false),(9,false),(10,false),(11,false),(12,false),(13,true),(14,false),(15,false),(16,true)] _ (by kernel_rfl) R ?_;obtain ⟨v,i,f,g,h,z,x,r,w,aA,q,N,H,I,a8,be,a,m⟩:=E18 (Cx.e a (Ev.drew b3)) v i f g h z x r w aA q N H I a8 be a m;refine Xu 2 [(44,Vp d 0),(45,Vp d 0)] (Yf (Vp d 0) (Vp d 6) R (Rf M0U _) (Yl _ (.map (some av)) R (Rb M2w v ((a.apart 5 0 R R R) _ PI) 6 _ R) (Yf (Vp Q 0) (Vp Q 1) R (Rf Wh _) (Yl _ (Vi p.2.1) R (Rb M5 aA ((a.apart 6 0 R R R) _ PI) 1 _ R) (Xu 2 [(50,Vp d 0),(51,Vp d 0)] (Yf (Vp d 0) (Vp d 6) R (Rf M0U _) (Yl _ (.map (some av)) R (Rb M2w v ((a.apart 5 0 R R R) _ PI) 6 _ R) (Yf (Vp Q 0) (Vp Q 1) R (Rf Wh _) (Yl _ (Vi p.2.1) R (Rb M5 aA ((a.apart 6 0 R R R) _ PI) 1 _ R) ?_)))))))));refine WQ (xv:=.map (some av)) (yv:=Vi p.2.1) (Vl bb (((Mu aC p.2.1).getD [])) cd) R R R R (M2U.look (Mo:=(Bk bb)) M2Z M23 (fun am=>by kernel_rfl) be ((a.apart 2 0 R R R) _ x.mem)) ?_;refine Yl _ _ R (Ra 0 [Vi p.1,Vi p.2.1,Vi p.2.2.1,Vi p.2.2.2] Vj aA nn R) (Xb #[Vi p.1,Vi p.2.1,Vi p.2.2.1,Vi p.2.2.2] 58 R R R (by kernel_rfl) (fun c2 e2 dO dj ct eJ=>?_));refine ⟨.inr (ct.nil),?_⟩;have af:=Cx.e a ct;obtain ⟨v,i,f,g,h,z,x,r,w,q,N,H,I,a8,be,a,m⟩:=E17 af v i f g h z x r w q N H I a8 be a m;have ec:=af.l (e:=(M7)) dO dj 1 [(p.1,p.2.1,p.2.2.1,p.2.2.2)];have bd:=Gl t;have t:=Gr t;obtain ⟨a4,c5,cS,d3,bE,cC,eC,eg⟩:=Mb M3W 27 a8 (Mf 0 R) ec bd;refine Ta (vs:=[Vl bb (((Mu aC p.2.1).getD [])) cd,Vl (Ad c2 0) (([(p.1,p.2.1,p.2.2.1,p.2.2.2)]:List (Int×Int×Int×Int))) 1]) _ cS R R R R (MG _ _ _ _ d3) (⟨.inr bE,?_⟩);have af:=Cx.u a 0 bE cC;have be:=be.step bE ((a.apart 2 0 R R R) _ x.mem);obtain ⟨v,i,f,g,h,z,x,r,w,q,N,H,I,a⟩:=E14 af v i f g h z x r w q N H I a;have aZ:=k.ux 0 m cC;have m:=m.th bE k 0;have k:=aZ;have a8:=eg _ af.st.new;obtain ⟨eu,d4,bF,cg⟩:=Ve.cls (P:=Tryz.prog) (Pp (Pi _) (Pp (Pi _) (Pp (Pi _) (Pi _)))) M2Z M23 p.2.1 x a8 (a.apart 0 2 R R R);refine Wc (xv:=.map (some av)) (yv:=Vi p.2.1) (zv:=Vl a4 ((((Mu aC p.2.1).getD [])++([(p.1,p.2.1,p.2.2.1,p.2.2.2)]:List (Int×Int×Int×Int)))) c5) eu R R R R R d4 (I1 ?_);have bF:=bF.sub (fun O ar=>by simp only [List.mem_singleton] at ar; subst ar; exact cg.mem);have bS:=a.merge (C:=Bk a4++aU) 0 2 R R (fun O ar=>List.mem_append.1 ar);replace k:FR am.heap.size [[F],Bk a4++aU,Bk E,Bk J,[d],[Q],[o],[B],[ad]]:=(FR.cons (k.at 1 R) (FR.cons (fun A G=>(List.mem_append.1 G).elim (k.at 0 R A) (k.at 2 R A)) (FR.cons (k.at 3 R) (FR.cons (k.at 4 R) (FR.cons (k.at 5 R) (FR.cons (k.at 6 R) (FR.cons (k.at 7 R) (FR.cons (k.at 8 R) (FR.cons (k.at 9 R) (FR.nil _))))))))))
       have aq:∀ O∈fl [[F],Bk a4++aU,Bk E,Bk J,[d],[Q],[o],[B],[ad],y],O∈fl [Bk a4,[F],aU,Bk E,Bk J,[d],[Q],[o],[B],[ad],y]:=ZH (ls:=[Bk a4,[F],aU,Bk E,Bk J,[d],[Q],[o],[B],[ad],y]) (C:=Bk a4++aU) 0 2 R R (fun O ar=>List.mem_append.1 ar);replace a:MS cS [[F],Bk a4++aU,Bk E,Bk J,[d],[Q],[o],[B],[ad],y]:=bS;have i:=i.sub aq;have f:=f.sub aq;have g:=g.sub aq;have h:=h.sub aq;have r:=r.sub aq;have w:=w.sub aq;have H:=H.sub aq;have I:=I.sub aq;obtain ⟨v,i,f,g,h,z,r,w,q,N,H,I,a⟩:=E13 (Cx.j a 1 bF) v i f g h z r w q N H I a;have m:=m.th bF k 1;have x:=cg;refine Xe R (M5c (Rv [] T0 ?_));refine I1 (Xe R (Kl (Kt (Cn [(1,Vp o 0),(6,Vp d 0),(9,Vi X),(10,Vp B 0),(41,Vl Z L aa),(42,Vi ((L).length:Int)),(43,Vi X),(49,Vl ah U ai),(50,Vi ((U).length:Int)),(51,Vi aF)] (fun aG=>?_)))));refine Cp (Xu 2 [(62,Vi (M4 (aF+1))),(51,Vi (M4 (aF+1)))] (Xe R ?_));obtain rfl:=Sj t;obtain ⟨i,f,g,h,r,w,H,I,a⟩:=E9 (Cx.s a [6,0,1,2,3,4,7,9]) i f g h r w H I a;have k:=k.px [6,0,1,2,3,4,7];exact Kt ⟨(bh,(P4 aC p.2.1 (((Mu aC p.2.1).getD [])++([(p.1,p.2.1,p.2.2.1,p.2.2.2)]:List (Int×Int×Int×Int)))),aH,M4 (aF+1),Bk a4++aU,J,aO),⟨R,R,R,R,R,R,R,R,R,R,T0⟩,⟨bf,m,a,k,i,f,g,h,q,z,x,r,w,v,H,I,N⟩,Ns _⟩
     refine Ck (Kl (Kt (Cp (Xu 2 [(62,Vi (M4 (aF+1))),(51,Vi (M4 (aF+1)))] (Xe R ?_)))));obtain rfl:=Sj t;obtain ⟨i,f,g,h,r,w,H,I,a⟩:=E9 (Cx.s a [1,2,3,4,5,6,7,8]) i f g h r w H I a;have k:=k.px [1,2,3,4,5,6,7];exact Kt ⟨(bh,aC,aH,M4 (aF+1),K,J,aO),⟨R,R,R,R,R,R,R,R,R,R,T0⟩,⟨bf,m,a,k,i,f,g,h,q,z,x,r,w,v,H,I,N⟩,Ns _⟩
   refine Ce (Ke ?_);obtain rfl:=Sj t;have bz:=Sj bf;subst bz;have t:=db;refine Ke (Ki (Kt (Cn [(1,Vp o 0),(6,Vp d 0),(9,Vi X),(10,Vp B 0),(41,Vl Z L aa),(42,Vi ((L).length:Int)),(43,Vi X)] (fun aG=>?_))));refine Cs (Xu 2 [(63,Vp d 0),(64,Vi X)] ?_);obtain ⟨an,ar,t⟩:=Bs t;have a0:MS b4 ([[d],Bk J]++[[o],[B],y]):=a.pk [5,4,0,6,7] _ R;have bg:∀ O∈fl ([[d],Bk J]++[[o],[B],y]),O∈fl [[o],[F],K,Bk E,Bk J,[d],[B],y]:=Pk [5,4,0,6,7] _ R;have ae:∀ O∈fl ([[d],Bk J]++[(fl [[o],[B],y])]),O∈fl [[o],[F],K,Bk E,Bk J,[d],[B],y]:=fun O ar=>bg O (Fu O ar)
   have a7:=M1L d ax ay au aw ao ap Y ah ai U Z aa L F aK av aC E aD aB J aO aH X _ b4 (fl [[o],[B],y]) (a0.fold (P:=[[d],Bk J])) (i.sub ae) (f.sub ae) (g.sub ae) (h.sub ae) (PA.ro (fun _ _ _=>R) z ((fun A G ak=>Mq a 1 R [some 5,some 4,some 0,some 6,some 7] ([[d],Bk J]++[[o],[B],y]) R R A G (Fu A ak)) _ PI)) (Ve.ro (Pp (Pi _) (Pp (Pi _) (Pp (Pi _) (Pi _)))) x (fun A G ak=>Mq a 2 R [some 5,some 4,some 0,some 6,some 7] ([[d],Bk J]++[[o],[B],y]) R R A G (Fu A ak))) (r.ro ae (fun A G ak=>Mq a 3 R [some 5,some 4,some 0,some 6,some 7] ([[d],Bk J]++[[o],[B],y]) R R A G (Fu A ak))) (w.sub ae) v ar;refine Xv a7 R ?_;rintro bq ev ⟨ab,aX,ac,c4,rfl,a9,dI,dJ,dD,bO,bG,al⟩;have aL:MS b4 ([[d],Bk J]++[[o],[F],K,Bk E,[B],y]):=a.pk [5,4,0,1,2,3,6,7] _ R;have bx:∀ O∈fl ([[d],Bk J]++[[o],[F],K,Bk E,[B],y]),O∈fl [[o],[F],K,Bk E,Bk J,[d],[B],y]:=Pk [5,4,0,1,2,3,6,7] _ R;have b0:=Ro.call (LS:=[[o],[F],K,Bk E,Bk J,[d],[B],y]) (res:=[Bk ab]) (par:=[[d],Bk ac]) (R:=[[o],[F],K,Bk E,[B],y]) a9 (fun A G=>bx A (M2R (P:=[[d],Bk J]) A G)) bO bG (fun O ar=>bx O (M1A (P:=[[d],Bk J]) O ar));have bZ:∀ O∈fl [Bk ab,[o],[F],K,Bk E,Bk ac,[d],[B],y],O∈fl ([Bk ab]++([[d],Bk ac]++[[o],[F],K,Bk E,[B],y])):=Pk [0,3,4,5,6,2,1,7,8] _ R;have af:=b0.res bZ;have q:=a9.box q ((MS.outs (P:=[[d],Bk J]) aL 0 R) _ PI);have i:=i.step af;have f:=f.step af;have g:=g.step af;have h:=h.step af;have z:=z.step a9 ((MS.outs (P:=[[d],Bk J]) aL 1 R) _ PI);have x:=x.step (Pp (Pi _) (Pp (Pi _) (Pp (Pi _) (Pi _)))) a9 (MS.outs (P:=[[d],Bk J]) aL 2 R);have r:=r.step af a9 (MS.outs (P:=[[d],Bk J]) aL 3 R);have N:=a9.box N ((MS.outs (P:=[[d],Bk J]) aL 4 R) _ PI);replace a:MS ev [Bk ab,[o],[F],K,Bk E,Bk ac,[d],[B],y]:=(MS.call (P:=[[d],Bk J]) (R:=[[o],[F],K,Bk E,[B],y]) (res:=[Bk ab]) (par:=[[d],Bk ac]) aL a9 dD bO bG).pick [some 0,some 3,some 4,some 5,some 6,some 2,some 1,some 7,some 8] _ R;have aY:∀ A∈fl [[d],Bk J],am.heap.size≤A:=FR.mem (ls:=[[d],Bk J]) (k.pk [5,4] _ R);have aZ:FR am.heap.size [Bk ab,[o],[F],K,Bk E,Bk ac,[d],[B]]:=(FR.cons (fun A G=>Nat.le_trans m.size (bO.at 0 R A G)) (FR.cons (k.at 0 R) (FR.cons (k.at 1 R) (FR.cons (k.at 2 R) (FR.cons (k.at 3 R) (FR.cons (fun A G=>(bG.at 1 R A G).elim (fun t=>aY A t) (fun t=>Nat.le_trans m.size t)) (FR.cons (fun A G=>(bG.at 0 R A G).elim (fun t=>aY A t) (fun t=>Nat.le_trans m.size t)) (FR.cons (k.at 6 R) (FR.nil _)))))))))
   have m:=m.then a9 (fun A G=>.inr (aY A G));have k:=aZ;have v:=dI;have w:=M9.plain (M':=fl [Bk ab,[o],[F],K,Bk E,Bk ac,[d],[B],y]) (Pp (Pi _) (Pp (Pi _) (Pp (Pi _) (Pp (Pi _) (Pi _))))) dJ;have al:=al.pl a;refine Xj #[Vi 0,Z0] R (fun ag e3 cO aE dz=>?_);have k:=k.box m.size cO;obtain ⟨q,i,f,g,h,v,z,x,r,w,N,al,a,m⟩:=E14 (Cx.b a dz cO aE) q i f g h v z x r w N al a m;obtain ⟨b2,d5,dk,cu⟩:=Sa [Vi an.1.1,Vl ab an.1.2 aX] WY aE R R R;refine Xp d5 R ?_;obtain ⟨q,i,f,g,h,v,z,x,r,w,N,al,a⟩:=E13 (Cx.j a 0 cu) q i f g h v z x r w N al a;have m:=m.th cu k 0;have aE:=dk;refine Xk (Cs (Xu 2 [(66,Vp d 0),(67,Vi X)] (Yl _ _ R (Ra 0 [Vi an.1.1,Vl ab an.1.2 aX] WY aE nn R) ?_)));obtain ⟨bI,ar,t⟩:=Bs t;have a0:MS b2 ([[d],Bk ac]++[[ag],[o],[B],y]):=a.pk [7,6,0,2,8,9] _ R;have bg:∀ O∈fl ([[d],Bk ac]++[[ag],[o],[B],y]),O∈fl [[ag],Bk ab,[o],[F],K,Bk E,Bk ac,[d],[B],y]:=Pk [7,6,0,2,8,9] _ R;have ae:∀ O∈fl ([[d],Bk ac]++[(fl [[ag],[o],[B],y])]),O∈fl [[ag],Bk ab,[o],[F],K,Bk E,Bk ac,[d],[B],y]:=fun O ar=>bg O (Fu O ar)
   have a7:=M2n d ax ay au aw ao ap Y ah ai U Z aa L F aK av aC E aD aB ac c4 an.2 X an.1.1 ab aX an.1.2 _ b2 (fl [[ag],[o],[B],y]) (a0.fold (P:=[[d],Bk ac])) (i.sub ae) (f.sub ae) (g.sub ae) (h.sub ae) (PA.ro (fun _ _ _=>R) z ((fun A G ak=>Mq a 3 R [some 7,some 6,some 0,some 2,some 8,some 9] ([[d],Bk ac]++[[ag],[o],[B],y]) R R A G (Fu A ak)) _ PI)) (Ve.ro (Pp (Pi _) (Pp (Pi _) (Pp (Pi _) (Pi _)))) x (fun A G ak=>Mq a 4 R [some 7,some 6,some 0,some 2,some 8,some 9] ([[d],Bk ac]++[[ag],[o],[B],y]) R R A G (Fu A ak))) (r.ro ae (fun A G ak=>Mq a 5 R [some 7,some 6,some 0,some 2,some 8,some 9] ([[d],Bk ac]++[[ag],[o],[B],y]) R R A G (Fu A ak))) (w.sub ae) v (al.ro ae (fun A G ak=>Mq a 1 R [some 7,some 6,some 0,some 2,some 8,some 9] ([[d],Bk ac]++[[ag],[o],[B],y]) R R A G (Fu A ak))) ar;refine Xv a7 R ?_;rintro bq ew ⟨a3,ca,rfl,a1,dK,dL,dE,cA,bH⟩;have aL:MS b2 ([[d],Bk ac]++[[ag],Bk ab,[o],[F],K,Bk E,[B],y]):=a.pk [7,6,0,1,2,3,4,5,8,9] _ R;have bx:∀ O∈fl ([[d],Bk ac]++[[ag],Bk ab,[o],[F],K,Bk E,[B],y]),O∈fl [[ag],Bk ab,[o],[F],K,Bk E,Bk ac,[d],[B],y]:=Pk [7,6,0,1,2,3,4,5,8,9] _ R;have b0:=Ro.call (LS:=[[ag],Bk ab,[o],[F],K,Bk E,Bk ac,[d],[B],y]) (res:=[]) (par:=[[d],Bk a3]) (R:=[[ag],Bk ab,[o],[F],K,Bk E,[B],y]) a1 (fun A G=>bx A (M2R (P:=[[d],Bk ac]) A G)) cA bH (fun O ar=>bx O (M1A (P:=[[d],Bk ac]) O ar));have bZ:∀ O∈fl [[ag],Bk ab,[o],[F],K,Bk E,Bk a3,[d],[B],y],O∈fl ([]++([[d],Bk a3]++[[ag],Bk ab,[o],[F],K,Bk E,[B],y])):=Pk [2,3,4,5,6,7,1,0,8,9] _ R;have af:=b0.res bZ;have q:=a1.box q ((MS.outs (P:=[[d],Bk ac]) aL 2 R) _ PI);have i:=i.step af;have f:=f.step af;have g:=g.step af;have h:=h.step af;have z:=z.step a1 ((MS.outs (P:=[[d],Bk ac]) aL 3 R) _ PI);have x:=x.step (Pp (Pi _) (Pp (Pi _) (Pp (Pi _) (Pi _)))) a1 (MS.outs (P:=[[d],Bk ac]) aL 4 R);have r:=r.step af a1 (MS.outs (P:=[[d],Bk ac]) aL 5 R);have N:=a1.box N ((MS.outs (P:=[[d],Bk ac]) aL 6 R) _ PI);have al:=al.step af a1 (MS.outs (P:=[[d],Bk ac]) aL 1 R);have aE:=a1.box aE ((MS.outs (P:=[[d],Bk ac]) aL 0 R) _ PI);replace a:MS ew [[ag],Bk ab,[o],[F],K,Bk E,Bk a3,[d],[B],y]:=(MS.call (P:=[[d],Bk ac]) (R:=[[ag],Bk ab,[o],[F],K,Bk E,[B],y]) (res:=[]) (par:=[[d],Bk a3]) aL a1 dE cA bH).pick [some 2,some 3,some 4,some 5,some 6,some 7,some 1,some 0,some 8,some 9] _ R;have aY:∀ A∈fl [[d],Bk ac],am.heap.size≤A:=FR.mem (ls:=[[d],Bk ac]) (k.pk [7,6] _ R);have aZ:FR am.heap.size [[ag],Bk ab,[o],[F],K,Bk E,Bk a3,[d],[B]]:=(FR.cons (k.at 0 R) (FR.cons (k.at 1 R) (FR.cons (k.at 2 R) (FR.cons (k.at 3 R) (FR.cons (k.at 4 R) (FR.cons (k.at 5 R) (FR.cons (fun A G=>(bH.at 1 R A G).elim (fun t=>aY A t) (fun t=>Nat.le_trans m.size t)) (FR.cons (fun A G=>(bH.at 0 R A G).elim (fun t=>aY A t) (fun t=>Nat.le_trans m.size t)) (FR.cons (k.at 8 R) (FR.nil _))))))))))
   have m:=m.then a1 (fun A G=>.inr (aY A G));have k:=aZ;have v:=dK;have w:=M9.plain (M':=fl [[ag],Bk ab,[o],[F],K,Bk E,Bk a3,[d],[B],y]) (Pp (Pi _) (Pp (Pi _) (Pp (Pi _) (Pp (Pi _) (Pi _))))) dL;refine Xk (Pg (σ:=(List (Int×Int×Int×Int×Int))×Option Addr×Nat) (fun s=>match s with | (bo,aN,bs)=>[(1,Vp o 0),(6,Vp d 0),(13,Vp ag 0),(41,Vl Z L aa),(42,Vi ((L).length:Int)),(43,Vi X)]) (fun s D=>match s with | (bo,aN,bs)=>VD aB X aC an bo=some en∧Ev [] am D∧(fun S=>MS D S∧FR am.heap.size [[o],[F],K,Bk E,Bk aN,[d],Bk ab,[ag]]∧Ma (M3 eI (M3 Mv (M3 eI (M3 eI (M7))))) D (fl S) ax ay au∧Ma (M3 eI eI) D (fl S) ao ap Y∧Ma (M7) D (fl S) ah ai U∧Ma (M3 eI (M3 eI (M3 eI (M3 eI (M3 (Mi eI) (Mi eI)))))) D (fl S) Z aa L∧D.heap[o]? = some (.cells #[Vl ax au ay,Vi aw,Vl ao Y ap,Vl ah U ai,Vl Z L aa] 30 (0,0))∧PA (Value.int .i64) (Value.int .i64) D F aK∧Ve (Value.int .i64) (M7) 58 D K av aC none∧M9 (M3 eI (Mi (M7))) 45 D (fl S) E aD aB∧M9 (M3 eI (M7)) 52 D (fl S) aN bs bo∧D.heap[d]? = some (.cells #[Vl ax au ay,Vi aw,Vl ao Y ap,Vl ah U ai,Vl Z L aa,.map (some F),.map (some av),Vl E aB aD,Vl aN bo bs] 95 (0,0))∧M9 (M7) 49 D (fl S) ab aX an.1.2∧D.heap[ag]? = some (.cells #[Vi an.1.1,Vl ab an.1.2 aX] 45 (0,0))) [[o],[F],K,Bk E,Bk aN,[d],Bk ab,[ag],y]) ?_ ?_)
   · refine Cs (Yg ag 0 0 (Vi an.1.1) R R (Rf M0W _) M5 aE nn R (Yg B 0 2 (Vi aj.2.2.1) R R (Rf WW _) M5 N nn R (Xu 1 [(74,.bool (an.1.1 != aj.2.2.1))] (Xk (Ci _ R t (fun t=>?_) (fun t=>?_))))))
     · refine Cp (Xu 3 [(75,Vp d 0),(76,Vp d 0),(77,Vp d 0)] (Yg d 0 8 (Vl a3 bI ca) R R (Rf Vm _) Wu v nn R (Xu 1 [(80,Vi X)] (Xg (.agg #[Vi 4,Vi X,Vi (-1),Vi (-1),Vi 0]) R (Xh #[Vi 4,Vi X,Vi (-1),Vi (-1),Vi 0] 52 R (fun ez e4 dQ dl dA=>?_))))));have af:=Cx.e a dA;obtain ⟨q,i,f,g,h,v,z,x,r,w,al,aE,a,m⟩:=E14 af q i f g h v z x r w al aE a m;have ed:=af.l (e:=(M3 eI (M7))) dQ dl 1 [(4,X,(-1),(-1),0)];have bd:=Gl t;have t:=Gr t;obtain ⟨b6,ce,e5,d6,cv,cD,eD,eh⟩:=Mb M7n 37 w (Mf 6 R) ed bd;refine Xx R (Rn d6) ?_;have af:=Cx.u a 6 cv cD;obtain ⟨q,i,f,g,h,v,z,x,r,al,aE,a⟩:=E12 af q i f g h v z x r al aE a;have aZ:=k.ux 6 m cD;have m:=m.th cv k 6;have k:=aZ;have w:=eh _ af.st.new;refine Xu 1 [(84,Vp d 0)] (Yf (Vp d 0) (Vp d 8) R (Rf Vm _) ?_);obtain ⟨e6,d7,dm,cw⟩:=Sx 8 (Vl b6 ((bI++([(4,X,(-1),(-1),0)]:List (Int×Int×Int×Int×Int)))) ce) Wu v;refine Xp d7 R ?_;obtain ⟨q,i,f,g,h,z,x,r,w,al,aE,a⟩:=E12 (Cx.j a 7 cw) q i f g h z x r w al aE a;have m:=m.th cw k 7;have v:=dm;refine Xe R ?_;obtain ⟨i,f,g,h,r,w,al,a⟩:=E8 (Cx.s a [2,3,4,5,6,7,1,0,9]) i f g h r w al a;have k:=k.px [2,3,4,5,6,7,1,0];exact Kt ⟨((bI++([(4,X,(-1),(-1),0)]:List (Int×Int×Int×Int×Int))),b6,ce),⟨R,R,R,R,R,R,T0⟩,t,m,a,k,i,f,g,h,q,z,x,r,w,v,al,aE⟩
     refine Ck ?_;obtain ⟨i,f,g,h,r,w,al,a⟩:=E8 (Cx.s a [2,3,4,5,6,7,1,0,9]) i f g h r w al a;have k:=k.px [2,3,4,5,6,7,1,0];exact Kt ⟨(bI,a3,ca),⟨R,R,R,R,R,R,T0⟩,t,m,a,k,i,f,g,h,q,z,x,r,w,v,al,aE⟩
   rintro ⟨bo,aN,bs⟩ aG cU ⟨t,m,a,k,i,f,g,h,q,z,x,r,w,v,al,aE⟩;refine Cd [] [(0,false),(1,false),(2,false),(3,false),(4,false),(5,false),(6,false),(7,true),(8,false),(9,false),(10,true)] _ (by kernel_rfl) R ?_;obtain ⟨q,i,f,g,h,v,z,x,r,w,aE,al,a,m⟩:=E14 (Cx.e a (Ev.drew cU)) q i f g h v z x r w aE al a m;refine Xu 3 [(86,Vp d 0),(87,Vp d 0),(88,Vp d 0)] (Yg d 0 7 (Vl E aB aD) R R (Rf Zl _) M0T v nn R (Yl _ _ R (Ra 0 [Vi an.1.1,Vl ab an.1.2 aX] WY aE nn R) ?_));have a0:MS (cU).drew [[o],[F],K,Bk E,Bk aN,[d],[ag],y]:=a.pk [0,1,2,3,4,5,7,8] _ R;have aq:=Pk (ls:=[[o],[F],K,Bk E,Bk aN,[d],Bk ab,[ag],y]) [0,1,2,3,4,5,7,8] [[o],[F],K,Bk E,Bk aN,[d],[ag],y] R;have i:=i.sub aq;have f:=f.sub aq;have g:=g.sub aq;have h:=h.sub aq;have r:=r.sub aq;have w:=w.sub aq;have al:=al.ro aq (Mq a 6 R [some 0,some 1,some 2,some 3,some 4,some 5,some 7,some 8] [[o],[F],K,Bk E,Bk aN,[d],[ag],y] R R);have a:=a0;have k:=k.px [0,1,2,3,4,5,7];refine Xb #[Vi an.1.1,Vl ab an.1.2 aX] 45 R R R (by kernel_rfl) (fun c3 ex dS dn cx eK=>?_);refine ⟨.inr cx,?_⟩;have dF:=a;obtain ⟨q,i,f,g,h,v,z,x,r,w,al,a,m⟩:=E13 (Cx.e a cx) q i f g h v z x r w al a m;have ee:Ma (M3 eI (Mi (M7))) ex (fl [[o],[F],K,Bk E,Bk aN,[d],[ag],y]) (Ad c3 0) 1 ([(an.1.1,an.1.2)]:List (Int×(List (Int×Int×Int×Int)))):=XY dF dS dn R R (Ze (cs:=[Vi an.1.1,Vl ab an.1.2 aX]) (R6.cons (c:=[Vi an.1.1,Vl ab an.1.2 aX]) ⟨[Vi an.1.1],[Vl ab an.1.2 aX],R,R,⟨ab,aX,R,al⟩⟩ R6.nil));have bd:=Gl t;have t:=Gr t;obtain ⟨b7,cf,e7,d8,cy,cE,eE,ei⟩:=Mb MbF 36 r (Mf 3 R) ee bd;refine Xx R (Rn d8) ?_;have af:=Cx.u a 3 cy cE;obtain ⟨q,i,f,g,h,v,z,x,w,a⟩:=TX af q i f g h v z x w a;have aZ:=k.ux 3 m cE;have m:=m.th cy k 3;have k:=aZ;have r:=ei _ af.st.new;refine Xu 1 [(94,Vp d 0)] (Yf (Vp d 0) (Vp d 7) R (Rf Zl _) ?_);obtain ⟨e8,d9,dp,cz⟩:=Sx 7 (Vl b7 ((aB++([(an.1.1,an.1.2)]:List (Int×(List (Int×Int×Int×Int)))))) cf) M0T v;refine Xp d9 R ?_;obtain ⟨q,i,f,g,h,z,x,r,w,a⟩:=TX (Cx.j a 5 cz) q i f g h z x r w a;have m:=m.th cz k 5;have v:=dp;refine Xe R (Kl (Kt (Cn [(1,Vp o 0),(6,Vp d 0),(41,Vl Z L aa),(42,Vi ((L).length:Int)),(43,Vi X)] (fun aG=>?_))));refine Cp (Xu 2 [(96,Vi (M4 (X+1))),(43,Vi (M4 (X+1)))] (Xe R ?_));obtain rfl:=Sj t;obtain ⟨i,f,g,h,r,w,a⟩:=E7 (Cx.s a [0,1,2,3,4,5,7]) i f g h r w a;have k:=k.px [0,1,2,3,4,5];exact Kt ⟨(bC,aC,(aB++([(an.1.1,an.1.2)]:List (Int×(List (Int×Int×Int×Int))))),bo,M4 (X+1),K,b7,cf,aN,bs),⟨R,R,R,R,R,T0⟩,⟨bv,m,a,k,i,f,g,h,q,z,x,r,w,v⟩,Ns _⟩
 refine Ce (Ke ?_);obtain rfl:=Sj t;have bz:=Sj bv;subst bz;have t:=da;refine Ke (Ki (Kt (Cn [(6,Vp d 0)] (fun aG=>?_))));refine Cq (Cd [] [(0,false),(1,false),(2,false),(3,false),(4,false),(5,false),(6,false),(7,false),(8,false),(9,false),(10,false)] _ (by kernel_rfl) R ?_);obtain ⟨v,r,w,a,m⟩:=E5 (Cx.e a (Ev.drew cY)) v r w a m;refine Xu 2 [(97,Vp d 0),(98,Vp d 0)] (Yg d 0 7 (Vl E aB aD) R R (Rf Zl _) M0T v nn R (Xu 2 [(101,Vp d 0),(102,Vp d 0)] (Yg d 0 8 (Vl aJ a6 a5) R R (Rf Vm _) Wu v nn R (Xu 3 [(2,Vl E aB aD),(3,Vl aJ a6 a5),(4,Vi 0)] (Xk (Cr (Rr (Rv [Vl E aB aD,Vl aJ a6 a5,Vi 0] ⟨R,R,R,T0⟩ ?_))))))));obtain rfl:=Sj t;have bQ:MS (cY).drew [Bk E,Bk aJ,y]:=a.pk [3,4,6] _ R;have aq:=Pk (ls:=[[o],[F],ba,Bk E,Bk aJ,[d],y]) [3,4,6] [Bk E,Bk aJ,y] R;have bN:=k.pk [3,4] [Bk E,Bk aJ] R;exact ⟨E,aD,aJ,a5,R,m,bQ,bN,r.sub aq,w.sub aq⟩
def M25 (b:List UInt8) (c:Int):Option (Mm Int (Unit⊕Unit)):=
match c with
| a=>
(if (decide (a<(b.length:Int)))=true then
((sAt b a).bind fun d=>
(if (decide (d≥97))=true then
((sAt b a).bind fun e=>
(if (decide (e≤122))=true then
some (.next (M4 (a+1)))
else
((sAt b a).bind fun f=>
(if (decide (f≥48))=true then
((sAt b a).bind fun g=>
(if (!(decide (g≤57)))=true then
some (.done (.inl ()))
else
some (.next (M4 (a+1)))))
else
some (.done (.inl ()))))))
else
((sAt b a).bind fun h=>
(if (decide (h≥48))=true then
((sAt b a).bind fun i=>
(if (!(decide (i≤57)))=true then
some (.done (.inl ()))
else
some (.next (M4 (a+1)))))
else
some (.done (.inl ()))))))
else
some (.done (.inr ())))
def M12 (a:List UInt8):Option Bool:=
((loop (M25 a) 0).bind fun b=>match b with
| (.inl _)=>some false
| (.inr _)=>(if (decide ((a.length:Int)≥1))=true then
some (decide ((a.length:Int)≤12))
else
some false))
theorem M6u (b v i)(a:M12 b=some v):Md Tryz.prog 101 [Vs b] i fun E p=>E=.bool v∧Ev [] i p:=by
 refine Cw hmx Tryz.func101 R R R ?_;have d:=Ev.refl [] i;have n:=MS.one i;have m:=FR.nil i.heap.size;refine Cs (Xu 1 [(2,.bool false)] (Xk (Cq (Cs (Xu 1 [(3,Vi 0)] (Xk (Cb ?_)))))));obtain ⟨w,r,l⟩:=Bs a;obtain ⟨h,r⟩:=Lo r;refine Cl (Lr hmx (σ:=Nat×Int) (fun o=>match o with | (_,c)=>[(0,Vs b),(3,Vi c)]) (fun o p=>match o with | (D,c)=>Mh (M25 b) D c=some w∧Ev [] i p∧MS p [[]]∧FR i.heap.size []) (fun o=>o.1) (h,0) ⟨R,R,T0⟩ ⟨r,d,n,m⟩ ?_);rintro ⟨h,c⟩ g G ⟨e,d,n,m⟩;rcases h with _ | h
 · exact (Lz e).elim
 obtain ⟨F,a,e⟩:=Bs e;refine Cq (Cs (Xu 2 [(4,Vi c),(5,Vs b)] (Xn (vs:=[Vs b]) (Vi (b.length:Int)) R R R (VQ WR _) (Xu 1 [(7,Bd (c<(b.length:Int)))] (Xk (Cn [(0,Vs b),(3,Vi c),(7,Bd (c<(b.length:Int)))] (fun g=>?_)))))));refine Ci _ R a (fun a=>?_) (fun a=>?_)
 · refine Ck (Kt (Cq (Cb (Cs (Xu 2 [(10,Vs b),(11,Vi c)] ?_)))));obtain ⟨s,x,a⟩:=Bs a;refine YA (xv:=Vs b) (yv:=Vi c) (.int .u8 s) R R R R (Rp WR x) (Xu 2 [(13,Bd (s≥97)),(14,Bd (s≥97))] (Xw 14 _ R a (fun a=>?_) (fun a=>?_)))
   · refine Xu 2 [(15,Vs b),(16,Vi c)] ?_;obtain ⟨q,y,a⟩:=Bs a;refine YA (xv:=Vs b) (yv:=Vi c) (.int .u8 q) R R R R (Rp WR y) (Xu 3 [(18,Bd (q≤122)),(19,Bd (q≤122)),(20,Bd (q≤122))] (Xw 20 _ R a (fun a=>?_) (fun a=>?_)))
     · refine Xu 12 (Un 21 10++[(31,.bool true),(32,.bool false)]) (Xk (Cn [(0,Vs b),(3,Vi c),(32,.bool false)] (fun g=>?_)));refine PE R (Ck (Kl (Kt (Cp (Xu 3 [(8,Vi c),(9,Vi (M4 (c+1))),(3,Vi (M4 (c+1)))] (Xe R ?_))))));obtain rfl:=Sj a;exact Kt ⟨(h,M4 (c+1)),⟨R,R,T0⟩,⟨e,d,n,m⟩,Ns _⟩
     refine Xu 2 [(21,Vs b),(22,Vi c)] ?_;obtain ⟨t,z,a⟩:=Bs a;refine YA (xv:=Vs b) (yv:=Vi c) (.int .u8 t) R R R R (Rp WR z) (Xu 2 [(24,Bd (t≥48)),(25,Bd (t≥48))] (Xw 25 _ R a (fun a=>?_) (fun a=>?_)))
     · refine Xu 2 [(26,Vs b),(27,Vi c)] ?_;obtain ⟨j,A,a⟩:=Bs a;refine YA (xv:=Vs b) (yv:=Vi c) (.int .u8 j) R R R R (Rp WR A) (Xu 4 [(29,Bd (j≤57)),(30,Bd (j≤57)),(31,Bd (j≤57)),(32,.bool (!(decide (j≤57))))] (Xk (Cn [(0,Vs b),(3,Vi c),(32,.bool (!(decide (j≤57))))] (fun g=>?_))));refine Ci _ R a (fun a=>?_) (fun a=>?_)
       · refine Cs (Xu 1 [(2,.bool false)] (Xk (Cr (Kb (Kr ?_)))));obtain rfl:=Sj a;have f:=Sj e;subst f;have a:=l;refine Kr (Kb (Kr (Rz (.bool false) R ?_)));obtain rfl:=Sj a;exact ⟨R,d⟩
       refine Ck (Kl (Kt (Cp (Xu 3 [(8,Vi c),(9,Vi (M4 (c+1))),(3,Vi (M4 (c+1)))] (Xe R ?_)))));obtain rfl:=Sj a;exact Kt ⟨(h,M4 (c+1)),⟨R,R,T0⟩,⟨e,d,n,m⟩,Ns _⟩
     refine Xu 7 (Un 26 4++[(30,.bool false),(31,.bool false),(32,.bool true)]) (Xk (Cn [(0,Vs b),(3,Vi c),(32,.bool true)] (fun g=>?_)));refine Me R (Cs (Xu 1 [(2,.bool false)] (Xk (Cr (Kb (Kr ?_))))));obtain rfl:=Sj a;have f:=Sj e;subst f;have a:=l;refine Kr (Kb (Kr (Rz (.bool false) R ?_)));obtain rfl:=Sj a;exact ⟨R,d⟩
   refine Xu 8 [(15,U0),(16,U0),(17,U0),(18,U0),(19,.bool false),(20,.bool false),(21,Vs b),(22,Vi c)] ?_;obtain ⟨u,B,a⟩:=Bs a;refine YA (xv:=Vs b) (yv:=Vi c) (.int .u8 u) R R R R (Rp WR B) (Xu 2 [(24,Bd (u≥48)),(25,Bd (u≥48))] (Xw 25 _ R a (fun a=>?_) (fun a=>?_)))
   · refine Xu 2 [(26,Vs b),(27,Vi c)] ?_;obtain ⟨k,C,a⟩:=Bs a;refine YA (xv:=Vs b) (yv:=Vi c) (.int .u8 k) R R R R (Rp WR C) (Xu 4 [(29,Bd (k≤57)),(30,Bd (k≤57)),(31,Bd (k≤57)),(32,.bool (!(decide (k≤57))))] (Xk (Cn [(0,Vs b),(3,Vi c),(32,.bool (!(decide (k≤57))))] (fun g=>?_))));refine Ci _ R a (fun a=>?_) (fun a=>?_)
     · refine Cs (Xu 1 [(2,.bool false)] (Xk (Cr (Kb (Kr ?_)))));obtain rfl:=Sj a;have f:=Sj e;subst f;have a:=l;refine Kr (Kb (Kr (Rz (.bool false) R ?_)));obtain rfl:=Sj a;exact ⟨R,d⟩
     refine Ck (Kl (Kt (Cp (Xu 3 [(8,Vi c),(9,Vi (M4 (c+1))),(3,Vi (M4 (c+1)))] (Xe R ?_)))));obtain rfl:=Sj a;exact Kt ⟨(h,M4 (c+1)),⟨R,R,T0⟩,⟨e,d,n,m⟩,Ns _⟩
   refine Xu 7 (Un 26 4++[(30,.bool false),(31,.bool false),(32,.bool true)]) (Xk (Cn [(0,Vs b),(3,Vi c),(32,.bool true)] (fun g=>?_)));refine Me R (Cs (Xu 1 [(2,.bool false)] (Xk (Cr (Kb (Kr ?_))))));obtain rfl:=Sj a;have f:=Sj e;subst f;have a:=l;refine Kr (Kb (Kr (Rz (.bool false) R ?_)));obtain rfl:=Sj a;exact ⟨R,d⟩
 refine Ce (Ke ?_);obtain rfl:=Sj a;have f:=Sj e;subst f;have a:=l;refine Ke (Ki (Kt (Cn [(0,Vs b)] (fun g=>?_))));refine Cs (Xu 1 [(33,Vs b)] (Xn (vs:=[Vs b]) (Vi (b.length:Int)) R R R (VQ WR _) (Xu 2 [(35,Bd ((b.length:Int)≥1)),(36,Bd ((b.length:Int)≥1))] (Xw 36 _ R a (fun a=>?_) (fun a=>?_)))))
 · refine Xu 1 [(37,Vs b)] (Xn (vs:=[Vs b]) (Vi (b.length:Int)) R R R (VQ WR _) (Xu 3 [(39,Bd ((b.length:Int)≤12)),(40,Bd ((b.length:Int)≤12)),(2,Bd ((b.length:Int)≤12))] (Xk (Cr (Rz (Bd ((b.length:Int)≤12)) R ?_)))));obtain rfl:=Sj a;exact ⟨R,d⟩
 refine Xu 5 [(37,U0),(38,U0),(39,U0),(40,.bool false),(2,.bool false)] (Xk (Cr (Rz (.bool false) R ?_)));obtain rfl:=Sj a;exact ⟨R,d⟩
def Yh (a:Int) (g:List UInt8) (h:Int) (c:Int) (d:Int) (e:Int) (f:Int) (b:Int):Option Bool:=
((M12 g).bind fun i=>
(if (!i)=true then
some false
else
(if (a==0)=true then
(if (h==(-1))=true then
(if (c==0)=true then
(if (d==0)=true then
(if (e==0)=true then
(if (f==0)=true then
some (b==0)
else
some false)
else
some false)
else
some false)
else
some false)
else
some false)
else
(if (decide (a<1))=true then
some false
else
(if (decide (a>4))=true then
some false
else
(if (decide (d<1))=true then
some false
else
(if (decide (d>1000000))=true then
some false
else
(if (decide (e<(-10000)))=true then
some false
else
(if (decide (e>10000))=true then
some false
else
(if (decide (f<0))=true then
some false
else
(if (decide (f>5000))=true then
some false
else
(if (decide (c<0))=true then
some false
else
(if (decide (c>2))=true then
some false
else
(if (a==2)=true then
(if (decide (b≥1))=true then
some (decide (b≤1000000000))
else
some false)
else
some (b==0)))))))))))))))
theorem M5r (k m l g h i j e p n)(a:Yh k m l g h i j e=some p):Md Tryz.prog 85 [.agg #[Vi k,Vs m,Vi l,Vi g,Vi h,Vi i,Vi j,Vi e]] n fun q u=>q=.bool p∧Ev [] n u:=by
 refine Cw hmx Tryz.func85 R R R ?_;have d:=Ev.refl [] n;refine Cs (Xo R (fun b v x c s=>?_));have d:=d.ext s;refine Xu 1 [(2,.bool false)] (Xk (Cq (Cs (Yg b 0 1 (Vs m) R R (Rf WS _) Zg c nn R ?_))));obtain ⟨w,t,a⟩:=Bs a;have r:=M6u m _ v t;refine Xv r R ?_;rintro q y ⟨rfl,o⟩;have c:=o.box c nn;have d:=d.ext o;refine Xu 1 [(6,.bool (!w))] (Xk (Ci _ R a (fun a=>?_) (fun a=>?_)))
 · refine Cs (Xu 1 [(2,.bool false)] (Xk (Cr (Kr (Rz (.bool false) R ?_)))));obtain rfl:=Sj a;exact ⟨R,d⟩
 refine Ck (Kt (Cq (Cs (Yg b 0 0 (Vi k) R R (Rf MC _) M5 c nn R (Xu 1 [(9,.bool (k==0))] (Xk (Ci _ R a (fun a=>?_) (fun a=>?_))))))))
 · refine Cs (Yg b 0 2 (Vi l) R R (Rf PO _) M5 c nn R (Xu 2 [(12,.bool (l==(-1))),(13,.bool (l==(-1)))] (Xw 13 _ R a (fun a=>?_) (fun a=>?_))))
   · refine Yg b 0 3 (Vi g) R R (Rf R9 _) M5 c nn R (Xu 3 [(16,.bool (g==0)),(17,.bool (g==0)),(18,.bool (g==0))] (Xw 18 _ R a (fun a=>?_) (fun a=>?_)))
     · refine Yg b 0 4 (Vi h) R R (Rf TF _) M5 c nn R (Xu 3 [(21,.bool (h==0)),(22,.bool (h==0)),(23,.bool (h==0))] (Xw 23 _ R a (fun a=>?_) (fun a=>?_)))
       · refine Yg b 0 5 (Vi i) R R (Rf Wf _) M5 c nn R (Xu 3 [(26,.bool (i==0)),(27,.bool (i==0)),(28,.bool (i==0))] (Xw 28 _ R a (fun a=>?_) (fun a=>?_)))
         · refine Yg b 0 6 (Vi j) R R (Rf Vf _) M5 c nn R (Xu 3 [(31,.bool (j==0)),(32,.bool (j==0)),(33,.bool (j==0))] (Xw 33 _ R a (fun a=>?_) (fun a=>?_)))
           · refine Yg b 0 7 (Vi e) R R (Rf TE _) M5 c nn R (Xu 3 [(36,.bool (e==0)),(37,.bool (e==0)),(2,.bool (e==0))] (Xk (Cn [(2,.bool (e==0))] (fun f=>?_))));refine Cr (Kr (Rz (.bool (e==0)) R ?_));obtain rfl:=Sj a;exact ⟨R,d⟩
           refine Xu 5 (Un 34 3++[(37,.bool false),(2,.bool false)]) (Xk (Cn [(2,.bool false)] (fun f=>?_)));refine Cr (Kr (Rz (.bool false) R ?_));obtain rfl:=Sj a;exact ⟨R,d⟩
         refine Xu 10 (Un 29 3++[(32,.bool false),(33,.bool false)]++Un 34 3++[(37,.bool false),(2,.bool false)]) (Xk (Cn [(2,.bool false)] (fun f=>?_)));refine Cr (Kr (Rz (.bool false) R ?_));obtain rfl:=Sj a;exact ⟨R,d⟩
       refine Xu 15 (Un 24 3++[(27,.bool false),(28,.bool false)]++Un 29 3++[(32,.bool false),(33,.bool false)]++Un 34 3++[(37,.bool false),(2,.bool false)]) (Xk (Cn [(2,.bool false)] (fun f=>?_)));refine Cr (Kr (Rz (.bool false) R ?_));obtain rfl:=Sj a;exact ⟨R,d⟩
     refine Xu 20 (Un 19 3++[(22,.bool false),(23,.bool false)]++Un 24 3++[(27,.bool false),(28,.bool false)]++Un 29 3++[(32,.bool false),(33,.bool false)]++Un 34 3++[(37,.bool false),(2,.bool false)]) (Xk (Cn [(2,.bool false)] (fun f=>?_)));refine Cr (Kr (Rz (.bool false) R ?_));obtain rfl:=Sj a;exact ⟨R,d⟩
   refine Xu 25 (Un 14 3++[(17,.bool false),(18,.bool false)]++Un 19 3++[(22,.bool false),(23,.bool false)]++Un 24 3++[(27,.bool false),(28,.bool false)]++Un 29 3++[(32,.bool false),(33,.bool false)]++Un 34 3++[(37,.bool false),(2,.bool false)]) (Xk (Cn [(2,.bool false)] (fun f=>?_)));refine Cr (Kr (Rz (.bool false) R ?_));obtain rfl:=Sj a;exact ⟨R,d⟩
 refine Ck (Kt (Cq (Cs (Yg b 0 0 (Vi k) R R (Rf MC _) M5 c nn R (Xu 2 [(40,Bd (k<1)),(41,Bd (k<1))] (Xw 41 _ R a (fun a=>?_) (fun a=>?_)))))))
 · refine Xu 44 (Un 42 3++[(45,.bool true),(46,.bool true)]++Un 47 3++[(50,.bool true),(51,.bool true)]++Un 52 3++[(55,.bool true),(56,.bool true)]++Un 57 3++[(60,.bool true),(61,.bool true)]++Un 62 3++[(65,.bool true),(66,.bool true)]++Un 67 3++[(70,.bool true),(71,.bool true)]++Un 72 3++[(75,.bool true),(76,.bool true)]++Un 77 3++[(80,.bool true),(81,.bool true)]++Un 82 3++[(85,.bool true)]) (Xk (Cn [(1,Vp b 0),(85,.bool true)] (fun f=>?_)));refine Me R (Cs (Xu 1 [(2,.bool false)] (Xk (Cr (Kr (Rz (.bool false) R ?_))))));obtain rfl:=Sj a;exact ⟨R,d⟩
 refine Yg b 0 0 (Vi k) R R (Rf MC _) M5 c nn R (Xu 3 [(44,Bd (k>4)),(45,Bd (k>4)),(46,Bd (k>4))] (Xw 46 _ R a (fun a=>?_) (fun a=>?_)))
 · refine Xu 39 (Un 47 3++[(50,.bool true),(51,.bool true)]++Un 52 3++[(55,.bool true),(56,.bool true)]++Un 57 3++[(60,.bool true),(61,.bool true)]++Un 62 3++[(65,.bool true),(66,.bool true)]++Un 67 3++[(70,.bool true),(71,.bool true)]++Un 72 3++[(75,.bool true),(76,.bool true)]++Un 77 3++[(80,.bool true),(81,.bool true)]++Un 82 3++[(85,.bool true)]) (Xk (Cn [(1,Vp b 0),(85,.bool true)] (fun f=>?_)));refine Me R (Cs (Xu 1 [(2,.bool false)] (Xk (Cr (Kr (Rz (.bool false) R ?_))))));obtain rfl:=Sj a;exact ⟨R,d⟩
 refine Yg b 0 4 (Vi h) R R (Rf TF _) M5 c nn R (Xu 3 [(49,Bd (h<1)),(50,Bd (h<1)),(51,Bd (h<1))] (Xw 51 _ R a (fun a=>?_) (fun a=>?_)))
 · refine Xu 34 (Un 52 3++[(55,.bool true),(56,.bool true)]++Un 57 3++[(60,.bool true),(61,.bool true)]++Un 62 3++[(65,.bool true),(66,.bool true)]++Un 67 3++[(70,.bool true),(71,.bool true)]++Un 72 3++[(75,.bool true),(76,.bool true)]++Un 77 3++[(80,.bool true),(81,.bool true)]++Un 82 3++[(85,.bool true)]) (Xk (Cn [(1,Vp b 0),(85,.bool true)] (fun f=>?_)));refine Me R (Cs (Xu 1 [(2,.bool false)] (Xk (Cr (Kr (Rz (.bool false) R ?_))))));obtain rfl:=Sj a;exact ⟨R,d⟩
 refine Yg b 0 4 (Vi h) R R (Rf TF _) M5 c nn R (Xu 3 [(54,Bd (h>1000000)),(55,Bd (h>1000000)),(56,Bd (h>1000000))] (Xw 56 _ R a (fun a=>?_) (fun a=>?_)))
 · refine Xu 29 (Un 57 3++[(60,.bool true),(61,.bool true)]++Un 62 3++[(65,.bool true),(66,.bool true)]++Un 67 3++[(70,.bool true),(71,.bool true)]++Un 72 3++[(75,.bool true),(76,.bool true)]++Un 77 3++[(80,.bool true),(81,.bool true)]++Un 82 3++[(85,.bool true)]) (Xk (Cn [(1,Vp b 0),(85,.bool true)] (fun f=>?_)));refine Me R (Cs (Xu 1 [(2,.bool false)] (Xk (Cr (Kr (Rz (.bool false) R ?_))))));obtain rfl:=Sj a;exact ⟨R,d⟩
 refine Yg b 0 5 (Vi i) R R (Rf Wf _) M5 c nn R (Xu 3 [(59,Bd (i<(-10000))),(60,Bd (i<(-10000))),(61,Bd (i<(-10000)))] (Xw 61 _ R a (fun a=>?_) (fun a=>?_)))
 · refine Xu 24 (Un 62 3++[(65,.bool true),(66,.bool true)]++Un 67 3++[(70,.bool true),(71,.bool true)]++Un 72 3++[(75,.bool true),(76,.bool true)]++Un 77 3++[(80,.bool true),(81,.bool true)]++Un 82 3++[(85,.bool true)]) (Xk (Cn [(1,Vp b 0),(85,.bool true)] (fun f=>?_)));refine Me R (Cs (Xu 1 [(2,.bool false)] (Xk (Cr (Kr (Rz (.bool false) R ?_))))));obtain rfl:=Sj a;exact ⟨R,d⟩
 refine Yg b 0 5 (Vi i) R R (Rf Wf _) M5 c nn R (Xu 3 [(64,Bd (i>10000)),(65,Bd (i>10000)),(66,Bd (i>10000))] (Xw 66 _ R a (fun a=>?_) (fun a=>?_)))
 · refine Xu 19 (Un 67 3++[(70,.bool true),(71,.bool true)]++Un 72 3++[(75,.bool true),(76,.bool true)]++Un 77 3++[(80,.bool true),(81,.bool true)]++Un 82 3++[(85,.bool true)]) (Xk (Cn [(1,Vp b 0),(85,.bool true)] (fun f=>?_)));refine Me R (Cs (Xu 1 [(2,.bool false)] (Xk (Cr (Kr (Rz (.bool false) R ?_))))));obtain rfl:=Sj a;exact ⟨R,d⟩
 refine Yg b 0 6 (Vi j) R R (Rf Vf _) M5 c nn R (Xu 3 [(69,Bd (j<0)),(70,Bd (j<0)),(71,Bd (j<0))] (Xw 71 _ R a (fun a=>?_) (fun a=>?_)))
 · refine Xu 14 (Un 72 3++[(75,.bool true),(76,.bool true)]++Un 77 3++[(80,.bool true),(81,.bool true)]++Un 82 3++[(85,.bool true)]) (Xk (Cn [(1,Vp b 0),(85,.bool true)] (fun f=>?_)));refine Me R (Cs (Xu 1 [(2,.bool false)] (Xk (Cr (Kr (Rz (.bool false) R ?_))))));obtain rfl:=Sj a;exact ⟨R,d⟩
 refine Yg b 0 6 (Vi j) R R (Rf Vf _) M5 c nn R (Xu 3 [(74,Bd (j>5000)),(75,Bd (j>5000)),(76,Bd (j>5000))] (Xw 76 _ R a (fun a=>?_) (fun a=>?_)))
 · refine Xu 9 (Un 77 3++[(80,.bool true),(81,.bool true)]++Un 82 3++[(85,.bool true)]) (Xk (Cn [(1,Vp b 0),(85,.bool true)] (fun f=>?_)));refine Me R (Cs (Xu 1 [(2,.bool false)] (Xk (Cr (Kr (Rz (.bool false) R ?_))))));obtain rfl:=Sj a;exact ⟨R,d⟩
 refine Yg b 0 3 (Vi g) R R (Rf R9 _) M5 c nn R (Xu 3 [(79,Bd (g<0)),(80,Bd (g<0)),(81,Bd (g<0))] (Xw 81 _ R a (fun a=>?_) (fun a=>?_)))
 · refine Xu 4 (Un 82 3++[(85,.bool true)]) (Xk (Cn [(1,Vp b 0),(85,.bool true)] (fun f=>?_)));refine Me R (Cs (Xu 1 [(2,.bool false)] (Xk (Cr (Kr (Rz (.bool false) R ?_))))));obtain rfl:=Sj a;exact ⟨R,d⟩
 refine Yg b 0 3 (Vi g) R R (Rf R9 _) M5 c nn R (Xu 2 [(84,Bd (g>2)),(85,Bd (g>2))] (Xk (Cn [(1,Vp b 0),(85,Bd (g>2))] (fun f=>?_))));refine Ci _ R a (fun a=>?_) (fun a=>?_)
 · refine Cs (Xu 1 [(2,.bool false)] (Xk (Cr (Kr (Rz (.bool false) R ?_)))));obtain rfl:=Sj a;exact ⟨R,d⟩
 refine Ck (Kt (Cq (Cs (Yg b 0 0 (Vi k) R R (Rf MC _) M5 c nn R (Xu 1 [(88,.bool (k==2))] (Xk (Ci _ R a (fun a=>?_) (fun a=>?_))))))))
 · refine Cs (Yg b 0 7 (Vi e) R R (Rf TE _) M5 c nn R (Xu 2 [(91,Bd (e≥1)),(92,Bd (e≥1))] (Xw 92 _ R a (fun a=>?_) (fun a=>?_))))
   · refine Yg b 0 7 (Vi e) R R (Rf TE _) M5 c nn R (Xu 3 [(95,Bd (e≤1000000000)),(96,Bd (e≤1000000000)),(2,Bd (e≤1000000000))] (Xk (Cr (Kr (Rz (Bd (e≤1000000000)) R ?_)))));obtain rfl:=Sj a;exact ⟨R,d⟩
   refine Xu 5 [(93,U0),(94,U0),(95,U0),(96,.bool false),(2,.bool false)] (Xk (Cr (Kr (Rz (.bool false) R ?_))));obtain rfl:=Sj a;exact ⟨R,d⟩
 refine Ck (Kt (Cs (Yg b 0 7 (Vi e) R R (Rf TE _) M5 c nn R (Xu 2 [(99,.bool (e==0)),(2,.bool (e==0))] (Xk (Cr (Rz (.bool (e==0)) R ?_)))))));obtain rfl:=Sj a;exact ⟨R,d⟩
def YH (b:List (Int×(List UInt8)×Int×Int×Int×Int×Int×Int)) (d:Int) (c:Int×(List UInt8)×Int×Int×Int×Int×Int×Int) (e:Int):Option (Mm Int (Unit⊕Unit)):=
match e with
| a=>
(if (decide (a<d))=true then
((idx b a).bind fun f=>
(if (f.2.2.1==c.2.2.1)=true then
((idx b a).bind fun g=>
(if (g.2.2.2.1==c.2.2.2.1)=true then
some (.done (.inl ()))
else
some (.next (M4 (a+1)))))
else
some (.next (M4 (a+1)))))
else
some (.done (.inr ())))
def VE (b:List (Int×(List UInt8)×Int×Int×Int×Int×Int×Int)) (c:Int) (f:Int×(List UInt8)×Int×Int×Int×Int×Int×Int) (d:Int):Option (Mm Int (Unit⊕Unit)):=
match d with
| a=>
(if (decide (a<c))=true then
((idx b a).bind fun e=>
(if (e.2.1==f.2.1)=true then
some (.done (.inl ()))
else
some (.next (M4 (a+1)))))
else
some (.done (.inr ())))
def Zs (c:List (Int×(List UInt8)×Int×Int×Int×Int×Int×Int)) (b:Int):Option Int:=
((idx c b).bind fun a=>
((Yh a.1 a.2.1 a.2.2.1 a.2.2.2.1 a.2.2.2.2.1 a.2.2.2.2.2.1 a.2.2.2.2.2.2.1 a.2.2.2.2.2.2.2).bind fun f=>
(if (!f)=true then
some 1
else
(if ((a.1==0)!=(b==0))=true then
some 1
else
((loop (VE c b a) 0).bind fun d=>match d with
| (.inl _)=>some 8
| (.inr _)=>(if (b==0)=true then
some 0
else
(if (decide (a.2.2.1<0))=true then
some 12
else
(if (decide (a.2.2.1≥b))=true then
some 12
else
((idx c a.2.2.1).bind fun e=>
(if (e.1==4)=true then
some 17
else
(if ((e.1==3)==(a.2.2.2.1==0))=true then
some 17
else
((loop (YH c b a) 1).bind fun d=>match d with
| (.inl _)=>some 17
| (.inr _)=>some 0))))))))))))
theorem M6v (n o l f J t y)(i:MS t [y])(k:Ma (M3 eI (M3 Mv (M3 eI (M3 eI (M7))))) t (fl [y]) n o l)(c:Zs l f=some J):Md Tryz.prog 60 [Vl n l o,Vi f] t fun K r=>K=Vi J∧Ev [] t r:=by
 refine Cw hmx Tryz.func60 R R R ?_;have d:=Ev.refl [] t;have s:=FR.nil t.heap.size;refine Cs (Xu 1 [(4,Vi 0)] (Xk (Cs (Xu 2 [(9,Vl n l o),(10,Vi f)] ?_))));obtain ⟨a,af,c⟩:=Bs c;refine Zf [Vi a.1,Vs a.2.1,Vi a.2.2.1,Vi a.2.2.2.1,Vi a.2.2.2.2.1,Vi a.2.2.2.2.2.1,Vi a.2.2.2.2.2.2.1,Vi a.2.2.2.2.2.2.2] (k.el My) Pb af R (fun _=>R) (fun _=>Xj #[Vi 0,Vs ([]:List UInt8),Vi 0,Vi 0,Vi 0,Vi 0,Vi 0,Vi 0] R (fun h an I g Z=>?_));have s:=s.box d.size I;obtain ⟨k,i,d⟩:=E3 (Cx.b i Z I g) k i d;obtain ⟨ai,ab,X,H⟩:=Sa [Vi a.1,Vs a.2.1,Vi a.2.2.1,Vi a.2.2.2.1,Vi a.2.2.2.2.1,Vi a.2.2.2.2.2.1,Vi a.2.2.2.2.2.2.1,Vi a.2.2.2.2.2.2.2] Pb g R R R;refine Xp ab R ?_;obtain ⟨k,i⟩:=E2 (Cx.j i 0 H) k i;have d:=d.th H s 0;have g:=X;refine Xk (Cq (Cs (Yl _ _ R (Ra 0 [Vi a.1,Vs a.2.1,Vi a.2.2.1,Vi a.2.2.2.1,Vi a.2.2.2.2.1,Vi a.2.2.2.2.2.1,Vi a.2.2.2.2.2.2.1,Vi a.2.2.2.2.2.2.2] Pb g nn R) ?_)));obtain ⟨Q,ac,c⟩:=Bs c;have Y:=M5r a.1 a.2.1 a.2.2.1 a.2.2.2.1 a.2.2.2.2.1 a.2.2.2.2.2.1 a.2.2.2.2.2.2.1 a.2.2.2.2.2.2.2 _ ai ac;refine Xv Y R ?_;rintro K ao ⟨rfl,aa⟩;obtain ⟨k,g,i,d⟩:=E4 (Cx.e i aa) k g i d;refine Xu 2 [(15,.bool (!Q)),(16,.bool (!Q))] (Xw 16 _ R c (fun c=>?_) (fun c=>?_))
 · refine Xu 7 [(17,U0),(18,U0),(19,U0),(20,U0),(21,U0),(22,U0),(23,.bool true)] (Xk (Me R (Cs (Xu 1 [(4,Vi 1)] (Xk (Cr (Kr (Rz (Vi 1) R ?_))))))));obtain rfl:=Sj c;exact ⟨R,d⟩
 refine Yg h 0 0 (Vi a.1) R R (Rf MC _) M5 g nn R (Xu 3 [(19,.bool (a.1==0)),(20,Vi f),(21,.bool (f==0))] (MW (.bool ((a.1==0)!=(f==0))) (.bool (a.1==0)) (.bool (f==0)) R R R R (WN Zh) (Xu 1 [(23,.bool ((a.1==0)!=(f==0)))] (Xk (Ci _ R c (fun c=>?_) (fun c=>?_))))))
 · refine Cs (Xu 1 [(4,Vi 1)] (Xk (Cr (Kr (Rz (Vi 1) R ?_)))));obtain rfl:=Sj c;exact ⟨R,d⟩
 refine Ck (Kt (Cq (Cs (Xu 1 [(6,Vi 0)] (Xk (Cb ?_))))));obtain ⟨S,C,F⟩:=Bs c;obtain ⟨B,C⟩:=Lo C;refine Cl (Lr hmx (σ:=Nat×Int) (fun q=>match q with | (_,p)=>[(0,Vl n l o),(1,Vi f),(5,Vp h 0),(6,Vi p)]) (fun q r=>match q with | (E,p)=>Mh (VE l f a) E p=some S∧Ev [] t r∧MS r [[h],y]∧FR t.heap.size [[h]]∧Ma (M3 eI (M3 Mv (M3 eI (M3 eI (M7))))) r (fl [[h],y]) n o l∧r.heap[h]? = some (.cells #[Vi a.1,Vs a.2.1,Vi a.2.2.1,Vi a.2.2.2.1,Vi a.2.2.2.2.1,Vi a.2.2.2.2.2.1,Vi a.2.2.2.2.2.2.1,Vi a.2.2.2.2.2.2.2] 65 (0,0))) (fun q=>q.1) (B,0) ⟨R,R,R,R,T0⟩ ⟨C,d,i,s,k,g⟩ ?_);rintro ⟨B,p⟩ v aj ⟨z,d,i,s,k,g⟩;rcases B with _ | B
 · exact (Lz z).elim
 obtain ⟨al,c,z⟩:=Bs z;refine Cq (Cs (Xu 3 [(24,Vi p),(25,Vi f),(26,Bd (p<f))] (Xk (Cn [(0,Vl n l o),(1,Vi f),(5,Vp h 0),(6,Vi p),(26,Bd (p<f))] (fun v=>?_)))));refine Ci _ R c (fun c=>?_) (fun c=>?_)
 · refine Ck (Kt (Cq (Cb (Cq (Cd [] [(0,false),(1,false),(2,false),(3,false),(4,false),(5,false),(6,false),(7,false)] _ (by kernel_rfl) R ?_)))));obtain ⟨k,g,i,d⟩:=E4 (Cx.e i (Ev.drew aj)) k g i d;refine Xu 2 [(29,Vl n l o),(30,Vi p)] ?_;obtain ⟨L,ad,c⟩:=Bs c;refine Xq (k.el My) WS Zg ad R (fun _=>R) (fun _=>Yg h 0 1 (Vs a.2.1) R R (Rf WS _) Zg g nn R (MW (.bool (L.2.1==a.2.1)) (Vs L.2.1) (Vs a.2.1) R R R R (M9W) (Xk (Ci _ R c (fun c=>?_) (fun c=>?_)))))
   · refine Cs (Xu 1 [(4,Vi 8)] (Xk (Cr (Kb (Kr ?_)))));obtain rfl:=Sj c;have x:=Sj z;subst x;have c:=F;refine Kr (Kb (Kr (Rz (Vi 8) R ?_)));obtain rfl:=Sj c;exact ⟨R,d⟩
   refine Ck (Kl (Kt (Cp (Xu 3 [(27,Vi p),(28,Vi (M4 (p+1))),(6,Vi (M4 (p+1)))] (Xe R ?_)))));obtain rfl:=Sj c;exact Kt ⟨(B,M4 (p+1)),⟨R,R,R,R,T0⟩,⟨z,d,i,s,k,g⟩,Ns _⟩
 refine Ce (Ke ?_);obtain rfl:=Sj c;have x:=Sj z;subst x;have c:=F;refine Ke (Ki (Kt (Cn [(0,Vl n l o),(1,Vi f),(5,Vp h 0)] (fun v=>?_))));refine Cq (Cs (Xu 2 [(37,Vi f),(38,.bool (f==0))] (Xk (Ci _ R c (fun c=>?_) (fun c=>?_)))))
 · refine Cs (Xu 1 [(4,Vi 0)] (Xk (Cr (Kr (Rz (Vi 0) R ?_)))));obtain rfl:=Sj c;exact ⟨R,d⟩
 refine Ck (Kt (Cq (Cs (Yg h 0 2 (Vi a.2.2.1) R R (Rf PO _) M5 g nn R (Xu 2 [(41,Bd (a.2.2.1<0)),(42,Bd (a.2.2.1<0))] (Xw 42 _ R c (fun c=>?_) (fun c=>?_)))))))
 · refine Xu 5 [(43,U0),(44,U0),(45,U0),(46,U0),(47,.bool true)] (Xk (Me R (Cs (Xu 1 [(4,Vi 12)] (Xk (Cr (Kr (Rz (Vi 12) R ?_))))))));obtain rfl:=Sj c;exact ⟨R,d⟩
 refine Yg h 0 2 (Vi a.2.2.1) R R (Rf PO _) M5 g nn R (Xu 3 [(45,Vi f),(46,Bd (a.2.2.1≥f)),(47,Bd (a.2.2.1≥f))] (Xk (Ci _ R c (fun c=>?_) (fun c=>?_))))
 · refine Cs (Xu 1 [(4,Vi 12)] (Xk (Cr (Kr (Rz (Vi 12) R ?_)))));obtain rfl:=Sj c;exact ⟨R,d⟩
 refine Ck (Kt (Cs (Xu 1 [(48,Vl n l o)] (Yg h 0 2 (Vi a.2.2.1) R R (Rf PO _) M5 g nn R ?_))));obtain ⟨u,ae,c⟩:=Bs c;refine Xq (k.el My) MC M5 ae R (fun _=>R) (fun _=>Xu 1 [(7,Vi u.1)] (Xk (Cq (Cs (Xu 3 [(54,Vi u.1),(55,.bool (u.1==4)),(56,.bool (u.1==4))] (Xw 56 _ R c (fun c=>?_) (fun c=>?_)))))))
 · refine Xu 7 (Un 57 6++[(63,.bool true)]) (Xk (Cn [(0,Vl n l o),(1,Vi f),(5,Vp h 0),(63,.bool true)] (fun v=>?_)));refine Me R (Cs (Xu 1 [(4,Vi 17)] (Xk (Cr (Kr (Rz (Vi 17) R ?_))))));obtain rfl:=Sj c;exact ⟨R,d⟩
 refine Xu 2 [(57,Vi u.1),(58,.bool (u.1==3))] (Yg h 0 3 (Vi a.2.2.2.1) R R (Rf R9 _) M5 g nn R (Xu 1 [(61,.bool (a.2.2.2.1==0))] (MW (.bool ((u.1==3)==(a.2.2.2.1==0))) (.bool (u.1==3)) (.bool (a.2.2.2.1==0)) R R R R (M0l Zh) (Xu 1 [(63,.bool ((u.1==3)==(a.2.2.2.1==0)))] (Xk (Cn [(0,Vl n l o),(1,Vi f),(5,Vp h 0),(63,.bool ((u.1==3)==(a.2.2.2.1==0)))] (fun v=>?_)))))));refine Ci _ R c (fun c=>?_) (fun c=>?_)
 · refine Cs (Xu 1 [(4,Vi 17)] (Xk (Cr (Kr (Rz (Vi 17) R ?_)))));obtain rfl:=Sj c;exact ⟨R,d⟩
 refine Ck (Kt (Cq (Cs (Xu 1 [(8,Vi 1)] (Xk (Cb ?_))))));obtain ⟨U,D,G⟩:=Bs c;obtain ⟨A,D⟩:=Lo D;refine Cl (Lr hmx (σ:=Nat×Int) (fun q=>match q with | (_,m)=>[(0,Vl n l o),(1,Vi f),(5,Vp h 0),(8,Vi m)]) (fun q r=>match q with | (E,m)=>Mh (YH l f a) E m=some U∧Ev [] t r∧MS r [[h],y]∧FR t.heap.size [[h]]∧Ma (M3 eI (M3 Mv (M3 eI (M3 eI (M7))))) r (fl [[h],y]) n o l∧r.heap[h]? = some (.cells #[Vi a.1,Vs a.2.1,Vi a.2.2.1,Vi a.2.2.2.1,Vi a.2.2.2.2.1,Vi a.2.2.2.2.2.1,Vi a.2.2.2.2.2.2.1,Vi a.2.2.2.2.2.2.2] 65 (0,0))) (fun q=>q.1) (A,1) ⟨R,R,R,R,T0⟩ ⟨D,d,i,s,k,g⟩ ?_);rintro ⟨A,m⟩ v ak ⟨w,d,i,s,k,g⟩;rcases A with _ | A
 · exact (Lz w).elim
 obtain ⟨am,c,w⟩:=Bs w;refine Cq (Cs (Xu 3 [(64,Vi m),(65,Vi f),(66,Bd (m<f))] (Xk (Cn [(0,Vl n l o),(1,Vi f),(5,Vp h 0),(8,Vi m),(66,Bd (m<f))] (fun v=>?_)))));refine Ci _ R c (fun c=>?_) (fun c=>?_)
 · refine Ck (Kt (Cq (Cb (Cq (Cd [] [(0,false),(1,false),(2,false),(3,false),(4,false),(5,false),(6,false),(7,false),(8,false),(9,false),(10,false),(11,false),(12,false),(13,false),(14,false),(15,false),(16,false),(17,false)] _ (by kernel_rfl) R ?_)))));obtain ⟨k,g,i,d⟩:=E4 (Cx.e i (Ev.drew ak)) k g i d;refine Xu 2 [(69,Vl n l o),(70,Vi m)] ?_;obtain ⟨N,ag,c⟩:=Bs c;refine Xq (k.el My) PO M5 ag R (fun _=>R) (fun _=>Yg h 0 2 (Vi a.2.2.1) R R (Rf PO _) M5 g nn R (Xu 2 [(76,.bool (N.2.2.1==a.2.2.1)),(77,.bool (N.2.2.1==a.2.2.1))] (Xw 77 _ R c (fun c=>?_) (fun c=>?_))))
   · refine Xu 2 [(78,Vl n l o),(79,Vi m)] ?_;obtain ⟨O,ah,c⟩:=Bs c;refine Xq (k.el My) R9 M5 ah R (fun _=>R) (fun _=>Yg h 0 3 (Vi a.2.2.2.1) R R (Rf R9 _) M5 g nn R (Xu 2 [(85,.bool (O.2.2.2.1==a.2.2.2.1)),(86,.bool (O.2.2.2.1==a.2.2.2.1))] (Xk (Ci _ R c (fun c=>?_) (fun c=>?_)))))
     · refine Cs (Xu 1 [(4,Vi 17)] (Xk (Cn [(4,Vi 17)] (fun v=>?_))));refine Cr (Kb (Kr ?_));obtain rfl:=Sj c;have x:=Sj w;subst x;have c:=G;refine Kr (Kb (Kr (Rz (Vi 17) R ?_)));obtain rfl:=Sj c;exact ⟨R,d⟩
     refine Ck (Kl (Kt (Cp (Xu 3 [(67,Vi m),(68,Vi (M4 (m+1))),(8,Vi (M4 (m+1)))] (Xe R ?_)))));obtain rfl:=Sj c;exact Kt ⟨(A,M4 (m+1)),⟨R,R,R,R,T0⟩,⟨w,d,i,s,k,g⟩,Ns _⟩
   refine Xu 9 [(78,U0),(79,U0),(80,U0),(81,U0),(82,U0),(83,U0),(84,U0),(85,U0),(86,.bool false)] (Xk (PE R (Ck (Kl (Kt (Cp (Xu 3 [(67,Vi m),(68,Vi (M4 (m+1))),(8,Vi (M4 (m+1)))] (Xe R ?_))))))));obtain rfl:=Sj c;exact Kt ⟨(A,M4 (m+1)),⟨R,R,R,R,T0⟩,⟨w,d,i,s,k,g⟩,Ns _⟩
 refine Ce (Ke ?_);obtain rfl:=Sj c;have x:=Sj w;subst x;have c:=G;refine Ke (Ki (Kt (RJ [] T0 (fun v=>?_))));refine Cs (Xu 1 [(4,Vi 0)] (Xk (Cr (Rz (Vi 0) R ?_))));obtain rfl:=Sj c;exact ⟨R,d⟩
def XO (c:List (Int×(List UInt8)×Int×Int×Int×Int×Int×Int)) (d:Int) (e:Int×Int):Option (Mm (Int×Int) Int):=
match e with
| (b,a)=>
(if (decide (a<((c).length:Int)))=true then
((idx c a).bind fun f=>
(if (f.2.2.1==d)=true then
some (.next (M4 (b+1),M4 (a+1)))
else
some (.next (b,M4 (a+1)))))
else
some (.done b))
def XP (c:List (Int×(List UInt8)×Int×Int×Int×Int×Int×Int)) (f:Int):Option (Mm Int (Unit⊕Unit)):=
match f with
| a=>
(if (decide (a<((c).length:Int)))=true then
((loop (XO c a) (0,1)).bind fun e=>match e with
| b=>((idx c a).bind fun d=>
(if (d.1==3)=true then
(if (decide (b<2))=true then
some (.done (.inl ()))
else
some (.next (M4 (a+1))))
else
(if (d.1==4)=true then
(if (decide (b<0))=true then
some (.done (.inl ()))
else
some (.next (M4 (a+1))))
else
(if (decide (b<1))=true then
some (.done (.inl ()))
else
some (.next (M4 (a+1))))))))
else
some (.done (.inr ())))
def YI (b:List (Int×(List UInt8)×Int×Int×Int×Int×Int×Int)) (e:Int×Int):Option (Mm (Int×Int) (Int⊕Int)):=
match e with
| (c,a)=>
(if (decide (a<((b).length:Int)))=true then
((Zs b a).bind fun d=>
(if (d != 0)=true then
some (.done (.inl d))
else
((idx b a).bind fun f=>
(if (f.1==4)=true then
some (.next (M4 (c+1),M4 (a+1)))
else
some (.next (c,M4 (a+1)))))))
else
some (.done (.inr c)))
def WI (a:List (Int×(List UInt8)×Int×Int×Int×Int×Int×Int)):Option Int:=
(if (decide (((a).length:Int)>128))=true then
some 3
else
(if (((a).length:Int)==0)=true then
some 13
else
((loop (YI a) (0,0)).bind fun b=>match b with
| (.inl c)=>some c
| (.inr d)=>((loop (XP a) 0).bind fun b=>match b with
| (.inl _)=>some 13
| (.inr _)=>(if (decide (d>32))=true then
some 3
else
some 0)))))
theorem M26 (d f b I r u)(k:MS r [u])(h:Ma (M3 eI (M3 Mv (M3 eI (M3 eI (M7))))) r (fl [u]) d f b)(a:WI b=some I):Md Tryz.prog 27 [Vl d b f] r fun J q=>J=Vi I∧Ev [] r q:=by
 refine Cw hmx Tryz.func27 R R R ?_;have g:=Ev.refl [] r;have o:=FR.nil r.heap.size;refine Cs (Xu 1 [(2,Vi 0)] (Xk (Cq (Cs (Xu 1 [(10,Vl d b f)] (Xz My R (Xu 1 [(12,Bd (((b).length:Int)>128))] (Xk (Ci _ R a (fun a=>?_) (fun a=>?_))))))))))
 · refine Cs (Xu 1 [(2,Vi 3)] (Xk (Cr (Kr (Rz (Vi 3) R ?_)))));obtain rfl:=Sj a;exact ⟨R,g⟩
 refine Ck (Kt (Cq (Cs (Xu 1 [(13,Vl d b f)] (Xz My R (Xu 1 [(15,.bool (((b).length:Int)==0))] (Xk (Ci _ R a (fun a=>?_) (fun a=>?_)))))))))
 · refine Cs (Xu 1 [(2,Vi 13)] (Xk (Cr (Kr (Rz (Vi 13) R ?_)))));obtain rfl:=Sj a;exact ⟨R,g⟩
 refine Ck (Kt (Cs (Xu 1 [(3,Vi 0)] (Xk (Cq (Cs (Xu 1 [(4,Vi 0)] (Xk (Cb ?_)))))))));obtain ⟨N,G,H⟩:=Bs a;obtain ⟨z,G⟩:=Lo G;refine Cl (Lr hmx (σ:=Nat×Int×Int) (fun n=>match n with | (_,j,i)=>[(0,Vl d b f),(3,Vi j),(4,Vi i)]) (fun n q=>match n with | (B,j,i)=>Mh (YI b) B (j,i)=some N∧Ev [] r q∧MS q [u]∧FR r.heap.size []∧Ma (M3 eI (M3 Mv (M3 eI (M3 eI (M7))))) q (fl [u]) d f b) (fun n=>n.1) (z,0,0) ⟨R,R,R,T0⟩ ⟨G,g,k,o,h⟩ ?_);rintro ⟨z,j,i⟩ t ac ⟨v,g,k,o,h⟩;rcases z with _ | z
 · exact (Lz v).elim
 obtain ⟨ah,a,v⟩:=Bs v;refine Cq (Cs (Xu 2 [(16,Vi i),(17,Vl d b f)] (Xz My R (Xu 1 [(19,Bd (i<((b).length:Int)))] (Xk (Cn [(0,Vl d b f),(3,Vi j),(4,Vi i),(19,Bd (i<((b).length:Int)))] (fun t=>?_)))))));refine Ci _ R a (fun a=>?_) (fun a=>?_)
 · refine Ck (Kt (Cq (Cb (Cq (Cs (Xu 2 [(22,Vl d b f),(23,Vi i)] ?_))))));obtain ⟨A,Y,a⟩:=Bs a;obtain ⟨U,X⟩:=Kc k [] [0];have Q:=M6v d f b i _ ac _ U (h.sub X) Y;refine Xv Q R ?_;rintro J ai ⟨rfl,S⟩;obtain ⟨h,k,g⟩:=E3 (Cx.e k S) h k g;refine Xu 1 [(5,Vi A)] (Xk (Cs (Xu 2 [(25,Vi A),(26,.bool (A != 0))] (Xk (Ci _ R a (fun a=>?_) (fun a=>?_))))))
   · refine Cs (Xu 2 [(27,Vi A),(2,Vi A)] (Xk (Cr (Kr (Kb (Kr ?_))))));obtain rfl:=Sj a;have p:=Sj v;subst p;have a:=H;refine Kr (Kb (Kr (Rz (Vi A) R ?_)));obtain rfl:=Sj a;exact ⟨R,g⟩
   refine Ck (Kt (Cs (Xu 2 [(28,Vl d b f),(29,Vi i)] ?_)));obtain ⟨ad,Z,a⟩:=Bs a;refine Xq (h.el My) MC M5 Z R (fun _=>R) (fun _=>Xu 1 [(33,.bool (ad.1==4))] (Xk (Ci _ R a (fun a=>?_) (fun a=>?_))))
   · refine Cp (Xu 3 [(34,Vi j),(35,Vi (M4 (j+1))),(3,Vi (M4 (j+1)))] (Xe R (Kl (Kt (Cp (Xu 3 [(20,Vi i),(21,Vi (M4 (i+1))),(4,Vi (M4 (i+1)))] (Xe R ?_)))))));obtain rfl:=Sj a;exact Kt ⟨(z,M4 (j+1),M4 (i+1)),⟨R,R,R,T0⟩,⟨v,g,k,o,h⟩,Ns _⟩
   refine Ck (Kl (Kt (Cp (Xu 3 [(20,Vi i),(21,Vi (M4 (i+1))),(4,Vi (M4 (i+1)))] (Xe R ?_)))));obtain rfl:=Sj a;exact Kt ⟨(z,j,M4 (i+1)),⟨R,R,R,T0⟩,⟨v,g,k,o,h⟩,Ns _⟩
 refine Ce (Ke ?_);obtain rfl:=Sj a;have p:=Sj v;subst p;have a:=H;refine Ke (Ki (Kt (Cn [(0,Vl d b f),(3,Vi j)] (fun t=>?_))));refine Cq (Cs (Xu 1 [(6,Vi 0)] (Xk (Cb ?_))));obtain ⟨K,E,C⟩:=Bs a;obtain ⟨w,E⟩:=Lo E;refine Cl (Lr hmx (σ:=Nat×Int) (fun n=>match n with | (_,c)=>[(0,Vl d b f),(3,Vi j),(6,Vi c)]) (fun n q=>match n with | (B,c)=>Mh (XP b) B c=some K∧Ev [] r q∧MS q [u]∧FR r.heap.size []∧Ma (M3 eI (M3 Mv (M3 eI (M3 eI (M7))))) q (fl [u]) d f b) (fun n=>n.1) (w,0) ⟨R,R,R,T0⟩ ⟨E,g,k,o,h⟩ ?_);rintro ⟨w,c⟩ t aj ⟨s,g,k,o,h⟩;rcases w with _ | w
 · exact (Lz s).elim
 obtain ⟨af,a,s⟩:=Bs s;refine Cq (Cs (Xu 2 [(36,Vi c),(37,Vl d b f)] (Xz My R (Xu 1 [(39,Bd (c<((b).length:Int)))] (Xk (Cn [(0,Vl d b f),(3,Vi j),(6,Vi c),(39,Bd (c<((b).length:Int)))] (fun t=>?_)))))));refine Ci _ R a (fun a=>?_) (fun a=>?_)
 · refine Ck (Kt (Cq (Cb (Cs (Xu 1 [(7,Vi 0)] (Xk (Cq (Cs (Xu 1 [(8,Vi 1)] ?_)))))))));refine Xk (Cb ?_);obtain ⟨L,F,O⟩:=Bs a;obtain ⟨y,F⟩:=Lo F;refine Cl (Lr hmx (σ:=Nat×Int×Int) (fun n=>match n with | (_,m,l)=>[(0,Vl d b f),(3,Vi j),(6,Vi c),(7,Vi m),(8,Vi l)]) (fun n q=>match n with | (B,m,l)=>Mh (XO b c) B (m,l)=some L∧Ev [] r q∧MS q [u]∧FR r.heap.size []∧Ma (M3 eI (M3 Mv (M3 eI (M3 eI (M7))))) q (fl [u]) d f b) (fun n=>n.1) (y,0,1) ⟨R,R,R,R,R,T0⟩ ⟨F,g,k,o,h⟩ ?_);rintro ⟨y,m,l⟩ t ak ⟨x,g,k,o,h⟩;rcases y with _ | y
   · exact (Lz x).elim
   obtain ⟨ag,a,x⟩:=Bs x;refine Cq (Cs (Xu 2 [(42,Vi l),(43,Vl d b f)] (Xz My R (Xu 1 [(45,Bd (l<((b).length:Int)))] (Xk (Cn [(0,Vl d b f),(3,Vi j),(6,Vi c),(7,Vi m),(8,Vi l),(45,Bd (l<((b).length:Int)))] (fun t=>?_)))))));refine Ci _ R a (fun a=>?_) (fun a=>?_)
   · refine Ck (Kt (Cq (Cb (Cs (Xu 2 [(48,Vl d b f),(49,Vi l)] ?_)))));obtain ⟨ae,aa,a⟩:=Bs a;refine Xq (h.el My) PO M5 aa R (fun _=>R) (fun _=>Xu 2 [(53,Vi c),(54,.bool (ae.2.2.1==c))] (Xk (Ci _ R a (fun a=>?_) (fun a=>?_))))
     · refine Cp (Xu 3 [(55,Vi m),(56,Vi (M4 (m+1))),(7,Vi (M4 (m+1)))] (Xe R (Kl (Kt (Cp (Xu 3 [(46,Vi l),(47,Vi (M4 (l+1))),(8,Vi (M4 (l+1)))] (Xe R ?_)))))));obtain rfl:=Sj a;exact Kt ⟨(y,M4 (m+1),M4 (l+1)),⟨R,R,R,R,R,T0⟩,⟨x,g,k,o,h⟩,Ns _⟩
     refine Ck (Kl (Kt (Cp (Xu 3 [(46,Vi l),(47,Vi (M4 (l+1))),(8,Vi (M4 (l+1)))] (Xe R ?_)))));obtain rfl:=Sj a;exact Kt ⟨(y,m,M4 (l+1)),⟨R,R,R,R,R,T0⟩,⟨x,g,k,o,h⟩,Ns _⟩
   refine Ce (Ke ?_);obtain rfl:=Sj a;have p:=Sj x;subst p;have a:=O;refine Ke (Ki (Kt (Cn [(0,Vl d b f),(3,Vi j),(6,Vi c),(7,Vi m)] (fun t=>?_))));refine Cs (Xu 1 [(9,Vi 1)] (Xk (Cq (Cs (Xu 2 [(57,Vl d b f),(58,Vi c)] ?_)))));obtain ⟨D,ab,a⟩:=Bs a;refine Xq (h.el My) MC M5 ab R (fun _=>R) (fun _=>Xk (Cb (Cs (Xu 2 [(63,.bool (D.1==3)),(62,.bool (D.1==3))] (Xk (Ci _ R a (fun a=>?_) (fun a=>?_)))))))
   · refine Cp (Xu 1 [(9,Vi 2)] (Xe R (Kl (Kt (Cs (Xu 3 [(66,Vi m),(67,Vi 2),(68,Bd (m<2))] (Xk (Ci _ R a (fun a=>?_) (fun a=>?_)))))))))
     · refine Cs (Xu 1 [(2,Vi 13)] (Xk (Cr (Kb (Kr ?_)))));obtain rfl:=Sj a;have p:=Sj s;subst p;have a:=C;refine Kr (Kb (Kr (Rz (Vi 13) R ?_)));obtain rfl:=Sj a;exact ⟨R,g⟩
     refine Ck (Kl (Kt (Cp (Xu 3 [(40,Vi c),(41,Vi (M4 (c+1))),(6,Vi (M4 (c+1)))] (Xe R ?_)))));obtain rfl:=Sj a;exact Kt ⟨(w,M4 (c+1)),⟨R,R,R,T0⟩,⟨s,g,k,o,h⟩,Ns _⟩
   refine Cs (Xu 2 [(65,.bool (D.1==4)),(64,.bool (D.1==4))] (Xk (Ci _ R a (fun a=>?_) (fun a=>?_))))
   · refine Cp (Xu 1 [(9,Vi 0)] (Xe R (Kl (Kt (Cs (Xu 3 [(66,Vi m),(67,Vi 0),(68,Bd (m<0))] (Xk (Ci _ R a (fun a=>?_) (fun a=>?_)))))))))
     · refine Cs (Xu 1 [(2,Vi 13)] (Xk (Cr (Kb (Kr ?_)))));obtain rfl:=Sj a;have p:=Sj s;subst p;have a:=C;refine Kr (Kb (Kr (Rz (Vi 13) R ?_)));obtain rfl:=Sj a;exact ⟨R,g⟩
     refine Ck (Kl (Kt (Cp (Xu 3 [(40,Vi c),(41,Vi (M4 (c+1))),(6,Vi (M4 (c+1)))] (Xe R ?_)))));obtain rfl:=Sj a;exact Kt ⟨(w,M4 (c+1)),⟨R,R,R,T0⟩,⟨s,g,k,o,h⟩,Ns _⟩
   refine Ck (Kl (Kt (Cs (Xu 3 [(66,Vi m),(67,Vi 1),(68,Bd (m<1))] (Xk (Ci _ R a (fun a=>?_) (fun a=>?_)))))))
   · refine Cs (Xu 1 [(2,Vi 13)] (Xk (Cr (Kb (Kr ?_)))));obtain rfl:=Sj a;have p:=Sj s;subst p;have a:=C;refine Kr (Kb (Kr (Rz (Vi 13) R ?_)));obtain rfl:=Sj a;exact ⟨R,g⟩
   refine Ck (Kl (Kt (Cp (Xu 3 [(40,Vi c),(41,Vi (M4 (c+1))),(6,Vi (M4 (c+1)))] (Xe R ?_)))));obtain rfl:=Sj a;exact Kt ⟨(w,M4 (c+1)),⟨R,R,R,T0⟩,⟨s,g,k,o,h⟩,Ns _⟩
 refine Ce (Ke ?_);obtain rfl:=Sj a;have p:=Sj s;subst p;have a:=C;refine Ke (Ki (Kt (Cn [(3,Vi j)] (fun t=>?_))));refine Cq (Cs (Xu 2 [(69,Vi j),(70,Bd (j>32))] (Xk (Ci _ R a (fun a=>?_) (fun a=>?_)))))
 · refine Cs (Xu 1 [(2,Vi 3)] (Xk (Cr (Kr (Rz (Vi 3) R ?_)))));obtain rfl:=Sj a;exact ⟨R,g⟩
 refine Ck (Kt (Cs (Xu 1 [(2,Vi 0)] (Xk (Cr (Rz (Vi 0) R ?_))))));obtain rfl:=Sj a;exact ⟨R,g⟩
def Rx (c:List (Int×(List UInt8)×Int×Int×Int×Int×Int×Int)) (e:Int×Int):Option (Mm (Int×Int) Int):=
match e with
| (b,a)=>
(if (decide (a<((c).length:Int)))=true then
((idx c a).bind fun f=>
(if (f.1==4)=true then
((idx c a).bind fun d=>
some (.next (if d.2.2.2.2.1<b then d.2.2.2.2.1 else b,M4 (a+1))))
else
some (.next (b,M4 (a+1)))))
else
some (.done b))
def MR (c:List (Int×(List UInt8)×Int×Int×Int×Int×Int×Int)):Option Int:=
((loop (Rx c) (1000000,0)).bind fun a=>match a with
| b=>some b)
theorem X1 (e f d t g o)(q:MS g [o])(j:Ma (M3 eI (M3 Mv (M3 eI (M3 eI (M7))))) g (fl [o]) e f d)(c:MR d=some t):Md Tryz.prog 13 [Vl e d f] g fun A n=>A=Vi t∧Ev [] g n:=by
 refine Cw hmx Tryz.func13 R R R ?_;have l:=Ev.refl [] g;have p:=FR.nil g.heap.size;refine Cs (Xu 1 [(2,Vi 0)] (Xk (Cs (Xu 1 [(3,Vi 1000000)] (Xk (Cq (Cs (Xu 1 [(4,Vi 0)] (Xk ?_)))))))));refine Cb ?_;obtain ⟨u,r,v⟩:=Bs c;obtain ⟨k,r⟩:=Lo r;refine Cl (Lr hmx (σ:=Nat×Int×Int) (fun m=>match m with | (_,b,a)=>[(0,Vl e d f),(3,Vi b),(4,Vi a)]) (fun m n=>match m with | (z,b,a)=>Mh (Rx d) z (b,a)=some u∧Ev [] g n∧MS n [o]∧FR g.heap.size []∧Ma (M3 eI (M3 Mv (M3 eI (M3 eI (M7))))) n (fl [o]) e f d) (fun m=>m.1) (k,1000000,0) ⟨R,R,R,T0⟩ ⟨r,l,q,p,j⟩ ?_);rintro ⟨k,b,a⟩ s D ⟨i,l,q,p,j⟩;rcases k with _ | k
 · exact (Lz i).elim
 obtain ⟨C,c,i⟩:=Bs i;refine Cq (Cs (Xu 2 [(5,Vi a),(6,Vl e d f)] (Xz My R (Xu 1 [(8,Bd (a<((d).length:Int)))] (Xk (Cn [(0,Vl e d f),(3,Vi b),(4,Vi a),(8,Bd (a<((d).length:Int)))] (fun s=>?_)))))));refine Ci _ R c (fun c=>?_) (fun c=>?_)
 · refine Ck (Kt (Cq (Cb (Cs (Xu 2 [(11,Vl e d f),(12,Vi a)] ?_)))));obtain ⟨B,w,c⟩:=Bs c;refine Xq (j.el My) MC M5 w R (fun _=>R) (fun _=>Xu 1 [(16,.bool (B.1==4))] (Xk (Ci _ R c (fun c=>?_) (fun c=>?_))))
   · refine Cp (Xu 3 [(17,Vi b),(18,Vl e d f),(19,Vi a)] ?_);obtain ⟨h,x,c⟩:=Bs c;refine Xq (j.el My) TF M5 x R (fun _=>R) (fun _=>M0K (vs:=[Vi b,Vi h.2.2.2.2.1]) (Vi (if h.2.2.2.2.1<b then h.2.2.2.2.1 else b)) R R R (fun _ _=>R) (Xu 1 [(3,Vi (if h.2.2.2.2.1<b then h.2.2.2.2.1 else b))] (Xe R (Kl (Kt (Cp (Xu 3 [(9,Vi a),(10,Vi (M4 (a+1))),(4,Vi (M4 (a+1)))] (Xe R ?_))))))));obtain rfl:=Sj c;exact Kt ⟨(k,if h.2.2.2.2.1<b then h.2.2.2.2.1 else b,M4 (a+1)),⟨R,R,R,T0⟩,⟨i,l,q,p,j⟩,Ns _⟩
   refine Ck (Kl (Kt (Cp (Xu 3 [(9,Vi a),(10,Vi (M4 (a+1))),(4,Vi (M4 (a+1)))] (Xe R ?_)))));obtain rfl:=Sj c;exact Kt ⟨(k,b,M4 (a+1)),⟨R,R,R,T0⟩,⟨i,l,q,p,j⟩,Ns _⟩
 refine Ce (Ke ?_);obtain rfl:=Sj c;have y:=Sj i;subst y;have c:=v;refine Ke (Ki (Kt (Cn [(3,Vi b)] (fun s=>?_))));refine Cs (Xu 2 [(24,Vi b),(2,Vi b)] (Xk (Cr (Rz (Vi b) R ?_))));obtain rfl:=Sj c;exact ⟨R,l⟩
def Yj (a:Int):Option Bool:=
(if (decide (a≥0))=true then
some (decide (a≤1000000000))
else
some false)
theorem M0u (a e c)(b:Yj a=some e):Md Tryz.prog 28 [Vi a] c fun f g=>f=.bool e∧Ev [] c g:=by
 refine Cw hmx Tryz.func28 R R R ?_;have d:=Ev.refl [] c;refine Cs (Xu 1 [(2,.bool false)] (Xk (Cs (Xu 3 [(3,Vi a),(4,Bd (a≥0)),(5,Bd (a≥0))] (Xw 5 _ R b (fun b=>?_) (fun b=>?_))))))
 · refine Xu 4 [(6,Vi a),(7,Bd (a≤1000000000)),(8,Bd (a≤1000000000)),(2,Bd (a≤1000000000))] (Xk (Cr (Rz (Bd (a≤1000000000)) R ?_)));obtain rfl:=Sj b;exact ⟨R,d⟩
 refine Xu 4 [(6,U0),(7,U0),(8,.bool false),(2,.bool false)] (Xk (Cr (Rz (.bool false) R ?_)));obtain rfl:=Sj b;exact ⟨R,d⟩
def Zt (b:List (Int×(List UInt8)×Int×Int×Int×Int×Int×Int)) (a:Int) (c:Int):Option Bool:=
(if (decide (a≥0))=true then
(if (decide (a<((b).length:Int)))=true then
((idx b a).bind fun d=>
(if (d.1==3)=true then
(if (c==1)=true then
some true
else
some (c==2))
else
some false))
else
some false)
else
some false)
theorem M36 (h i d c b l f k)(q:MS f [k])(m:Ma (M3 eI (M3 Mv (M3 eI (M3 eI (M7))))) f (fl [k]) h i d)(a:Zt d c b=some l):Md Tryz.prog 29 [Vl h d i,Vi c,Vi b] f fun o p=>o=.bool l∧Ev [] f p:=by
 refine Cw hmx Tryz.func29 R R R ?_;have e:=Ev.refl [] f;refine Cs (Xu 1 [(6,.bool false)] (Xk (Cs (Xu 3 [(7,Vi c),(8,Bd (c≥0)),(9,Bd (c≥0))] (Xw 9 _ R a (fun a=>?_) (fun a=>?_))))))
 · refine Xu 2 [(10,Vi c),(11,Vl h d i)] (Xz My R (Xu 3 [(13,Bd (c<((d).length:Int))),(14,Bd (c<((d).length:Int))),(15,Bd (c<((d).length:Int)))] (Xw 15 _ R a (fun a=>?_) (fun a=>?_))))
   · refine Xu 2 [(16,Vl h d i),(17,Vi c)] ?_;obtain ⟨j,n,a⟩:=Bs a;refine Xq (m.el My) MC M5 n R (fun _=>R) (fun _=>Xu 3 [(21,.bool (j.1==3)),(22,.bool (j.1==3)),(23,.bool (j.1==3))] (Xw 23 _ R a (fun a=>?_) (fun a=>?_)))
     · refine Xu 3 [(24,Vi b),(25,.bool (b==1)),(26,.bool (b==1))] (Xw 26 _ R a (fun a=>?_) (fun a=>?_))
       · refine Xu 5 [(27,U0),(28,U0),(29,.bool true),(30,.bool true),(6,.bool true)] (Xk (Cn [(6,.bool true)] (fun g=>?_)));refine Cr (Rz (.bool true) R ?_);obtain rfl:=Sj a;exact ⟨R,e⟩
       refine Xu 5 [(27,Vi b),(28,.bool (b==2)),(29,.bool (b==2)),(30,.bool (b==2)),(6,.bool (b==2))] (Xk (Cn [(6,.bool (b==2))] (fun g=>?_)));refine Cr (Rz (.bool (b==2)) R ?_);obtain rfl:=Sj a;exact ⟨R,e⟩
     refine Xu 8 (Un 24 6++[(30,.bool false),(6,.bool false)]) (Xk (Cn [(6,.bool false)] (fun g=>?_)));refine Cr (Rz (.bool false) R ?_);obtain rfl:=Sj a;exact ⟨R,e⟩
   refine Xu 16 (Un 16 6++[(22,.bool false),(23,.bool false)]++Un 24 6++[(30,.bool false),(6,.bool false)]) (Xk (Cn [(6,.bool false)] (fun g=>?_)));refine Cr (Rz (.bool false) R ?_);obtain rfl:=Sj a;exact ⟨R,e⟩
 refine Xu 22 (Un 10 4++[(14,.bool false),(15,.bool false)]++Un 16 6++[(22,.bool false),(23,.bool false)]++Un 24 6++[(30,.bool false),(6,.bool false)]) (Xk (Cn [(6,.bool false)] (fun g=>?_)));refine Cr (Rz (.bool false) R ?_);obtain rfl:=Sj a;exact ⟨R,e⟩
def V9 (e:List (Int×(List UInt8)×Int×Int×Int×Int×Int×Int)) (c:List Int) (d:List Int) (f:Bool×Int):Option (Mm (Bool×Int) Bool):=
match f with
| (b,a)=>
(if b=true then
(if (decide (a<((e).length:Int)))=true then
((idx c a).bind fun g=>
(if (decide (g≥(-5000)))=true then
((idx c a).bind fun h=>
(if (decide (h≤10000))=true then
((idx d a).bind fun i=>
(if (decide (i≥(-1)))=true then
((idx d a).bind fun j=>
some (.next (decide (j≤20000),M4 (a+1))))
else
some (.next (false,M4 (a+1)))))
else
some (.next (false,M4 (a+1)))))
else
some (.next (false,M4 (a+1)))))
else
some (.done b))
else
some (.done b))
def MZ (d:List (Int×(List UInt8)×Int×Int×Int×Int×Int×Int)) (e:List Int) (f:List Int) (b:Bool):Option Bool:=
((loop (V9 d e f) (b,0)).bind fun a=>match a with
| c=>some c)
def M2x (a:List (Int×(List UInt8)×Int×Int×Int×Int×Int×Int)) (g:Int) (e:Int) (d:Int) (f:Int) (b:List Int) (c:List Int):Option Bool:=
((Yj g).bind fun i=>
(if i=true then
(if (decide (e≥1))=true then
((MR a).bind fun j=>
(if (decide (e≤j))=true then
(if (decide (d≥0))=true then
(if (decide (d<((a).length:Int)))=true then
((idx a d).bind fun h=>
(if (h.1==4)=true then
(if (decide (f≥0))=true then
(if (decide (f≤20000))=true then
(if (((b).length:Int)==((a).length:Int))=true then
MZ a b c (((c).length:Int)==((a).length:Int))
else
MZ a b c false)
else
MZ a b c false)
else
MZ a b c false)
else
MZ a b c false))
else
MZ a b c false)
else
MZ a b c false)
else
MZ a b c false))
else
MZ a b c false)
else
MZ a b c false))
theorem M7U (m n d I u t v y A r z B q Q w G)(g:MS w [G])(j:Ma (M3 eI (M3 Mv (M3 eI (M3 eI (M7))))) w (fl [G]) m n d)(k:Ma eI w (fl [G]) y A r)(l:Ma eI w (fl [G]) z B q)(a:M2x d I u t v r q=some Q):Md Tryz.prog 30 [Vl m d n,.agg #[Vi I,Vi u,Vi t,Vi v,Vl y r A,Vl z q B]] w fun S s=>S=.bool Q∧Ev [] w s:=by
 refine Cw hmx Tryz.func30 R R R ?_;have i:=Ev.refl [] w;have o:=FR.nil w.heap.size;refine Cs (Xo R (fun h ad ac c ah=>?_));have o:=o.box i.size ac;obtain ⟨j,k,l,g,i⟩:=E5 (Cx.b g ah ac c) j k l g i;refine Xu 1 [(4,.bool false)] (Xk (Pg (σ:=Bool) (fun D=>match D with | H=>[(0,Vl m d n),(3,Vp h 0),(5,.bool H)]) (fun D s=>match D with | H=>MZ d r q H=some Q∧Ev [] w s∧(fun E=>MS s E∧FR w.heap.size [[h]]∧Ma (M3 eI (M3 Mv (M3 eI (M3 eI (M7))))) s (fl E) m n d∧Ma eI s (fl E) y A r∧Ma eI s (fl E) z B q∧s.heap[h]? = some (.cells #[Vi I,Vi u,Vi t,Vi v,Vl y r A,Vl z q B] 47 (0,0))) [[h],G]) ?_ ?_))
 · refine Cd [] [(0,false),(1,false),(2,true),(3,false),(4,false),(5,false),(6,false),(7,false),(8,false),(9,false),(10,false),(11,false),(12,false),(13,false),(14,false),(15,false),(16,false),(17,false),(18,false),(19,false),(20,false),(21,false),(22,false),(23,false),(24,false),(25,false),(26,false),(27,false),(28,false),(29,false),(30,false),(31,false),(32,false),(33,false),(34,false),(35,false),(36,false),(37,false),(38,false),(39,false),(40,false),(41,false),(42,false),(43,false),(44,false),(45,false),(46,false),(47,false),(48,false),(49,false),(50,false),(51,false),(52,false),(53,false),(54,false),(55,false),(56,false),(57,false),(58,false),(59,false),(60,false),(61,false),(62,false)] _ (by kernel_rfl) R ?_;obtain ⟨j,k,l,c,g,i⟩:=E6 (Cx.e g (Ev.drew ad)) j k l c g i;refine Yg h 0 0 (Vi I) R R (Rf T1 _) M5 c nn R ?_;obtain ⟨af,N,a⟩:=Bs a;have K:=M0u I _ (ad).drew N;refine Xv K R ?_;rintro S ar ⟨rfl,ai⟩;obtain ⟨j,k,l,c,g,i⟩:=E6 (Cx.e g ai) j k l c g i;refine Xu 1 [(10,.bool af)] (Xw 10 af R a (fun a=>?_) (fun a=>?_))
   · refine Yg h 0 1 (Vi u) R R (Rf TI _) M5 c nn R (Xu 3 [(13,Bd (u≥1)),(14,Bd (u≥1)),(15,Bd (u≥1))] (Xw 15 _ R a (fun a=>?_) (fun a=>?_)))
     · refine Yg h 0 1 (Vi u) R R (Rf TI _) M5 c nn R (Xu 1 [(18,Vl m d n)] ?_);obtain ⟨Z,N,a⟩:=Bs a;obtain ⟨aj,ak⟩:=Kc g [] [0,1];have K:=X1 m n d _ ar _ aj (j.sub ak) N;refine Xc 13 #[] #[] _ _ R R R R K ?_;rintro S av ⟨rfl,ab⟩;refine ⟨.inr ab,?_⟩;obtain ⟨j,k,l,c,g,i⟩:=E6 (Cx.e g ab) j k l c g i;refine Xu 3 [(20,Bd (u≤Z)),(21,Bd (u≤Z)),(22,Bd (u≤Z))] (Xw 22 _ R a (fun a=>?_) (fun a=>?_))
       · refine Yg h 0 2 (Vi t) R R (Rf WW _) M5 c nn R (Xu 3 [(25,Bd (t≥0)),(26,Bd (t≥0)),(27,Bd (t≥0))] (Xw 27 _ R a (fun a=>?_) (fun a=>?_)))
         · refine Yg h 0 2 (Vi t) R R (Rf WW _) M5 c nn R (Xu 1 [(30,Vl m d n)] (Xz My R (Xu 3 [(32,Bd (t<((d).length:Int))),(33,Bd (t<((d).length:Int))),(34,Bd (t<((d).length:Int)))] (Xw 34 _ R a (fun a=>?_) (fun a=>?_)))))
           · refine Xu 1 [(35,Vl m d n)] (Yg h 0 2 (Vi t) R R (Rf WW _) M5 c nn R ?_);obtain ⟨U,al,a⟩:=Bs a;refine Xq (j.el My) MC M5 al R (fun _=>R) (fun _=>Xu 3 [(41,.bool (U.1==4)),(42,.bool (U.1==4)),(43,.bool (U.1==4))] (Xw 43 _ R a (fun a=>?_) (fun a=>?_)))
             · refine Yg h 0 3 (Vi v) R R (Rf Y8 _) M5 c nn R (Xu 3 [(46,Bd (v≥0)),(47,Bd (v≥0)),(48,Bd (v≥0))] (Xw 48 _ R a (fun a=>?_) (fun a=>?_)))
               · refine Yg h 0 3 (Vi v) R R (Rf Y8 _) M5 c nn R (Xu 3 [(51,Bd (v≤20000)),(52,Bd (v≤20000)),(53,Bd (v≤20000))] (Xw 53 _ R a (fun a=>?_) (fun a=>?_)))
                 · refine Yg h 0 4 (Vl y r A) R R (Rf PP _) Mp c nn R (Xz MB R (Xu 1 [(57,Vl m d n)] (Xz My R (Xu 3 [(59,.bool (((r).length:Int)==((d).length:Int))),(60,.bool (((r).length:Int)==((d).length:Int))),(61,.bool (((r).length:Int)==((d).length:Int)))] (Xw 61 _ R a (fun a=>?_) (fun a=>?_))))))
                   · refine Yg h 0 5 (Vl z q B) R R (Rf Re _) Mp c nn R (Xz MB R (Xu 1 [(65,Vl m d n)] (Xz My R (Xu 3 [(67,.bool (((q).length:Int)==((d).length:Int))),(68,.bool (((q).length:Int)==((d).length:Int))),(5,.bool (((q).length:Int)==((d).length:Int)))] (Xe R ?_)))));exact Kt ⟨((q).length:Int)==((d).length:Int),⟨R,R,R,T0⟩,a,i,g,o,j,k,l,c⟩
                   refine Xu 8 [(62,U0),(63,U0),(64,U0),(65,U0),(66,U0),(67,U0),(68,.bool false),(5,.bool false)] (Xe R ?_);exact Kt ⟨false,⟨R,R,R,T0⟩,a,i,g,o,j,k,l,c⟩
                 refine Xu 16 [(54,U0),(55,U0),(56,U0),(57,U0),(58,U0),(59,U0),(60,.bool false),(61,.bool false),(62,U0),(63,U0),(64,U0),(65,U0),(66,U0),(67,U0),(68,.bool false),(5,.bool false)] (Xe R ?_);exact Kt ⟨false,⟨R,R,R,T0⟩,a,i,g,o,j,k,l,c⟩
               refine Xu 21 [(49,U0),(50,U0),(51,U0),(52,.bool false),(53,.bool false),(54,U0),(55,U0),(56,U0),(57,U0),(58,U0),(59,U0),(60,.bool false),(61,.bool false),(62,U0),(63,U0),(64,U0),(65,U0),(66,U0),(67,U0),(68,.bool false),(5,.bool false)] (Xe R ?_);exact Kt ⟨false,⟨R,R,R,T0⟩,a,i,g,o,j,k,l,c⟩
             refine Xu 26 [(44,U0),(45,U0),(46,U0),(47,.bool false),(48,.bool false),(49,U0),(50,U0),(51,U0),(52,.bool false),(53,.bool false),(54,U0),(55,U0),(56,U0),(57,U0),(58,U0),(59,U0),(60,.bool false),(61,.bool false),(62,U0),(63,U0),(64,U0),(65,U0),(66,U0),(67,U0),(68,.bool false),(5,.bool false)] (Xe R ?_);exact Kt ⟨false,⟨R,R,R,T0⟩,a,i,g,o,j,k,l,c⟩
           refine Xu 35 [(35,U0),(36,U0),(37,U0),(38,U0),(39,U0),(40,U0),(41,U0),(42,.bool false),(43,.bool false),(44,U0),(45,U0),(46,U0),(47,.bool false),(48,.bool false),(49,U0),(50,U0),(51,U0),(52,.bool false),(53,.bool false),(54,U0),(55,U0),(56,U0),(57,U0),(58,U0),(59,U0),(60,.bool false),(61,.bool false),(62,U0),(63,U0),(64,U0),(65,U0),(66,U0),(67,U0),(68,.bool false),(5,.bool false)] (Xe R ?_);exact Kt ⟨false,⟨R,R,R,T0⟩,a,i,g,o,j,k,l,c⟩
         refine Xu 42 [(28,U0),(29,U0),(30,U0),(31,U0),(32,U0),(33,.bool false),(34,.bool false),(35,U0),(36,U0),(37,U0),(38,U0),(39,U0),(40,U0),(41,U0),(42,.bool false),(43,.bool false),(44,U0),(45,U0),(46,U0),(47,.bool false),(48,.bool false),(49,U0),(50,U0),(51,U0),(52,.bool false),(53,.bool false),(54,U0),(55,U0),(56,U0),(57,U0),(58,U0),(59,U0),(60,.bool false),(61,.bool false),(62,U0),(63,U0),(64,U0),(65,U0),(66,U0),(67,U0),(68,.bool false),(5,.bool false)] (Xe R ?_);exact Kt ⟨false,⟨R,R,R,T0⟩,a,i,g,o,j,k,l,c⟩
       refine Xu 47 [(23,U0),(24,U0),(25,U0),(26,.bool false),(27,.bool false),(28,U0),(29,U0),(30,U0),(31,U0),(32,U0),(33,.bool false),(34,.bool false),(35,U0),(36,U0),(37,U0),(38,U0),(39,U0),(40,U0),(41,U0),(42,.bool false),(43,.bool false),(44,U0),(45,U0),(46,U0),(47,.bool false),(48,.bool false),(49,U0),(50,U0),(51,U0),(52,.bool false),(53,.bool false),(54,U0),(55,U0),(56,U0),(57,U0),(58,U0),(59,U0),(60,.bool false),(61,.bool false),(62,U0),(63,U0),(64,U0),(65,U0),(66,U0),(67,U0),(68,.bool false),(5,.bool false)] (Xe R ?_);exact Kt ⟨false,⟨R,R,R,T0⟩,a,i,g,o,j,k,l,c⟩
     refine Xu 54 [(16,U0),(17,U0),(18,U0),(19,U0),(20,U0),(21,.bool false),(22,.bool false),(23,U0),(24,U0),(25,U0),(26,.bool false),(27,.bool false),(28,U0),(29,U0),(30,U0),(31,U0),(32,U0),(33,.bool false),(34,.bool false),(35,U0),(36,U0),(37,U0),(38,U0),(39,U0),(40,U0),(41,U0),(42,.bool false),(43,.bool false),(44,U0),(45,U0),(46,U0),(47,.bool false),(48,.bool false),(49,U0),(50,U0),(51,U0),(52,.bool false),(53,.bool false),(54,U0),(55,U0),(56,U0),(57,U0),(58,U0),(59,U0),(60,.bool false),(61,.bool false),(62,U0),(63,U0),(64,U0),(65,U0),(66,U0),(67,U0),(68,.bool false),(5,.bool false)] (Xe R ?_);exact Kt ⟨false,⟨R,R,R,T0⟩,a,i,g,o,j,k,l,c⟩
   refine Xu 59 [(11,U0),(12,U0),(13,U0),(14,.bool false),(15,.bool false),(16,U0),(17,U0),(18,U0),(19,U0),(20,U0),(21,.bool false),(22,.bool false),(23,U0),(24,U0),(25,U0),(26,.bool false),(27,.bool false),(28,U0),(29,U0),(30,U0),(31,U0),(32,U0),(33,.bool false),(34,.bool false),(35,U0),(36,U0),(37,U0),(38,U0),(39,U0),(40,U0),(41,U0),(42,.bool false),(43,.bool false),(44,U0),(45,U0),(46,U0),(47,.bool false),(48,.bool false),(49,U0),(50,U0),(51,U0),(52,.bool false),(53,.bool false),(54,U0),(55,U0),(56,U0),(57,U0),(58,U0),(59,U0),(60,.bool false),(61,.bool false),(62,U0),(63,U0),(64,U0),(65,U0),(66,U0),(67,U0),(68,.bool false),(5,.bool false)] (Xe R ?_);exact Kt ⟨false,⟨R,R,R,T0⟩,a,i,g,o,j,k,l,c⟩
 rintro H x aw ⟨a,i,g,o,j,k,l,c⟩;refine Cq (Cs (Xu 1 [(6,Vi 0)] (Xk (Cn [(0,Vl m d n),(3,Vp h 0),(5,.bool H),(6,Vi 0)] (fun x=>?_)))));refine Cb ?_;obtain ⟨ag,L,aa⟩:=Bs a;obtain ⟨F,L⟩:=Lo L;refine Cl (Lr hmx (σ:=Nat×Bool×Int) (fun D=>match D with | (_,p,f)=>[(0,Vl m d n),(3,Vp h 0),(5,.bool p),(6,Vi f)]) (fun D s=>match D with | (aq,p,f)=>Mh (V9 d r q) aq (p,f)=some ag∧Ev [] w s∧(fun E=>MS s E∧FR w.heap.size [[h]]∧Ma (M3 eI (M3 Mv (M3 eI (M3 eI (M7))))) s (fl E) m n d∧Ma eI s (fl E) y A r∧Ma eI s (fl E) z B q∧s.heap[h]? = some (.cells #[Vi I,Vi u,Vi t,Vi v,Vl y r A,Vl z q B] 47 (0,0))) [[h],G]) (fun D=>D.1) (F,H,0) ⟨R,R,R,R,T0⟩ ⟨L,i,g,o,j,k,l,c⟩ ?_);rintro ⟨F,p,f⟩ x ax ⟨C,i,g,o,j,k,l,c⟩;rcases F with _ | F
 · exact (Lz C).elim
 obtain ⟨au,a,C⟩:=Bs C;refine Cq (Cs (Xu 2 [(69,.bool p),(70,.bool p)] (Xw 70 p R a (fun a=>?_) (fun a=>?_))))
 · refine Xu 2 [(71,Vi f),(72,Vl m d n)] (Xz My R (Xu 2 [(74,Bd (f<((d).length:Int))),(75,Bd (f<((d).length:Int)))] (Xk (Cn [(0,Vl m d n),(3,Vp h 0),(5,.bool p),(6,Vi f),(75,Bd (f<((d).length:Int)))] (fun x=>?_)))));refine Ci _ R a (fun a=>?_) (fun a=>?_)
   · refine Ck (Kt (Cq (Cb (Cp (Yg h 0 4 (Vl y r A) R R (Rf PP _) Mp c nn R (Xu 1 [(80,Vi f)] ?_))))));obtain ⟨ae,am,a⟩:=Bs a;refine Z6 (k.el MB) M5 am R (fun _=>R) (fun _=>Xu 2 [(83,Bd (ae≥(-5000))),(84,Bd (ae≥(-5000)))] (Xw 84 _ R a (fun a=>?_) (fun a=>?_)))
     · refine Yg h 0 4 (Vl y r A) R R (Rf PP _) Mp c nn R (Xu 1 [(87,Vi f)] ?_);obtain ⟨X,an,a⟩:=Bs a;refine Z6 (k.el MB) M5 an R (fun _=>R) (fun _=>Xu 3 [(90,Bd (X≤10000)),(91,Bd (X≤10000)),(92,Bd (X≤10000))] (Xw 92 _ R a (fun a=>?_) (fun a=>?_)))
       · refine Yg h 0 5 (Vl z q B) R R (Rf Re _) Mp c nn R (Xu 1 [(95,Vi f)] ?_);obtain ⟨Y,ao,a⟩:=Bs a;refine Z6 (l.el MB) M5 ao R (fun _=>R) (fun _=>Xu 3 [(98,Bd (Y≥(-1))),(99,Bd (Y≥(-1))),(100,Bd (Y≥(-1)))] (Xw 100 _ R a (fun a=>?_) (fun a=>?_)))
         · refine Yg h 0 5 (Vl z q B) R R (Rf Re _) Mp c nn R (Xu 1 [(103,Vi f)] ?_);obtain ⟨J,ap,a⟩:=Bs a;refine Z6 (l.el MB) M5 ap R (fun _=>R) (fun _=>Xu 3 [(106,Bd (J≤20000)),(107,Bd (J≤20000)),(5,Bd (J≤20000))] (Xe R (Kl (Kt (Cn [(0,Vl m d n),(3,Vp h 0),(5,Bd (J≤20000)),(6,Vi f)] (fun x=>?_))))));refine Cp (Xu 3 [(76,Vi f),(77,Vi (M4 (f+1))),(6,Vi (M4 (f+1)))] (Xe R ?_));obtain rfl:=Sj a;exact Kt ⟨(F,decide (J≤20000),M4 (f+1)),⟨R,R,R,R,T0⟩,⟨C,i,g,o,j,k,l,c⟩,Ns _⟩
         refine Xu 8 [(101,U0),(102,U0),(103,U0),(104,U0),(105,U0),(106,U0),(107,.bool false),(5,.bool false)] (Xe R (Kl (Kt (Cn [(0,Vl m d n),(3,Vp h 0),(5,.bool false),(6,Vi f)] (fun x=>?_)))));refine Cp (Xu 3 [(76,Vi f),(77,Vi (M4 (f+1))),(6,Vi (M4 (f+1)))] (Xe R ?_));obtain rfl:=Sj a;exact Kt ⟨(F,false,M4 (f+1)),⟨R,R,R,R,T0⟩,⟨C,i,g,o,j,k,l,c⟩,Ns _⟩
       refine Xu 16 [(93,U0),(94,U0),(95,U0),(96,U0),(97,U0),(98,U0),(99,.bool false),(100,.bool false),(101,U0),(102,U0),(103,U0),(104,U0),(105,U0),(106,U0),(107,.bool false),(5,.bool false)] (Xe R (Kl (Kt (Cn [(0,Vl m d n),(3,Vp h 0),(5,.bool false),(6,Vi f)] (fun x=>?_)))));refine Cp (Xu 3 [(76,Vi f),(77,Vi (M4 (f+1))),(6,Vi (M4 (f+1)))] (Xe R ?_));obtain rfl:=Sj a;exact Kt ⟨(F,false,M4 (f+1)),⟨R,R,R,R,T0⟩,⟨C,i,g,o,j,k,l,c⟩,Ns _⟩
     refine Xu 24 [(85,U0),(86,U0),(87,U0),(88,U0),(89,U0),(90,U0),(91,.bool false),(92,.bool false),(93,U0),(94,U0),(95,U0),(96,U0),(97,U0),(98,U0),(99,.bool false),(100,.bool false),(101,U0),(102,U0),(103,U0),(104,U0),(105,U0),(106,U0),(107,.bool false),(5,.bool false)] (Xe R (Kl (Kt (Cn [(0,Vl m d n),(3,Vp h 0),(5,.bool false),(6,Vi f)] (fun x=>?_)))));refine Cp (Xu 3 [(76,Vi f),(77,Vi (M4 (f+1))),(6,Vi (M4 (f+1)))] (Xe R ?_));obtain rfl:=Sj a;exact Kt ⟨(F,false,M4 (f+1)),⟨R,R,R,R,T0⟩,⟨C,i,g,o,j,k,l,c⟩,Ns _⟩
   refine Ce (Ke ?_);obtain rfl:=Sj a;have O:=Sj C;subst O;have a:=aa;refine Ke (Ki (Kt (Cn [(5,.bool p)] (fun x=>?_))));refine Cs (Xu 2 [(108,.bool p),(4,.bool p)] (Xk (Cr (Rz (.bool p) R ?_))));obtain rfl:=Sj a;exact ⟨R,i⟩
 refine Xu 5 (Un 71 4++[(75,.bool false)]) (Xk (Cn [(0,Vl m d n),(3,Vp h 0),(5,.bool p),(6,Vi f),(75,.bool false)] (fun x=>?_)));refine PE R (Ce (Ke ?_));obtain rfl:=Sj a;have O:=Sj C;subst O;have a:=aa;refine Ke (Ki (Kt (Cn [(5,.bool p)] (fun x=>?_))));refine Cs (Xu 2 [(108,.bool p),(4,.bool p)] (Xk (Cr (Rz (.bool p) R ?_))));obtain rfl:=Sj a;exact ⟨R,i⟩
def TL (d:List (Int×Int)) (b:Int) (e:Bool×Int):Option (Mm (Bool×Int) Bool):=
match e with
| (c,a)=>
(if (decide (a<b))=true then
(if c=true then
((idx d a).bind fun f=>
((idx d b).bind fun g=>
some (.next (f.1 != g.1,M4 (a+1)))))
else
some (.next (false,M4 (a+1))))
else
some (.done c))
def TM (e:List (Int×Int)) (a:Int) (c:Bool):Option (Mm (Bool×Int) Bool):=
((loop (TL e a) (c,0)).bind fun b=>match b with
| d=>some (.next (d,M4 (a+1))))
def TN (e:List (Int×(List UInt8)×Int×Int×Int×Int×Int×Int)) (c:List (Int×Int×Int×Int×(List Int)×(List Int))) (f:Bool×Int):Option (Mm (Bool×Int) Bool):=
match f with
| (d,a)=>
(if (decide (a<((c).length:Int)))=true then
(if d=true then
((idx c a).bind fun b=>
((M2x e b.1 b.2.1 b.2.2.1 b.2.2.2.1 b.2.2.2.2.1 b.2.2.2.2.2).bind fun g=>
(if g=true then
(if (a==0)=true then
some (.next (true,M4 (a+1)))
else
((idx c a).bind fun h=>
((idx c (M4 (a-1))).bind fun i=>
some (.next (decide (h.1≥i.1),M4 (a+1))))))
else
some (.next (false,M4 (a+1))))))
else
some (.next (false,M4 (a+1))))
else
some (.done d))
def TO (e:List (Int×(List UInt8)×Int×Int×Int×Int×Int×Int)) (d:List (Int×Int×Int×Int)) (f:List (Int×Int×Int×Int×(List Int)×(List Int))) (g:Bool×Int):Option (Mm (Bool×Int) Bool):=
match g with
| (c,a)=>
(if (decide (a<((d).length:Int)))=true then
((idx d a).bind fun b=>
(if c=true then
((Yj b.1).bind fun h=>
(if h=true then
((Zt e b.2.1 b.2.2.1).bind fun i=>
(if i=true then
(if (decide (b.2.2.2≥0))=true then
some (.next (decide (b.2.2.2<((f).length:Int)),M4 (a+1)))
else
some (.next (false,M4 (a+1))))
else
some (.next (false,M4 (a+1)))))
else
some (.next (false,M4 (a+1)))))
else
some (.next (false,M4 (a+1)))))
else
some (.done c))
def RI (d:List (Int×(List UInt8)×Int×Int×Int×Int×Int×Int)) (b:List (Int×Int)) (e:Bool×Int):Option (Mm (Bool×Int) Bool):=
match e with
| (c,a)=>
(if (decide (a<((b).length:Int)))=true then
(if c=true then
((idx b a).bind fun f=>
((idx b a).bind fun g=>
((Zt d f.1 g.2).bind fun h=>
TM b a h)))
else
TM b a false)
else
some (.done c))
def ZN (b:List (Int×(List UInt8)×Int×Int×Int×Int×Int×Int)) (i:Int) (j:List (Int×Int)) (d:List (Int×Int×Int×Int)) (c:List (Int×Int×Int×Int×(List Int)×(List Int))):Option Int:=
((WI b).bind fun e=>
(if (e != 0)=true then
some e
else
(if (decide (((d).length:Int)>1024))=true then
some 3
else
(if (decide (((c).length:Int)>96))=true then
some 3
else
((Yj i).bind fun k=>
((loop (RI b j) (k,0)).bind fun a=>match a with
| f=>((loop (TO b d c) (f,0)).bind fun a=>match a with
| g=>((loop (TN b c) (g,0)).bind fun a=>match a with
| h=>(if (!h)=true then
some 1
else
some 0)))))))))
theorem M5s (A B w ac F G y I J z D E q aS C S)(c:MS C [S])(f:Ma (M3 eI (M3 Mv (M3 eI (M3 eI (M7))))) C (fl [S]) A B w)(g:Ma (M3 eI eI) C (fl [S]) F G y)(i:Ma (M7) C (fl [S]) I J z)(h:Ma (M3 eI (M3 eI (M3 eI (M3 eI (M3 (Mi eI) (Mi eI)))))) C (fl [S]) D E q)(a:ZN w ac y z q=some aS):Md Tryz.prog 8 [.agg #[Vl A w B,Vi ac,Vl F y G,Vl I z J,Vl D q E]] C fun ai m=>ai=Vi aS∧Ev [] C m:=by
 refine Cw hmx Tryz.func8 R R R ?_;have l:=Ev.refl [] C;have n:=FR.nil C.heap.size;refine Cs (Xo R (fun k bB aQ d bg=>?_));have n:=n.box l.size aQ;obtain ⟨f,g,i,h,c,l⟩:=E6 (Cx.b c bg aQ d) f g i h c l;refine Xu 1 [(2,Vi 0)] (Xk (Cq (Cs (Yg k 0 0 (Vl A w B) R R (Rf Ru _) TR d nn R ?_))));obtain ⟨ao,O,a⟩:=Bs a;obtain ⟨af,aa⟩:=Kc c [] [0,1];have N:=M26 A B w _ bB _ af (f.sub aa) O;refine Xv N R ?_;rintro ai bC ⟨rfl,bi⟩;obtain ⟨f,g,i,h,d,c,l⟩:=E7 (Cx.e c bi) f g i h d c l;refine Xu 1 [(3,Vi ao)] (Xk (Cs (Xu 2 [(13,Vi ao),(14,.bool (ao != 0))] (Xk (Ci _ R a (fun a=>?_) (fun a=>?_))))))
 · refine Cs (Xu 2 [(15,Vi ao),(2,Vi ao)] (Xk (Cr (Kr (Rz (Vi ao) R ?_)))));obtain rfl:=Sj a;exact ⟨R,l⟩
 refine Ck (Kt (Cq (Cs (Yg k 0 3 (Vl I z J) R R (Rf Pq _) PQ d nn R (Xz PB R (Xu 2 [(19,Bd (((z).length:Int)>1024)),(20,Bd (((z).length:Int)>1024))] (Xw 20 _ R a (fun a=>?_) (fun a=>?_))))))))
 · refine Xu 5 [(21,U0),(22,U0),(23,U0),(24,U0),(25,.bool true)] (Xk (Me R (Cs (Xu 1 [(2,Vi 3)] (Xk (Cr (Kr (Rz (Vi 3) R ?_))))))));obtain rfl:=Sj a;exact ⟨R,l⟩
 refine Yg k 0 4 (Vl D q E) R R (Rf MK _) MQ d nn R (Xz TK R (Xu 2 [(24,Bd (((q).length:Int)>96)),(25,Bd (((q).length:Int)>96))] (Xk (Ci _ R a (fun a=>?_) (fun a=>?_)))))
 · refine Cs (Xu 1 [(2,Vi 3)] (Xk (Cn [(2,Vi 3)] (fun v=>?_))));refine Cr (Kr (Rz (Vi 3) R ?_));obtain rfl:=Sj a;exact ⟨R,l⟩
 refine Ck (Kt (Cs (Yg k 0 1 (Vi ac) R R (Rf Vk _) M5 d nn R ?_)));obtain ⟨aD,O,a⟩:=Bs a;have N:=M0u ac _ bC O;refine Xv N R ?_;rintro ai b4 ⟨rfl,bb⟩;obtain ⟨f,g,i,h,d,c,l⟩:=E7 (Cx.e c bb) f g i h d c l;refine Xu 1 [(4,.bool aD)] (Xk (Cn [(1,Vp k 0),(4,.bool aD)] (fun v=>?_)));refine Cq (Cs (Xu 1 [(5,Vi 0)] (Xk (Cb ?_))));obtain ⟨aZ,az,a3⟩:=Bs a;obtain ⟨au,az⟩:=Lo az;refine Cl (Lr hmx (σ:=Nat×Bool×Int) (fun t=>match t with | (_,U,u)=>[(1,Vp k 0),(4,.bool U),(5,Vi u)]) (fun t m=>match t with | (ah,U,u)=>Mh (RI w y) ah (U,u)=some aZ∧Ev [] C m∧(fun r=>MS m r∧FR C.heap.size [[k]]∧Ma (M3 eI (M3 Mv (M3 eI (M3 eI (M7))))) m (fl r) A B w∧Ma (M3 eI eI) m (fl r) F G y∧Ma (M7) m (fl r) I J z∧Ma (M3 eI (M3 eI (M3 eI (M3 eI (M3 (Mi eI) (Mi eI)))))) m (fl r) D E q∧m.heap[k]? = some (.cells #[Vl A w B,Vi ac,Vl F y G,Vl I z J,Vl D q E] 30 (0,0))) [[k],S]) (fun t=>t.1) (au,aD,0) ⟨R,R,R,T0⟩ ⟨az,l,c,n,f,g,i,h,d⟩ ?_);rintro ⟨au,U,u⟩ v aU ⟨ar,l,c,n,f,g,i,h,d⟩;rcases au with _ | au
 · exact (Lz ar).elim
 obtain ⟨bx,a,ar⟩:=Bs ar;refine Cq (Cs (Xu 1 [(29,Vi u)] (Yg k 0 2 (Vl F y G) R R (Rf TJ _) W4 d nn R (Xz Vh R (Xu 1 [(33,Bd (u<((y).length:Int)))] (Xk (Cn [(1,Vp k 0),(4,.bool U),(5,Vi u),(33,Bd (u<((y).length:Int)))] (fun v=>?_))))))));refine Ci _ R a (fun a=>?_) (fun a=>?_)
 · refine Ck (Kt (Cq (Cb (Pg (σ:=Bool) (fun t=>match t with | an=>[(1,Vp k 0),(4,.bool an),(5,Vi u)]) (fun t m=>match t with | an=>TM y u an=some bx∧Ev [] C m∧(fun r=>MS m r∧FR C.heap.size [[k]]∧Ma (M3 eI (M3 Mv (M3 eI (M3 eI (M7))))) m (fl r) A B w∧Ma (M3 eI eI) m (fl r) F G y∧Ma (M7) m (fl r) I J z∧Ma (M3 eI (M3 eI (M3 eI (M3 eI (M3 (Mi eI) (Mi eI)))))) m (fl r) D E q∧m.heap[k]? = some (.cells #[Vl A w B,Vi ac,Vl F y G,Vl I z J,Vl D q E] 30 (0,0))) [[k],S]) ?_ ?_))))
   · refine Cd [] [(0,false),(1,false),(2,false),(3,false),(4,false),(5,false),(6,false),(7,false),(8,false),(9,false),(10,false),(11,false),(12,false),(13,false),(14,false),(15,false),(16,true),(17,false),(18,false)] _ (by kernel_rfl) R ?_;obtain ⟨d,f,g,i,h,c,l⟩:=E7 (Cx.e c (Ev.drew aU)) d f g i h c l;refine Xu 2 [(36,.bool U),(37,.bool U)] (Xw 37 U R a (fun a=>?_) (fun a=>?_))
     · refine Yg k 0 0 (Vl A w B) R R (Rf Ru _) TR d nn R (Yg k 0 2 (Vl F y G) R R (Rf TJ _) W4 d nn R (Xu 1 [(42,Vi u)] ?_));obtain ⟨bE,bp,a⟩:=Bs a;refine Xq (g.el Vh) RZ M5 bp R (fun _=>R) (fun _=>Yg k 0 2 (Vl F y G) R R (Rf TJ _) W4 d nn R (Xu 1 [(48,Vi u)] ?_));obtain ⟨bF,bq,a⟩:=Bs a;refine Xq (g.el Vh) Y6 M5 bq R (fun _=>R) (fun _=>?_);obtain ⟨aE,O,a⟩:=Bs a;obtain ⟨af,aa⟩:=Kc c [] [0,1];have N:=M36 A B w bE.1 bF.2 _ (aU).drew _ af (f.sub aa) O;refine Xv N R ?_;rintro ai b5 ⟨rfl,bc⟩;obtain ⟨d,f,g,i,h,c,l⟩:=E7 (Cx.e c bc) d f g i h c l;refine Xu 2 [(53,.bool aE),(4,.bool aE)] (Xe R ?_);exact Kt ⟨aE,⟨R,R,R,T0⟩,a,l,c,n,f,g,i,h,d⟩
     refine Xu 17 [(38,U0),(39,U0),(40,U0),(41,U0),(42,U0),(43,U0),(44,U0),(45,U0),(46,U0),(47,U0),(48,U0),(49,U0),(50,U0),(51,U0),(52,U0),(53,.bool false),(4,.bool false)] (Xe R ?_);exact Kt ⟨false,⟨R,R,R,T0⟩,a,l,c,n,f,g,i,h,d⟩
   rintro an v b9 ⟨a,l,c,n,f,g,i,h,d⟩;refine Cs (Xu 1 [(6,Vi 0)] (Xk (Cn [(1,Vp k 0),(4,.bool an),(5,Vi u),(6,Vi 0)] (fun v=>?_))));refine Cb ?_;obtain ⟨a0,aA,a4⟩:=Bs a;obtain ⟨am,aA⟩:=Lo aA;refine Cl (Lr hmx (σ:=Nat×Bool×Int) (fun t=>match t with | (_,X,H)=>[(1,Vp k 0),(4,.bool X),(5,Vi u),(6,Vi H)]) (fun t m=>match t with | (ah,X,H)=>Mh (TL y u) ah (X,H)=some a0∧Ev [] C m∧(fun r=>MS m r∧FR C.heap.size [[k]]∧Ma (M3 eI (M3 Mv (M3 eI (M3 eI (M7))))) m (fl r) A B w∧Ma (M3 eI eI) m (fl r) F G y∧Ma (M7) m (fl r) I J z∧Ma (M3 eI (M3 eI (M3 eI (M3 eI (M3 (Mi eI) (Mi eI)))))) m (fl r) D E q∧m.heap[k]? = some (.cells #[Vl A w B,Vi ac,Vl F y G,Vl I z J,Vl D q E] 30 (0,0))) [[k],S]) (fun t=>t.1) (am,an,0) ⟨R,R,R,R,T0⟩ ⟨aA,l,c,n,f,g,i,h,d⟩ ?_);rintro ⟨am,X,H⟩ v bD ⟨al,l,c,n,f,g,i,h,d⟩;rcases am with _ | am
   · exact (Lz al).elim
   obtain ⟨b1,a,al⟩:=Bs al;refine Cq (Cs (Xu 3 [(54,Vi H),(55,Vi u),(56,Bd (H<u))] (Xk (Cn [(1,Vp k 0),(4,.bool X),(5,Vi u),(6,Vi H),(56,Bd (H<u))] (fun v=>?_)))));refine Ci _ R a (fun a=>?_) (fun a=>?_)
   · refine Ck (Kt (Cq (Cb (Cd [] [(0,false),(1,false),(2,false),(3,false),(4,false),(5,false),(6,false),(7,false),(8,false),(9,false),(10,false),(11,false),(12,false),(13,false),(14,false),(15,false),(16,false)] _ (by kernel_rfl) R ?_))));obtain ⟨d,f,g,i,h,c,l⟩:=E7 (Cx.e c (Ev.drew bD)) d f g i h c l;refine Xu 2 [(59,.bool X),(60,.bool X)] (Xw 60 X R a (fun a=>?_) (fun a=>?_))
     · refine Yg k 0 2 (Vl F y G) R R (Rf TJ _) W4 d nn R (Xu 1 [(63,Vi H)] ?_);obtain ⟨av,br,a⟩:=Bs a;refine Xq (g.el Vh) RZ M5 br R (fun _=>R) (fun _=>Yg k 0 2 (Vl F y G) R R (Rf TJ _) W4 d nn R (Xu 1 [(69,Vi u)] ?_));obtain ⟨aw,bs,a⟩:=Bs a;refine Xq (g.el Vh) RZ M5 bs R (fun _=>R) (fun _=>Xu 3 [(73,.bool (av.1 != aw.1)),(74,.bool (av.1 != aw.1)),(4,.bool (av.1 != aw.1))] (Xe R (Kl (Kt (Cp (Xu 3 [(57,Vi H),(58,Vi (M4 (H+1))),(6,Vi (M4 (H+1)))] (Xe R ?_)))))));obtain rfl:=Sj a;exact Kt ⟨(am,av.1 != aw.1,M4 (H+1)),⟨R,R,R,R,T0⟩,⟨al,l,c,n,f,g,i,h,d⟩,Ns _⟩
     refine Xu 15 [(61,U0),(62,U0),(63,U0),(64,U0),(65,U0),(66,U0),(67,U0),(68,U0),(69,U0),(70,U0),(71,U0),(72,U0),(73,U0),(74,.bool false),(4,.bool false)] (Xe R (Kl (Kt (Cp (Xu 3 [(57,Vi H),(58,Vi (M4 (H+1))),(6,Vi (M4 (H+1)))] (Xe R ?_))))));obtain rfl:=Sj a;exact Kt ⟨(am,false,M4 (H+1)),⟨R,R,R,R,T0⟩,⟨al,l,c,n,f,g,i,h,d⟩,Ns _⟩
   refine Ce (Ke ?_);obtain rfl:=Sj a;have ag:=Sj al;subst ag;have a:=a4;refine Ke (Ki (Kl (Kt (Cn [(1,Vp k 0),(4,.bool X),(5,Vi u)] (fun v=>?_)))));refine Cp (Xu 3 [(34,Vi u),(35,Vi (M4 (u+1))),(5,Vi (M4 (u+1)))] (Xe R ?_));obtain rfl:=Sj a;exact Kt ⟨(au,X,M4 (u+1)),⟨R,R,R,T0⟩,⟨ar,l,c,n,f,g,i,h,d⟩,Ns _⟩
 refine Ce (Ke ?_);obtain rfl:=Sj a;have ag:=Sj ar;subst ag;have a:=a3;refine Ke (Ki (Kt (Cn [(1,Vp k 0),(4,.bool U)] (fun v=>?_))));refine Cq (Cs (Xu 1 [(7,Vi 0)] (Xk (Cb ?_))));obtain ⟨a1,aB,a5⟩:=Bs a;obtain ⟨ab,aB⟩:=Lo aB;refine Cl (Lr hmx (σ:=Nat×Bool×Int) (fun t=>match t with | (_,Y,p)=>[(1,Vp k 0),(4,.bool Y),(7,Vi p)]) (fun t m=>match t with | (ah,Y,p)=>Mh (TO w z q) ah (Y,p)=some a1∧Ev [] C m∧(fun r=>MS m r∧FR C.heap.size [[k]]∧Ma (M3 eI (M3 Mv (M3 eI (M3 eI (M7))))) m (fl r) A B w∧Ma (M3 eI eI) m (fl r) F G y∧Ma (M7) m (fl r) I J z∧Ma (M3 eI (M3 eI (M3 eI (M3 eI (M3 (Mi eI) (Mi eI)))))) m (fl r) D E q∧m.heap[k]? = some (.cells #[Vl A w B,Vi ac,Vl F y G,Vl I z J,Vl D q E] 30 (0,0))) [[k],S]) (fun t=>t.1) (ab,U,0) ⟨R,R,R,T0⟩ ⟨aB,l,c,n,f,g,i,h,d⟩ ?_);rintro ⟨ab,Y,p⟩ v ca ⟨Z,l,c,n,f,g,i,h,d⟩;rcases ab with _ | ab
 · exact (Lz Z).elim
 obtain ⟨b2,a,Z⟩:=Bs Z;refine Cq (Cs (Xu 1 [(75,Vi p)] (Yg k 0 3 (Vl I z J) R R (Rf Pq _) PQ d nn R (Xz PB R (Xu 1 [(79,Bd (p<((z).length:Int)))] (Xk (Cn [(1,Vp k 0),(4,.bool Y),(7,Vi p),(79,Bd (p<((z).length:Int)))] (fun v=>?_))))))));refine Ci _ R a (fun a=>?_) (fun a=>?_)
 · refine Ck (Kt (Cq (Cb (Cs (Yg k 0 3 (Vl I z J) R R (Rf Pq _) PQ d nn R (Xu 1 [(84,Vi p)] ?_))))));obtain ⟨x,bt,a⟩:=Bs a;refine Zf [Vi x.1,Vi x.2.1,Vi x.2.2.1,Vi x.2.2.2] (i.el PB) Vj bt R (fun _=>R) (fun _=>Xj #[Vi 0,Vi 0,Vi 0,Vi 0] R (fun ap b6 aO K bd=>?_));have n:=n.box l.size aO;obtain ⟨d,f,g,i,h,c,l⟩:=E7 (Cx.b c bd aO K) d f g i h c l;obtain ⟨bz,bj,a7,aN⟩:=Sa [Vi x.1,Vi x.2.1,Vi x.2.2.1,Vi x.2.2.2] Vj K R R R;refine Xp bj R ?_;obtain ⟨d,f,g,i,h,c⟩:=E6 (Cx.j c 0 aN) d f g i h c;have l:=l.th aN n 0;have K:=a7;refine Xk (Cp (Xu 2 [(87,.bool Y),(88,.bool Y)] (Xw 88 Y R a (fun a=>?_) (fun a=>?_))))
   · refine Yg ap 0 0 (Vi x.1) R R (Rf MY _) M5 K nn R ?_;obtain ⟨aF,O,a⟩:=Bs a;have N:=M0u x.1 _ bz O;refine Xv N R ?_;rintro ai bA ⟨rfl,be⟩;obtain ⟨d,f,g,i,h,K,c,l⟩:=E8 (Cx.e c be) d f g i h K c l;refine Xu 2 [(92,.bool aF),(93,.bool aF)] (Xw 93 aF R a (fun a=>?_) (fun a=>?_))
     · refine Yg k 0 0 (Vl A w B) R R (Rf Ru _) TR d nn R (Yg ap 0 1 (Vi x.2.1) R R (Rf Wh _) M5 K nn R (Yg ap 0 2 (Vi x.2.2.1) R R (Rf M0S _) M5 K nn R ?_));obtain ⟨aG,O,a⟩:=Bs a;obtain ⟨af,aa⟩:=Kc c [] [0,1,2];have N:=M36 A B w x.2.1 x.2.2.1 _ bA _ af (f.sub aa) O;refine Xv N R ?_;rintro ai b7 ⟨rfl,bf⟩;obtain ⟨d,f,g,i,h,K,c,l⟩:=E8 (Cx.e c bf) d f g i h K c l;refine Xu 2 [(101,.bool aG),(102,.bool aG)] (Xw 102 aG R a (fun a=>?_) (fun a=>?_))
       · refine Yg ap 0 3 (Vi x.2.2.2) R R (Rf Zk _) M5 K nn R (Xu 3 [(105,Bd (x.2.2.2≥0)),(106,Bd (x.2.2.2≥0)),(107,Bd (x.2.2.2≥0))] (Xw 107 _ R a (fun a=>?_) (fun a=>?_)))
         · refine Yg ap 0 3 (Vi x.2.2.2) R R (Rf Zk _) M5 K nn R (Yg k 0 4 (Vl D q E) R R (Rf MK _) MQ d nn R (Xz TK R (Xu 3 [(113,Bd (x.2.2.2<((q).length:Int))),(114,Bd (x.2.2.2<((q).length:Int))),(4,Bd (x.2.2.2<((q).length:Int)))] (Xe R (Kl (Kt (Cn [(1,Vp k 0),(4,Bd (x.2.2.2<((q).length:Int))),(7,Vi p)] (fun v=>?_))))))));refine Cp (Xu 3 [(80,Vi p),(81,Vi (M4 (p+1))),(7,Vi (M4 (p+1)))] (Xe R ?_));obtain rfl:=Sj a;obtain ⟨f,g,i,h,c⟩:=E5 (Cx.s c [1,2]) f g i h c;have n:=n.px [1];exact Kt ⟨(ab,decide (x.2.2.2<((q).length:Int)),M4 (p+1)),⟨R,R,R,T0⟩,⟨Z,l,c,n,f,g,i,h,d⟩,Ns _⟩
         refine Xu 8 [(108,U0),(109,U0),(110,U0),(111,U0),(112,U0),(113,U0),(114,.bool false),(4,.bool false)] (Xe R (Kl (Kt (Cn [(1,Vp k 0),(4,.bool false),(7,Vi p)] (fun v=>?_)))));refine Cp (Xu 3 [(80,Vi p),(81,Vi (M4 (p+1))),(7,Vi (M4 (p+1)))] (Xe R ?_));obtain rfl:=Sj a;obtain ⟨f,g,i,h,c⟩:=E5 (Cx.s c [1,2]) f g i h c;have n:=n.px [1];exact Kt ⟨(ab,false,M4 (p+1)),⟨R,R,R,T0⟩,⟨Z,l,c,n,f,g,i,h,d⟩,Ns _⟩
       refine Xu 13 [(103,U0),(104,U0),(105,U0),(106,.bool false),(107,.bool false),(108,U0),(109,U0),(110,U0),(111,U0),(112,U0),(113,U0),(114,.bool false),(4,.bool false)] (Xe R (Kl (Kt (Cn [(1,Vp k 0),(4,.bool false),(7,Vi p)] (fun v=>?_)))));refine Cp (Xu 3 [(80,Vi p),(81,Vi (M4 (p+1))),(7,Vi (M4 (p+1)))] (Xe R ?_));obtain rfl:=Sj a;obtain ⟨f,g,i,h,c⟩:=E5 (Cx.s c [1,2]) f g i h c;have n:=n.px [1];exact Kt ⟨(ab,false,M4 (p+1)),⟨R,R,R,T0⟩,⟨Z,l,c,n,f,g,i,h,d⟩,Ns _⟩
     refine Xu 22 [(94,U0),(95,U0),(96,U0),(97,U0),(98,U0),(99,U0),(100,U0),(101,.bool false),(102,.bool false),(103,U0),(104,U0),(105,U0),(106,.bool false),(107,.bool false),(108,U0),(109,U0),(110,U0),(111,U0),(112,U0),(113,U0),(114,.bool false),(4,.bool false)] (Xe R (Kl (Kt (Cn [(1,Vp k 0),(4,.bool false),(7,Vi p)] (fun v=>?_)))));refine Cp (Xu 3 [(80,Vi p),(81,Vi (M4 (p+1))),(7,Vi (M4 (p+1)))] (Xe R ?_));obtain rfl:=Sj a;obtain ⟨f,g,i,h,c⟩:=E5 (Cx.s c [1,2]) f g i h c;have n:=n.px [1];exact Kt ⟨(ab,false,M4 (p+1)),⟨R,R,R,T0⟩,⟨Z,l,c,n,f,g,i,h,d⟩,Ns _⟩
   refine Xu 27 [(89,U0),(90,U0),(91,U0),(92,.bool false),(93,.bool false),(94,U0),(95,U0),(96,U0),(97,U0),(98,U0),(99,U0),(100,U0),(101,.bool false),(102,.bool false),(103,U0),(104,U0),(105,U0),(106,.bool false),(107,.bool false),(108,U0),(109,U0),(110,U0),(111,U0),(112,U0),(113,U0),(114,.bool false),(4,.bool false)] (Xe R (Kl (Kt (Cn [(1,Vp k 0),(4,.bool false),(7,Vi p)] (fun v=>?_)))));refine Cp (Xu 3 [(80,Vi p),(81,Vi (M4 (p+1))),(7,Vi (M4 (p+1)))] (Xe R ?_));obtain rfl:=Sj a;obtain ⟨f,g,i,h,c⟩:=E5 (Cx.s c [1,2]) f g i h c;have n:=n.px [1];exact Kt ⟨(ab,false,M4 (p+1)),⟨R,R,R,T0⟩,⟨Z,l,c,n,f,g,i,h,d⟩,Ns _⟩
 refine Ce (Ke ?_);obtain rfl:=Sj a;have ag:=Sj Z;subst ag;have a:=a5;refine Ke (Ki (Kt (Cn [(1,Vp k 0),(4,.bool Y)] (fun v=>?_))));refine Cq (Cs (Xu 1 [(9,Vi 0)] (Xk (Cb ?_))));obtain ⟨a2,aC,a6⟩:=Bs a;obtain ⟨ae,aC⟩:=Lo aC;refine Cl (Lr hmx (σ:=Nat×Bool×Int) (fun t=>match t with | (_,Q,o)=>[(1,Vp k 0),(4,.bool Q),(9,Vi o)]) (fun t m=>match t with | (ah,Q,o)=>Mh (TN w q) ah (Q,o)=some a2∧Ev [] C m∧(fun r=>MS m r∧FR C.heap.size [[k]]∧Ma (M3 eI (M3 Mv (M3 eI (M3 eI (M7))))) m (fl r) A B w∧Ma (M3 eI eI) m (fl r) F G y∧Ma (M7) m (fl r) I J z∧Ma (M3 eI (M3 eI (M3 eI (M3 eI (M3 (Mi eI) (Mi eI)))))) m (fl r) D E q∧m.heap[k]? = some (.cells #[Vl A w B,Vi ac,Vl F y G,Vl I z J,Vl D q E] 30 (0,0))) [[k],S]) (fun t=>t.1) (ae,Y,0) ⟨R,R,R,T0⟩ ⟨aC,l,c,n,f,g,i,h,d⟩ ?_);rintro ⟨ae,Q,o⟩ v aX ⟨ad,l,c,n,f,g,i,h,d⟩;rcases ae with _ | ae
 · exact (Lz ad).elim
 obtain ⟨b3,a,ad⟩:=Bs ad;refine Cq (Cs (Xu 1 [(115,Vi o)] (Yg k 0 4 (Vl D q E) R R (Rf MK _) MQ d nn R (Xz TK R (Xu 1 [(119,Bd (o<((q).length:Int)))] (Xk (Cn [(1,Vp k 0),(4,.bool Q),(9,Vi o),(119,Bd (o<((q).length:Int)))] (fun v=>?_))))))));refine Ci _ R a (fun a=>?_) (fun a=>?_)
 · refine Ck (Kt (Cq (Cb (Cd [] [(0,false),(1,false),(2,false),(3,false),(4,false),(5,false),(6,false),(7,false),(8,false),(9,true),(10,false),(11,false),(12,false),(13,false),(14,false),(15,false),(16,false),(17,false),(18,false),(19,false),(20,false),(21,false),(22,false),(23,false),(24,false),(25,false),(26,false),(27,false),(28,false),(29,false),(30,false),(31,false)] _ (by kernel_rfl) R ?_))));obtain ⟨d,f,g,i,h,c,l⟩:=E7 (Cx.e c (Ev.drew aX)) d f g i h c l;refine Xu 2 [(122,.bool Q),(123,.bool Q)] (Xw 123 Q R a (fun a=>?_) (fun a=>?_))
   · refine Yg k 0 0 (Vl A w B) R R (Rf Ru _) TR d nn R (Yg k 0 4 (Vl D q E) R R (Rf MK _) MQ d nn R (Xu 1 [(128,Vi o)] ?_));obtain ⟨L,bu,a⟩:=Bs a;obtain ⟨aY,bQ,bk,a8,aq⟩:=Ri (Mo:=[]) TK h bu;obtain ⟨_,_,rfl,rfl,⟨_,_,rfl,rfl,⟨_,_,rfl,rfl,⟨_,_,rfl,rfl,⟨_,_,rfl,⟨aI,aK,rfl,bn⟩,⟨aJ,aL,rfl,bo⟩⟩⟩⟩⟩⟩:=aq;refine Yi _ _ _ R bk (Yl (.pointer (some aY)) (.agg #[Vi L.1,Vi L.2.1,Vi L.2.2.1,Vi L.2.2.2.1,Vl aI L.2.2.2.2.1 aK,Vl aJ L.2.2.2.2.2 aL]) R (R8 TY a8 (fun _ a=>by cases a)) ?_);obtain ⟨aH,O,a⟩:=Bs a;obtain ⟨af,aa⟩:=Kc c [] [0,1];have N:=M7U A B w L.1 L.2.1 L.2.2.1 L.2.2.2.1 aI aK L.2.2.2.2.1 aJ aL L.2.2.2.2.2 _ (aX).drew _ af (f.sub aa) (bn.sub aa) (bo.sub aa) O;refine Xv N R ?_;rintro ai b8 ⟨rfl,bh⟩;obtain ⟨d,f,g,i,h,c,l⟩:=E7 (Cx.e c bh) d f g i h c l;refine Xu 2 [(132,.bool aH),(133,.bool aH)] (Xw 133 aH R a (fun a=>?_) (fun a=>?_))
     · refine Xu 3 [(134,Vi o),(135,.bool (o==0)),(136,.bool (o==0))] (Xw 136 _ R a (fun a=>?_) (fun a=>?_))
       · refine Xu 17 [(137,U0),(138,U0),(139,U0),(140,U0),(141,U0),(142,U0),(143,U0),(144,U0),(145,U0),(146,U0),(147,U0),(148,U0),(149,U0),(150,U0),(151,.bool true),(152,.bool true),(4,.bool true)] (Xe R (Kl (Kt (Cn [(1,Vp k 0),(4,.bool true),(9,Vi o)] (fun v=>?_)))));refine Cp (Xu 3 [(120,Vi o),(121,Vi (M4 (o+1))),(9,Vi (M4 (o+1)))] (Xe R ?_));obtain rfl:=Sj a;exact Kt ⟨(ae,true,M4 (o+1)),⟨R,R,R,T0⟩,⟨ad,l,c,n,f,g,i,h,d⟩,Ns _⟩
       refine Yg k 0 4 (Vl D q E) R R (Rf MK _) MQ d nn R (Xu 1 [(139,Vi o)] ?_);obtain ⟨aj,bv,a⟩:=Bs a;obtain ⟨ax,bS,bl,a9,aq⟩:=Ri (Mo:=[]) TK h bv;obtain ⟨_,_,rfl,rfl,⟨_,_,rfl,rfl,⟨_,_,rfl,rfl,⟨_,_,rfl,rfl,⟨_,_,rfl,⟨bG,bK,rfl,bX⟩,⟨bH,bL,rfl,bY⟩⟩⟩⟩⟩⟩:=aq;refine Yi _ _ _ R bl (Yf (.pointer (some ax)) (.pointer (some (Addr.add ax 0))) R (Rf T1 _) (Yl (.pointer (some (Addr.add ax 0))) (Vi aj.1) R (Mw M5 a9 (fun _ a=>by cases a) 0 _ R) ?_));refine Yg k 0 4 (Vl D q E) R R (Rf MK _) MQ d nn R (Xu 2 [(145,Vi o),(146,Vi (M4 (o-1)))] ?_);obtain ⟨ak,bw,a⟩:=Bs a;obtain ⟨ay,bU,bm,ba,aq⟩:=Ri (Mo:=[]) TK h bw;obtain ⟨_,_,rfl,rfl,⟨_,_,rfl,rfl,⟨_,_,rfl,rfl,⟨_,_,rfl,rfl,⟨_,_,rfl,⟨bI,bN,rfl,bZ⟩,⟨bJ,bO,rfl,b0⟩⟩⟩⟩⟩⟩:=aq;refine Yi _ _ _ R bm (Yf (.pointer (some ay)) (.pointer (some (Addr.add ay 0))) R (Rf T1 _) (Yl (.pointer (some (Addr.add ay 0))) (Vi ak.1) R (Mw M5 ba (fun _ a=>by cases a) 0 _ R) ?_));refine Xu 4 [(150,Bd (aj.1≥ak.1)),(151,Bd (aj.1≥ak.1)),(152,Bd (aj.1≥ak.1)),(4,Bd (aj.1≥ak.1))] (Xe R (Kl (Kt (Cn [(1,Vp k 0),(4,Bd (aj.1≥ak.1)),(9,Vi o)] (fun v=>?_)))));refine Cp (Xu 3 [(120,Vi o),(121,Vi (M4 (o+1))),(9,Vi (M4 (o+1)))] (Xe R ?_));obtain rfl:=Sj a;exact Kt ⟨(ae,decide (aj.1≥ak.1),M4 (o+1)),⟨R,R,R,T0⟩,⟨ad,l,c,n,f,g,i,h,d⟩,Ns _⟩
     refine Xu 20 [(134,U0),(135,U0),(136,U0),(137,U0),(138,U0),(139,U0),(140,U0),(141,U0),(142,U0),(143,U0),(144,U0),(145,U0),(146,U0),(147,U0),(148,U0),(149,U0),(150,U0),(151,U0),(152,.bool false),(4,.bool false)] (Xe R (Kl (Kt (Cn [(1,Vp k 0),(4,.bool false),(9,Vi o)] (fun v=>?_)))));refine Cp (Xu 3 [(120,Vi o),(121,Vi (M4 (o+1))),(9,Vi (M4 (o+1)))] (Xe R ?_));obtain rfl:=Sj a;exact Kt ⟨(ae,false,M4 (o+1)),⟨R,R,R,T0⟩,⟨ad,l,c,n,f,g,i,h,d⟩,Ns _⟩
   refine Xu 30 [(124,U0),(125,U0),(126,U0),(127,U0),(128,U0),(129,U0),(130,U0),(131,U0),(132,.bool false),(133,.bool false),(134,U0),(135,U0),(136,U0),(137,U0),(138,U0),(139,U0),(140,U0),(141,U0),(142,U0),(143,U0),(144,U0),(145,U0),(146,U0),(147,U0),(148,U0),(149,U0),(150,U0),(151,U0),(152,.bool false),(4,.bool false)] (Xe R (Kl (Kt (Cn [(1,Vp k 0),(4,.bool false),(9,Vi o)] (fun v=>?_)))));refine Cp (Xu 3 [(120,Vi o),(121,Vi (M4 (o+1))),(9,Vi (M4 (o+1)))] (Xe R ?_));obtain rfl:=Sj a;exact Kt ⟨(ae,false,M4 (o+1)),⟨R,R,R,T0⟩,⟨ad,l,c,n,f,g,i,h,d⟩,Ns _⟩
 refine Ce (Ke ?_);obtain rfl:=Sj a;have ag:=Sj ad;subst ag;have a:=a6;refine Ke (Ki (Kt (Cn [(4,.bool Q)] (fun v=>?_))));refine Cq (Cs (Xu 2 [(153,.bool Q),(154,.bool (!Q))] (Xk (Ci _ R a (fun a=>?_) (fun a=>?_)))))
 · refine Cs (Xu 1 [(2,Vi 1)] (Xk (Cr (Kr (Rz (Vi 1) R ?_)))));obtain rfl:=Sj a;exact ⟨R,l⟩
 refine Ck (Kt (Cs (Xu 1 [(2,Vi 0)] (Xk (Cr (Rz (Vi 0) R ?_))))));obtain rfl:=Sj a;exact ⟨R,l⟩
def Yk (a:Int) (b:Int):Option Bool:=
(if (decide (a≤b))=true then
(if (decide (a≥(-1000000000000)))=true then
some (decide (b≤1000000000000))
else
some false)
else
some false)
theorem M27 (c a h g)(b:Yk c a=some h):Md Tryz.prog 68 [.agg #[Vi c,Vi a]] g fun j k=>j=.bool h∧Ev [] g k:=by
 refine Cw hmx Tryz.func68 R R R ?_;have d:=Ev.refl [] g;refine Cs (Xo R (fun e m l f i=>?_));have d:=d.ext i;refine Xu 1 [(2,.bool false)] (Xk (Cs (Yg e 0 0 (Vi c) R R (Rf P7 _) M5 f nn R (Yg e 0 1 (Vi a) R R (Rf MO _) M5 f nn R (Xu 2 [(7,Bd (c≤a)),(8,Bd (c≤a))] (Xw 8 _ R b (fun b=>?_) (fun b=>?_)))))))
 · refine Yg e 0 0 (Vi c) R R (Rf P7 _) M5 f nn R (Xu 3 [(11,Bd (c≥(-1000000000000))),(12,Bd (c≥(-1000000000000))),(13,Bd (c≥(-1000000000000)))] (Xw 13 _ R b (fun b=>?_) (fun b=>?_)))
   · refine Yg e 0 1 (Vi a) R R (Rf MO _) M5 f nn R (Xu 3 [(16,Bd (a≤1000000000000)),(17,Bd (a≤1000000000000)),(2,Bd (a≤1000000000000))] (Xk (Cr (Rz (Bd (a≤1000000000000)) R ?_))));obtain rfl:=Sj b;exact ⟨R,d⟩
   refine Xu 5 [(14,U0),(15,U0),(16,U0),(17,.bool false),(2,.bool false)] (Xk (Cr (Rz (.bool false) R ?_)));obtain rfl:=Sj b;exact ⟨R,d⟩
 refine Xu 10 [(9,U0),(10,U0),(11,U0),(12,.bool false),(13,.bool false),(14,U0),(15,U0),(16,U0),(17,.bool false),(2,.bool false)] (Xk (Cr (Rz (.bool false) R ?_)));obtain rfl:=Sj b;exact ⟨R,d⟩
def M13 (b:Int) (a:Int):Option Int:=
(if a≠0 then
(if a≠0 then
(if ((Int.tmod b a)!=0)=true then
(if ((decide ((Int.tmod b a)<0))!=(decide (a<0)))=true then
some (M4 ((M4 (Int.tdiv b a))-1))
else
some (M4 (Int.tdiv b a)))
else
some (M4 (Int.tdiv b a)))
else none)
else none)
theorem M6w (b a f e)(c:M13 b a=some f):Md Tryz.prog 71 [Vi b,Vi a] e fun h i=>h=Vi f∧Ev [] e i:=by
 refine Cw hmx Tryz.func71 R R R ?_;have d:=Ev.refl [] e;refine Cs (Xu 1 [(4,Vi 0)] (Xk (Cq (Cd [] [(0,false),(1,false),(2,false),(3,false),(4,false),(5,false),(6,false),(7,false)] _ (by kernel_rfl) R ?_))));have d:=d.ext (Ev.drew e);refine Xu 2 [(7,Vi b),(8,Vi a)] (MW (Vi (M4 (Int.tdiv b a))) (Vi b) (Vi a) R R R R (M0k (Gl c)) ?_);have c:=Gr c;refine Xu 2 [(10,Vi b),(11,Vi a)] (MW (Vi (Int.tmod b a)) (Vi b) (Vi a) R R R R (M1w (Gl c)) ?_);have c:=Gr c;refine Xu 2 [(5,Vi (M4 (Int.tdiv b a))),(6,Vi (Int.tmod b a))] (Xk (Cq (Cs (Xu 3 [(13,Vi (Int.tmod b a)),(14,.bool ((Int.tmod b a)!=0)),(15,.bool ((Int.tmod b a)!=0))] (Xw 15 _ R c (fun c=>?_) (fun c=>?_))))))
 · refine Xu 4 [(16,Vi (Int.tmod b a)),(17,Bd ((Int.tmod b a)<0)),(18,Vi a),(19,Bd (a<0))] (MW (.bool ((decide ((Int.tmod b a)<0))!=(decide (a<0)))) (Bd ((Int.tmod b a)<0)) (Bd (a<0)) R R R R (WN Zh) (Xu 1 [(21,.bool ((decide ((Int.tmod b a)<0))!=(decide (a<0))))] (Xk (Ci _ R c (fun c=>?_) (fun c=>?_)))))
   · refine Cp (Xu 3 [(22,Vi (M4 (Int.tdiv b a))),(23,Vi (M4 ((M4 (Int.tdiv b a))-1))),(5,Vi (M4 ((M4 (Int.tdiv b a))-1)))] (Xk (Cn [(5,Vi (M4 ((M4 (Int.tdiv b a))-1)))] (fun g=>?_))));refine Cs (Xu 2 [(24,Vi (M4 ((M4 (Int.tdiv b a))-1))),(4,Vi (M4 ((M4 (Int.tdiv b a))-1)))] (Xk (Cr (Rz (Vi (M4 ((M4 (Int.tdiv b a))-1))) R ?_))));obtain rfl:=Sj c;exact ⟨R,d⟩
   refine Ck (Kt (Cs (Xu 2 [(24,Vi (M4 (Int.tdiv b a))),(4,Vi (M4 (Int.tdiv b a)))] (Xk (Cn [(4,Vi (M4 (Int.tdiv b a)))] (fun g=>?_))))));refine Cr (Rz (Vi (M4 (Int.tdiv b a))) R ?_);obtain rfl:=Sj c;exact ⟨R,d⟩
 refine Xu 6 [(16,U0),(17,U0),(18,U0),(19,U0),(20,U0),(21,.bool false)] (Xk (PE R (Ck (Kt (Cs (Xu 2 [(24,Vi (M4 (Int.tdiv b a))),(4,Vi (M4 (Int.tdiv b a)))] (Xk (Cr (Rz (Vi (M4 (Int.tdiv b a))) R ?_)))))))));obtain rfl:=Sj c;exact ⟨R,d⟩
def M37 (b:Int) (a:Int):Option Int:=
(if a≠0 then
(if a≠0 then
(if ((Int.tmod b a)!=0)=true then
(if ((decide ((Int.tmod b a)<0))==(decide (a<0)))=true then
some (M4 ((M4 (Int.tdiv b a))+1))
else
some (M4 (Int.tdiv b a)))
else
some (M4 (Int.tdiv b a)))
else none)
else none)
theorem M5t (b a f e)(c:M37 b a=some f):Md Tryz.prog 73 [Vi b,Vi a] e fun h i=>h=Vi f∧Ev [] e i:=by
 refine Cw hmx Tryz.func73 R R R ?_;have d:=Ev.refl [] e;refine Cs (Xu 1 [(4,Vi 0)] (Xk (Cq (Cd [] [(0,false),(1,false),(2,false),(3,false),(4,false),(5,false),(6,false),(7,false)] _ (by kernel_rfl) R ?_))));have d:=d.ext (Ev.drew e);refine Xu 2 [(7,Vi b),(8,Vi a)] (MW (Vi (M4 (Int.tdiv b a))) (Vi b) (Vi a) R R R R (M0k (Gl c)) ?_);have c:=Gr c;refine Xu 2 [(10,Vi b),(11,Vi a)] (MW (Vi (Int.tmod b a)) (Vi b) (Vi a) R R R R (M1w (Gl c)) ?_);have c:=Gr c;refine Xu 2 [(5,Vi (M4 (Int.tdiv b a))),(6,Vi (Int.tmod b a))] (Xk (Cq (Cs (Xu 3 [(13,Vi (Int.tmod b a)),(14,.bool ((Int.tmod b a)!=0)),(15,.bool ((Int.tmod b a)!=0))] (Xw 15 _ R c (fun c=>?_) (fun c=>?_))))))
 · refine Xu 4 [(16,Vi (Int.tmod b a)),(17,Bd ((Int.tmod b a)<0)),(18,Vi a),(19,Bd (a<0))] (MW (.bool ((decide ((Int.tmod b a)<0))==(decide (a<0)))) (Bd ((Int.tmod b a)<0)) (Bd (a<0)) R R R R (M0l Zh) (Xu 1 [(21,.bool ((decide ((Int.tmod b a)<0))==(decide (a<0))))] (Xk (Ci _ R c (fun c=>?_) (fun c=>?_)))))
   · refine Cp (Xu 3 [(22,Vi (M4 (Int.tdiv b a))),(23,Vi (M4 ((M4 (Int.tdiv b a))+1))),(5,Vi (M4 ((M4 (Int.tdiv b a))+1)))] (Xk (Cn [(5,Vi (M4 ((M4 (Int.tdiv b a))+1)))] (fun g=>?_))));refine Cs (Xu 2 [(24,Vi (M4 ((M4 (Int.tdiv b a))+1))),(4,Vi (M4 ((M4 (Int.tdiv b a))+1)))] (Xk (Cr (Rz (Vi (M4 ((M4 (Int.tdiv b a))+1))) R ?_))));obtain rfl:=Sj c;exact ⟨R,d⟩
   refine Ck (Kt (Cs (Xu 2 [(24,Vi (M4 (Int.tdiv b a))),(4,Vi (M4 (Int.tdiv b a)))] (Xk (Cn [(4,Vi (M4 (Int.tdiv b a)))] (fun g=>?_))))));refine Cr (Rz (Vi (M4 (Int.tdiv b a))) R ?_);obtain rfl:=Sj c;exact ⟨R,d⟩
 refine Xu 6 [(16,U0),(17,U0),(18,U0),(19,U0),(20,U0),(21,.bool false)] (Xk (PE R (Ck (Kt (Cs (Xu 2 [(24,Vi (M4 (Int.tdiv b a))),(4,Vi (M4 (Int.tdiv b a)))] (Xk (Cr (Rz (Vi (M4 (Int.tdiv b a))) R ?_)))))))));obtain rfl:=Sj c;exact ⟨R,d⟩
def Wo (c:Int) (d:Int×Int):Option (Mm (Int×Int) Int):=
match d with
| (a,b)=>
(if (decide (a<b))=true then
(if (decide ((M4 ((M4 (Int.tdiv (M4 ((M4 (a+b))+1)) 2))*(M4 (Int.tdiv (M4 ((M4 (a+b))+1)) 2))))≤c))=true then
some (.next (M4 (Int.tdiv (M4 ((M4 (a+b))+1)) 2),b))
else
some (.next (a,M4 ((M4 (Int.tdiv (M4 ((M4 (a+b))+1)) 2))-1))))
else
some (.done a))
def Ti (c:Int):Option Int:=
((loop (Wo c) (0,1073741824)).bind fun a=>match a with
| b=>some b)
theorem X2 (d o e)(c:Ti d=some o):Md Tryz.prog 75 [Vi d] e fun t l=>t=Vi o∧Ev [] e l:=by
 refine Cw hmx Tryz.func75 R R R ?_;have h:=Ev.refl [] e;have k:=MS.one e;have j:=FR.nil e.heap.size;refine Cs (Xu 1 [(2,Vi 0)] (Xk (Cs (Xu 2 [(3,Vi 0),(4,Vi 1073741824)] (Xk (Cq (Cb ?_)))))));obtain ⟨p,m,q⟩:=Bs c;obtain ⟨g,m⟩:=Lo m;refine Cl (Lr hmx (σ:=Nat×Int×Int) (fun i=>match i with | (_,a,b)=>[(0,Vi d),(3,Vi a),(4,Vi b)]) (fun i l=>match i with | (s,a,b)=>Mh (Wo d) s (a,b)=some p∧Ev [] e l∧MS l [[]]∧FR e.heap.size []) (fun i=>i.1) (g,0,1073741824) ⟨R,R,R,T0⟩ ⟨m,h,k,j⟩ ?_);rintro ⟨g,a,b⟩ n v ⟨f,h,k,j⟩;rcases g with _ | g
 · exact (Lz f).elim
 obtain ⟨u,c,f⟩:=Bs f;refine Cq (Cs (Xu 3 [(6,Vi a),(7,Vi b),(8,Bd (a<b))] (Xk (Cn [(0,Vi d),(3,Vi a),(4,Vi b),(8,Bd (a<b))] (fun n=>?_)))));refine Ci _ R c (fun c=>?_) (fun c=>?_)
 · refine Ck (Kt (Cb (Cs (Xu 6 [(9,Vi a),(10,Vi b),(11,Vi (M4 (a+b))),(12,Vi (M4 ((M4 (a+b))+1))),(13,Vi (M4 (Int.tdiv (M4 ((M4 (a+b))+1)) 2))),(5,Vi (M4 (Int.tdiv (M4 ((M4 (a+b))+1)) 2)))] (Xk (Cs (Xu 5 [(14,Vi (M4 (Int.tdiv (M4 ((M4 (a+b))+1)) 2))),(15,Vi (M4 (Int.tdiv (M4 ((M4 (a+b))+1)) 2))),(16,Vi (M4 ((M4 (Int.tdiv (M4 ((M4 (a+b))+1)) 2))*(M4 (Int.tdiv (M4 ((M4 (a+b))+1)) 2))))),(17,Vi d),(18,.bool (decide ((M4 ((M4 (Int.tdiv (M4 ((M4 (a+b))+1)) 2))*(M4 (Int.tdiv (M4 ((M4 (a+b))+1)) 2))))≤d)))] (Xk (Ci _ R c (fun c=>?_) (fun c=>?_))))))))))
   · refine Cp (Xu 2 [(19,Vi (M4 (Int.tdiv (M4 ((M4 (a+b))+1)) 2))),(3,Vi (M4 (Int.tdiv (M4 ((M4 (a+b))+1)) 2)))] (Xe R (Kl ?_)));obtain rfl:=Sj c;exact Kt ⟨(g,M4 (Int.tdiv (M4 ((M4 (a+b))+1)) 2),b),⟨R,R,R,T0⟩,⟨f,h,k,j⟩,Ns _⟩
   refine Cp (Xu 3 [(20,Vi (M4 (Int.tdiv (M4 ((M4 (a+b))+1)) 2))),(21,Vi (M4 ((M4 (Int.tdiv (M4 ((M4 (a+b))+1)) 2))-1))),(4,Vi (M4 ((M4 (Int.tdiv (M4 ((M4 (a+b))+1)) 2))-1)))] (Xe R (Kl ?_)));obtain rfl:=Sj c;exact Kt ⟨(g,a,M4 ((M4 (Int.tdiv (M4 ((M4 (a+b))+1)) 2))-1)),⟨R,R,R,T0⟩,⟨f,h,k,j⟩,Ns _⟩
 refine Ce (Ke ?_);obtain rfl:=Sj c;have r:=Sj f;subst r;have c:=q;refine Ke (Ki (Kt (Cn [(3,Vi a)] (fun n=>?_))));refine Cs (Xu 2 [(22,Vi a),(2,Vi a)] (Xk (Cr (Rz (Vi a) R ?_))));obtain rfl:=Sj c;exact ⟨R,h⟩
def X3 (b:Int):Option Int:=
((Ti b).bind fun a=>
(if (decide ((M4 (a*a))<b))=true then
some (M4 (a+1))
else
some a))
theorem M14 (c f e)(b:X3 c=some f):Md Tryz.prog 74 [Vi c] e fun g k=>g=Vi f∧Ev [] e k:=by
 refine Cw hmx Tryz.func74 R R R ?_;have d:=Ev.refl [] e;refine Cs (Xu 1 [(2,Vi 0)] (Xk (Cs (Xu 1 [(4,Vi c)] ?_))));obtain ⟨a,j,b⟩:=Bs b;have h:=X2 c _ e j;refine Xv h R ?_;rintro g l ⟨rfl,i⟩;have d:=d.ext i;refine Xu 1 [(3,Vi a)] (Xk (Cq (Cs (Xu 5 [(6,Vi a),(7,Vi a),(8,Vi (M4 (a*a))),(9,Vi c),(10,Bd ((M4 (a*a))<c))] (Xk (Ci _ R b (fun b=>?_) (fun b=>?_)))))))
 · refine Cp (Xu 3 [(11,Vi a),(12,Vi (M4 (a+1))),(3,Vi (M4 (a+1)))] (Xk (Cs (Xu 2 [(13,Vi (M4 (a+1))),(2,Vi (M4 (a+1)))] (Xk (Cr (Rz (Vi (M4 (a+1))) R ?_)))))));obtain rfl:=Sj b;exact ⟨R,d⟩
 refine Ck (Kt (Cs (Xu 2 [(13,Vi a),(2,Vi a)] (Xk (Cr (Rz (Vi a) R ?_))))));obtain rfl:=Sj b;exact ⟨R,d⟩
def WJ (d:(List (Int×(List UInt8)×Int×Int×Int×Int×Int×Int))→Int→Option (List Int)) (b:List (Int×(List UInt8)×Int×Int×Int×Int×Int×Int)) (a:Int):Option (List Int):=
(if (decide (a<0))=true then
some ([])
else
((idx b a).bind fun e=>
((d b e.2.2.1).bind fun c=>
(if c.length+([a]).length≤4294967296 then
some (c++[a])
else none))))
theorem M6x (B:(List (Int×(List UInt8)×Int×Int×Int×Int×Int×Int))→Int→Option (List Int))(H:∀ (k:Option Addr) (m:Nat) (j:List (Int×(List UInt8)×Int×Int×Int×Int×Int×Int)) (g:Int) (q:(List Int)) (b:World) (d:List Nat) (a:MS b [d]) (A:Ma (M3 eI (M3 Mv (M3 eI (M3 eI (M7))))) b (fl [d]) k m j) (f:B j g=some q),Md Tryz.prog 36 [Vl k j m,Vi g] b fun v r=>∃ (h:Option Addr),∃ (s:Nat),v=Vl h q s∧Ev [] b r∧MS r [Bk h,d]∧FR b.heap.size [Bk h]∧M9 eI 3 r (fl [Bk h,d]) h s q)(k m j g q b d)(a:MS b [d])(A:Ma (M3 eI (M3 Mv (M3 eI (M3 eI (M7))))) b (fl [d]) k m j)(f:WJ B j g=some q):Md Tryz.prog 36 [Vl k j m,Vi g] b fun v r=>∃ h s,v=Vl h q s∧Ev [] b r∧MS r [Bk h,d]∧FR b.heap.size [Bk h]∧M9 eI 3 r (fl [Bk h,d]) h s q:=by
 refine Cw hmx Tryz.func36 R R R ?_;have i:=Ev.refl [] b;have p:=FR.nil b.heap.size;refine Cs (Xu 1 [(4,Z0)] (Xk (Cq (Cs (Xu 2 [(5,Vi g),(6,Bd (g<0))] (Xk (Ci _ R f (fun f=>?_) (fun f=>?_))))))))
 · refine Cs (Xu 1 [(4,Z0)] (Xk (Cr (Kr (Rz (Z0) R ?_)))));obtain rfl:=Sj f;have z:=a.pick [none,some 0] [Bk none,d] R;have x:=p.pick [none] [Bk none] R;exact ⟨none,0,R,i,z,x,M9.nil _ _ _ _⟩
 refine Ck (Kt (Cs (Xu 3 [(7,Vl k j m),(8,Vl k j m),(9,Vi g)] ?_)));obtain ⟨ac,ab,f⟩:=Bs f;refine Xq (A.el My) PO M5 ab R (fun _=>R) (fun _=>?_);obtain ⟨G,aa,f⟩:=Bs f;obtain ⟨O,X⟩:=Kc a [] [0];have J:=H k m j ac.2.2.1 _ b _ O (A.sub X) aa;refine Xv J R ?_;rintro v ai ⟨ad,af,rfl,D,N,E,o⟩;have a:=E1 (Cx.c a [] D N E) a;have y:=p.cc i E;have i:=i.ext D;have p:=y;have o:=o.pl a;refine Xu 1 [(14,Vi g)] (Xh #[Vi g] 3 R (fun ae aj Q I K=>?_));have t:=Cx.e a K;obtain ⟨o,a,i⟩:=E3 t o a i;have U:=t.l (e:=eI) Q I 1 [g];have L:=Gl f;have f:=Gr f;obtain ⟨n,w,ah,S,C,F,ag,Z⟩:=Mb Wg 22 o (Mf 0 R) U L;refine Xx R (Rn S) ?_;have t:=Cx.u a 0 C F;have a:=E1 t a;have y:=p.ux 0 i F;have i:=i.th C p 0;have p:=y;have o:=Z _ t.st.new;refine Xu 1 [(4,Vl n ((G++[g])) w)] (Xk (Cr (Rz (Vl n ((G++[g])) w) R ?_)));obtain rfl:=Sj f;have z:=a.pk [0,1] [Bk n,d] R;have Y:=Pk (ls:=[Bk n,d]) [0,1] [Bk n,d] R;have x:=p.pk [0] [Bk n] R;exact ⟨n,w,R,i,z,x,o.sub Y⟩
def Va:Nat→(List (Int×(List UInt8)×Int×Int×Int×Int×Int×Int))→Int→Option (List Int)
| 0=>fun _ _=>none
| a+1=>WJ (Va a)
theorem M6y:∀ (b:Nat) (h:Option Addr) (j:Nat) (e:List (Int×(List UInt8)×Int×Int×Int×Int×Int×Int)) (l:Int) (f:(List Int)) (c:World) (d:List Nat) (o:MS c [d]) (p:Ma (M3 eI (M3 Mv (M3 eI (M3 eI (M7))))) c (fl [d]) h j e) (k:Va b e l=some f),Md Tryz.prog 36 [Vl h e j,Vi l] c fun n g=>∃ (a:Option Addr),∃ (i:Nat),n=Vl a f i∧Ev [] c g∧MS g [Bk a,d]∧FR c.heap.size [Bk a]∧M9 eI 3 g (fl [Bk a,d]) a i f:=by
 intro b
 induction b with
 | zero=>intros; rename_i k; cases k
 | succ b m=>exact M6x (Va b) m
def M7o:(List (Int×(List UInt8)×Int×Int×Int×Int×Int×Int))→Int→Option (List Int):=Va 100
theorem M7V (f:Option Addr)(g:Nat)(d:List (Int×(List UInt8)×Int×Int×Int×Int×Int×Int))(h:Int)(e:(List Int))(a:World)(b:List Nat)(l:MS a [b])(m:Ma (M3 eI (M3 Mv (M3 eI (M3 eI (M7))))) a (fl [b]) f g d)(k:M7o d h=some e):Md Tryz.prog 36 [Vl f d g,Vi h] a fun n i=>∃ (c:Option Addr),∃ (j:Nat),n=Vl c e j∧Ev [] a i∧MS i [Bk c,b]∧FR a.heap.size [Bk c]∧M9 eI 3 i (fl [Bk c,b]) c j e:=M6y 100 f g d h e a b l m k
end Go.Proofs.YtlihkahbjlnbbaaGreat
