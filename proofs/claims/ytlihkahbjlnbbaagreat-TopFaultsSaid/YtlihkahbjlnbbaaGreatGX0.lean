/- Walks, printed by program: each function returns what the partial function of the same name returns. Conditions: those of each theorem. -/
import Derived.Test.YtlihkahbjlnbbaaGreatGT
set_option linter.unusedVariables false
set_option linter.unusedSimpArgs false
set_option maxRecDepth 4000
namespace Go.Proofs.YtlihkahbjlnbbaaGreat
open Go Go.V Go.Proofs Go.IntKind
def M4x (a:List Int):Option ((List Int)×Int):=
some (a,0)
theorem M7T (e g h k d a)(j:MS d [a])(n:Ma eI d (fl [a]) e g h)(s:M4x h=some k):Md Tryz.prog 4 [Vl e h g] d fun x l=>∃ f o p,x=.pointer (some ⟨f,0,none⟩)∧Ev [] d l∧MS l [[f],a]∧FR d.heap.size [[f]]∧l.heap[f]? = some (.cells #[Vl o k.1 p,Vi k.2] 55 (0,0))∧Ma eI l (fl [[f],a]) o p k.1:=by
 refine Cw hmx Tryz.func4 R R R ?_;have i:=Ev.refl [] d;have m:=FR.nil d.heap.size;refine Cs (Xu 1 [(2,.pointer none)] (Xk (Cs (Xu 1 [(3,Vl e h g)] (Xg (.agg #[Vl e h g,Vi 0]) R (Xo R (fun c y r q t=>?_)))))));have m:=m.box i.size r;obtain ⟨n,j,i⟩:=E3 (Cx.b j t r q) n j i;refine Xu 1 [(2,Vp c 0)] (Xk (Cr (Rz (Vp c 0) R ?_)));obtain rfl:=Sj s;have v:=j.pk [0,1] [[c],a] R;have w:=Pk (ls:=[[c],a]) [0,1] [[c],a] R;have u:=m.pk [0] [[c]] R;exact ⟨c,e,g,R,i,v,u,q,n.sub w⟩
def Yd (a:Int):Option (List UInt8):=
some (ofB ([101,u8.wrap (M4 (48+(Int.tmod (M4 (Int.tdiv a 100)) 10))),u8.wrap (M4 (48+(Int.tmod (M4 (Int.tdiv a 10)) 10))),u8.wrap (M4 (48+(Int.tmod a 10)))]))
theorem M30 (a f b)(g:Yd a=some f):Md Tryz.prog 34 [Vi a] b fun n o=>n=Vs f∧Ev [] b o:=by
 refine Cw hmx Tryz.func34 R R R ?_;have d:=Ev.refl [] b;have j:=MS.one b;refine Cs (Xu 1 [(2,Vs ([]:List UInt8))] (Xk (Cs (Xu 4 [(3,Vi a),(4,Vi (M4 (Int.tdiv a 100))),(5,Vi (Int.tmod (M4 (Int.tdiv a 100)) 10)),(6,Vi (M4 (48+(Int.tmod (M4 (Int.tdiv a 100)) 10))))] (ZF (.int .u8 (u8.wrap (M4 (48+(Int.tmod (M4 (Int.tdiv a 100)) 10))))) _ R R R (M6o (M4 (48+(Int.tmod (M4 (Int.tdiv a 100)) 10))) _) (I1 (Xu 4 [(8,Vi a),(9,Vi (M4 (Int.tdiv a 10))),(10,Vi (Int.tmod (M4 (Int.tdiv a 10)) 10)),(11,Vi (M4 (48+(Int.tmod (M4 (Int.tdiv a 10)) 10))))] (ZF (.int .u8 (u8.wrap (M4 (48+(Int.tmod (M4 (Int.tdiv a 10)) 10))))) _ R R R (M6o (M4 (48+(Int.tmod (M4 (Int.tdiv a 10)) 10))) _) (I1 ?_)))))))));refine Xu 3 [(13,Vi a),(14,Vi (Int.tmod a 10)),(15,Vi (M4 (48+(Int.tmod a 10))))] (ZF (.int .u8 (u8.wrap (M4 (48+(Int.tmod a 10))))) _ R R R (M6o (M4 (48+(Int.tmod a 10))) _) (I1 (Xh #[.int .u8 101,.int .u8 (u8.wrap (M4 (48+(Int.tmod (M4 (Int.tdiv a 100)) 10)))),.int .u8 (u8.wrap (M4 (48+(Int.tmod (M4 (Int.tdiv a 10)) 10)))),.int .u8 (u8.wrap (M4 (48+(Int.tmod a 10))))] 5 R (fun e p l h i=>?_))));have k:=j;have d:=d.ext i;have m:Ma (Zd .u8) p (fl [[]]) (Ad e 0) 4 ([101,u8.wrap (M4 (48+(Int.tmod (M4 (Int.tdiv a 100)) 10))),u8.wrap (M4 (48+(Int.tmod (M4 (Int.tdiv a 10)) 10))),u8.wrap (M4 (48+(Int.tmod a 10)))]):=XY k l h R R (Ze (cs:=[.int .u8 101,.int .u8 (u8.wrap (M4 (48+(Int.tmod (M4 (Int.tdiv a 100)) 10)))),.int .u8 (u8.wrap (M4 (48+(Int.tmod (M4 (Int.tdiv a 10)) 10)))),.int .u8 (u8.wrap (M4 (48+(Int.tmod a 10))))]) (R6.cons (c:=[.int .u8 101]) R (R6.cons (c:=[.int .u8 (u8.wrap (M4 (48+(Int.tmod (M4 (Int.tdiv a 100)) 10))))]) R (R6.cons (c:=[.int .u8 (u8.wrap (M4 (48+(Int.tmod (M4 (Int.tdiv a 10)) 10))))]) R (R6.cons (c:=[.int .u8 (u8.wrap (M4 (48+(Int.tmod a 10))))]) R R6.nil)))));refine ZF (xv:=Vl (Ad e 0) ([101,u8.wrap (M4 (48+(Int.tmod (M4 (Int.tdiv a 100)) 10))),u8.wrap (M4 (48+(Int.tmod (M4 (Int.tdiv a 10)) 10))),u8.wrap (M4 (48+(Int.tmod a 10)))]) 4) (Vs (ofB ([101,u8.wrap (M4 (48+(Int.tmod (M4 (Int.tdiv a 100)) 10))),u8.wrap (M4 (48+(Int.tmod (M4 (Int.tdiv a 10)) 10))),u8.wrap (M4 (48+(Int.tmod a 10)))]))) _ R R R (M9X Ma0 MbD WR m) (I1 (Xu 1 [(2,Vs (ofB ([101,u8.wrap (M4 (48+(Int.tmod (M4 (Int.tdiv a 100)) 10))),u8.wrap (M4 (48+(Int.tmod (M4 (Int.tdiv a 10)) 10))),u8.wrap (M4 (48+(Int.tmod a 10)))])))] (Xk (Cr (Rz (Vs (ofB ([101,u8.wrap (M4 (48+(Int.tmod (M4 (Int.tdiv a 100)) 10))),u8.wrap (M4 (48+(Int.tmod (M4 (Int.tdiv a 10)) 10))),u8.wrap (M4 (48+(Int.tmod a 10)))]))) R ?_)))));obtain rfl:=Sj g;exact ⟨R,d⟩
def PR (c:Int) (a:Int) (b:Int):Option (Int×Int):=
(if a≠0 then
(if (decide ((Int.tmod b a)<0))=true then
some (M4 ((Int.tmod b a)+a),M4 (c+1))
else
some (Int.tmod b a,M4 (c+1)))
else none)
def Mr (a:List Int) (b:Int) (c:Int):Option (Int×Int):=
(if (decide (((a).length:Int)>0))=true then
(if ((a).length:Int)≠0 then
((idx a (Int.tmod b ((a).length:Int))).bind fun d=>
(if ((a).length:Int)≠0 then
PR b c (M4 (d+(M4 ((M4 (Int.tdiv b ((a).length:Int)))*7919))))
else none))
else none)
else
PR b c 0)
theorem Mt (a j k f g b q i p)(n:MS i [[a],p])(o:Ma eI i (fl [[a],p]) j k f)(h:i.heap[a]? = some (.cells #[Vl j f k,Vi g] 55 (0,0)))(c:Mr f g b=some q):Md Tryz.prog 11 [Vp a 0,Vi b] i fun z m=>z=Vi q.1∧Ev [a] i m∧m.heap[a]? = some (.cells #[Vl j f k,Vi q.2] 55 (0,0)):=by
 refine Cw hmx Tryz.func11 R R R ?_;have l:=Ev.refl [a] i;have r:=FR.nil i.heap.size;refine Cs (Xu 1 [(4,Vi 0)] (Xk (Cs (Xu 1 [(5,Vi 0)] (Xk (Pg (σ:=Int) (fun s=>match s with | d=>[(0,Vp a 0),(1,Vi b),(5,Vi d)]) (fun s m=>match s with | d=>PR g b d=some q∧Ev [a] i m∧MS m [[a],p]∧FR i.heap.size []∧Ma eI m (fl [[a],p]) j k f∧m.heap[a]? = some (.cells #[Vl j f k,Vi g] 55 (0,0))) ?_ ?_))))))
 · refine Cs (Xu 2 [(6,Vp a 0),(7,Vp a 0)] (Yg a 0 0 (Vl j f k) R R (Rf M0R _) Mp h nn R (Xz MB R (Xu 1 [(11,Bd (((f).length:Int)>0))] (Xk (Ci _ R c (fun c=>?_) (fun c=>?_)))))))
   · refine Cd [] [(0,false),(1,false),(2,false),(3,false),(4,false),(5,false),(6,false),(7,false),(8,false),(9,false),(10,false),(11,false),(12,false),(13,false),(14,false),(15,false),(16,false),(17,false),(18,false),(19,false),(20,false),(21,false),(22,false),(23,false),(24,false),(25,false),(26,false),(27,false),(28,false)] _ (by kernel_rfl) R ?_;obtain ⟨o,h,n,l⟩:=E4 (Cx.e n (Ev.drew i)) o h n l;refine Xu 2 [(12,Vp a 0),(13,Vp a 0)] (Yg a 0 0 (Vl j f k) R R (Rf M0R _) Mp h nn R (Xu 2 [(16,Vp a 0),(17,Vp a 0)] (Yg a 0 1 (Vi g) R R (Rf M0Q _) M5 h nn R (Xu 2 [(20,Vp a 0),(21,Vp a 0)] (Yg a 0 0 (Vl j f k) R R (Rf M0R _) Mp h nn R (Xz MB R ?_))))));refine MW (Vi (Int.tmod g ((f).length:Int))) (Vi g) (Vi ((f).length:Int)) R R R R (M1w (Gl c)) ?_;have c:=Gr c;obtain ⟨t,y,c⟩:=Bs c;refine Z6 (o.el MB) M5 y R (fun _=>R) (fun _=>Xu 2 [(28,Vp a 0),(29,Vp a 0)] (Yg a 0 1 (Vi g) R R (Rf M0Q _) M5 h nn R (Xu 2 [(32,Vp a 0),(33,Vp a 0)] (Yg a 0 0 (Vl j f k) R R (Rf M0R _) Mp h nn R (Xz MB R (MW (Vi (M4 (Int.tdiv g ((f).length:Int)))) (Vi g) (Vi ((f).length:Int)) R R R R (M0k (Gl c)) ?_))))));have c:=Gr c;refine Xu 3 [(38,Vi (M4 ((M4 (Int.tdiv g ((f).length:Int)))*7919))),(39,Vi (M4 (t+(M4 ((M4 (Int.tdiv g ((f).length:Int)))*7919))))),(5,Vi (M4 (t+(M4 ((M4 (Int.tdiv g ((f).length:Int)))*7919)))))] (Xe R ?_);exact Kt ⟨M4 (t+(M4 ((M4 (Int.tdiv g ((f).length:Int)))*7919))),⟨R,R,R,T0⟩,c,l,n,r,o,h⟩
   refine Ck ?_;exact Kt ⟨0,⟨R,R,R,T0⟩,c,l,n,r,o,h⟩
 rintro d u B ⟨c,l,n,r,o,h⟩;refine Cs (Xu 2 [(40,Vp a 0),(41,Vp a 0)] (Yg a 0 1 (Vi g) R R (Rf M0Q _) M5 h nn R (Xu 2 [(44,Vi (M4 (g+1))),(45,Vp a 0)] (Yf (Vp a 0) (Vp a 1) R (Rf M0Q _) ?_))));obtain ⟨A,x,v,w⟩:=Sx 1 (Vi (M4 (g+1))) M5 h;refine Xp x R ?_;have l:=l.tv w;have h:=v;refine Xk (Cn [(1,Vi b),(5,Vi d)] (fun u=>?_));refine Cs (Xu 2 [(47,Vi d),(48,Vi b)] (MW (Vi (Int.tmod d b)) (Vi d) (Vi b) R R R R (M1w (Gl c)) ?_));have c:=Gr c;refine Xu 1 [(5,Vi (Int.tmod d b))] (Xk (Cq (Cs (Xu 2 [(50,Vi (Int.tmod d b)),(51,Bd ((Int.tmod d b)<0))] (Xk (Ci _ R c (fun c=>?_) (fun c=>?_)))))))
 · refine Cp (Xu 4 [(52,Vi (Int.tmod d b)),(53,Vi b),(54,Vi (M4 ((Int.tmod d b)+b))),(5,Vi (M4 ((Int.tmod d b)+b)))] (Xk (Cs (Xu 2 [(55,Vi (M4 ((Int.tmod d b)+b))),(4,Vi (M4 ((Int.tmod d b)+b)))] (Xk (Cr (Rz (Vi (M4 ((Int.tmod d b)+b))) R ?_)))))));obtain rfl:=Sj c;exact ⟨R,l,h⟩
 refine Ck (Kt (Cs (Xu 2 [(55,Vi (Int.tmod d b)),(4,Vi (Int.tmod d b))] (Xk (Cr (Rz (Vi (Int.tmod d b)) R ?_))))));obtain rfl:=Sj c;exact ⟨R,l,h⟩
def Mj (c:List Int) (d:Int) (a:List Int):Option (Int×Int):=
((Mr c d ((a).length:Int)).bind fun b=>
((idx a b.1).bind fun e=>
some (e,b.2)))
theorem Mk (a f h e n g i c o b j)(q:MS b [[a],j])(x:Ma eI b (fl [[a],j]) f h e)(k:b.heap[a]? = some (.cells #[Vl f e h,Vi n] 55 (0,0)))(m:Ma eI b (fl [[a],j]) g i c)(d:Mj e n c=some o):Md Tryz.prog 12 [Vp a 0,Vl g c i] b fun r s=>r=Vi o.1∧Ev [a] b s∧s.heap[a]? = some (.cells #[Vl f e h,Vi o.2] 55 (0,0)):=by
 refine Cw hmx Tryz.func12 R R R ?_;have l:=Ev.refl [a] b;refine Cs (Xu 1 [(4,Vi 0)] (Xk (Cs (Xu 3 [(5,Vl g c i),(6,Vp a 0),(7,Vl g c i)] (Xz MB R ?_)))));obtain ⟨C,z,d⟩:=Bs d;obtain ⟨w,y⟩:=Kc q [0] [1];have u:=Mt a f h e n ((c).length:Int) _ b _ w (x.sub y) k z;refine Xv u R ?_;rintro r B ⟨rfl,p,v⟩;have m:=E1 (Cx.c0 q [0] p) m;have l:=l.tv p;have k:=v;obtain ⟨t,A,d⟩:=Bs d;refine Z6 (m.el MB) M5 A R (fun _=>R) (fun _=>Xu 1 [(4,Vi t)] (Xk (Cr (Rz (Vi t) R ?_))));obtain rfl:=Sj d;exact ⟨R,l,k⟩
def Pv (a:List Int) (l:Int) (c:Int) (m:Int) (d:Int) (e:Int):Option ((Int×(List UInt8)×Int×Int×Int×Int×Int×Int)×Int):=
((Yd m).bind fun g=>
((Mj a l ([1000,5000,9000,12000,30000,100000])).bind fun h=>
((Mj a h.2 ([0,100,(-150),400,1000,3500,5000])).bind fun f=>
((Mj a f.2 ([0,0,20,150])).bind fun b=>
(if (c==2)=true then
((Mj a b.2 ([500000,2000000,8000000,30000000])).bind fun i=>
some ((c,g,d,e,h.1,f.1,b.1,i.1),i.2))
else
(if (c==4)=true then
((Mj a b.2 ([100000,400000,700000])).bind fun j=>
((Mj a j.2 ([(-100),0,50,150])).bind fun k=>
some ((c,g,d,e,j.1,k.1,b.1,0),k.2)))
else
some ((c,g,d,e,h.1,f.1,b.1,0),b.2)))))))
theorem Tt (m B C z K k J p q A F L)(a:MS F [[m],L])(g:Ma eI F (fl [[m],L]) B C z)(d:F.heap[m]? = some (.cells #[Vl B z C,Vi K] 55 (0,0)))(i:Pv z K k J p q=some A):Md Tryz.prog 35 [Vp m 0,Vi k,Vi J,Vi p,Vi q] F fun E ai=>E=.agg #[Vi A.1.1,Vs A.1.2.1,Vi A.1.2.2.1,Vi A.1.2.2.2.1,Vi A.1.2.2.2.2.1,Vi A.1.2.2.2.2.2.1,Vi A.1.2.2.2.2.2.2.1,Vi A.1.2.2.2.2.2.2.2]∧Ev [m] F ai∧ai.heap[m]? = some (.cells #[Vl B z C,Vi A.2] 55 (0,0)):=by
 refine Cw hmx Tryz.func35 R R R ?_;have c:=Ev.refl [m] F;have v:=FR.nil F.heap.size;refine Cs (Xj #[Vi 0,Vs ([]:List UInt8),Vi 0,Vi 0,Vi 0,Vi 0,Vi 0,Vi 0] R (fun N bn ah f aK=>?_));have v:=v.box c.size ah;obtain ⟨g,d,a,c⟩:=E4 (Cx.b a aK ah f) g d a c;refine Xk (Cs (Xu 2 [(12,Vi k),(13,Vi J)] ?_));obtain ⟨s,u,i⟩:=Bs i;have t:=M30 J _ bn u;refine Xv t R ?_;rintro E bF ⟨rfl,aN⟩;obtain ⟨g,d,f,a,c⟩:=E5 (Cx.e a aN) g d f a c;refine Xu 3 [(15,Vi p),(16,Vi q),(17,Vp m 0)] (Xh #[Vi 1000,Vi 5000,Vi 9000,Vi 12000,Vi 30000,Vi 100000] 3 R (fun ap bp a5 aE aO=>?_));have o:=Cx.e a aO;obtain ⟨g,d,f,a,c⟩:=E5 o g d f a c;have bi:=o.l (e:=eI) a5 aE 6 [1000,5000,9000,12000,30000,100000];obtain ⟨y,u,i⟩:=Bs i;obtain ⟨w,n⟩:=Kc a [1] [0,2];have t:=Mk m B C z K (Ad ap 0) 6 ([1000,5000,9000,12000,30000,100000]) _ bp _ w (g.sub n) d (bi.sub n) u;refine Xv t R ?_;rintro E bq ⟨rfl,O,aQ⟩;obtain ⟨g,f,a⟩:=E3 (Cx.c0 a [1] O) g f a;have c:=c.tv O;have d:=aQ;refine Xu 1 [(20,Vp m 0)] (Xh #[Vi 0,Vi 100,Vi (-150),Vi 400,Vi 1000,Vi 3500,Vi 5000] 3 R (fun ak bj a0 aq aF=>?_));have o:=Cx.e a aF;obtain ⟨g,d,f,a,c⟩:=E5 o g d f a c;have bd:=o.l (e:=eI) a0 aq 7 [0,100,(-150),400,1000,3500,5000];obtain ⟨x,u,i⟩:=Bs i;obtain ⟨w,n⟩:=Kc a [1] [0,2];have t:=Mk m B C z y.2 (Ad ak 0) 7 ([0,100,(-150),400,1000,3500,5000]) _ bj _ w (g.sub n) d (bd.sub n) u;refine Xv t R ?_;rintro E br ⟨rfl,Q,aS⟩;obtain ⟨g,f,a⟩:=E3 (Cx.c0 a [1] Q) g f a;have c:=c.tv Q;have d:=aS;refine Xu 1 [(23,Vp m 0)] (Xh #[Vi 0,Vi 0,Vi 20,Vi 150] 3 R (fun al bk a1 ar aG=>?_));have o:=Cx.e a aG;obtain ⟨g,d,f,a,c⟩:=E5 o g d f a c;have be:=o.l (e:=eI) a1 ar 4 [0,0,20,150];obtain ⟨r,u,i⟩:=Bs i;obtain ⟨w,n⟩:=Kc a [1] [0,2];have t:=Mk m B C z x.2 (Ad al 0) 4 ([0,0,20,150]) _ bk _ w (g.sub n) d (be.sub n) u;refine Xv t R ?_;rintro E bs ⟨rfl,S,aU⟩;obtain ⟨g,f,a⟩:=E3 (Cx.c0 a [1] S) g f a;have c:=c.tv S;have d:=aU;refine Xg (.agg #[Vi k,Vs s,Vi p,Vi q,Vi y.1,Vi x.1,Vi r.1,Vi 0]) R (Xj #[Vi 0,Vs ([]:List UInt8),Vi 0,Vi 0,Vi 0,Vi 0,Vi 0,Vi 0] R (fun D bt ag h aH=>?_));have v:=v.box c.size ag;obtain ⟨g,d,f,a,c⟩:=E5 (Cx.b a aH ag h) g d f a c;obtain ⟨bu,a6,au,U⟩:=Sa [Vi k,Vs s,Vi p,Vi q,Vi y.1,Vi x.1,Vi r.1,Vi 0] Pb h R R R;refine Xp a6 R ?_;obtain ⟨g,d,f,a⟩:=E4 (Cx.j a 0 U) g d f a;have c:=c.th U v 0;have h:=au;refine Xk (Cq (Cs (Xu 1 [(27,Vi k)] (Xk (Cb (Cs (Xu 2 [(29,.bool (k==2)),(28,.bool (k==2))] (Xk (Ci _ R i (fun i=>?_) (fun i=>?_))))))))))
 · refine Cp (Xu 1 [(30,Vp m 0)] (Xh #[Vi 500000,Vi 2000000,Vi 8000000,Vi 30000000] 3 R (fun am bl a2 av aI=>?_)));have o:=Cx.e a aI;obtain ⟨g,d,f,h,a,c⟩:=E6 o g d f h a c;have bf:=o.l (e:=eI) a2 av 4 [500000,2000000,8000000,30000000];obtain ⟨H,u,i⟩:=Bs i;obtain ⟨w,n⟩:=Kc a [2] [0,1,3];have t:=Mk m B C z r.2 (Ad am 0) 4 ([500000,2000000,8000000,30000000]) _ bl _ w (g.sub n) d (bf.sub n) u;refine Xv t R ?_;rintro E bv ⟨rfl,X,aX⟩;obtain ⟨f,h,a⟩:=E3 (Cx.c0 a [2] X) f h a;have c:=c.tv X;have d:=aX;refine Yf (Vp D 0) (Vp D 7) R (Rf TE _) ?_;obtain ⟨bw,a7,aw,Y⟩:=Sx 7 (Vi H.1) M5 h;refine Xp a7 R ?_;obtain ⟨d,f,a⟩:=E3 (Cx.j a 0 Y) d f a;have c:=c.th Y v 0;have h:=aw;refine Xe R (Kl (Kt (Cn [(10,Vp N 0),(11,Vp D 0)] (fun aj=>?_))));refine Cs (Yl _ _ R (Ra 0 [Vi k,Vs s,Vi p,Vi q,Vi y.1,Vi x.1,Vi r.1,Vi H.1] Pb h nn R) ?_);obtain ⟨bx,a8,ax,Z⟩:=Sa [Vi k,Vs s,Vi p,Vi q,Vi y.1,Vi x.1,Vi r.1,Vi H.1] Pb f R R R;refine Xp a8 R ?_;have d:=E1 (Cx.j a 1 Z) d;have c:=c.th Z v 1;have f:=ax;refine Xk (Cr (Rr (Rv [.agg #[Vi k,Vs s,Vi p,Vi q,Vi y.1,Vi x.1,Vi r.1,Vi H.1]] ⟨⟨_,R,Lv (Ra (Mo:=[]) 0 [Vi k,Vs s,Vi p,Vi q,Vi y.1,Vi x.1,Vi r.1,Vi H.1] Pb f nn R)⟩,T0⟩ ?_)));obtain rfl:=Sj i;exact ⟨R,c,d⟩
 refine Cs (Xu 2 [(35,.bool (k==4)),(34,.bool (k==4))] (Xk (Cn [(0,Vp m 0),(10,Vp N 0),(11,Vp D 0),(34,.bool (k==4))] (fun aj=>?_))));refine Ci _ R i (fun i=>?_) (fun i=>?_)
 · refine Cp (Xu 1 [(36,Vp m 0)] (Xh #[Vi 100000,Vi 400000,Vi 700000] 3 R (fun an bm a3 ay aJ=>?_)));have o:=Cx.e a aJ;obtain ⟨g,d,f,h,a,c⟩:=E6 o g d f h a c;have bg:=o.l (e:=eI) a3 ay 3 [100000,400000,700000];obtain ⟨G,u,i⟩:=Bs i;obtain ⟨w,n⟩:=Kc a [2] [0,1,3];have t:=Mk m B C z r.2 (Ad an 0) 3 ([100000,400000,700000]) _ bm _ w (g.sub n) d (bg.sub n) u;refine Xv t R ?_;rintro E bz ⟨rfl,aa,aY⟩;obtain ⟨g,f,h,a⟩:=E4 (Cx.c0 a [2] aa) g f h a;have c:=c.tv aa;have d:=aY;refine Xu 1 [(39,Vp m 0)] (Xh #[Vi (-100),Vi 0,Vi 50,Vi 150] 3 R (fun ao bo a4 az aL=>?_));have o:=Cx.e a aL;obtain ⟨g,d,f,h,a,c⟩:=E6 o g d f h a c;have bh:=o.l (e:=eI) a4 az 4 [(-100),0,50,150];obtain ⟨I,u,i⟩:=Bs i;obtain ⟨w,n⟩:=Kc a [2] [0,1,3];have t:=Mk m B C z G.2 (Ad ao 0) 4 ([(-100),0,50,150]) _ bo _ w (g.sub n) d (bh.sub n) u;refine Xv t R ?_;rintro E bA ⟨rfl,ab,aZ⟩;obtain ⟨f,h,a⟩:=E3 (Cx.c0 a [2] ab) f h a;have c:=c.tv ab;have d:=aZ;refine Yf (Vp D 0) (Vp D 4) R (Rf TF _) ?_;obtain ⟨bB,a9,aA,ac⟩:=Sx 4 (Vi G.1) M5 h;refine Xp a9 R ?_;obtain ⟨d,f,a⟩:=E3 (Cx.j a 0 ac) d f a;have c:=c.th ac v 0;have h:=aA;refine Yf (Vp D 0) (Vp D 5) R (Rf Wf _) ?_;obtain ⟨bC,ba,aB,ad⟩:=Sx 5 (Vi I.1) M5 h;refine Xp ba R ?_;obtain ⟨d,f,a⟩:=E3 (Cx.j a 0 ad) d f a;have c:=c.th ad v 0;have h:=aB;refine Xe R (Kl (Kt (Cs (Yl _ _ R (Ra 0 [Vi k,Vs s,Vi p,Vi q,Vi G.1,Vi I.1,Vi r.1,Vi 0] Pb h nn R) ?_))));obtain ⟨bD,bb,aC,ae⟩:=Sa [Vi k,Vs s,Vi p,Vi q,Vi G.1,Vi I.1,Vi r.1,Vi 0] Pb f R R R;refine Xp bb R ?_;have d:=E1 (Cx.j a 1 ae) d;have c:=c.th ae v 1;have f:=aC;refine Xk (Cr (Rr (Rv [.agg #[Vi k,Vs s,Vi p,Vi q,Vi G.1,Vi I.1,Vi r.1,Vi 0]] ⟨⟨_,R,Lv (Ra (Mo:=[]) 0 [Vi k,Vs s,Vi p,Vi q,Vi G.1,Vi I.1,Vi r.1,Vi 0] Pb f nn R)⟩,T0⟩ ?_)));obtain rfl:=Sj i;exact ⟨R,c,d⟩
 refine Ck (Kl (Kt (Cs (Yl _ _ R (Ra 0 [Vi k,Vs s,Vi p,Vi q,Vi y.1,Vi x.1,Vi r.1,Vi 0] Pb h nn R) ?_))));obtain ⟨bE,bc,aD,af⟩:=Sa [Vi k,Vs s,Vi p,Vi q,Vi y.1,Vi x.1,Vi r.1,Vi 0] Pb f R R R;refine Xp bc R ?_;have d:=E1 (Cx.j a 1 af) d;have c:=c.th af v 1;have f:=aD;refine Xk (Cr (Rr (Rv [.agg #[Vi k,Vs s,Vi p,Vi q,Vi y.1,Vi x.1,Vi r.1,Vi 0]] ⟨⟨_,R,Lv (Ra (Mo:=[]) 0 [Vi k,Vs s,Vi p,Vi q,Vi y.1,Vi x.1,Vi r.1,Vi 0] Pb f nn R)⟩,T0⟩ ?_)));obtain rfl:=Sj i;exact ⟨R,c,d⟩
def PS (f:List Int) (i:Int×(List (Int×(List UInt8)×Int×Int×Int×Int×Int×Int))×Int×Int×Int):Option (Mm (Int×(List (Int×(List UInt8)×Int×Int×Int×Int×Int×Int))×Int×Int×Int) (Int×(List (Int×(List UInt8)×Int×Int×Int×Int×Int×Int))×Int×Int)):=
match i with
| (e,b,c,d,g)=>
(if (decide (g>0))=true then
((Mj f e ([1,1,2])).bind fun h=>
((Pv f h.2 h.1 ((b).length:Int) c d).bind fun a=>
(if b.length+([(a.1.1,a.1.2.1,a.1.2.2.1,a.1.2.2.2.1,a.1.2.2.2.2.1,a.1.2.2.2.2.2.1,a.1.2.2.2.2.2.2.1,a.1.2.2.2.2.2.2.2)]:List (Int×(List UInt8)×Int×Int×Int×Int×Int×Int)).length≤4294967296 then
some (.next (a.2,(b++([(a.1.1,a.1.2.1,a.1.2.2.1,a.1.2.2.2.1,a.1.2.2.2.2.1,a.1.2.2.2.2.2.1,a.1.2.2.2.2.2.2.1,a.1.2.2.2.2.2.2.2)]:List (Int×(List UInt8)×Int×Int×Int×Int×Int×Int))),M4 ((((b++([(a.1.1,a.1.2.1,a.1.2.2.1,a.1.2.2.2.1,a.1.2.2.2.2.1,a.1.2.2.2.2.2.1,a.1.2.2.2.2.2.2.1,a.1.2.2.2.2.2.2.2)]:List (Int×(List UInt8)×Int×Int×Int×Int×Int×Int)))).length:Int)-1),0,M4 (g-1)))
else none)))
else
some (.done (e,b,c,d)))
def T2 (e:List Int) (o:Int×(List (Int×(List UInt8)×Int×Int×Int×Int×Int×Int))×(List (Int×Int))×Int):Option (Mm (Int×(List (Int×(List UInt8)×Int×Int×Int×Int×Int×Int))×(List (Int×Int))×Int) (Int×(List (Int×(List UInt8)×Int×Int×Int×Int×Int×Int)))):=
match o with
| (j,g,d,f)=>
(if (decide (((d).length:Int)>0))=true then
((idx d 0).bind fun l=>
(if (0:Int)≤(1:Int)∧(1:Int)≤(d.length:Int) then
((Mr e j 3).bind fun m=>
((loop (PS e) (m.2,g,l.1,l.2,m.1)).bind fun n=>match n with
| (k,c,h,i)=>(if (decide (f>0))=true then
((Pv e k 3 ((c).length:Int) h i).bind fun a=>
(if c.length+([(a.1.1,a.1.2.1,a.1.2.2.1,a.1.2.2.2.1,a.1.2.2.2.2.1,a.1.2.2.2.2.2.1,a.1.2.2.2.2.2.2.1,a.1.2.2.2.2.2.2.2)]:List (Int×(List UInt8)×Int×Int×Int×Int×Int×Int)).length≤4294967296 then
(if (d.drop (Int.toNat 1)).length+([(M4 ((((c++([(a.1.1,a.1.2.1,a.1.2.2.1,a.1.2.2.2.1,a.1.2.2.2.2.1,a.1.2.2.2.2.2.1,a.1.2.2.2.2.2.2.1,a.1.2.2.2.2.2.2.2)]:List (Int×(List UInt8)×Int×Int×Int×Int×Int×Int)))).length:Int)-1),1),(M4 ((((c++([(a.1.1,a.1.2.1,a.1.2.2.1,a.1.2.2.2.1,a.1.2.2.2.2.1,a.1.2.2.2.2.2.1,a.1.2.2.2.2.2.2.1,a.1.2.2.2.2.2.2.2)]:List (Int×(List UInt8)×Int×Int×Int×Int×Int×Int)))).length:Int)-1),2)]:List (Int×Int)).length≤4294967296 then
some (.next (a.2,(c++([(a.1.1,a.1.2.1,a.1.2.2.1,a.1.2.2.2.1,a.1.2.2.2.2.1,a.1.2.2.2.2.2.1,a.1.2.2.2.2.2.2.1,a.1.2.2.2.2.2.2.2)]:List (Int×(List UInt8)×Int×Int×Int×Int×Int×Int))),((d.drop (Int.toNat 1))++([(M4 ((((c++([(a.1.1,a.1.2.1,a.1.2.2.1,a.1.2.2.2.1,a.1.2.2.2.2.1,a.1.2.2.2.2.2.1,a.1.2.2.2.2.2.2.1,a.1.2.2.2.2.2.2.2)]:List (Int×(List UInt8)×Int×Int×Int×Int×Int×Int)))).length:Int)-1),1),(M4 ((((c++([(a.1.1,a.1.2.1,a.1.2.2.1,a.1.2.2.2.1,a.1.2.2.2.2.1,a.1.2.2.2.2.2.1,a.1.2.2.2.2.2.2.1,a.1.2.2.2.2.2.2.2)]:List (Int×(List UInt8)×Int×Int×Int×Int×Int×Int)))).length:Int)-1),2)]:List (Int×Int))),M4 (f-1)))
else none)
else none))
else
((Pv e k 4 ((c).length:Int) h i).bind fun b=>
(if c.length+([(b.1.1,b.1.2.1,b.1.2.2.1,b.1.2.2.2.1,b.1.2.2.2.2.1,b.1.2.2.2.2.2.1,b.1.2.2.2.2.2.2.1,b.1.2.2.2.2.2.2.2)]:List (Int×(List UInt8)×Int×Int×Int×Int×Int×Int)).length≤4294967296 then
some (.next (b.2,(c++([(b.1.1,b.1.2.1,b.1.2.2.1,b.1.2.2.2.1,b.1.2.2.2.2.1,b.1.2.2.2.2.2.1,b.1.2.2.2.2.2.2.1,b.1.2.2.2.2.2.2.2)]:List (Int×(List UInt8)×Int×Int×Int×Int×Int×Int))),(d.drop (Int.toNat 1)),f))
else none)))))
else none))
else
some (.done (j,g)))
def Tb (a:List Int) (f:Int) (g:Int):Option ((List (Int×(List UInt8)×Int×Int×Int×Int×Int×Int))×Int):=
((Yd 0).bind fun h=>
((Mr a f (M4 (g+1))).bind fun b=>
((loop (T2 a) (b.2,([(0,h,(-1),0,0,0,0,0)]:List (Int×(List UInt8)×Int×Int×Int×Int×Int×Int)),([(0,0)]:List (Int×Int)),b.1)).bind fun c=>match c with
| (e,d)=>some (d,e))))
theorem M0q (o D E B aK au aB I L)(c:MS I [[o],L])(f:Ma eI I (fl [[o],L]) D E B)(m:I.heap[o]? = some (.cells #[Vl D B E,Vi aK] 55 (0,0)))(i:Tb B aK au=some aB):Md Tryz.prog 14 [Vp o 0,Vi au] I fun af y=>∃ am aQ,af=Vl am aB.1 aQ∧Ev [o] I y∧y.heap[o]? = some (.cells #[Vl D B E,Vi aB.2] 55 (0,0))∧MS y [Bk am,[o],L]∧FR I.heap.size [Bk am]∧M9 (M3 eI (M3 Mv (M3 eI (M3 eI (M7))))) 65 y (fl [Bk am,[o],L]) am aQ aB.1:=by
 refine Cw hmx Tryz.func14 R R R ?_;have g:=Ev.refl [o] I;have q:=FR.nil I.heap.size;refine Cs (Xu 1 [(4,Z0)] (Xk (Cs ?_)));obtain ⟨av,G,i⟩:=Bs i;have F:=M30 0 _ I G;refine Xv F R ?_;rintro af cU ⟨rfl,bG⟩;obtain ⟨f,m,c,g⟩:=E4 (Cx.e c bG) f m c g;refine Xg (.agg #[Vi 0,Vs av,Vi (-1),Vi 0,Vi 0,Vi 0,Vi 0,Vi 0]) R (Xh #[Vi 0,Vs av,Vi (-1),Vi 0,Vi 0,Vi 0,Vi 0,Vi 0] 65 R (fun cy c3 b2 bz a8=>?_));obtain ⟨ay,bm,cn,be⟩:=Ol (e:=(M3 eI (M3 Mv (M3 eI (M3 eI (M7)))))) b2 bz 1 [(0,av,(-1),0,0,0,0,0)];obtain ⟨f,m,c⟩:=E3 (Cx.p c a8 be) f m c;have q:=q.push (fun b aF=>Nat.le_trans g.size (be b aF).1);have g:=g.ext a8;have k:=cn (fl [Bk ay,[o],L]);rw [← bm];refine Xu 1 [(5,Vl ay (([(0,av,(-1),0,0,0,0,0)]:List (Int×(List UInt8)×Int×Int×Int×Int×Int×Int))) 1)] (Xk (Cs (Xg (.agg #[Vi 0,Vi 0]) R (Xh #[Vi 0,Vi 0] 152 R (fun cz ct b3 bA a9=>?_)))));obtain ⟨az,bn,co,bf⟩:=Ol (e:=(M3 eI eI)) b3 bA 1 [(0,0)];obtain ⟨f,m,k,c⟩:=E4 (Cx.p c a9 bf) f m k c;have q:=q.push (fun b aF=>Nat.le_trans g.size (bf b aF).1);have g:=g.ext a9;have h:=co (fl [Bk az,Bk ay,[o],L]);rw [← bn];have h:=M9.tailB h;refine Xu 1 [(6,Vl az (([(0,0)]:List (Int×Int))) 1)] (Xk (Cs (Xu 3 [(16,Vp o 0),(17,Vi au),(18,Vi (M4 (au+1)))] ?_)));obtain ⟨aN,G,i⟩:=Bs i;obtain ⟨Q,K⟩:=Kc c [2] [0,1,3];have F:=Mt o D E B aK (M4 (au+1)) _ ct _ Q (f.sub K) m G;refine Xv F R ?_;rintro af cG ⟨rfl,aU,bL⟩;obtain ⟨f,k,h,c⟩:=E4 (Cx.c0 c [2] aU) f k h c;have g:=g.tv aU;have m:=bL;refine Xu 1 [(7,Vi aN.1)] (Xk (Cq (Cb ?_)));obtain ⟨f,k,h,c⟩:=E4 (Cx.s c [1,0,2,3]) f k h c;have q:=q.px [1,0];obtain ⟨bk,aG,bo⟩:=Bs i;obtain ⟨ak,aG⟩:=Lo aG;refine Cl (Lr hmx (σ:=Nat×Int×(List (Int×(List UInt8)×Int×Int×Int×Int×Int×Int))×(List (Int×Int))×Int×Option Addr×Nat×Option Addr×Nat×List Nat) (fun S=>match S with | (_,ap,O,x,A,z,N,aa,ac,U)=>[(0,Vp o 0),(5,Vl z O N),(6,Vl aa x ac),(7,Vi A)]) (fun S y=>match S with | (aJ,ap,O,x,A,z,N,aa,ac,U)=>Mh (T2 B) aJ (ap,O,x,A)=some bk∧Ev [o] I y∧(fun ae=>MS y ae∧FR I.heap.size [Bk z,U]∧Ma eI y (fl ae) D E B∧y.heap[o]? = some (.cells #[Vl D B E,Vi ap] 55 (0,0))∧M9 (M3 eI (M3 Mv (M3 eI (M3 eI (M7))))) 65 y (fl ae) z N O∧M02 (M3 eI eI) 152 y (fl ae) U aa ac x) [Bk z,U,[o],L]) (fun S=>S.1) (ak,aN.2,([(0,av,(-1),0,0,0,0,0)]:List (Int×(List UInt8)×Int×Int×Int×Int×Int×Int)),([(0,0)]:List (Int×Int)),aN.1,ay,1,az,1,(Bk az)) ⟨R,R,R,R,T0⟩ ⟨aG,g,c,q,f,m,k,h⟩ ?_);rintro ⟨ak,ap,O,x,A,z,N,aa,ac,U⟩ ag c4 ⟨aj,g,c,q,f,m,k,h⟩;rcases ak with _ | ak
 · exact (Lz aj).elim
 obtain ⟨cE,i,aj⟩:=Bs aj;refine Cq (Cs (Xu 1 [(20,Vl aa x ac)] (Xz M6p R (Xu 1 [(22,Bd (((x).length:Int)>0))] (Xk (Cn [(0,Vp o 0),(5,Vl z O N),(6,Vl aa x ac),(7,Vi A),(22,Bd (((x).length:Int)>0))] (fun ag=>?_)))))));refine Ci _ R i (fun i=>?_) (fun i=>?_)
 · refine Ck (Kt (Cb (Cs (Xu 1 [(23,Vl aa x ac)] ?_))));obtain ⟨al,cp,i⟩:=Bs i;obtain ⟨bi,cA,b4,_,bB,bq⟩:=M6n (Mo:=[]) M6p h cp;obtain ⟨_,_,rfl,rfl,rfl⟩:=bq;refine Yi _ _ _ R b4 (Yl (.pointer (some bi)) (.agg #[Vi al.1,Vi al.2]) R (R8 M4r bB (fun _ i=>by cases i)) ?_);refine Xj #[Vi 0,Vi 0] R (fun w cH bg t bC=>?_);have q:=q.box g.size bg;obtain ⟨m,f,k,h,c,g⟩:=E6 (Cx.b c bC bg t) m f k h c g;obtain ⟨cq,b5,br,aX⟩:=Sa [Vi al.1,Vi al.2] M4r t R R R;refine Xp b5 R ?_;obtain ⟨m,f,k,h,c⟩:=E5 (Cx.j c 0 aX) m f k h c;have g:=g.th aX q 0;have t:=br;refine Xk (Cs (Xu 1 [(26,Vl aa x ac)] ?_));have ad:=Gl i;have i:=Gr i;obtain ⟨Z,ab,b6,cc⟩:=M8I (P:=Tryz.prog) (Mo:=[]) M6p h 1 ad;refine M0J (xv:=Vl aa x ac) (lv:=some (Vi 1)) (hv:=none) (mv:=none) (Vl Z ((x.drop (Int.toNat 1))) ab) R R R R R R b6 ?_;have h:=cc;refine Xu 1 [(6,Vl Z ((x.drop (Int.toNat 1))) ab)] (Xk (Cq (Cs (Xu 1 [(28,Vp o 0)] ?_))));obtain ⟨aL,G,i⟩:=Bs i;obtain ⟨Q,K⟩:=Kc c [3] [0,1,2,4];have F:=Mt o D E B ap 3 _ cq _ Q (f.sub K) m G;refine Xv F R ?_;rintro af cI ⟨rfl,aY,bN⟩;obtain ⟨f,k,h,t,c⟩:=E5 (Cx.c0 c [3] aY) f k h t c;have g:=g.tv aY;have m:=bN;refine Xu 1 [(9,Vi aL.1)] (Xk (Cb ?_));obtain ⟨f,k,h,c⟩:=E4 (Cx.s c [1,2,0,3,4]) f k h c;have q:=q.px [1,2,0];obtain ⟨bl,aH,bp⟩:=Bs i;obtain ⟨ar,aH⟩:=Lo aH;refine Cl (Lr hmx (σ:=Nat×Int×(List (Int×(List UInt8)×Int×Int×Int×Int×Int×Int))×Int×Int×Int×Option Addr×Nat) (fun S=>match S with | (_,ah,n,X,Y,H,C,J)=>[(0,Vp o 0),(5,Vl C n J),(6,Vl Z ((x.drop (Int.toNat 1))) ab),(7,Vi A),(8,Vp w 0),(9,Vi H)]) (fun S y=>match S with | (aJ,ah,n,X,Y,H,C,J)=>Mh (PS B) aJ (ah,n,X,Y,H)=some bl∧Ev [o] I y∧(fun ae=>MS y ae∧FR I.heap.size [Bk C,U,[w]]∧Ma eI y (fl ae) D E B∧y.heap[o]? = some (.cells #[Vl D B E,Vi ah] 55 (0,0))∧M9 (M3 eI (M3 Mv (M3 eI (M3 eI (M7))))) 65 y (fl ae) C J n∧M02 (M3 eI eI) 152 y (fl ae) U Z ab (x.drop (Int.toNat 1))∧y.heap[w]? = some (.cells #[Vi X,Vi Y] 152 (0,0))) [Bk C,U,[w],[o],L]) (fun S=>S.1) (ar,aL.2,O,al.1,al.2,aL.1,z,N) ⟨R,R,R,R,R,R,T0⟩ ⟨aH,g,c,q,f,m,k,h,t⟩ ?_);rintro ⟨ar,ah,n,X,Y,H,C,J⟩ ag bh ⟨aq,g,c,q,f,m,k,h,t⟩;rcases ar with _ | ar
   · exact (Lz aq).elim
   obtain ⟨cF,i,aq⟩:=Bs aq;refine Cq (Cs (Xu 2 [(30,Vi H),(31,Bd (H>0))] (Xk (Cn [(0,Vp o 0),(5,Vl C n J),(6,Vl Z ((x.drop (Int.toNat 1))) ab),(7,Vi A),(8,Vp w 0),(9,Vi H),(31,Bd (H>0))] (fun ag=>?_)))));refine Ci _ R i (fun i=>?_) (fun i=>?_)
   · refine Ck (Kt (Cq (Cb (Cs (Xu 1 [(34,Vp o 0)] (Xh #[Vi 1,Vi 1,Vi 2] 3 R (fun bj cr bX bs bD=>?_)))))));have v:=Cx.e c bD;obtain ⟨m,f,k,h,t,c,g⟩:=E7 v m f k h t c g;have cd:=v.l (e:=eI) bX bs 3 [1,1,2];obtain ⟨aC,G,i⟩:=Bs i;obtain ⟨Q,K⟩:=Kc c [3] [0,1,2,4];have F:=Mk o D E B ah (Ad bj 0) 3 ([1,1,2]) _ cr _ Q (f.sub K) m (cd.sub K) G;refine Xv F R ?_;rintro af cs ⟨rfl,aZ,bO⟩;obtain ⟨f,k,h,t,c⟩:=E5 (Cx.c0 c [3] aZ) f k h t c;have g:=g.tv aZ;have m:=bO;refine Xu 1 [(10,Vi aC.1)] (Xk (Cs (Xu 4 [(37,Vl C n J),(38,Vp o 0),(39,Vi aC.1),(40,Vl C n J)] (Xz My R (Yi (Vp w 0) (Vi 0) (Vp w 0) R (V7 ZL M5 w 0 0 (by decide) _) ?_)))));refine Yl _ (Vi X) R (Rb M5 t nn 0 _ R) (Yi (Vp w 0) (Vi 1) (Vp w 1) R (V7 ZL M5 w 0 1 (by decide) _) ?_);refine Yl _ (Vi Y) R (Rb M5 t nn 1 _ R) ?_;obtain ⟨d,G,i⟩:=Bs i;obtain ⟨Q,K⟩:=Kc c [3] [0,1,2,4];have F:=Tt o D E B aC.2 aC.1 ((n).length:Int) X Y _ cs _ Q (f.sub K) m G;refine Xv F R ?_;rintro af cJ ⟨rfl,a0,bQ⟩;obtain ⟨f,k,h,t,c⟩:=E5 (Cx.c0 c [3] a0) f k h t c;have g:=g.tv a0;have m:=bQ;refine Xh #[Vi d.1.1,Vs d.1.2.1,Vi d.1.2.2.1,Vi d.1.2.2.2.1,Vi d.1.2.2.2.2.1,Vi d.1.2.2.2.2.2.1,Vi d.1.2.2.2.2.2.2.1,Vi d.1.2.2.2.2.2.2.2] 65 R (fun cu cK bY bt bE=>?_);have v:=Cx.e c bE;obtain ⟨m,f,k,h,t,c,g⟩:=E7 v m f k h t c g;have ce:=v.l (e:=(M3 eI (M3 Mv (M3 eI (M3 eI (M7)))))) bY bt 1 [(d.1.1,d.1.2.1,d.1.2.2.1,d.1.2.2.2.1,d.1.2.2.2.2.1,d.1.2.2.2.2.2.1,d.1.2.2.2.2.2.2.1,d.1.2.2.2.2.2.2.2)];have ad:=Gl i;have i:=Gr i;obtain ⟨aw,aA,cL,b7,a1,ba,cB,cj⟩:=Mb M8J 25 k (Mf 0 R) ce ad;refine Xx R (Rn b7) ?_;have v:=Cx.u c 0 a1 ba;obtain ⟨m,f,h,t,c⟩:=E5 v m f h t c;have ai:=q.ux 0 g ba;have g:=g.th a1 q 0;have q:=ai;have k:=cj _ v.st.new;refine Xu 1 [(5,Vl aw ((n++([(d.1.1,d.1.2.1,d.1.2.2.1,d.1.2.2.2.1,d.1.2.2.2.2.1,d.1.2.2.2.2.2.1,d.1.2.2.2.2.2.2.1,d.1.2.2.2.2.2.2.2)]:List (Int×(List UInt8)×Int×Int×Int×Int×Int×Int)))) aA)] (Xk (Cp (Xu 1 [(49,Vl aw ((n++([(d.1.1,d.1.2.1,d.1.2.2.1,d.1.2.2.2.1,d.1.2.2.2.2.1,d.1.2.2.2.2.2.1,d.1.2.2.2.2.2.2.1,d.1.2.2.2.2.2.2.2)]:List (Int×(List UInt8)×Int×Int×Int×Int×Int×Int)))) aA)] (Xz My R (Xu 1 [(51,Vi (M4 ((((n++([(d.1.1,d.1.2.1,d.1.2.2.1,d.1.2.2.2.1,d.1.2.2.2.2.1,d.1.2.2.2.2.2.1,d.1.2.2.2.2.2.2.1,d.1.2.2.2.2.2.2.2)]:List (Int×(List UInt8)×Int×Int×Int×Int×Int×Int)))).length:Int)-1)))] (Xg (.agg #[Vi (M4 ((((n++([(d.1.1,d.1.2.1,d.1.2.2.1,d.1.2.2.2.1,d.1.2.2.2.2.1,d.1.2.2.2.2.2.1,d.1.2.2.2.2.2.2.1,d.1.2.2.2.2.2.2.2)]:List (Int×(List UInt8)×Int×Int×Int×Int×Int×Int)))).length:Int)-1)),Vi 0]) R ?_))))));obtain ⟨cN,b8,bu,a2⟩:=Sa [Vi (M4 ((((n++([(d.1.1,d.1.2.1,d.1.2.2.1,d.1.2.2.2.1,d.1.2.2.2.2.1,d.1.2.2.2.2.2.1,d.1.2.2.2.2.2.2.1,d.1.2.2.2.2.2.2.2)]:List (Int×(List UInt8)×Int×Int×Int×Int×Int×Int)))).length:Int)-1)),Vi 0] M4r t R R R;refine Xp b8 R ?_;obtain ⟨m,f,k,h,c⟩:=E5 (Cx.j c 2 a2) m f k h c;have g:=g.th a2 q 2;have t:=bu;refine Xe R (Kl (Kt (Cn [(0,Vp o 0),(5,Vl aw ((n++([(d.1.1,d.1.2.1,d.1.2.2.1,d.1.2.2.2.1,d.1.2.2.2.2.1,d.1.2.2.2.2.2.1,d.1.2.2.2.2.2.2.1,d.1.2.2.2.2.2.2.2)]:List (Int×(List UInt8)×Int×Int×Int×Int×Int×Int)))) aA),(6,Vl Z ((x.drop (Int.toNat 1))) ab),(7,Vi A),(8,Vp w 0),(9,Vi H)] (fun ag=>?_))));refine Cp (Xu 3 [(32,Vi H),(33,Vi (M4 (H-1))),(9,Vi (M4 (H-1)))] (Xe R ?_));obtain rfl:=Sj i;exact Kt ⟨(ar,d.2,(n++([(d.1.1,d.1.2.1,d.1.2.2.1,d.1.2.2.2.1,d.1.2.2.2.2.1,d.1.2.2.2.2.2.1,d.1.2.2.2.2.2.2.1,d.1.2.2.2.2.2.2.2)]:List (Int×(List UInt8)×Int×Int×Int×Int×Int×Int))),M4 ((((n++([(d.1.1,d.1.2.1,d.1.2.2.1,d.1.2.2.2.1,d.1.2.2.2.2.1,d.1.2.2.2.2.2.1,d.1.2.2.2.2.2.2.1,d.1.2.2.2.2.2.2.2)]:List (Int×(List UInt8)×Int×Int×Int×Int×Int×Int)))).length:Int)-1),0,M4 (H-1),aw,aA),⟨R,R,R,R,R,R,T0⟩,⟨aq,g,c,q,f,m,k,h,t⟩,Ns _⟩
   refine Ce (Ke ?_);obtain rfl:=Sj i;have aI:=Sj aq;subst aI;have i:=bp;refine Ke (Ki (Kt (Cn [(0,Vp o 0),(5,Vl C n J),(6,Vl Z ((x.drop (Int.toNat 1))) ab),(7,Vi A),(8,Vp w 0)] (fun ag=>?_))));refine Cq (Cs (Xu 2 [(53,Vi A),(54,Bd (A>0))] (Xk (Ci _ R i (fun i=>?_) (fun i=>?_)))))
   · refine Cs (Xu 3 [(55,Vi A),(56,Vi (M4 (A-1))),(7,Vi (M4 (A-1)))] (Xk (Cs (Xu 3 [(57,Vl C n J),(58,Vp o 0),(59,Vl C n J)] (Xz My R (Yi (Vp w 0) (Vi 0) (Vp w 0) R (V7 ZL M5 w 0 0 (by decide) _) ?_))))));refine Yl _ (Vi X) R (Rb M5 t nn 0 _ R) (Yi (Vp w 0) (Vi 1) (Vp w 1) R (V7 ZL M5 w 0 1 (by decide) _) ?_);refine Yl _ (Vi Y) R (Rb M5 t nn 1 _ R) ?_;obtain ⟨a,G,i⟩:=Bs i;obtain ⟨Q,K⟩:=Kc c [3] [0,1,2,4];have F:=Tt o D E B ah 3 ((n).length:Int) X Y _ bh _ Q (f.sub K) m G;refine Xv F R ?_;rintro af cO ⟨rfl,a3,bS⟩;obtain ⟨f,k,h,c⟩:=E4 (Cx.c0 c [3] a3) f k h c;have g:=g.tv a3;have m:=bS;refine Xh #[Vi a.1.1,Vs a.1.2.1,Vi a.1.2.2.1,Vi a.1.2.2.2.1,Vi a.1.2.2.2.2.1,Vi a.1.2.2.2.2.2.1,Vi a.1.2.2.2.2.2.2.1,Vi a.1.2.2.2.2.2.2.2] 65 R (fun cv cQ bZ bv bF=>?_);have v:=Cx.e c bF;obtain ⟨m,f,k,h,c,g⟩:=E6 v m f k h c g;have cf:=v.l (e:=(M3 eI (M3 Mv (M3 eI (M3 eI (M7)))))) bZ bv 1 [(a.1.1,a.1.2.1,a.1.2.2.1,a.1.2.2.2.1,a.1.2.2.2.2.1,a.1.2.2.2.2.2.1,a.1.2.2.2.2.2.2.1,a.1.2.2.2.2.2.2.2)];have ad:=Gl i;have i:=Gr i;obtain ⟨an,ao,cS,b9,a4,bb,cC,ck⟩:=Mb M8J 25 k (Mf 0 R) cf ad;refine Xx R (Rn b9) ?_;have v:=Cx.u c 0 a4 bb;obtain ⟨m,f,h,c⟩:=E4 v m f h c;have ai:=q.ux 0 g bb;have g:=g.th a4 q 0;have q:=ai;have k:=ck _ v.st.new;refine Xu 1 [(5,Vl an ((n++([(a.1.1,a.1.2.1,a.1.2.2.1,a.1.2.2.2.1,a.1.2.2.2.2.1,a.1.2.2.2.2.2.1,a.1.2.2.2.2.2.2.1,a.1.2.2.2.2.2.2.2)]:List (Int×(List UInt8)×Int×Int×Int×Int×Int×Int)))) ao)] (Xk (Cs (Xu 2 [(68,Vl Z ((x.drop (Int.toNat 1))) ab),(69,Vl an ((n++([(a.1.1,a.1.2.1,a.1.2.2.1,a.1.2.2.2.1,a.1.2.2.2.2.1,a.1.2.2.2.2.2.1,a.1.2.2.2.2.2.2.1,a.1.2.2.2.2.2.2.2)]:List (Int×(List UInt8)×Int×Int×Int×Int×Int×Int)))) ao)] (Xz My R (Xu 1 [(71,Vi (M4 ((((n++([(a.1.1,a.1.2.1,a.1.2.2.1,a.1.2.2.2.1,a.1.2.2.2.2.1,a.1.2.2.2.2.2.1,a.1.2.2.2.2.2.2.1,a.1.2.2.2.2.2.2.2)]:List (Int×(List UInt8)×Int×Int×Int×Int×Int×Int)))).length:Int)-1)))] (Xg (.agg #[Vi (M4 ((((n++([(a.1.1,a.1.2.1,a.1.2.2.1,a.1.2.2.2.1,a.1.2.2.2.2.1,a.1.2.2.2.2.2.1,a.1.2.2.2.2.2.2.1,a.1.2.2.2.2.2.2.2)]:List (Int×(List UInt8)×Int×Int×Int×Int×Int×Int)))).length:Int)-1)),Vi 1]) R (Xu 1 [(73,Vl an ((n++([(a.1.1,a.1.2.1,a.1.2.2.1,a.1.2.2.2.1,a.1.2.2.2.2.1,a.1.2.2.2.2.2.1,a.1.2.2.2.2.2.2.1,a.1.2.2.2.2.2.2.2)]:List (Int×(List UInt8)×Int×Int×Int×Int×Int×Int)))) ao)] (Xz My R (Xu 1 [(75,Vi (M4 ((((n++([(a.1.1,a.1.2.1,a.1.2.2.1,a.1.2.2.2.1,a.1.2.2.2.2.1,a.1.2.2.2.2.2.1,a.1.2.2.2.2.2.2.1,a.1.2.2.2.2.2.2.2)]:List (Int×(List UInt8)×Int×Int×Int×Int×Int×Int)))).length:Int)-1)))] ?_)))))))));refine Xg (.agg #[Vi (M4 ((((n++([(a.1.1,a.1.2.1,a.1.2.2.1,a.1.2.2.2.1,a.1.2.2.2.2.1,a.1.2.2.2.2.2.1,a.1.2.2.2.2.2.2.1,a.1.2.2.2.2.2.2.2)]:List (Int×(List UInt8)×Int×Int×Int×Int×Int×Int)))).length:Int)-1)),Vi 2]) R (Xh #[Vi (M4 ((((n++([(a.1.1,a.1.2.1,a.1.2.2.1,a.1.2.2.2.1,a.1.2.2.2.2.1,a.1.2.2.2.2.2.1,a.1.2.2.2.2.2.2.1,a.1.2.2.2.2.2.2.2)]:List (Int×(List UInt8)×Int×Int×Int×Int×Int×Int)))).length:Int)-1)),Vi 1,Vi (M4 ((((n++([(a.1.1,a.1.2.1,a.1.2.2.1,a.1.2.2.2.1,a.1.2.2.2.2.1,a.1.2.2.2.2.2.1,a.1.2.2.2.2.2.2.1,a.1.2.2.2.2.2.2.2)]:List (Int×(List UInt8)×Int×Int×Int×Int×Int×Int)))).length:Int)-1)),Vi 2] 152 R (fun cw cX b0 bw bH=>?_));have v:=Cx.e c bH;obtain ⟨m,f,k,h,c,g⟩:=E6 v m f k h c g;have cg:=v.l (e:=(M3 eI eI)) b0 bw 2 [(M4 ((((n++([(a.1.1,a.1.2.1,a.1.2.2.1,a.1.2.2.2.1,a.1.2.2.2.2.1,a.1.2.2.2.2.2.1,a.1.2.2.2.2.2.2.1,a.1.2.2.2.2.2.2.2)]:List (Int×(List UInt8)×Int×Int×Int×Int×Int×Int)))).length:Int)-1),1),(M4 ((((n++([(a.1.1,a.1.2.1,a.1.2.2.1,a.1.2.2.2.1,a.1.2.2.2.2.1,a.1.2.2.2.2.2.1,a.1.2.2.2.2.2.2.1,a.1.2.2.2.2.2.2.2)]:List (Int×(List UInt8)×Int×Int×Int×Int×Int×Int)))).length:Int)-1),2)];have ad:=Gl i;have i:=Gr i;obtain ⟨ax,aE,cY,ca,a5,bc,cl⟩:=M5p Mb6 153 h (Mf 1 R) cg ad;refine Xx R (Rn ca) ?_;have v:=Cx.u c 1 a5 bc;obtain ⟨m,f,k,c⟩:=E4 v m f k c;have ai:=q.ux 1 g bc;have g:=g.th a5 q 1;have q:=ai;have h:=cl _ v.st.new;refine Xu 1 [(6,Vl ax (((x.drop (Int.toNat 1))++([(M4 ((((n++([(a.1.1,a.1.2.1,a.1.2.2.1,a.1.2.2.2.1,a.1.2.2.2.2.1,a.1.2.2.2.2.2.1,a.1.2.2.2.2.2.2.1,a.1.2.2.2.2.2.2.2)]:List (Int×(List UInt8)×Int×Int×Int×Int×Int×Int)))).length:Int)-1),1),(M4 ((((n++([(a.1.1,a.1.2.1,a.1.2.2.1,a.1.2.2.2.1,a.1.2.2.2.2.1,a.1.2.2.2.2.2.1,a.1.2.2.2.2.2.2.1,a.1.2.2.2.2.2.2.2)]:List (Int×(List UInt8)×Int×Int×Int×Int×Int×Int)))).length:Int)-1),2)]:List (Int×Int)))) aE)] (Xk (Cn [(0,Vp o 0),(5,Vl an ((n++([(a.1.1,a.1.2.1,a.1.2.2.1,a.1.2.2.2.1,a.1.2.2.2.2.1,a.1.2.2.2.2.2.1,a.1.2.2.2.2.2.2.1,a.1.2.2.2.2.2.2.2)]:List (Int×(List UInt8)×Int×Int×Int×Int×Int×Int)))) ao),(6,Vl ax (((x.drop (Int.toNat 1))++([(M4 ((((n++([(a.1.1,a.1.2.1,a.1.2.2.1,a.1.2.2.2.1,a.1.2.2.2.2.1,a.1.2.2.2.2.2.1,a.1.2.2.2.2.2.2.1,a.1.2.2.2.2.2.2.2)]:List (Int×(List UInt8)×Int×Int×Int×Int×Int×Int)))).length:Int)-1),1),(M4 ((((n++([(a.1.1,a.1.2.1,a.1.2.2.1,a.1.2.2.2.1,a.1.2.2.2.2.1,a.1.2.2.2.2.2.1,a.1.2.2.2.2.2.2.1,a.1.2.2.2.2.2.2.2)]:List (Int×(List UInt8)×Int×Int×Int×Int×Int×Int)))).length:Int)-1),2)]:List (Int×Int)))) aE),(7,Vi (M4 (A-1)))] (fun ag=>?_)));refine Ce (Ke (Ki ?_));obtain rfl:=Sj i;obtain ⟨f,k,h,c⟩:=E4 (Cx.s c [0,1,3,4]) f k h c;have q:=q.px [0,1];exact Kt ⟨(ak,a.2,(n++([(a.1.1,a.1.2.1,a.1.2.2.1,a.1.2.2.2.1,a.1.2.2.2.2.1,a.1.2.2.2.2.2.1,a.1.2.2.2.2.2.2.1,a.1.2.2.2.2.2.2.2)]:List (Int×(List UInt8)×Int×Int×Int×Int×Int×Int))),((x.drop (Int.toNat 1))++([(M4 ((((n++([(a.1.1,a.1.2.1,a.1.2.2.1,a.1.2.2.2.1,a.1.2.2.2.2.1,a.1.2.2.2.2.2.1,a.1.2.2.2.2.2.2.1,a.1.2.2.2.2.2.2.2)]:List (Int×(List UInt8)×Int×Int×Int×Int×Int×Int)))).length:Int)-1),1),(M4 ((((n++([(a.1.1,a.1.2.1,a.1.2.2.1,a.1.2.2.2.1,a.1.2.2.2.2.1,a.1.2.2.2.2.2.1,a.1.2.2.2.2.2.2.1,a.1.2.2.2.2.2.2.2)]:List (Int×(List UInt8)×Int×Int×Int×Int×Int×Int)))).length:Int)-1),2)]:List (Int×Int))),M4 (A-1),an,ao,ax,aE,(Bk ax)),⟨R,R,R,R,T0⟩,⟨aj,g,c,q,f,m,k,h⟩,Ns _⟩
   refine Ck (Kt (Cp (Xu 3 [(79,Vl C n J),(80,Vp o 0),(81,Vl C n J)] (Xz My R (Yi (Vp w 0) (Vi 0) (Vp w 0) R (V7 ZL M5 w 0 0 (by decide) _) ?_)))));refine Yl _ (Vi X) R (Rb M5 t nn 0 _ R) (Yi (Vp w 0) (Vi 1) (Vp w 1) R (V7 ZL M5 w 0 1 (by decide) _) ?_);refine Yl _ (Vi Y) R (Rb M5 t nn 1 _ R) ?_;obtain ⟨r,G,i⟩:=Bs i;obtain ⟨Q,K⟩:=Kc c [3] [0,1,2,4];have F:=Tt o D E B ah 4 ((n).length:Int) X Y _ bh _ Q (f.sub K) m G;refine Xv F R ?_;rintro af cZ ⟨rfl,a6,bU⟩;obtain ⟨f,k,h,c⟩:=E4 (Cx.c0 c [3] a6) f k h c;have g:=g.tv a6;have m:=bU;refine Xh #[Vi r.1.1,Vs r.1.2.1,Vi r.1.2.2.1,Vi r.1.2.2.2.1,Vi r.1.2.2.2.2.1,Vi r.1.2.2.2.2.2.1,Vi r.1.2.2.2.2.2.2.1,Vi r.1.2.2.2.2.2.2.2] 65 R (fun cx c1 b1 bx bI=>?_);have v:=Cx.e c bI;obtain ⟨m,f,k,h,c,g⟩:=E6 v m f k h c g;have ch:=v.l (e:=(M3 eI (M3 Mv (M3 eI (M3 eI (M7)))))) b1 bx 1 [(r.1.1,r.1.2.1,r.1.2.2.1,r.1.2.2.2.1,r.1.2.2.2.2.1,r.1.2.2.2.2.2.1,r.1.2.2.2.2.2.2.1,r.1.2.2.2.2.2.2.2)];have ad:=Gl i;have i:=Gr i;obtain ⟨aO,aS,c2,cb,a7,bd,cD,cm⟩:=Mb M8J 25 k (Mf 0 R) ch ad;refine Xx R (Rn cb) ?_;have v:=Cx.u c 0 a7 bd;obtain ⟨m,f,h,c⟩:=E4 v m f h c;have ai:=q.ux 0 g bd;have g:=g.th a7 q 0;have q:=ai;have k:=cm _ v.st.new;refine Xu 1 [(5,Vl aO ((n++([(r.1.1,r.1.2.1,r.1.2.2.1,r.1.2.2.2.1,r.1.2.2.2.2.1,r.1.2.2.2.2.2.1,r.1.2.2.2.2.2.2.1,r.1.2.2.2.2.2.2.2)]:List (Int×(List UInt8)×Int×Int×Int×Int×Int×Int)))) aS)] (Xe R (Kl ?_));obtain rfl:=Sj i;obtain ⟨f,k,h,c⟩:=E4 (Cx.s c [0,1,3,4]) f k h c;have q:=q.px [0,1];exact Kt ⟨(ak,r.2,(n++([(r.1.1,r.1.2.1,r.1.2.2.1,r.1.2.2.2.1,r.1.2.2.2.2.1,r.1.2.2.2.2.2.1,r.1.2.2.2.2.2.2.1,r.1.2.2.2.2.2.2.2)]:List (Int×(List UInt8)×Int×Int×Int×Int×Int×Int))),(x.drop (Int.toNat 1)),A,aO,aS,Z,ab,U),⟨R,R,R,R,T0⟩,⟨aj,g,c,q,f,m,k,h⟩,Ns _⟩
 refine Ce (Ke ?_);obtain rfl:=Sj i;have aI:=Sj aj;subst aI;have i:=bo;refine Ke (Ki (Kt (Cn [(5,Vl z O N)] (fun ag=>?_))));refine Cs (Xu 2 [(90,Vl z O N),(4,Vl z O N)] (Xk (Cr (Rz (Vl z O N) R ?_))));obtain rfl:=Sj i;have bK:=c.pk [0,2,3] [Bk z,[o],L] R;have ci:=Pk (ls:=[Bk z,U,[o],L]) [0,2,3] [Bk z,[o],L] R;have bJ:=q.pk [0] [Bk z] R;exact ⟨z,N,R,g,m,bK,bJ,k.sub ci⟩
def Rg (c:List Int) (d:Int) (a:Int) (e:Int):Option (Int×Int):=
((Mr c d (M4 ((M4 (e-a))+1))).bind fun b=>
some (M4 (a+b.1),b.2))
theorem VR (b f g e k a d l c n)(s:MS c [[b],n])(v:Ma eI c (fl [[b],n]) f g e)(i:c.heap[b]? = some (.cells #[Vl f e g,Vi k] 55 (0,0)))(h:Rg e k a d=some l):Md Tryz.prog 20 [Vp b 0,Vi a,Vi d] c fun o p=>o=Vi l.1∧Ev [b] c p∧p.heap[b]? = some (.cells #[Vl f e g,Vi l.2] 55 (0,0)):=by
 refine Cw hmx Tryz.func20 R R R ?_;have j:=Ev.refl [b] c;refine Cs (Xu 1 [(6,Vi 0)] (Xk (Cs (Xu 6 [(7,Vi a),(8,Vp b 0),(9,Vi d),(10,Vi a),(11,Vi (M4 (d-a))),(12,Vi (M4 ((M4 (d-a))+1)))] ?_))));obtain ⟨m,x,h⟩:=Bs h;obtain ⟨u,w⟩:=Kc s [0] [1];have q:=Mt b f g e k (M4 ((M4 (d-a))+1)) _ c _ u (v.sub w) i x;refine Xv q R ?_;rintro o y ⟨rfl,r,t⟩;have j:=j.tv r;have i:=t;refine Xu 2 [(14,Vi (M4 (a+m.1))),(6,Vi (M4 (a+m.1)))] (Xk (Cr (Rz (Vi (M4 (a+m.1))) R ?_)));obtain rfl:=Sj h;exact ⟨R,j,i⟩
def Zm (c:List UInt8) (d:Int):Option (Mm Int (Unit⊕Unit)):=
match d with
| b=>
(if (decide (b<(c.length:Int)))=true then
((sAt c b).bind fun a=>
(if (decide (a<97))=true then
(if (decide (a<48))=true then
some (.done (.inl ()))
else
(if (decide (a>57))=true then
some (.done (.inl ()))
else
some (.next (M4 (b+1)))))
else
(if (decide (a>122))=true then
(if (decide (a<48))=true then
some (.done (.inl ()))
else
(if (decide (a>57))=true then
some (.done (.inl ()))
else
some (.next (M4 (b+1)))))
else
some (.next (M4 (b+1))))))
else
some (.done (.inr ())))
def XA (a:List UInt8):Option Bool:=
((loop (Zm a) 0).bind fun b=>match b with
| (.inl _)=>some false
| (.inr _)=>(if (decide ((a.length:Int)>0))=true then
some (decide ((a.length:Int)≤12))
else
some false))
theorem M3J (b q j)(a:XA b=some q):Md Tryz.prog 93 [Vs b] j fun u o=>u=.bool q∧Ev [] j o:=by
 refine Cw hmx Tryz.func93 R R R ?_;have e:=Ev.refl [] j;have m:=MS.one j;have l:=FR.nil j.heap.size;refine Cs (Xu 1 [(2,.bool false)] (Xk (Cq (Cs (Xu 1 [(3,Vi 0)] (Xk (Cb ?_)))))));obtain ⟨r,p,k⟩:=Bs a;obtain ⟨i,p⟩:=Lo p;refine Cl (Lr hmx (σ:=Nat×Int) (fun n=>match n with | (_,c)=>[(0,Vs b),(3,Vi c)]) (fun n o=>match n with | (t,c)=>Mh (Zm b) t c=some r∧Ev [] j o∧MS o [[]]∧FR j.heap.size []) (fun n=>n.1) (i,0) ⟨R,R,T0⟩ ⟨p,e,m,l⟩ ?_);rintro ⟨i,c⟩ h w ⟨f,e,m,l⟩;rcases i with _ | i
 · exact (Lz f).elim
 obtain ⟨v,a,f⟩:=Bs f;refine Cq (Cs (Xu 2 [(5,Vi c),(6,Vs b)] (Xn (vs:=[Vs b]) (Vi (b.length:Int)) R R R (VQ WR _) (Xu 1 [(8,Bd (c<(b.length:Int)))] (Xk (Cn [(0,Vs b),(3,Vi c),(8,Bd (c<(b.length:Int)))] (fun h=>?_)))))));refine Ci _ R a (fun a=>?_) (fun a=>?_)
 · refine Ck (Kt (Cq (Cb (Cs (Xu 2 [(11,Vs b),(12,Vi c)] ?_)))));obtain ⟨d,s,a⟩:=Bs a;refine YA (xv:=Vs b) (yv:=Vi c) (.int .u8 d) R R R R (Rp WR s) (Xu 1 [(4,.int .u8 d)] (Xk (Cs (Xu 3 [(14,.int .u8 d),(15,Bd (d<97)),(16,Bd (d<97))] (Xw 16 _ R a (fun a=>?_) (fun a=>?_))))))
   · refine Xu 7 [(17,U0),(18,U0),(19,.bool true),(20,.bool true),(21,.int .u8 d),(22,Bd (d<48)),(23,Bd (d<48))] (Xw 23 _ R a (fun a=>?_) (fun a=>?_))
     · refine Xu 4 [(24,U0),(25,U0),(26,.bool true),(27,.bool true)] (Xk (Me R (Cs (Xu 1 [(2,.bool false)] (Xk (Cn [(2,.bool false)] (fun h=>?_)))))));refine Cr (Kb (Kr ?_));obtain rfl:=Sj a;have g:=Sj f;subst g;have a:=k;refine Kr (Kb (Kr (Rz (.bool false) R ?_)));obtain rfl:=Sj a;exact ⟨R,e⟩
     refine Xu 4 [(24,.int .u8 d),(25,Bd (d>57)),(26,Bd (d>57)),(27,Bd (d>57))] (Xk (Ci _ R a (fun a=>?_) (fun a=>?_)))
     · refine Cs (Xu 1 [(2,.bool false)] (Xk (Cn [(2,.bool false)] (fun h=>?_))));refine Cr (Kb (Kr ?_));obtain rfl:=Sj a;have g:=Sj f;subst g;have a:=k;refine Kr (Kb (Kr (Rz (.bool false) R ?_)));obtain rfl:=Sj a;exact ⟨R,e⟩
     refine Ck (Kl (Kt (Cn [(0,Vs b),(3,Vi c)] (fun h=>?_))));refine Cp (Xu 3 [(9,Vi c),(10,Vi (M4 (c+1))),(3,Vi (M4 (c+1)))] (Xe R ?_));obtain rfl:=Sj a;exact Kt ⟨(i,M4 (c+1)),⟨R,R,T0⟩,⟨f,e,m,l⟩,Ns _⟩
   refine Xu 4 [(17,.int .u8 d),(18,Bd (d>122)),(19,Bd (d>122)),(20,Bd (d>122))] (Xw 20 _ R a (fun a=>?_) (fun a=>?_))
   · refine Xu 3 [(21,.int .u8 d),(22,Bd (d<48)),(23,Bd (d<48))] (Xw 23 _ R a (fun a=>?_) (fun a=>?_))
     · refine Xu 4 [(24,U0),(25,U0),(26,.bool true),(27,.bool true)] (Xk (Cn [(0,Vs b),(3,Vi c),(27,.bool true)] (fun h=>?_)));refine Me R (Cs (Xu 1 [(2,.bool false)] (Xk (Cr (Kb (Kr ?_))))));obtain rfl:=Sj a;have g:=Sj f;subst g;have a:=k;refine Kr (Kb (Kr (Rz (.bool false) R ?_)));obtain rfl:=Sj a;exact ⟨R,e⟩
     refine Xu 4 [(24,.int .u8 d),(25,Bd (d>57)),(26,Bd (d>57)),(27,Bd (d>57))] (Xk (Cn [(0,Vs b),(3,Vi c),(27,Bd (d>57))] (fun h=>?_)));refine Ci _ R a (fun a=>?_) (fun a=>?_)
     · refine Cs (Xu 1 [(2,.bool false)] (Xk (Cr (Kb (Kr ?_)))));obtain rfl:=Sj a;have g:=Sj f;subst g;have a:=k;refine Kr (Kb (Kr (Rz (.bool false) R ?_)));obtain rfl:=Sj a;exact ⟨R,e⟩
     refine Ck (Kl (Kt (Cp (Xu 3 [(9,Vi c),(10,Vi (M4 (c+1))),(3,Vi (M4 (c+1)))] (Xe R ?_)))));obtain rfl:=Sj a;exact Kt ⟨(i,M4 (c+1)),⟨R,R,T0⟩,⟨f,e,m,l⟩,Ns _⟩
   refine Xu 7 [(21,U0),(22,U0),(23,U0),(24,U0),(25,U0),(26,U0),(27,.bool false)] (Xk (PE R (Ck (Kl (Kt (Cp (Xu 3 [(9,Vi c),(10,Vi (M4 (c+1))),(3,Vi (M4 (c+1)))] (Xe R ?_))))))));obtain rfl:=Sj a;exact Kt ⟨(i,M4 (c+1)),⟨R,R,T0⟩,⟨f,e,m,l⟩,Ns _⟩
 refine Ce (Ke ?_);obtain rfl:=Sj a;have g:=Sj f;subst g;have a:=k;refine Ke (Ki (Kt (Cn [(0,Vs b)] (fun h=>?_))));refine Cs (Xu 1 [(28,Vs b)] (Xn (vs:=[Vs b]) (Vi (b.length:Int)) R R R (VQ WR _) (Xu 2 [(30,Bd ((b.length:Int)>0)),(31,Bd ((b.length:Int)>0))] (Xw 31 _ R a (fun a=>?_) (fun a=>?_)))))
 · refine Xu 1 [(32,Vs b)] (Xn (vs:=[Vs b]) (Vi (b.length:Int)) R R R (VQ WR _) (Xu 3 [(34,Bd ((b.length:Int)≤12)),(35,Bd ((b.length:Int)≤12)),(2,Bd ((b.length:Int)≤12))] (Xk (Cr (Rz (Bd ((b.length:Int)≤12)) R ?_)))));obtain rfl:=Sj a;exact ⟨R,e⟩
 refine Xu 5 [(32,U0),(33,U0),(34,U0),(35,.bool false),(2,.bool false)] (Xk (Cr (Rz (.bool false) R ?_)));obtain rfl:=Sj a;exact ⟨R,e⟩
def PM (a:Int) (b:Int) (c:Int) (d:Int) (e:Bool):Option Bool:=
(if e=true then
(if (decide (b≥1))=true then
(if (decide (b≤1000000))=true then
(if (decide (c≥(-10000)))=true then
(if (decide (c≤10000))=true then
(if (decide (d≥0))=true then
(if (decide (d≤5000))=true then
(if (decide (a≥0))=true then
some (decide (a≤2))
else
some false)
else
some false)
else
some false)
else
some false)
else
some false)
else
some false)
else
some false)
else
some false)
def Vn (a:Int) (g:List UInt8) (h:Int) (b:Int) (c:Int) (d:Int) (e:Int) (f:Int):Option Bool:=
(if (decide (a<0))=true then
some false
else
(if (decide (a>4))=true then
some false
else
((XA g).bind fun i=>
(if (!i)=true then
some false
else
(if (a==0)=true then
some (a==0&&(g==g&&(h==(-1)&&(b==0&&(c==0&&(d==0&&(e==0&&(f==0&&true))))))))
else
(if (a==2)=true then
(if (decide (f≥1))=true then
PM b c d e (decide (f≤1000000000))
else
PM b c d e false)
else
PM b c d e (f==0)))))))
theorem M31 (f l o h i j k g t b)(a:Vn f l o h i j k g=some t):Md Tryz.prog 78 [.agg #[Vi f,Vs l,Vi o,Vi h,Vi i,Vi j,Vi k,Vi g]] b fun x r=>x=.bool t∧Ev [] b r:=by
 refine Cw hmx Tryz.func78 R R R ?_;have e:=Ev.refl [] b;have n:=MS.one b;have q:=FR.nil b.heap.size;refine Cs (Xo R (fun d B w c v=>?_));have n:=n.box v w c;have q:=q.box e.size w;have e:=e.ext v;refine Xu 1 [(2,.bool false)] (Xk (Cq (Cs (Yg d 0 0 (Vi f) R R (Rf MC _) M5 c nn R (Xu 2 [(6,Bd (f<0)),(7,Bd (f<0))] (Xw 7 _ R a (fun a=>?_) (fun a=>?_)))))))
 · refine Xu 10 [(8,U0),(9,U0),(10,U0),(11,.bool true),(12,.bool true),(13,U0),(14,U0),(15,U0),(16,U0),(17,.bool true)] (Xk (Me R (Cs (Xu 1 [(2,.bool false)] (Xk (Cr (Kr (Rz (.bool false) R ?_))))))));obtain rfl:=Sj a;exact ⟨R,e⟩
 refine Yg d 0 0 (Vi f) R R (Rf MC _) M5 c nn R (Xu 3 [(10,Bd (f>4)),(11,Bd (f>4)),(12,Bd (f>4))] (Xw 12 _ R a (fun a=>?_) (fun a=>?_)))
 · refine Xu 5 [(13,U0),(14,U0),(15,U0),(16,U0),(17,.bool true)] (Xk (Me R (Cs (Xu 1 [(2,.bool false)] (Xk (Cr (Kr (Rz (.bool false) R ?_))))))));obtain rfl:=Sj a;exact ⟨R,e⟩
 refine Yg d 0 1 (Vs l) R R (Rf WS _) Zg c nn R ?_;obtain ⟨y,A,a⟩:=Bs a;have z:=M3J l _ B A;refine Xv z R ?_;rintro x C ⟨rfl,s⟩;have c:=s.box c nn;have n:=n.ev s;have e:=e.ext s;refine Xu 2 [(16,.bool (!y)),(17,.bool (!y))] (Xk (Ci _ R a (fun a=>?_) (fun a=>?_)))
 · refine Cs (Xu 1 [(2,.bool false)] (Xk (Cr (Kr (Rz (.bool false) R ?_)))));obtain rfl:=Sj a;exact ⟨R,e⟩
 refine Ck (Kt (Cq (Cs (Yg d 0 0 (Vi f) R R (Rf MC _) M5 c nn R (Xu 1 [(20,.bool (f==0))] (Xk (Cn [(1,Vp d 0),(20,.bool (f==0))] (fun m=>?_))))))));refine Ci _ R a (fun a=>?_) (fun a=>?_)
 · refine Cs (Yl _ _ R (Ra 0 [Vi f,Vs l,Vi o,Vi h,Vi i,Vi j,Vi k,Vi g] Pb c nn R) (Yg d 0 1 (Vs l) R R (Rf WS _) Zg c nn R (Xg (.agg #[Vi 0,Vs l,Vi (-1),Vi 0,Vi 0,Vi 0,Vi 0,Vi 0]) R (MW (.bool (f==0&&(l==l&&(o==(-1)&&(h==0&&(i==0&&(j==0&&(k==0&&(g==0&&true))))))))) (.agg #[Vi f,Vs l,Vi o,Vi h,Vi i,Vi j,Vi k,Vi g]) (.agg #[Vi 0,Vs l,Vi (-1),Vi 0,Vi 0,Vi 0,Vi 0,Vi 0]) R R R R (M7Q Tryz.underlying65 (by kernel_rfl) (by kernel_rfl) (fun _=>(TD (by kernel_rfl) (fun b=>(M5 b).1) R R (fun b=>YB M2Y _ _ b) (TD (by kernel_rfl) (fun b=>(Zg b).1) R R (fun b=>Mb5 WR _ _ b) (TD (by kernel_rfl) (fun b=>(M5 b).1) R R (fun b=>YB M2Y _ _ b) (TD (by kernel_rfl) (fun b=>(M5 b).1) R R (fun b=>YB M2Y _ _ b) (TD (by kernel_rfl) (fun b=>(M5 b).1) R R (fun b=>YB M2Y _ _ b) (TD (by kernel_rfl) (fun b=>(M5 b).1) R R (fun b=>YB M2Y _ _ b) (TD (by kernel_rfl) (fun b=>(M5 b).1) R R (fun b=>YB M2Y _ _ b) (TD (by kernel_rfl) (fun b=>(M5 b).1) R R (fun b=>YB M2Y _ _ b) M7f)))))))))) ?_))));refine Xu 1 [(2,.bool (f==0&&(l==l&&(o==(-1)&&(h==0&&(i==0&&(j==0&&(k==0&&(g==0&&true)))))))))] (Xk (Cr (Kr (Rz (.bool (f==0&&(l==l&&(o==(-1)&&(h==0&&(i==0&&(j==0&&(k==0&&(g==0&&true))))))))) R ?_))));obtain rfl:=Sj a;exact ⟨R,e⟩
 refine Ck (Kt (Cs (Yg d 0 7 (Vi g) R R (Rf TE _) M5 c nn R (Xu 2 [(28,.bool (g==0)),(3,.bool (g==0))] (Xk (Pg (σ:=Bool) (fun u=>match u with | p=>[(1,Vp d 0),(3,.bool p)]) (fun u r=>match u with | p=>PM h i j k p=some t∧Ev [] b r∧MS r [[d],[]]∧FR b.heap.size [[d]]∧r.heap[d]? = some (.cells #[Vi f,Vs l,Vi o,Vi h,Vi i,Vi j,Vi k,Vi g] 65 (0,0))) ?_ ?_))))))
 · refine Cs (Yg d 0 0 (Vi f) R R (Rf MC _) M5 c nn R (Xu 1 [(31,.bool (f==2))] (Xk (Ci _ R a (fun a=>?_) (fun a=>?_)))))
   · refine Cp (Yg d 0 7 (Vi g) R R (Rf TE _) M5 c nn R (Xu 2 [(34,Bd (g≥1)),(35,Bd (g≥1))] (Xw 35 _ R a (fun a=>?_) (fun a=>?_))))
     · refine Yg d 0 7 (Vi g) R R (Rf TE _) M5 c nn R (Xu 3 [(38,Bd (g≤1000000000)),(39,Bd (g≤1000000000)),(3,Bd (g≤1000000000))] (Xe R ?_));exact Kt ⟨decide (g≤1000000000),⟨R,R,T0⟩,a,e,n,q,c⟩
     refine Xu 5 [(36,U0),(37,U0),(38,U0),(39,.bool false),(3,.bool false)] (Xe R ?_);exact Kt ⟨false,⟨R,R,T0⟩,a,e,n,q,c⟩
   refine Ck ?_;exact Kt ⟨g==0,⟨R,R,T0⟩,a,e,n,q,c⟩
 rintro p m D ⟨a,e,n,q,c⟩;refine Cs (Xu 2 [(40,.bool p),(41,.bool p)] (Xw 41 p R a (fun a=>?_) (fun a=>?_)))
 · refine Yg d 0 4 (Vi i) R R (Rf TF _) M5 c nn R (Xu 3 [(44,Bd (i≥1)),(45,Bd (i≥1)),(46,Bd (i≥1))] (Xw 46 _ R a (fun a=>?_) (fun a=>?_)))
   · refine Yg d 0 4 (Vi i) R R (Rf TF _) M5 c nn R (Xu 3 [(49,Bd (i≤1000000)),(50,Bd (i≤1000000)),(51,Bd (i≤1000000))] (Xw 51 _ R a (fun a=>?_) (fun a=>?_)))
     · refine Yg d 0 5 (Vi j) R R (Rf Wf _) M5 c nn R (Xu 3 [(54,Bd (j≥(-10000))),(55,Bd (j≥(-10000))),(56,Bd (j≥(-10000)))] (Xw 56 _ R a (fun a=>?_) (fun a=>?_)))
       · refine Yg d 0 5 (Vi j) R R (Rf Wf _) M5 c nn R (Xu 3 [(59,Bd (j≤10000)),(60,Bd (j≤10000)),(61,Bd (j≤10000))] (Xw 61 _ R a (fun a=>?_) (fun a=>?_)))
         · refine Yg d 0 6 (Vi k) R R (Rf Vf _) M5 c nn R (Xu 3 [(64,Bd (k≥0)),(65,Bd (k≥0)),(66,Bd (k≥0))] (Xw 66 _ R a (fun a=>?_) (fun a=>?_)))
           · refine Yg d 0 6 (Vi k) R R (Rf Vf _) M5 c nn R (Xu 3 [(69,Bd (k≤5000)),(70,Bd (k≤5000)),(71,Bd (k≤5000))] (Xw 71 _ R a (fun a=>?_) (fun a=>?_)))
             · refine Yg d 0 3 (Vi h) R R (Rf R9 _) M5 c nn R (Xu 3 [(74,Bd (h≥0)),(75,Bd (h≥0)),(76,Bd (h≥0))] (Xw 76 _ R a (fun a=>?_) (fun a=>?_)))
               · refine Yg d 0 3 (Vi h) R R (Rf R9 _) M5 c nn R (Xu 3 [(79,Bd (h≤2)),(80,Bd (h≤2)),(2,Bd (h≤2))] (Xk (Cn [(2,Bd (h≤2))] (fun m=>?_))));refine Cr (Rz (Bd (h≤2)) R ?_);obtain rfl:=Sj a;exact ⟨R,e⟩
               refine Xu 5 (Un 77 3++[(80,.bool false),(2,.bool false)]) (Xk (Cn [(2,.bool false)] (fun m=>?_)));refine Cr (Rz (.bool false) R ?_);obtain rfl:=Sj a;exact ⟨R,e⟩
             refine Xu 10 (Un 72 3++[(75,.bool false),(76,.bool false)]++Un 77 3++[(80,.bool false),(2,.bool false)]) (Xk (Cn [(2,.bool false)] (fun m=>?_)));refine Cr (Rz (.bool false) R ?_);obtain rfl:=Sj a;exact ⟨R,e⟩
           refine Xu 15 (Un 67 3++[(70,.bool false),(71,.bool false)]++Un 72 3++[(75,.bool false),(76,.bool false)]++Un 77 3++[(80,.bool false),(2,.bool false)]) (Xk (Cn [(2,.bool false)] (fun m=>?_)));refine Cr (Rz (.bool false) R ?_);obtain rfl:=Sj a;exact ⟨R,e⟩
         refine Xu 20 (Un 62 3++[(65,.bool false),(66,.bool false)]++Un 67 3++[(70,.bool false),(71,.bool false)]++Un 72 3++[(75,.bool false),(76,.bool false)]++Un 77 3++[(80,.bool false),(2,.bool false)]) (Xk (Cn [(2,.bool false)] (fun m=>?_)));refine Cr (Rz (.bool false) R ?_);obtain rfl:=Sj a;exact ⟨R,e⟩
       refine Xu 25 (Un 57 3++[(60,.bool false),(61,.bool false)]++Un 62 3++[(65,.bool false),(66,.bool false)]++Un 67 3++[(70,.bool false),(71,.bool false)]++Un 72 3++[(75,.bool false),(76,.bool false)]++Un 77 3++[(80,.bool false),(2,.bool false)]) (Xk (Cn [(2,.bool false)] (fun m=>?_)));refine Cr (Rz (.bool false) R ?_);obtain rfl:=Sj a;exact ⟨R,e⟩
     refine Xu 30 (Un 52 3++[(55,.bool false),(56,.bool false)]++Un 57 3++[(60,.bool false),(61,.bool false)]++Un 62 3++[(65,.bool false),(66,.bool false)]++Un 67 3++[(70,.bool false),(71,.bool false)]++Un 72 3++[(75,.bool false),(76,.bool false)]++Un 77 3++[(80,.bool false),(2,.bool false)]) (Xk (Cn [(2,.bool false)] (fun m=>?_)));refine Cr (Rz (.bool false) R ?_);obtain rfl:=Sj a;exact ⟨R,e⟩
   refine Xu 35 (Un 47 3++[(50,.bool false),(51,.bool false)]++Un 52 3++[(55,.bool false),(56,.bool false)]++Un 57 3++[(60,.bool false),(61,.bool false)]++Un 62 3++[(65,.bool false),(66,.bool false)]++Un 67 3++[(70,.bool false),(71,.bool false)]++Un 72 3++[(75,.bool false),(76,.bool false)]++Un 77 3++[(80,.bool false),(2,.bool false)]) (Xk (Cn [(2,.bool false)] (fun m=>?_)));refine Cr (Rz (.bool false) R ?_);obtain rfl:=Sj a;exact ⟨R,e⟩
 refine Xu 40 (Un 42 3++[(45,.bool false),(46,.bool false)]++Un 47 3++[(50,.bool false),(51,.bool false)]++Un 52 3++[(55,.bool false),(56,.bool false)]++Un 57 3++[(60,.bool false),(61,.bool false)]++Un 62 3++[(65,.bool false),(66,.bool false)]++Un 67 3++[(70,.bool false),(71,.bool false)]++Un 72 3++[(75,.bool false),(76,.bool false)]++Un 77 3++[(80,.bool false),(2,.bool false)]) (Xk (Cn [(2,.bool false)] (fun m=>?_)));refine Cr (Rz (.bool false) R ?_);obtain rfl:=Sj a;exact ⟨R,e⟩
def VS (d:List (Int×(List UInt8)×Int×Int×Int×Int×Int×Int)) (b:List Int) (e:Int):Option (Mm Int (Unit⊕Unit)):=
match e with
| a=>
(if (decide (a<((d).length:Int)))=true then
((idx d a).bind fun c=>
(if (c.1==3)=true then
((idx b a).bind fun f=>
(if (decide (f<2))=true then
some (.done (.inl ()))
else
(if (c.1 != 4)=true then
((idx b a).bind fun g=>
(if (decide (g<1))=true then
some (.done (.inl ()))
else
some (.next (M4 (a+1)))))
else
some (.next (M4 (a+1))))))
else
(if (c.1 != 4)=true then
((idx b a).bind fun h=>
(if (decide (h<1))=true then
some (.done (.inl ()))
else
some (.next (M4 (a+1)))))
else
some (.next (M4 (a+1))))))
else
some (.done (.inr ())))
def VT (g:List (Int×(List UInt8)×Int×Int×Int×Int×Int×Int)) (j:(List ((List UInt8)×Bool))×(List ((Int×Int)×Bool))×(List Int)×Int×Int):Option (Mm ((List ((List UInt8)×Bool))×(List ((Int×Int)×Bool))×(List Int)×Int×Int) (Int⊕((List Int)×Int))):=
match j with
| (d,e,c,f,b)=>
(if (decide (b<((g).length:Int)))=true then
((idx g b).bind fun a=>
((Vn a.1 a.2.1 a.2.2.1 a.2.2.2.1 a.2.2.2.2.1 a.2.2.2.2.2.1 a.2.2.2.2.2.2.1 a.2.2.2.2.2.2.2).bind fun k=>
(if (!k)=true then
some (.done (.inl 1))
else
(if ((a.1==0)!=(b==0))=true then
some (.done (.inl 1))
else
(if ((Mu d a.2.1).getD false)=true then
some (.done (.inl 8))
else
(if (b==0)=true then
some (.next ((P4 d a.2.1 true),e,c,f,M4 (b+1)))
else
(if (decide (a.2.2.1<0))=true then
some (.done (.inl 12))
else
(if (decide (a.2.2.1≥b))=true then
some (.done (.inl 12))
else
((idx g a.2.2.1).bind fun h=>
(if (h.1==4)=true then
some (.done (.inl 17))
else
(if ((h.1==3)!=(a.2.2.2.1 != 0))=true then
some (.done (.inl 17))
else
(if ((Mu e (a.2.2.1,a.2.2.2.1)).getD false)=true then
some (.done (.inl 17))
else
((idx c a.2.2.1).bind fun i=>
((idx c a.2.2.1).bind fun l=>
(if (a.1==4)=true then
some (.next ((P4 d a.2.1 true),(P4 e (a.2.2.1,a.2.2.2.1) true),(c.set (Int.toNat a.2.2.1) (M4 (i+1))),M4 (f+1),M4 (b+1)))
else
some (.next ((P4 d a.2.1 true),(P4 e (a.2.2.1,a.2.2.2.1) true),(c.set (Int.toNat a.2.2.1) (M4 (i+1))),f,M4 (b+1))))))))))))))))))
else
some (.done (.inr (c,f))))
def Vo (a:List (Int×(List UInt8)×Int×Int×Int×Int×Int×Int)):Option Int:=
(if (decide (((a).length:Int)>128))=true then
some 3
else
(if (((a).length:Int)==0)=true then
some 13
else
(if (0:Int)≤((a).length:Int)∧(((a).length:Int):Int)≤4294967296 then
((loop (VT a) (([]:List ((List UInt8)×Bool)),([]:List ((Int×Int)×Bool)),(List.replicate (Int.toNat ((a).length:Int)) 0:List Int),0,0)).bind fun b=>match b with
| (.inl d)=>some d
| (.inr (c,e))=>((loop (VS a c) 0).bind fun b=>match b with
| (.inl _)=>some 13
| (.inr _)=>(if (decide (e>32))=true then
some 3
else
some 0)))
else none)))
theorem M32 (l m f aH H Z)(d:MS H [Z])(h:Ma (M3 eI (M3 Mv (M3 eI (M3 eI (M7))))) H (fl [Z]) l m f)(a:Vo f=some aH):Md Tryz.prog 49 [Vl l f m] H fun aI G=>aI=Vi aH∧Ev [] H G:=by
 refine Cw hmx Tryz.func49 R R R ?_;have g:=Ev.refl [] H;have k:=FR.nil H.heap.size;refine Cs (Xu 1 [(2,Vi 0)] (Xk (Cq (Cb (Cs (Xu 1 [(14,Vl l f m)] (Xz My R (Xu 2 [(16,Bd (((f).length:Int)>128)),(13,Bd (((f).length:Int)>128))] (Xk ?_)))))))));refine Ci _ R a (fun a=>?_) (fun a=>?_)
 · refine Cs (Xu 1 [(2,Vi 3)] (Xk (Cr (Kb (Kr (Rz (Vi 3) R ?_))))));obtain rfl:=Sj a;exact ⟨R,g⟩
 refine Cs (Xu 1 [(18,Vl l f m)] (Xz My R (Xu 2 [(20,.bool (((f).length:Int)==0)),(17,.bool (((f).length:Int)==0))] (Xk (Ci _ R a (fun a=>?_) (fun a=>?_))))))
 · refine Cs (Xu 1 [(2,Vi 13)] (Xk (Cr (Kb (Kr (Rz (Vi 13) R ?_))))));obtain rfl:=Sj a;exact ⟨R,g⟩
 refine Ck (Kl (Kt (Cs (Y2 M4s none .i64 R R R (fun B bs aB am a3 bA=>?_)))));refine I1 ?_;have v:PA Vs Value.bool bs B ([]:List ((List UInt8)×Bool)):=PA.mk am;have k:=k.box g.size aB;obtain ⟨h,d,g⟩:=E3 (Cx.b d a3 aB am) h d g;refine Xu 1 [(3,.map (some B))] (Xk (Cs (Y2 M4t none .i64 R R R (fun C aJ aD an a5 bB=>?_))));refine I1 ?_;have A:PA (kv2 .i64 .i64) Value.bool aJ C ([]:List ((Int×Int)×Bool)):=PA.mk an;have k:=k.box g.size aD;obtain ⟨h,v,d,g⟩:=E4 (Cx.b d a5 aD an) h v d g;refine Xu 1 [(4,.map (some C))] (Xk (Cs (Xu 1 [(23,Vl l f m)] (Xz My R ?_))));have ax:=Gl a;have a:=Gr a;obtain ⟨q,w,bu,bg,aw,ay,bi⟩:=M5e (e:=eI) Wg aJ ((f).length:Int) ax.1 ax.2 0 (fun _ _=>R);refine Xm _ bu (xv:=Vi ((f).length:Int)) (yv:=Vi ((f).length:Int)) R R R R bg (I1 ?_);obtain ⟨h,v,A,d⟩:=E4 (Cx.p d aw ay) h v A d;have k:=k.push (fun b aS=>Nat.le_trans g.size (ay b aS).1);have g:=g.ext aw;have i:=bi (fl [Bk q,[C],[B],Z]);refine Xu 1 [(5,Vl q ((List.replicate (Int.toNat ((f).length:Int)) 0:List Int)) w)] (Xk (Cs (Xu 1 [(6,Vi 0)] (Xk (Cq (Cs (Xu 1 [(26,Vl l f m)] (Xz My R (Xu 1 [(28,Vi 0)] ?_)))))))));refine Xk (Cn [(0,Vl l f m),(3,.map (some B)),(4,.map (some C)),(5,Vl q ((List.replicate (Int.toNat ((f).length:Int)) 0:List Int)) w),(6,Vi 0),(26,Vl l f m),(27,Vi ((f).length:Int)),(28,Vi 0)] (fun D=>?_));refine Cb ?_;obtain ⟨h,i,d⟩:=E3 (Cx.s d [2,1,0,3]) h i d;have k:=k.px [2,1,0];obtain ⟨aN,ah,O⟩:=Bs a;obtain ⟨U,ah⟩:=Lo ah;refine Cl (Lr hmx (σ:=Nat×(List ((List UInt8)×Bool))×(List ((Int×Int)×Bool))×(List Int)×Int×Int) (fun J=>match J with | (_,N,L,o,u,n)=>[(0,Vl l f m),(3,.map (some B)),(4,.map (some C)),(5,Vl q o w),(6,Vi u),(26,Vl l f m),(27,Vi ((f).length:Int)),(28,Vi n)]) (fun J G=>match J with | (ak,N,L,o,u,n)=>Mh (VT f) ak (N,L,o,u,n)=some aN∧Ev [] H G∧(fun X=>MS G X∧FR H.heap.size [[B],[C],Bk q]∧Ma (M3 eI (M3 Mv (M3 eI (M3 eI (M7))))) G (fl X) l m f∧PA Vs Value.bool G B N∧PA (kv2 .i64 .i64) Value.bool G C L∧M9 eI 3 G (fl X) q w o) [[B],[C],Bk q,Z]) (fun J=>J.1) (U,([]:List ((List UInt8)×Bool)),([]:List ((Int×Int)×Bool)),(List.replicate (Int.toNat ((f).length:Int)) 0:List Int),0,0) ⟨R,R,R,R,R,R,R,R,T0⟩ ⟨ah,g,d,k,h,v,A,i⟩ ?_);rintro ⟨U,N,L,o,u,n⟩ D bL ⟨F,g,d,k,h,v,A,i⟩;rcases U with _ | U
 · exact (Lz F).elim
 obtain ⟨bC,a,F⟩:=Bs F;refine Cs (Xu 1 [(29,Bd (n<((f).length:Int)))] (Xk (Cn [(0,Vl l f m),(3,.map (some B)),(4,.map (some C)),(5,Vl q o w),(6,Vi u),(26,Vl l f m),(27,Vi ((f).length:Int)),(28,Vi n),(29,Bd (n<((f).length:Int)))] (fun D=>?_))));refine Cq (Ci _ R a (fun a=>?_) (fun a=>?_))
 · refine Ck (Kt (Cq (Cb (Cs (Xu 1 [(30,Vi n)] ?_)))));obtain ⟨c,bk,a⟩:=Bs a;refine Zf [Vi c.1,Vs c.2.1,Vi c.2.2.1,Vi c.2.2.2.1,Vi c.2.2.2.2.1,Vi c.2.2.2.2.2.1,Vi c.2.2.2.2.2.2.1,Vi c.2.2.2.2.2.2.2] (h.el My) Pb bk R (fun _=>R) (fun _=>Xj #[Vi 0,Vs ([]:List UInt8),Vi 0,Vi 0,Vi 0,Vi 0,Vi 0,Vi 0] R (fun E bE az t a0=>?_));have k:=k.box g.size az;obtain ⟨h,v,A,i,d,g⟩:=E6 (Cx.b d a0 az t) h v A i d g;refine Xu 1 [(7,Vi n)] ?_;obtain ⟨bq,a9,aU,ao⟩:=Sa [Vi c.1,Vs c.2.1,Vi c.2.2.1,Vi c.2.2.2.1,Vi c.2.2.2.2.1,Vi c.2.2.2.2.2.1,Vi c.2.2.2.2.2.2.1,Vi c.2.2.2.2.2.2.2] Pb t R R R;refine Xp a9 R ?_;obtain ⟨h,v,A,i,d⟩:=E5 (Cx.j d 0 ao) h v A i d;have g:=g.th ao k 0;have t:=aU;refine Xk (Cq (Cs (Yl _ _ R (Ra 0 [Vi c.1,Vs c.2.1,Vi c.2.2.1,Vi c.2.2.2.1,Vi c.2.2.2.2.1,Vi c.2.2.2.2.2.1,Vi c.2.2.2.2.2.2.1,Vi c.2.2.2.2.2.2.2] Pb t nn R) ?_)));obtain ⟨aK,bj,a⟩:=Bs a;have aZ:=M31 c.1 c.2.1 c.2.2.1 c.2.2.2.1 c.2.2.2.2.1 c.2.2.2.2.2.1 c.2.2.2.2.2.2.1 c.2.2.2.2.2.2.2 _ bq bj;refine Xv aZ R ?_;rintro aI bF ⟨rfl,a1⟩;obtain ⟨h,v,A,i,t,d,g⟩:=E7 (Cx.e d a1) h v A i t d g;refine Xu 2 [(35,.bool (!aK)),(36,.bool (!aK))] (Xw 36 _ R a (fun a=>?_) (fun a=>?_))
   · refine Xu 7 [(37,U0),(38,U0),(39,U0),(40,U0),(41,U0),(42,U0),(43,.bool true)] (Xk (Me R (Cs (Xu 1 [(2,Vi 1)] (Xk (Cr (Kr (Kb (Kr ?_)))))))));obtain rfl:=Sj a;have x:=Sj F;subst x;have a:=O;refine Kr (Kb (Kr (Rz (Vi 1) R ?_)));obtain rfl:=Sj a;exact ⟨R,g⟩
   refine Yg E 0 0 (Vi c.1) R R (Rf MC _) M5 t nn R (Xu 3 [(39,.bool (c.1==0)),(40,Vi n),(41,.bool (n==0))] (MW (.bool ((c.1==0)!=(n==0))) (.bool (c.1==0)) (.bool (n==0)) R R R R (WN Zh) (Xu 1 [(43,.bool ((c.1==0)!=(n==0)))] (Xk (Ci _ R a (fun a=>?_) (fun a=>?_))))))
   · refine Cs (Xu 1 [(2,Vi 1)] (Xk (Cr (Kr (Kb (Kr ?_))))));obtain rfl:=Sj a;have x:=Sj F;subst x;have a:=O;refine Kr (Kb (Kr (Rz (Vi 1) R ?_)));obtain rfl:=Sj a;exact ⟨R,g⟩
   refine Ck (Kt (Cq (Cs (Xu 1 [(44,.map (some B))] (Yg E 0 1 (Vs c.2.1) R R (Rf WS _) Zg t nn R (WQ (xv:=.map (some B)) (yv:=Vs c.2.1) (.bool ((Mu N c.2.1).getD false)) R R R R (PA.get M4s MaR c.2.1 false (fun H=>by kernel_rfl) v nn) ?_))))));refine Xk (Cn [(0,Vl l f m),(3,.map (some B)),(4,.map (some C)),(5,Vl q o w),(6,Vi u),(7,Vi n),(8,Vp E 0),(26,Vl l f m),(27,Vi ((f).length:Int)),(28,Vi n),(47,.bool ((Mu N c.2.1).getD false))] (fun D=>?_));refine Ci _ R a (fun a=>?_) (fun a=>?_)
   · refine Cs (Xu 1 [(2,Vi 8)] (Xk (Cr (Kr (Kb (Kr ?_))))));obtain rfl:=Sj a;have x:=Sj F;subst x;have a:=O;refine Kr (Kb (Kr (Rz (Vi 8) R ?_)));obtain rfl:=Sj a;exact ⟨R,g⟩
   refine Ck (Kt (Cs (Xu 1 [(48,.map (some B))] (Yg E 0 1 (Vs c.2.1) R R (Rf WS _) Zg t nn R ?_))));obtain ⟨br,ba,a6,ap⟩:=PA.upd M4s MaR c.2.1 true v;refine Wc (xv:=.map (some B)) (yv:=Vs c.2.1) (zv:=.bool true) br R R R R R ba (I1 ?_);obtain ⟨h,A,i,t,d⟩:=E5 (Cx.j d 1 ap) h A i t d;have g:=g.th ap k 1;have v:=a6;refine Xk (Cq (Cs (Xu 2 [(51,Vi n),(52,.bool (n==0))] (Xk (Ci _ R a (fun a=>?_) (fun a=>?_))))))
   · refine Ce (Ke (Ki (Kt (Cp (Xu 2 [(102,Vi (M4 (n+1))),(28,Vi (M4 (n+1)))] (Xe R ?_))))));obtain rfl:=Sj a;obtain ⟨h,i,d⟩:=E3 (Cx.s d [1,2,3,4]) h i d;have k:=k.px [1,2,3];exact Kt ⟨(U,(P4 N c.2.1 true),L,o,u,M4 (n+1)),⟨R,R,R,R,R,R,R,R,T0⟩,⟨F,g,d,k,h,v,A,i⟩,Ns _⟩
   refine Ck (Kt (Cq (Cs (Yg E 0 2 (Vi c.2.2.1) R R (Rf PO _) M5 t nn R (Xu 2 [(55,Bd (c.2.2.1<0)),(56,Bd (c.2.2.1<0))] (Xw 56 _ R a (fun a=>?_) (fun a=>?_)))))))
   · refine Xu 5 [(57,U0),(58,U0),(59,U0),(60,U0),(61,.bool true)] (Xk (Me R (Cs (Xu 1 [(2,Vi 12)] (Xk (Cr (Kr (Kb (Kr ?_)))))))));obtain rfl:=Sj a;have x:=Sj F;subst x;have a:=O;refine Kr (Kb (Kr (Rz (Vi 12) R ?_)));obtain rfl:=Sj a;exact ⟨R,g⟩
   refine Yg E 0 2 (Vi c.2.2.1) R R (Rf PO _) M5 t nn R (Xu 3 [(59,Vi n),(60,Bd (c.2.2.1≥n)),(61,Bd (c.2.2.1≥n))] (Xk (Ci _ R a (fun a=>?_) (fun a=>?_))))
   · refine Cs (Xu 1 [(2,Vi 12)] (Xk (Cr (Kr (Kb (Kr ?_))))));obtain rfl:=Sj a;have x:=Sj F;subst x;have a:=O;refine Kr (Kb (Kr (Rz (Vi 12) R ?_)));obtain rfl:=Sj a;exact ⟨R,g⟩
   refine Ck (Kt (Cs (Xu 1 [(62,Vl l f m)] (Yg E 0 2 (Vi c.2.2.1) R R (Rf PO _) M5 t nn R ?_))));obtain ⟨K,bl,a⟩:=Bs a;refine Xq (h.el My) MC M5 bl R (fun _=>R) (fun _=>Xu 1 [(9,Vi K.1)] (Xk (Cn [(0,Vl l f m),(3,.map (some B)),(4,.map (some C)),(5,Vl q o w),(6,Vi u),(8,Vp E 0),(9,Vi K.1),(26,Vl l f m),(27,Vi ((f).length:Int)),(28,Vi n)] (fun D=>?_))));refine Cs (Yg E 0 2 (Vi c.2.2.1) R R (Rf PO _) M5 t nn R (Yg E 0 3 (Vi c.2.2.2.1) R R (Rf R9 _) M5 t nn R (Xg (.agg #[Vi c.2.2.1,Vi c.2.2.2.1]) R (Xj #[Vi 0,Vi 0] R (fun ae bG aA aa a2=>?_)))));have k:=k.box g.size aA;obtain ⟨h,v,A,i,t,d,g⟩:=E7 (Cx.b d a2 aA aa) h v A i t d g;obtain ⟨bH,bb,aX,aq⟩:=Sa [Vi c.2.2.1,Vi c.2.2.2.1] M4u aa R R R;refine Xp bb R ?_;obtain ⟨h,v,A,i,t,d⟩:=E6 (Cx.j d 0 aq) h v A i t d;have g:=g.th aq k 0;have aa:=aX;refine Xk (Cq (Cs (Xu 3 [(73,Vi K.1),(74,.bool (K.1==4)),(75,.bool (K.1==4))] (Xw 75 _ R a (fun a=>?_) (fun a=>?_)))))
   · refine Xu 12 (Un 76 6++[(82,.bool true),(83,.bool true)]++Un 84 3++[(87,.bool true)]) (Xk (Cn [(0,Vl l f m),(3,.map (some B)),(4,.map (some C)),(5,Vl q o w),(6,Vi u),(8,Vp E 0),(10,Vp ae 0),(26,Vl l f m),(27,Vi ((f).length:Int)),(28,Vi n),(87,.bool true)] (fun D=>?_)));refine Me R (Cs (Xu 1 [(2,Vi 17)] (Xk (Cr (Kr (Kb (Kr ?_)))))));obtain rfl:=Sj a;have x:=Sj F;subst x;have a:=O;refine Kr (Kb (Kr (Rz (Vi 17) R ?_)));obtain rfl:=Sj a;exact ⟨R,g⟩
   refine Xu 2 [(76,Vi K.1),(77,.bool (K.1==3))] (Yg E 0 3 (Vi c.2.2.2.1) R R (Rf R9 _) M5 t nn R (Xu 1 [(80,.bool (c.2.2.2.1 != 0))] (MW (.bool ((K.1==3)!=(c.2.2.2.1 != 0))) (.bool (K.1==3)) (.bool (c.2.2.2.1 != 0)) R R R R (WN Zh) (Xu 2 [(82,.bool ((K.1==3)!=(c.2.2.2.1 != 0))),(83,.bool ((K.1==3)!=(c.2.2.2.1 != 0)))] (Xw 83 _ R a (fun a=>?_) (fun a=>?_))))))
   · refine Xu 4 (Un 84 3++[(87,.bool true)]) (Xk (Cn [(0,Vl l f m),(3,.map (some B)),(4,.map (some C)),(5,Vl q o w),(6,Vi u),(8,Vp E 0),(10,Vp ae 0),(26,Vl l f m),(27,Vi ((f).length:Int)),(28,Vi n),(87,.bool true)] (fun D=>?_)));refine Me R (Cs (Xu 1 [(2,Vi 17)] (Xk (Cr (Kr (Kb (Kr ?_)))))));obtain rfl:=Sj a;have x:=Sj F;subst x;have a:=O;refine Kr (Kb (Kr (Rz (Vi 17) R ?_)));obtain rfl:=Sj a;exact ⟨R,g⟩
   refine Xu 1 [(84,.map (some C))] (Yl _ _ R (Ra 0 [Vi c.2.2.1,Vi c.2.2.2.1] M4u aa nn R) (WQ (xv:=.map (some C)) (yv:=.agg #[Vi c.2.2.1,Vi c.2.2.2.1]) (.bool ((Mu L (c.2.2.1,c.2.2.2.1)).getD false)) R R R R (PA.get M4t M7k (c.2.2.1,c.2.2.2.1) false (fun H=>by kernel_rfl) A nn) ?_));refine Xu 1 [(87,.bool ((Mu L (c.2.2.1,c.2.2.2.1)).getD false))] (Xk (Cn [(0,Vl l f m),(3,.map (some B)),(4,.map (some C)),(5,Vl q o w),(6,Vi u),(8,Vp E 0),(10,Vp ae 0),(26,Vl l f m),(27,Vi ((f).length:Int)),(28,Vi n),(87,.bool ((Mu L (c.2.2.1,c.2.2.2.1)).getD false))] (fun D=>?_)));refine Ci _ R a (fun a=>?_) (fun a=>?_)
   · refine Cs (Xu 1 [(2,Vi 17)] (Xk (Cr (Kr (Kb (Kr ?_))))));obtain rfl:=Sj a;have x:=Sj F;subst x;have a:=O;refine Kr (Kb (Kr (Rz (Vi 17) R ?_)));obtain rfl:=Sj a;exact ⟨R,g⟩
   refine Ck (Kt (Cs (Xu 1 [(88,.map (some C))] (Yl _ _ R (Ra 0 [Vi c.2.2.1,Vi c.2.2.2.1] M4u aa nn R) ?_))));obtain ⟨bt,bc,a7,ar⟩:=PA.upd M4t M7k (c.2.2.1,c.2.2.2.1) true A;refine Wc (xv:=.map (some C)) (yv:=.agg #[Vi c.2.2.1,Vi c.2.2.2.1]) (zv:=.bool true) bt R R R R R bc (I1 ?_);obtain ⟨h,v,i,t,d⟩:=E5 (Cx.j d 3 ar) h v i t d;have g:=g.th ar k 3;have A:=a7;refine Xk (Cs (Xu 1 [(90,Vl q o w)] (Yg E 0 2 (Vi c.2.2.1) R R (Rf PO _) M5 t nn R ?_)));obtain ⟨Q,aE,a⟩:=Bs a;refine Z6 (i.el MB) M5 aE R (fun _=>R) (fun _=>Xu 1 [(95,Vi (M4 (Q+1)))] ?_);obtain ⟨bO,aj,a⟩:=Bs a;obtain ⟨bx,bw,aQ,bd,bz,ag⟩:=Oi (Mo:=[]) MB i aj;obtain rfl:=ag;refine Yi _ _ _ R bd ?_;have aG:=aj;have aF:=aE;obtain ⟨bI,be,au,a8⟩:=PH aQ (y:=M4 (Q+1)) 0 (Vi (M4 (Q+1))) M5 i (Mf 4 R) aj R R (fun _ _ _ ag=>M2t ag);refine Xp be R ?_;obtain ⟨h,v,A,t,d⟩:=E5 (Cx.j d 4 au) h v A t d;have g:=g.th au k 4;have i:=a8;have bh:(Vl q o w)=(Vl q ((o.set (Int.toNat c.2.2.1) (M4 (Q+1)))) w):=by simp only [Vl,List.length_set]
   try rw [bh]
   obtain ⟨_,aF⟩:∃ y,idx (o.set (Int.toNat c.2.2.1) (M4 (Q+1))) c.2.2.1=some y:=Xy aF _ _;replace aG:idx (o.set (Int.toNat c.2.2.1) (M4 (Q+1))) c.2.2.1=some (M4 (Q+1)):=MX aG _;refine Xk (Cs (Yg E 0 0 (Vi c.1) R R (Rf MC _) M5 t nn R (Xu 1 [(99,.bool (c.1==4))] (Xk (Ci _ R a (fun a=>?_) (fun a=>?_))))))
   · refine Cp (Xu 3 [(100,Vi u),(101,Vi (M4 (u+1))),(6,Vi (M4 (u+1)))] (Xe R (Kl (Kt (Cp (Xu 2 [(102,Vi (M4 (n+1))),(28,Vi (M4 (n+1)))] (Xe R ?_)))))));obtain rfl:=Sj a;obtain ⟨h,i,d⟩:=E3 (Cx.s d [2,3,4,5]) h i d;have k:=k.px [2,3,4];exact Kt ⟨(U,(P4 N c.2.1 true),(P4 L (c.2.2.1,c.2.2.2.1) true),(o.set (Int.toNat c.2.2.1) (M4 (Q+1))),M4 (u+1),M4 (n+1)),⟨R,R,R,R,R,R,R,R,T0⟩,⟨F,g,d,k,h,v,A,i⟩,Ns _⟩
   refine Ck (Kl (Kt (Cp (Xu 2 [(102,Vi (M4 (n+1))),(28,Vi (M4 (n+1)))] (Xe R ?_)))));obtain rfl:=Sj a;obtain ⟨h,i,d⟩:=E3 (Cx.s d [2,3,4,5]) h i d;have k:=k.px [2,3,4];exact Kt ⟨(U,(P4 N c.2.1 true),(P4 L (c.2.2.1,c.2.2.2.1) true),(o.set (Int.toNat c.2.2.1) (M4 (Q+1))),u,M4 (n+1)),⟨R,R,R,R,R,R,R,R,T0⟩,⟨F,g,d,k,h,v,A,i⟩,Ns _⟩
 refine Ce (Ke ?_);obtain rfl:=Sj a;have x:=Sj F;subst x;have a:=O;refine Ke (Ki (Kt (Cn [(0,Vl l f m),(5,Vl q o w),(6,Vi u)] (fun D=>?_))));refine Cq (Cs (Xu 1 [(103,Vl l f m)] (Xz My R (Xu 1 [(105,Vi 0)] (Xk (Cb ?_))))));obtain ⟨i,h,d⟩:=E3 (Cx.s d [2,3]) i h d;have k:=k.px [2];obtain ⟨aO,ai,ab⟩:=Bs a;obtain ⟨S,ai⟩:=Lo ai;refine Cl (Lr hmx (σ:=Nat×Int) (fun J=>match J with | (_,r)=>[(5,Vl q o w),(6,Vi u),(103,Vl l f m),(104,Vi ((f).length:Int)),(105,Vi r)]) (fun J G=>match J with | (ak,r)=>Mh (VS f o) ak r=some aO∧Ev [] H G∧(fun X=>MS G X∧FR H.heap.size [Bk q]∧M9 eI 3 G (fl X) q w o∧Ma (M3 eI (M3 Mv (M3 eI (M3 eI (M7))))) G (fl X) l m f) [Bk q,Z]) (fun J=>J.1) (S,0) ⟨R,R,R,R,R,T0⟩ ⟨ai,g,d,k,i,h⟩ ?_);rintro ⟨S,r⟩ D bN ⟨I,g,d,k,i,h⟩;rcases S with _ | S
 · exact (Lz I).elim
 obtain ⟨bD,a,I⟩:=Bs I;refine Cs (Xu 1 [(106,Bd (r<((f).length:Int)))] (Xk (Cn [(5,Vl q o w),(6,Vi u),(103,Vl l f m),(104,Vi ((f).length:Int)),(105,Vi r),(106,Bd (r<((f).length:Int)))] (fun D=>?_))));refine Cq (Ci _ R a (fun a=>?_) (fun a=>?_))
 · refine Ck (Kt (Cq (Cb (Cs (Xu 1 [(107,Vi r)] ?_)))));obtain ⟨z,bm,a⟩:=Bs a;refine Zf [Vi z.1,Vs z.2.1,Vi z.2.2.1,Vi z.2.2.2.1,Vi z.2.2.2.2.1,Vi z.2.2.2.2.2.1,Vi z.2.2.2.2.2.2.1,Vi z.2.2.2.2.2.2.2] (h.el My) Pb bm R (fun _=>R) (fun _=>Xj #[Vi 0,Vs ([]:List UInt8),Vi 0,Vi 0,Vi 0,Vi 0,Vi 0,Vi 0] R (fun af bJ aC Y a4=>?_));have k:=k.box g.size aC;obtain ⟨i,h,d,g⟩:=E4 (Cx.b d a4 aC Y) i h d g;refine Xu 1 [(11,Vi r)] ?_;obtain ⟨bK,bf,aY,av⟩:=Sa [Vi z.1,Vs z.2.1,Vi z.2.2.1,Vi z.2.2.2.1,Vi z.2.2.2.2.1,Vi z.2.2.2.2.2.1,Vi z.2.2.2.2.2.2.1,Vi z.2.2.2.2.2.2.2] Pb Y R R R;refine Xp bf R ?_;obtain ⟨i,h,d⟩:=E3 (Cx.j d 0 av) i h d;have g:=g.th av k 0;have Y:=aY;refine Xk (Cs (Yg af 0 0 (Vi z.1) R R (Rf MC _) M5 Y nn R (Xu 2 [(112,.bool (z.1==3)),(113,.bool (z.1==3))] (Xw 113 _ R a (fun a=>?_) (fun a=>?_)))))
   · refine Xu 2 [(114,Vl q o w),(115,Vi r)] ?_;obtain ⟨al,bn,a⟩:=Bs a;refine Z6 (i.el MB) M5 bn R (fun _=>R) (fun _=>Xu 3 [(118,Bd (al<2)),(119,Bd (al<2)),(120,Bd (al<2))] (Xw 120 _ R a (fun a=>?_) (fun a=>?_)))
     · refine Xu 11 (Un 121 10++[(131,.bool true)]) (Xk (Cn [(5,Vl q o w),(6,Vi u),(103,Vl l f m),(104,Vi ((f).length:Int)),(105,Vi r),(131,.bool true)] (fun D=>?_)));refine Me R (Cs (Xu 1 [(2,Vi 13)] (Xk (Cr (Kb (Kr ?_))))));obtain rfl:=Sj a;have x:=Sj I;subst x;have a:=ab;refine Kr (Kb (Kr (Rz (Vi 13) R ?_)));obtain rfl:=Sj a;exact ⟨R,g⟩
     refine Yg af 0 0 (Vi z.1) R R (Rf MC _) M5 Y nn R (Xu 2 [(123,.bool (z.1 != 4)),(124,.bool (z.1 != 4))] (Xw 124 _ R a (fun a=>?_) (fun a=>?_)))
     · refine Xu 2 [(125,Vl q o w),(126,Vi r)] ?_;obtain ⟨ac,bo,a⟩:=Bs a;refine Z6 (i.el MB) M5 bo R (fun _=>R) (fun _=>Xu 3 [(129,Bd (ac<1)),(130,Bd (ac<1)),(131,Bd (ac<1))] (Xk (Cn [(5,Vl q o w),(6,Vi u),(103,Vl l f m),(104,Vi ((f).length:Int)),(105,Vi r),(131,Bd (ac<1))] (fun D=>?_))));refine Ci _ R a (fun a=>?_) (fun a=>?_)
       · refine Cs (Xu 1 [(2,Vi 13)] (Xk (Cr (Kb (Kr ?_)))));obtain rfl:=Sj a;have x:=Sj I;subst x;have a:=ab;refine Kr (Kb (Kr (Rz (Vi 13) R ?_)));obtain rfl:=Sj a;exact ⟨R,g⟩
       refine Ck (Kl (Kt (Cp (Xu 2 [(132,Vi (M4 (r+1))),(105,Vi (M4 (r+1)))] (Xe R ?_)))));obtain rfl:=Sj a;obtain ⟨i,h,d⟩:=E3 (Cx.s d [1,2]) i h d;have k:=k.px [1];exact Kt ⟨(S,M4 (r+1)),⟨R,R,R,R,R,T0⟩,⟨I,g,d,k,i,h⟩,Ns _⟩
     refine Xu 7 (Un 125 5++[(130,.bool false),(131,.bool false)]) (Xk (Cn [(5,Vl q o w),(6,Vi u),(103,Vl l f m),(104,Vi ((f).length:Int)),(105,Vi r),(131,.bool false)] (fun D=>?_)));refine PE R (Ck (Kl (Kt (Cp (Xu 2 [(132,Vi (M4 (r+1))),(105,Vi (M4 (r+1)))] (Xe R ?_))))));obtain rfl:=Sj a;obtain ⟨i,h,d⟩:=E3 (Cx.s d [1,2]) i h d;have k:=k.px [1];exact Kt ⟨(S,M4 (r+1)),⟨R,R,R,R,R,T0⟩,⟨I,g,d,k,i,h⟩,Ns _⟩
   refine Xu 7 [(114,U0),(115,U0),(116,U0),(117,U0),(118,U0),(119,.bool false),(120,.bool false)] (Yg af 0 0 (Vi z.1) R R (Rf MC _) M5 Y nn R (Xu 2 [(123,.bool (z.1 != 4)),(124,.bool (z.1 != 4))] (Xw 124 _ R a (fun a=>?_) (fun a=>?_))))
   · refine Xu 2 [(125,Vl q o w),(126,Vi r)] ?_;obtain ⟨ad,bp,a⟩:=Bs a;refine Z6 (i.el MB) M5 bp R (fun _=>R) (fun _=>Xu 3 [(129,Bd (ad<1)),(130,Bd (ad<1)),(131,Bd (ad<1))] (Xk (Cn [(5,Vl q o w),(6,Vi u),(103,Vl l f m),(104,Vi ((f).length:Int)),(105,Vi r),(131,Bd (ad<1))] (fun D=>?_))));refine Ci _ R a (fun a=>?_) (fun a=>?_)
     · refine Cs (Xu 1 [(2,Vi 13)] (Xk (Cr (Kb (Kr ?_)))));obtain rfl:=Sj a;have x:=Sj I;subst x;have a:=ab;refine Kr (Kb (Kr (Rz (Vi 13) R ?_)));obtain rfl:=Sj a;exact ⟨R,g⟩
     refine Ck (Kl (Kt (Cp (Xu 2 [(132,Vi (M4 (r+1))),(105,Vi (M4 (r+1)))] (Xe R ?_)))));obtain rfl:=Sj a;obtain ⟨i,h,d⟩:=E3 (Cx.s d [1,2]) i h d;have k:=k.px [1];exact Kt ⟨(S,M4 (r+1)),⟨R,R,R,R,R,T0⟩,⟨I,g,d,k,i,h⟩,Ns _⟩
   refine Xu 7 (Un 125 5++[(130,.bool false),(131,.bool false)]) (Xk (Cn [(5,Vl q o w),(6,Vi u),(103,Vl l f m),(104,Vi ((f).length:Int)),(105,Vi r),(131,.bool false)] (fun D=>?_)));refine PE R (Ck (Kl (Kt (Cp (Xu 2 [(132,Vi (M4 (r+1))),(105,Vi (M4 (r+1)))] (Xe R ?_))))));obtain rfl:=Sj a;obtain ⟨i,h,d⟩:=E3 (Cx.s d [1,2]) i h d;have k:=k.px [1];exact Kt ⟨(S,M4 (r+1)),⟨R,R,R,R,R,T0⟩,⟨I,g,d,k,i,h⟩,Ns _⟩
 refine Ce (Ke ?_);obtain rfl:=Sj a;have x:=Sj I;subst x;have a:=ab;refine Ke (Ki (Kt (Cn [(6,Vi u)] (fun D=>?_))));refine Cq (Cs (Xu 2 [(133,Vi u),(134,Bd (u>32))] (Xk (Ci _ R a (fun a=>?_) (fun a=>?_)))))
 · refine Cs (Xu 1 [(2,Vi 3)] (Xk (Cr (Kr (Rz (Vi 3) R ?_)))));obtain rfl:=Sj a;exact ⟨R,g⟩
 refine Ck (Kt (Cs (Xu 1 [(2,Vi 0)] (Xk (Cr (Rz (Vi 0) R ?_))))));obtain rfl:=Sj a;exact ⟨R,g⟩
def Py (a:Int):Option Bool:=
(if (decide (a≥(-1000000000000)))=true then
some (decide (a≤1000000000000))
else
some false)
theorem RL (a e c)(b:Py a=some e):Md Tryz.prog 164 [Vi a] c fun f g=>f=.bool e∧Ev [] c g:=by
 refine Cw hmx Tryz.func164 R R R ?_;have d:=Ev.refl [] c;refine Cs (Xu 1 [(2,.bool false)] (Xk (Cs (Xu 3 [(3,Vi a),(4,Bd (a≥(-1000000000000))),(5,Bd (a≥(-1000000000000)))] (Xw 5 _ R b (fun b=>?_) (fun b=>?_))))))
 · refine Xu 4 [(6,Vi a),(7,Bd (a≤1000000000000)),(8,Bd (a≤1000000000000)),(2,Bd (a≤1000000000000))] (Xk (Cr (Rz (Bd (a≤1000000000000)) R ?_)));obtain rfl:=Sj b;exact ⟨R,d⟩
 refine Xu 4 [(6,U0),(7,U0),(8,.bool false),(2,.bool false)] (Xk (Cr (Rz (.bool false) R ?_)));obtain rfl:=Sj b;exact ⟨R,d⟩
def Vq (a:Int) (b:Int):Option Bool:=
(if (decide (a≤b))=true then
((Py a).bind fun c=>
(if c=true then
((Py b).bind fun d=>
some d)
else
some false))
else
some false)
theorem M1F (c d n j)(a:Vq c d=some n):Md Tryz.prog 161 [.agg #[Vi c,Vi d]] j fun i q=>i=.bool n∧Ev [] j q:=by
 refine Cw hmx Tryz.func161 R R R ?_;have b:=Ev.refl [] j;refine Cs (Xo R (fun f r t e o=>?_));have b:=b.ext o;refine Xu 1 [(2,.bool false)] (Xk (Cs (Yg f 0 0 (Vi c) R R (Rf P7 _) M5 e nn R (Yg f 0 1 (Vi d) R R (Rf MO _) M5 e nn R (Xu 2 [(7,Bd (c≤d)),(8,Bd (c≤d))] (Xw 8 _ R a (fun a=>?_) (fun a=>?_)))))))
 · refine Yg f 0 0 (Vi c) R R (Rf P7 _) M5 e nn R ?_;obtain ⟨k,h,a⟩:=Bs a;have g:=RL c _ r h;refine Xv g R ?_;rintro i s ⟨rfl,m⟩;have e:=m.box e nn;have b:=b.ext m;refine Xu 2 [(12,.bool k),(13,.bool k)] (Xw 13 k R a (fun a=>?_) (fun a=>?_))
   · refine Yg f 0 1 (Vi d) R R (Rf MO _) M5 e nn R ?_;obtain ⟨l,h,a⟩:=Bs a;have g:=RL d _ s h;refine Xv g R ?_;rintro i u ⟨rfl,p⟩;have b:=b.ext p;refine Xu 2 [(17,.bool l),(2,.bool l)] (Xk (Cr (Rz (.bool l) R ?_)));obtain rfl:=Sj a;exact ⟨R,b⟩
   refine Xu 5 [(14,U0),(15,U0),(16,U0),(17,.bool false),(2,.bool false)] (Xk (Cr (Rz (.bool false) R ?_)));obtain rfl:=Sj a;exact ⟨R,b⟩
 refine Xu 10 [(9,U0),(10,U0),(11,U0),(12,.bool false),(13,.bool false),(14,U0),(15,U0),(16,U0),(17,.bool false),(2,.bool false)] (Xk (Cr (Rz (.bool false) R ?_)));obtain rfl:=Sj a;exact ⟨R,b⟩
def VU (c:Int) (d:Int×Int):Option (Mm (Int×Int) Int):=
match d with
| (a,b)=>
(if (decide ((M4 (b-a))>1))=true then
(if (decide ((M4 ((M4 (Int.tdiv (M4 (a+b)) 2))*(M4 (Int.tdiv (M4 (a+b)) 2))))≤c))=true then
some (.next (M4 (Int.tdiv (M4 (a+b)) 2),b))
else
some (.next (a,M4 (Int.tdiv (M4 (a+b)) 2))))
else
some (.done a))
def RG (c:Int):Option Int:=
((loop (VU c) (0,1000001)).bind fun a=>match a with
| b=>some b)
theorem Z3 (d o e)(c:RG d=some o):Md Tryz.prog 162 [Vi d] e fun t l=>t=Vi o∧Ev [] e l:=by
 refine Cw hmx Tryz.func162 R R R ?_;have h:=Ev.refl [] e;have k:=MS.one e;have j:=FR.nil e.heap.size;refine Cs (Xu 1 [(2,Vi 0)] (Xk (Cs (Xu 2 [(3,Vi 0),(4,Vi 1000001)] (Xk (Cq (Cb ?_)))))));obtain ⟨p,m,q⟩:=Bs c;obtain ⟨g,m⟩:=Lo m;refine Cl (Lr hmx (σ:=Nat×Int×Int) (fun i=>match i with | (_,a,b)=>[(0,Vi d),(3,Vi a),(4,Vi b)]) (fun i l=>match i with | (s,a,b)=>Mh (VU d) s (a,b)=some p∧Ev [] e l∧MS l [[]]∧FR e.heap.size []) (fun i=>i.1) (g,0,1000001) ⟨R,R,R,T0⟩ ⟨m,h,k,j⟩ ?_);rintro ⟨g,a,b⟩ n v ⟨f,h,k,j⟩;rcases g with _ | g
 · exact (Lz f).elim
 obtain ⟨u,c,f⟩:=Bs f;refine Cq (Cs (Xu 4 [(6,Vi b),(7,Vi a),(8,Vi (M4 (b-a))),(9,Bd ((M4 (b-a))>1))] (Xk (Cn [(0,Vi d),(3,Vi a),(4,Vi b),(9,Bd ((M4 (b-a))>1))] (fun n=>?_)))));refine Ci _ R c (fun c=>?_) (fun c=>?_)
 · refine Ck (Kt (Cb (Cs (Xu 5 [(10,Vi a),(11,Vi b),(12,Vi (M4 (a+b))),(13,Vi (M4 (Int.tdiv (M4 (a+b)) 2))),(5,Vi (M4 (Int.tdiv (M4 (a+b)) 2)))] (Xk (Cs (Xu 5 [(14,Vi (M4 (Int.tdiv (M4 (a+b)) 2))),(15,Vi (M4 (Int.tdiv (M4 (a+b)) 2))),(16,Vi (M4 ((M4 (Int.tdiv (M4 (a+b)) 2))*(M4 (Int.tdiv (M4 (a+b)) 2))))),(17,Vi d),(18,.bool (decide ((M4 ((M4 (Int.tdiv (M4 (a+b)) 2))*(M4 (Int.tdiv (M4 (a+b)) 2))))≤d)))] (Xk (Ci _ R c (fun c=>?_) (fun c=>?_))))))))))
   · refine Cp (Xu 2 [(19,Vi (M4 (Int.tdiv (M4 (a+b)) 2))),(3,Vi (M4 (Int.tdiv (M4 (a+b)) 2)))] (Xe R (Kl ?_)));obtain rfl:=Sj c;exact Kt ⟨(g,M4 (Int.tdiv (M4 (a+b)) 2),b),⟨R,R,R,T0⟩,⟨f,h,k,j⟩,Ns _⟩
   refine Cp (Xu 2 [(20,Vi (M4 (Int.tdiv (M4 (a+b)) 2))),(4,Vi (M4 (Int.tdiv (M4 (a+b)) 2)))] (Xe R (Kl ?_)));obtain rfl:=Sj c;exact Kt ⟨(g,a,M4 (Int.tdiv (M4 (a+b)) 2)),⟨R,R,R,T0⟩,⟨f,h,k,j⟩,Ns _⟩
 refine Ce (Ke ?_);obtain rfl:=Sj c;have r:=Sj f;subst r;have c:=q;refine Ke (Ki (Kt (Cn [(3,Vi a)] (fun n=>?_))));refine Cs (Xu 2 [(21,Vi a),(2,Vi a)] (Xk (Cr (Rz (Vi a) R ?_))));obtain rfl:=Sj c;exact ⟨R,h⟩
def RN (b:Int) (a:Int):Option ((Int×Int)×Int):=
((RG b).bind fun c=>
some ((c,a),0))
def XL (a:Int) (c:Int):Option ((Int×Int)×Int):=
((Vq a c).bind fun d=>
(if (!d)=true then
some ((0,0),1)
else
(if (decide (a<0))=true then
some ((0,0),2)
else
((RG c).bind fun b=>
(if (decide ((M4 (b*b))<c))=true then
RN a (M4 (b+1))
else
RN a b)))))
theorem M2j (h j q l)(b:XL h j=some q):Md Tryz.prog 122 [.agg #[Vi h,Vi j]] l fun u m=>u=.tuple #[.agg #[Vi q.1.1,Vi q.1.2],Vi q.2]∧Ev [] l m:=by
 refine Cw hmx Tryz.func122 R R R ?_;have a:=Ev.refl [] l;have d:=MS.one l;have f:=FR.nil l.heap.size;refine Cs (Xo R (fun k U A e y=>?_));have d:=d.box y A e;have f:=f.box a.size A;have a:=a.ext y;refine Xj #[Vi 0,Vi 0] R (fun n N B c w=>?_);have e:=w.box e nn;have d:=d.box w B c;have f:=f.box a.size B;have a:=a.ext w;refine Xu 1 [(3,Vi 0)] (Xk (Cq (Cs (Yl _ _ R (Ra 0 [Vi h,Vi j] RK e nn R) ?_))));obtain ⟨S,p,b⟩:=Bs b;have o:=M1F h j _ N p;refine Xv o R ?_;rintro u O ⟨rfl,t⟩;have e:=t.box e nn;have c:=t.box c nn;have d:=d.ev t;have a:=a.ext t;refine Xu 1 [(7,.bool (!S))] (Xk (Ci _ R b (fun b=>?_) (fun b=>?_)))
 · refine Cs (Xg (.agg #[Vi 0,Vi 0]) R ?_);obtain ⟨ab,L,F,I⟩:=Sa [Vi 0,Vi 0] RK c R R R;refine Xp L R ?_;have a:=a.th I f 0;have c:=F;refine Xu 1 [(3,Vi 1)] (Xk (Cr (Kr (Rr (Rv [.agg #[Vi 0,Vi 0],Vi 1] ⟨⟨_,R,Lv (Ra (Mo:=[]) 0 [Vi 0,Vi 0] RK c nn R)⟩,R,T0⟩ ?_)))));obtain rfl:=Sj b;exact ⟨R,a⟩
 refine Ck (Kt (Cq (Cs (Yg k 0 0 (Vi h) R R (Rf P7 _) M5 e nn R (Xu 1 [(11,Bd (h<0))] (Xk (Ci _ R b (fun b=>?_) (fun b=>?_))))))))
 · refine Cs (Xg (.agg #[Vi 0,Vi 0]) R ?_);obtain ⟨X,J,D,G⟩:=Sa [Vi 0,Vi 0] RK c R R R;refine Xp J R ?_;have a:=a.th G f 0;have c:=D;refine Xu 1 [(3,Vi 2)] (Xk (Cr (Kr (Rr (Rv [.agg #[Vi 0,Vi 0],Vi 2] ⟨⟨_,R,Lv (Ra (Mo:=[]) 0 [Vi 0,Vi 0] RK c nn R)⟩,R,T0⟩ ?_)))));obtain rfl:=Sj b;exact ⟨R,a⟩
 refine Ck (Kt (Cs (Yg k 0 1 (Vi j) R R (Rf MO _) M5 e nn R ?_)));obtain ⟨g,p,b⟩:=Bs b;have o:=Z3 j _ O p;refine Xv o R ?_;rintro u Y ⟨rfl,r⟩;have e:=r.box e nn;have c:=r.box c nn;have d:=d.ev r;have a:=a.ext r;refine Xu 1 [(4,Vi g)] (Xk (Pg (σ:=Int) (fun x=>match x with | i=>[(1,Vp k 0),(2,Vp n 0),(4,Vi i)]) (fun x m=>match x with | i=>RN h i=some q∧Ev [] l m∧MS m [[k],[n],[]]∧FR l.heap.size [[k],[n]]∧m.heap[k]? = some (.cells #[Vi h,Vi j] 67 (0,0))∧m.heap[n]? = some (.cells #[Vi 0,Vi 0] 67 (0,0))) ?_ ?_))
 · refine Cs (Xu 3 [(16,Vi g),(17,Vi g),(18,Vi (M4 (g*g)))] (Yg k 0 1 (Vi j) R R (Rf MO _) M5 e nn R (Xu 1 [(21,Bd ((M4 (g*g))<j))] (Xk (Ci _ R b (fun b=>?_) (fun b=>?_))))))
   · refine Cp (Xu 3 [(22,Vi g),(23,Vi (M4 (g+1))),(4,Vi (M4 (g+1)))] (Xe R ?_));have d:=E1 (Cx.s d [1,0,2]) d;have f:=f.px [1,0];exact Kt ⟨M4 (g+1),⟨R,R,R,T0⟩,b,a,d,f,e,c⟩
   refine Ck ?_;have d:=E1 (Cx.s d [1,0,2]) d;have f:=f.px [1,0];exact Kt ⟨g,⟨R,R,R,T0⟩,b,a,d,f,e,c⟩
 rintro i C Q ⟨b,a,d,f,e,c⟩;refine Cs (Yg k 0 0 (Vi h) R R (Rf P7 _) M5 e nn R ?_);obtain ⟨v,p,b⟩:=Bs b;have o:=Z3 h _ Q p;refine Xv o R ?_;rintro u Z ⟨rfl,z⟩;have c:=z.box c nn;have a:=a.ext z;refine Xu 1 [(27,Vi i)] (Xg (.agg #[Vi v,Vi i]) R ?_);obtain ⟨aa,K,E,H⟩:=Sa [Vi v,Vi i] RK c R R R;refine Xp K R ?_;have a:=a.th H f 1;have c:=E;refine Xu 1 [(3,Vi 0)] (Xk (Cn [(2,Vp n 0),(3,Vi 0)] (fun C=>?_)));refine Cr (Rr (Rv [.agg #[Vi v,Vi i],Vi 0] ⟨⟨_,R,Lv (Ra (Mo:=[]) 0 [Vi v,Vi i] RK c nn R)⟩,R,T0⟩ ?_));obtain rfl:=Sj b;exact ⟨R,a⟩
def XM (b:Int) (a:Int):Option Int:=
(if a≠0 then
(if a≠0 then
(if ((Int.tmod b a)!=0)=true then
(if ((decide ((Int.tmod b a)<0))!=(decide (a<0)))=true then
some (M4 ((M4 (Int.tdiv b a))-1))
else
some (M4 (Int.tdiv b a)))
else
some (M4 (Int.tdiv b a)))
else none)
else none)
theorem M2k (b a f e)(c:XM b a=some f):Md Tryz.prog 163 [Vi b,Vi a] e fun h i=>h=Vi f∧Ev [] e i:=by
 refine Cw hmx Tryz.func163 R R R ?_;have d:=Ev.refl [] e;refine Cs (Xu 1 [(4,Vi 0)] (Xk (Cq (Cd [] [(0,false),(1,false),(2,false),(3,false),(4,false),(5,false),(6,false),(7,false)] _ (by kernel_rfl) R ?_))));have d:=d.ext (Ev.drew e);refine Xu 2 [(7,Vi b),(8,Vi a)] (MW (Vi (M4 (Int.tdiv b a))) (Vi b) (Vi a) R R R R (M0k (Gl c)) ?_);have c:=Gr c;refine Xu 2 [(10,Vi b),(11,Vi a)] (MW (Vi (Int.tmod b a)) (Vi b) (Vi a) R R R R (M1w (Gl c)) ?_);have c:=Gr c;refine Xu 2 [(5,Vi (M4 (Int.tdiv b a))),(6,Vi (Int.tmod b a))] (Xk (Cq (Cs (Xu 3 [(13,Vi (Int.tmod b a)),(14,.bool ((Int.tmod b a)!=0)),(15,.bool ((Int.tmod b a)!=0))] (Xw 15 _ R c (fun c=>?_) (fun c=>?_))))))
 · refine Xu 4 [(16,Vi (Int.tmod b a)),(17,Bd ((Int.tmod b a)<0)),(18,Vi a),(19,Bd (a<0))] (MW (.bool ((decide ((Int.tmod b a)<0))!=(decide (a<0)))) (Bd ((Int.tmod b a)<0)) (Bd (a<0)) R R R R (WN Zh) (Xu 1 [(21,.bool ((decide ((Int.tmod b a)<0))!=(decide (a<0))))] (Xk (Ci _ R c (fun c=>?_) (fun c=>?_)))))
   · refine Cp (Xu 3 [(22,Vi (M4 (Int.tdiv b a))),(23,Vi (M4 ((M4 (Int.tdiv b a))-1))),(5,Vi (M4 ((M4 (Int.tdiv b a))-1)))] (Xk (Cn [(5,Vi (M4 ((M4 (Int.tdiv b a))-1)))] (fun g=>?_))));refine Cs (Xu 2 [(24,Vi (M4 ((M4 (Int.tdiv b a))-1))),(4,Vi (M4 ((M4 (Int.tdiv b a))-1)))] (Xk (Cr (Rz (Vi (M4 ((M4 (Int.tdiv b a))-1))) R ?_))));obtain rfl:=Sj c;exact ⟨R,d⟩
   refine Ck (Kt (Cs (Xu 2 [(24,Vi (M4 (Int.tdiv b a))),(4,Vi (M4 (Int.tdiv b a)))] (Xk (Cn [(4,Vi (M4 (Int.tdiv b a)))] (fun g=>?_))))));refine Cr (Rz (Vi (M4 (Int.tdiv b a))) R ?_);obtain rfl:=Sj c;exact ⟨R,d⟩
 refine Xu 6 [(16,U0),(17,U0),(18,U0),(19,U0),(20,U0),(21,.bool false)] (Xk (PE R (Ck (Kt (Cs (Xu 2 [(24,Vi (M4 (Int.tdiv b a))),(4,Vi (M4 (Int.tdiv b a)))] (Xk (Cr (Rz (Vi (M4 (Int.tdiv b a))) R ?_)))))))));obtain rfl:=Sj c;exact ⟨R,d⟩
def Vr (c:Int) (a:Int):Option (Int×Int):=
(if (a==0)=true then
some (0,5)
else
((XM c a).bind fun b=>
((Py b).bind fun d=>
(if d=true then
some (b,0)
else
some (0,4)))))
theorem M1G (e c i f)(a:Vr e c=some i):Md Tryz.prog 123 [Vi e,Vi c] f fun j m=>j=.tuple #[Vi i.1,Vi i.2]∧Ev [] f m:=by
 refine Cw hmx Tryz.func123 R R R ?_;have b:=Ev.refl [] f;refine Cs (Xu 2 [(4,Vi 0),(5,Vi 0)] (Xk (Cq (Cs (Xu 2 [(7,Vi c),(8,.bool (c==0))] (Xk (Ci _ R a (fun a=>?_) (fun a=>?_))))))))
 · refine Cs (Xu 2 [(4,Vi 0),(5,Vi 5)] (Xk (Cr (Kr (Rr (Rv [Vi 0,Vi 5] ⟨R,R,T0⟩ ?_))))));obtain rfl:=Sj a;exact ⟨R,b⟩
 refine Ck (Kt (Cq (Cs (Xu 2 [(9,Vi e),(10,Vi c)] ?_))));obtain ⟨d,h,a⟩:=Bs a;have g:=M2k e c _ f h;refine Xv g R ?_;rintro j n ⟨rfl,k⟩;have b:=b.ext k;refine Xu 1 [(6,Vi d)] (Xk (Cs (Xu 1 [(12,Vi d)] ?_)));obtain ⟨o,h,a⟩:=Bs a;have g:=RL d _ n h;refine Xv g R ?_;rintro j p ⟨rfl,l⟩;have b:=b.ext l;refine Xk (Ci o R a (fun a=>?_) (fun a=>?_))
 · refine Cs (Xu 3 [(14,Vi d),(4,Vi d),(5,Vi 0)] (Xk (Cr (Kr (Rr (Rv [Vi d,Vi 0] ⟨R,R,T0⟩ ?_))))));obtain rfl:=Sj a;exact ⟨R,b⟩
 refine Ck (Kt (Cs (Xu 2 [(4,Vi 0),(5,Vi 4)] (Xk (Cr (Rr (Rv [Vi 0,Vi 4] ⟨R,R,T0⟩ ?_)))))));obtain rfl:=Sj a;exact ⟨R,b⟩
def Zn (b:Int) (a:Int):Option Int:=
(if a≠0 then
(if a≠0 then
(if ((Int.tmod b a)!=0)=true then
(if ((decide ((Int.tmod b a)<0))==(decide (a<0)))=true then
some (M4 ((M4 (Int.tdiv b a))+1))
else
some (M4 (Int.tdiv b a)))
else
some (M4 (Int.tdiv b a)))
else none)
else none)
theorem M3K (b a f e)(c:Zn b a=some f):Md Tryz.prog 165 [Vi b,Vi a] e fun h i=>h=Vi f∧Ev [] e i:=by
 refine Cw hmx Tryz.func165 R R R ?_;have d:=Ev.refl [] e;refine Cs (Xu 1 [(4,Vi 0)] (Xk (Cq (Cd [] [(0,false),(1,false),(2,false),(3,false),(4,false),(5,false),(6,false),(7,false)] _ (by kernel_rfl) R ?_))));have d:=d.ext (Ev.drew e);refine Xu 2 [(7,Vi b),(8,Vi a)] (MW (Vi (M4 (Int.tdiv b a))) (Vi b) (Vi a) R R R R (M0k (Gl c)) ?_);have c:=Gr c;refine Xu 2 [(10,Vi b),(11,Vi a)] (MW (Vi (Int.tmod b a)) (Vi b) (Vi a) R R R R (M1w (Gl c)) ?_);have c:=Gr c;refine Xu 2 [(5,Vi (M4 (Int.tdiv b a))),(6,Vi (Int.tmod b a))] (Xk (Cq (Cs (Xu 3 [(13,Vi (Int.tmod b a)),(14,.bool ((Int.tmod b a)!=0)),(15,.bool ((Int.tmod b a)!=0))] (Xw 15 _ R c (fun c=>?_) (fun c=>?_))))))
 · refine Xu 4 [(16,Vi (Int.tmod b a)),(17,Bd ((Int.tmod b a)<0)),(18,Vi a),(19,Bd (a<0))] (MW (.bool ((decide ((Int.tmod b a)<0))==(decide (a<0)))) (Bd ((Int.tmod b a)<0)) (Bd (a<0)) R R R R (M0l Zh) (Xu 1 [(21,.bool ((decide ((Int.tmod b a)<0))==(decide (a<0))))] (Xk (Ci _ R c (fun c=>?_) (fun c=>?_)))))
   · refine Cp (Xu 3 [(22,Vi (M4 (Int.tdiv b a))),(23,Vi (M4 ((M4 (Int.tdiv b a))+1))),(5,Vi (M4 ((M4 (Int.tdiv b a))+1)))] (Xk (Cn [(5,Vi (M4 ((M4 (Int.tdiv b a))+1)))] (fun g=>?_))));refine Cs (Xu 2 [(24,Vi (M4 ((M4 (Int.tdiv b a))+1))),(4,Vi (M4 ((M4 (Int.tdiv b a))+1)))] (Xk (Cr (Rz (Vi (M4 ((M4 (Int.tdiv b a))+1))) R ?_))));obtain rfl:=Sj c;exact ⟨R,d⟩
   refine Ck (Kt (Cs (Xu 2 [(24,Vi (M4 (Int.tdiv b a))),(4,Vi (M4 (Int.tdiv b a)))] (Xk (Cn [(4,Vi (M4 (Int.tdiv b a)))] (fun g=>?_))))));refine Cr (Rz (Vi (M4 (Int.tdiv b a))) R ?_);obtain rfl:=Sj c;exact ⟨R,d⟩
 refine Xu 6 [(16,U0),(17,U0),(18,U0),(19,U0),(20,U0),(21,.bool false)] (Xk (PE R (Ck (Kt (Cs (Xu 2 [(24,Vi (M4 (Int.tdiv b a))),(4,Vi (M4 (Int.tdiv b a)))] (Xk (Cr (Rz (Vi (M4 (Int.tdiv b a))) R ?_)))))))));obtain rfl:=Sj c;exact ⟨R,d⟩
def W5 (c:Int) (a:Int):Option (Int×Int):=
(if (a==0)=true then
some (0,5)
else
((Zn c a).bind fun b=>
((Py b).bind fun d=>
(if d=true then
some (b,0)
else
some (0,4)))))
theorem M2l (e c i f)(a:W5 e c=some i):Md Tryz.prog 124 [Vi e,Vi c] f fun j m=>j=.tuple #[Vi i.1,Vi i.2]∧Ev [] f m:=by
 refine Cw hmx Tryz.func124 R R R ?_;have b:=Ev.refl [] f;refine Cs (Xu 2 [(4,Vi 0),(5,Vi 0)] (Xk (Cq (Cs (Xu 2 [(7,Vi c),(8,.bool (c==0))] (Xk (Ci _ R a (fun a=>?_) (fun a=>?_))))))))
 · refine Cs (Xu 2 [(4,Vi 0),(5,Vi 5)] (Xk (Cr (Kr (Rr (Rv [Vi 0,Vi 5] ⟨R,R,T0⟩ ?_))))));obtain rfl:=Sj a;exact ⟨R,b⟩
 refine Ck (Kt (Cq (Cs (Xu 2 [(9,Vi e),(10,Vi c)] ?_))));obtain ⟨d,h,a⟩:=Bs a;have g:=M3K e c _ f h;refine Xv g R ?_;rintro j n ⟨rfl,k⟩;have b:=b.ext k;refine Xu 1 [(6,Vi d)] (Xk (Cs (Xu 1 [(12,Vi d)] ?_)));obtain ⟨o,h,a⟩:=Bs a;have g:=RL d _ n h;refine Xv g R ?_;rintro j p ⟨rfl,l⟩;have b:=b.ext l;refine Xk (Ci o R a (fun a=>?_) (fun a=>?_))
 · refine Cs (Xu 3 [(14,Vi d),(4,Vi d),(5,Vi 0)] (Xk (Cr (Kr (Rr (Rv [Vi d,Vi 0] ⟨R,R,T0⟩ ?_))))));obtain rfl:=Sj a;exact ⟨R,b⟩
 refine Ck (Kt (Cs (Xu 2 [(4,Vi 0),(5,Vi 4)] (Xk (Cr (Rr (Rv [Vi 0,Vi 4] ⟨R,R,T0⟩ ?_)))))));obtain rfl:=Sj a;exact ⟨R,b⟩
def Rh (a:Int) (b:Int) (c:Int):Option Bool:=
(if (decide (a≥b))=true then
some (decide (a≤c))
else
some false)
theorem Rm (a d b g e)(c:Rh a d b=some g):Md Tryz.prog 96 [Vi a,Vi d,Vi b] e fun h i=>h=.bool g∧Ev [] e i:=by
 refine Cw hmx Tryz.func96 R R R ?_;have f:=Ev.refl [] e;refine Cs (Xu 1 [(6,.bool false)] (Xk (Cs (Xu 4 [(7,Vi a),(8,Vi d),(9,Bd (a≥d)),(10,Bd (a≥d))] (Xw 10 _ R c (fun c=>?_) (fun c=>?_))))))
 · refine Xu 5 [(11,Vi a),(12,Vi b),(13,Bd (a≤b)),(14,Bd (a≤b)),(6,Bd (a≤b))] (Xk (Cr (Rz (Bd (a≤b)) R ?_)));obtain rfl:=Sj c;exact ⟨R,f⟩
 refine Xu 5 [(11,U0),(12,U0),(13,U0),(14,.bool false),(6,.bool false)] (Xk (Cr (Rz (.bool false) R ?_)));obtain rfl:=Sj c;exact ⟨R,f⟩
def Wn (c:List (Int×Int×Int×Int×Int)) (d:Int):Option (Mm Int (Unit⊕Unit)):=
match d with
| b=>
(if (decide (b<((c).length:Int)))=true then
((idx c b).bind fun a=>
((Rh a.1 0 127).bind fun e=>
(if (!e)=true then
some (.done (.inl ()))
else
((Rh a.2.1 1 1000000).bind fun f=>
(if (!f)=true then
some (.done (.inl ()))
else
((Rh a.2.2.1 (-10000) 10000).bind fun g=>
(if (!g)=true then
some (.done (.inl ()))
else
((Rh a.2.2.2.1 0 5000).bind fun h=>
(if (!h)=true then
some (.done (.inl ()))
else
((Rh a.2.2.2.2 0 1000000000).bind fun i=>
(if (!i)=true then
some (.done (.inl ()))
else
some (.next (M4 (b+1))))))))))))))
else
some (.done (.inr ())))
def Vt (a:List (Int×Int×Int×Int×Int)):Option Int:=
(if (decide (((a).length:Int)<1))=true then
some 3
else
(if (decide (((a).length:Int)>128))=true then
some 3
else
((loop (Wn a) 0).bind fun b=>match b with
| (.inl _)=>some 1
| (.inr _)=>some 0)))
theorem Zo (l m c J t B)(d:MS t [B])(g:Ma (M3 eI (M7)) t (fl [B]) l m c)(a:Vt c=some J):Md Tryz.prog 94 [Vl l c m] t fun w A=>w=Vi J∧Ev [] t A:=by
 refine Cw hmx Tryz.func94 R R R ?_;have f:=Ev.refl [] t;have r:=FR.nil t.heap.size;refine Cs (Xu 1 [(2,Vi 0)] (Xk (Cq (Cs (Xu 1 [(5,Vl l c m)] (Xz MF R (Xu 2 [(7,Bd (((c).length:Int)<1)),(8,Bd (((c).length:Int)<1))] (Xw 8 _ R a (fun a=>?_) (fun a=>?_)))))))))
 · refine Xu 4 [(9,U0),(10,U0),(11,U0),(12,.bool true)] (Xk (Me R (Cs (Xu 1 [(2,Vi 3)] (Xk (Cr (Kr (Rz (Vi 3) R ?_))))))));obtain rfl:=Sj a;exact ⟨R,f⟩
 refine Xu 1 [(9,Vl l c m)] (Xz MF R (Xu 2 [(11,Bd (((c).length:Int)>128)),(12,Bd (((c).length:Int)>128))] (Xk (Ci _ R a (fun a=>?_) (fun a=>?_)))))
 · refine Cs (Xu 1 [(2,Vi 3)] (Xk (Cr (Kr (Rz (Vi 3) R ?_)))));obtain rfl:=Sj a;exact ⟨R,f⟩
 refine Ck (Kt (Cq (Cs (Xu 1 [(13,Vl l c m)] (Xz MF R (Xu 1 [(15,Vi 0)] (Xk (Cb ?_))))))));obtain ⟨L,C,v⟩:=Bs a;obtain ⟨y,C⟩:=Lo C;refine Cl (Lr hmx (σ:=Nat×Int) (fun z=>match z with | (_,k)=>[(13,Vl l c m),(14,Vi ((c).length:Int)),(15,Vi k)]) (fun z A=>match z with | (ab,k)=>Mh (Wn c) ab k=some L∧Ev [] t A∧MS A [B]∧FR t.heap.size []∧Ma (M3 eI (M7)) A (fl [B]) l m c) (fun z=>z.1) (y,0) ⟨R,R,R,T0⟩ ⟨C,f,d,r,g⟩ ?_);rintro ⟨y,k⟩ u ak ⟨o,f,d,r,g⟩;rcases y with _ | y
 · exact (Lz o).elim
 obtain ⟨ah,a,o⟩:=Bs o;refine Cs (Xu 1 [(16,Bd (k<((c).length:Int)))] (Xk (Cn [(13,Vl l c m),(14,Vi ((c).length:Int)),(15,Vi k),(16,Bd (k<((c).length:Int)))] (fun u=>?_))));refine Cq (Ci _ R a (fun a=>?_) (fun a=>?_))
 · refine Ck (Kt (Cq (Cb (Cs ?_))));obtain ⟨h,aa,a⟩:=Bs a;refine Zf [Vi h.1,Vi h.2.1,Vi h.2.2.1,Vi h.2.2.2.1,Vi h.2.2.2.2] (g.el MF) R3 aa R (fun _=>R) (fun _=>Xj #[Vi 0,Vi 0,Vi 0,Vi 0,Vi 0] R (fun x aj I i Y=>?_));have r:=r.box f.size I;obtain ⟨g,d,f⟩:=E3 (Cx.b d Y I i) g d f;obtain ⟨ag,Z,N,H⟩:=Sa [Vi h.1,Vi h.2.1,Vi h.2.2.1,Vi h.2.2.2.1,Vi h.2.2.2.2] R3 i R R R;refine Xp Z R ?_;obtain ⟨g,d⟩:=E2 (Cx.j d 0 H) g d;have f:=f.th H r 0;have i:=N;refine Xk (Cs (Yg x 0 0 (Vi h.1) R R (Rf Pm _) M5 i nn R ?_));obtain ⟨K,q,a⟩:=Bs a;have p:=Rm h.1 0 127 _ ag q;refine Xv p R ?_;rintro w ac ⟨rfl,O⟩;obtain ⟨g,i,d,f⟩:=E4 (Cx.e d O) g i d f;refine Xu 2 [(22,.bool (!K)),(23,.bool (!K))] (Xw 23 _ R a (fun a=>?_) (fun a=>?_))
   · refine Xu 23 (Un 24 4++[(28,.bool true),(29,.bool true)]++Un 30 4++[(34,.bool true),(35,.bool true)]++Un 36 4++[(40,.bool true),(41,.bool true)]++Un 42 4++[(46,.bool true)]) (Xk (Cn [(13,Vl l c m),(14,Vi ((c).length:Int)),(15,Vi k),(46,.bool true)] (fun u=>?_)));refine Me R (Cs (Xu 1 [(2,Vi 1)] (Xk (Cr (Kb (Kr ?_))))));obtain rfl:=Sj a;have n:=Sj o;subst n;have a:=v;refine Kr (Kb (Kr (Rz (Vi 1) R ?_)));obtain rfl:=Sj a;exact ⟨R,f⟩
   refine Yg x 0 1 (Vi h.2.1) R R (Rf Pj _) M5 i nn R ?_;obtain ⟨D,q,a⟩:=Bs a;have p:=Rm h.2.1 1 1000000 _ ac q;refine Xv p R ?_;rintro w ad ⟨rfl,Q⟩;obtain ⟨g,i,d,f⟩:=E4 (Cx.e d Q) g i d f;refine Xu 3 [(27,.bool (!D)),(28,.bool (!D)),(29,.bool (!D))] (Xw 29 _ R a (fun a=>?_) (fun a=>?_))
   · refine Xu 17 (Un 30 4++[(34,.bool true),(35,.bool true)]++Un 36 4++[(40,.bool true),(41,.bool true)]++Un 42 4++[(46,.bool true)]) (Xk (Cn [(13,Vl l c m),(14,Vi ((c).length:Int)),(15,Vi k),(46,.bool true)] (fun u=>?_)));refine Me R (Cs (Xu 1 [(2,Vi 1)] (Xk (Cr (Kb (Kr ?_))))));obtain rfl:=Sj a;have n:=Sj o;subst n;have a:=v;refine Kr (Kb (Kr (Rz (Vi 1) R ?_)));obtain rfl:=Sj a;exact ⟨R,f⟩
   refine Yg x 0 2 (Vi h.2.2.1) R R (Rf Zi _) M5 i nn R ?_;obtain ⟨E,q,a⟩:=Bs a;have p:=Rm h.2.2.1 (-10000) 10000 _ ad q;refine Xv p R ?_;rintro w ae ⟨rfl,S⟩;obtain ⟨g,i,d,f⟩:=E4 (Cx.e d S) g i d f;refine Xu 3 [(33,.bool (!E)),(34,.bool (!E)),(35,.bool (!E))] (Xw 35 _ R a (fun a=>?_) (fun a=>?_))
   · refine Xu 11 (Un 36 4++[(40,.bool true),(41,.bool true)]++Un 42 4++[(46,.bool true)]) (Xk (Cn [(13,Vl l c m),(14,Vi ((c).length:Int)),(15,Vi k),(46,.bool true)] (fun u=>?_)));refine Me R (Cs (Xu 1 [(2,Vi 1)] (Xk (Cr (Kb (Kr ?_))))));obtain rfl:=Sj a;have n:=Sj o;subst n;have a:=v;refine Kr (Kb (Kr (Rz (Vi 1) R ?_)));obtain rfl:=Sj a;exact ⟨R,f⟩
   refine Yg x 0 3 (Vi h.2.2.2.1) R R (Rf M2W _) M5 i nn R ?_;obtain ⟨F,q,a⟩:=Bs a;have p:=Rm h.2.2.2.1 0 5000 _ ae q;refine Xv p R ?_;rintro w af ⟨rfl,U⟩;obtain ⟨g,i,d,f⟩:=E4 (Cx.e d U) g i d f;refine Xu 3 [(39,.bool (!F)),(40,.bool (!F)),(41,.bool (!F))] (Xw 41 _ R a (fun a=>?_) (fun a=>?_))
   · refine Xu 5 (Un 42 4++[(46,.bool true)]) (Xk (Cn [(13,Vl l c m),(14,Vi ((c).length:Int)),(15,Vi k),(46,.bool true)] (fun u=>?_)));refine Me R (Cs (Xu 1 [(2,Vi 1)] (Xk (Cr (Kb (Kr ?_))))));obtain rfl:=Sj a;have n:=Sj o;subst n;have a:=v;refine Kr (Kb (Kr (Rz (Vi 1) R ?_)));obtain rfl:=Sj a;exact ⟨R,f⟩
   refine Yg x 0 4 (Vi h.2.2.2.2) R R (Rf RY _) M5 i nn R ?_;obtain ⟨G,q,a⟩:=Bs a;have p:=Rm h.2.2.2.2 0 1000000000 _ af q;refine Xv p R ?_;rintro w ai ⟨rfl,X⟩;obtain ⟨g,d,f⟩:=E3 (Cx.e d X) g d f;refine Xu 2 [(45,.bool (!G)),(46,.bool (!G))] (Xk (Cn [(13,Vl l c m),(14,Vi ((c).length:Int)),(15,Vi k),(46,.bool (!G))] (fun u=>?_)));refine Ci _ R a (fun a=>?_) (fun a=>?_)
   · refine Cs (Xu 1 [(2,Vi 1)] (Xk (Cr (Kb (Kr ?_)))));obtain rfl:=Sj a;have n:=Sj o;subst n;have a:=v;refine Kr (Kb (Kr (Rz (Vi 1) R ?_)));obtain rfl:=Sj a;exact ⟨R,f⟩
   refine Ck (Kl (Kt (Cp (Xu 2 [(47,Vi (M4 (k+1))),(15,Vi (M4 (k+1)))] (Xe R ?_)))));obtain rfl:=Sj a;obtain ⟨g,d⟩:=E2 (Cx.s d [1]) g d;have r:=r.px [];exact Kt ⟨(y,M4 (k+1)),⟨R,R,R,T0⟩,⟨o,f,d,r,g⟩,Ns _⟩
 refine Ce (Ke ?_);obtain rfl:=Sj a;have n:=Sj o;subst n;have a:=v;refine Ke (Ki (Kt (RJ [] T0 (fun u=>?_))));refine Cs (Xu 1 [(2,Vi 0)] (Xk (Cr (Rz (Vi 0) R ?_))));obtain rfl:=Sj a;exact ⟨R,f⟩
def Tu (c:List (Int×Int×Int×Int×Int)) (d:Int×Int):Option (Mm (Int×Int) Int):=
match d with
| (b,a)=>
(if (decide (a<((c).length:Int)))=true then
((idx c a).bind fun e=>
(if (decide (e.2.2.2.2>0))=true then
some (.next (M4 (b+1),M4 (a+1)))
else
some (.next (b,M4 (a+1)))))
else
some (.done b))
def Tc (c:List (Int×Int×Int×Int×Int)):Option Int:=
((loop (Tu c) (0,0)).bind fun a=>match a with
| b=>some b)
theorem M0r (m n g z l t)(a:MS l [t])(e:Ma (M3 eI (M7)) l (fl [t]) m n g)(c:Tc g=some z):Md Tryz.prog 95 [Vl m g n] l fun J r=>J=Vi z∧Ev [] l r:=by
 refine Cw hmx Tryz.func95 R R R ?_;have k:=Ev.refl [] l;have i:=FR.nil l.heap.size;refine Cs (Xu 1 [(2,Vi 0)] (Xk (Cs (Xu 1 [(3,Vi 0)] (Xk (Cq (Cs (Xu 1 [(6,Vl m g n)] (Xz MF R ?_)))))))));refine Xu 1 [(8,Vi 0)] (Xk (Cb ?_));obtain ⟨B,v,C⟩:=Bs c;obtain ⟨p,v⟩:=Lo v;refine Cl (Lr hmx (σ:=Nat×Int×Int) (fun q=>match q with | (_,d,f)=>[(3,Vi d),(6,Vl m g n),(7,Vi ((g).length:Int)),(8,Vi f)]) (fun q r=>match q with | (I,d,f)=>Mh (Tu g) I (d,f)=some B∧Ev [] l r∧MS r [t]∧FR l.heap.size []∧Ma (M3 eI (M7)) r (fl [t]) m n g) (fun q=>q.1) (p,0,0) ⟨R,R,R,R,T0⟩ ⟨v,k,a,i,e⟩ ?_);rintro ⟨p,d,f⟩ w O ⟨o,k,a,i,e⟩;rcases p with _ | p
 · exact (Lz o).elim
 obtain ⟨K,c,o⟩:=Bs o;refine Cs (Xu 1 [(9,Bd (f<((g).length:Int)))] (Xk (Cn [(3,Vi d),(6,Vl m g n),(7,Vi ((g).length:Int)),(8,Vi f),(9,Bd (f<((g).length:Int)))] (fun w=>?_))));refine Cq (Ci _ R c (fun c=>?_) (fun c=>?_))
 · refine Ck (Kt (Cq (Cb (Cs ?_))));obtain ⟨h,G,c⟩:=Bs c;refine Zf [Vi h.1,Vi h.2.1,Vi h.2.2.1,Vi h.2.2.2.1,Vi h.2.2.2.2] (e.el MF) R3 G R (fun _=>R) (fun _=>Xj #[Vi 0,Vi 0,Vi 0,Vi 0,Vi 0] R (fun A L y u E=>?_));have i:=i.box k.size y;obtain ⟨e,a,k⟩:=E3 (Cx.b a E y u) e a k;obtain ⟨N,F,D,x⟩:=Sa [Vi h.1,Vi h.2.1,Vi h.2.2.1,Vi h.2.2.2.1,Vi h.2.2.2.2] R3 u R R R;refine Xp F R ?_;obtain ⟨e,a⟩:=E2 (Cx.j a 0 x) e a;have k:=k.th x i 0;have u:=D;refine Xk (Cs (Yg A 0 4 (Vi h.2.2.2.2) R R (Rf RY _) M5 u nn R (Xu 1 [(14,Bd (h.2.2.2.2>0))] (Xk (Ci _ R c (fun c=>?_) (fun c=>?_))))))
   · refine Cp (Xu 3 [(15,Vi d),(16,Vi (M4 (d+1))),(3,Vi (M4 (d+1)))] (Xe R (Kl (Kt (Cp (Xu 2 [(17,Vi (M4 (f+1))),(8,Vi (M4 (f+1)))] (Xe R ?_)))))));obtain rfl:=Sj c;obtain ⟨e,a⟩:=E2 (Cx.s a [1]) e a;have i:=i.px [];exact Kt ⟨(p,M4 (d+1),M4 (f+1)),⟨R,R,R,R,T0⟩,⟨o,k,a,i,e⟩,Ns _⟩
   refine Ck (Kl (Kt (Cp (Xu 2 [(17,Vi (M4 (f+1))),(8,Vi (M4 (f+1)))] (Xe R ?_)))));obtain rfl:=Sj c;obtain ⟨e,a⟩:=E2 (Cx.s a [1]) e a;have i:=i.px [];exact Kt ⟨(p,d,M4 (f+1)),⟨R,R,R,R,T0⟩,⟨o,k,a,i,e⟩,Ns _⟩
 refine Ce (Ke ?_);obtain rfl:=Sj c;have H:=Sj o;subst H;have c:=C;refine Ke (Ki (Kt (Cn [(3,Vi d)] (fun w=>?_))));refine Cs (Xu 2 [(18,Vi d),(2,Vi d)] (Xk (Cr (Rz (Vi d) R ?_))));obtain rfl:=Sj c;exact ⟨R,k⟩
def Vu (b:List Int) (c:Int):Option (Mm Int (Unit⊕Unit)):=
match c with
| a=>
(if (decide (a<((b).length:Int)))=true then
((idx b a).bind fun d=>
((Rh d (-1) 20000).bind fun e=>
(if (!e)=true then
some (.done (.inl ()))
else
some (.next (M4 (a+1))))))
else
some (.done (.inr ())))
def Vv (b:List Int):Option Bool:=
((loop (Vu b) 0).bind fun a=>match a with
| (.inl _)=>some false
| (.inr _)=>some true)
theorem M1H (g h b v d o)(i:MS d [o])(k:Ma eI d (fl [o]) g h b)(a:Vv b=some v):Md Tryz.prog 97 [Vl g b h] d fun w n=>w=.bool v∧Ev [] d n:=by
 refine Cw hmx Tryz.func97 R R R ?_;have f:=Ev.refl [] d;have q:=FR.nil d.heap.size;refine Cs (Xu 1 [(2,.bool false)] (Xk (Cq (Cs (Xu 1 [(5,Vl g b h)] (Xz MB R (Xu 1 [(7,Vi 0)] (Xk (Cb ?_)))))))));obtain ⟨x,p,u⟩:=Bs a;obtain ⟨l,p⟩:=Lo p;refine Cl (Lr hmx (σ:=Nat×Int) (fun m=>match m with | (_,c)=>[(5,Vl g b h),(6,Vi ((b).length:Int)),(7,Vi c)]) (fun m n=>match m with | (C,c)=>Mh (Vu b) C c=some x∧Ev [] d n∧MS n [o]∧FR d.heap.size []∧Ma eI n (fl [o]) g h b) (fun m=>m.1) (l,0) ⟨R,R,R,T0⟩ ⟨p,f,i,q,k⟩ ?_);rintro ⟨l,c⟩ t D ⟨j,f,i,q,k⟩;rcases l with _ | l
 · exact (Lz j).elim
 obtain ⟨F,a,j⟩:=Bs j;refine Cs (Xu 1 [(8,Bd (c<((b).length:Int)))] (Xk (Cn [(5,Vl g b h),(6,Vi ((b).length:Int)),(7,Vi c),(8,Bd (c<((b).length:Int)))] (fun t=>?_))));refine Cq (Ci _ R a (fun a=>?_) (fun a=>?_))
 · refine Ck (Kt (Cq (Cb (Cs ?_))));obtain ⟨s,B,a⟩:=Bs a;refine Z6 (k.el MB) M5 B R (fun _=>R) (fun _=>Xu 1 [(4,Vi s)] (Xk (Cs (Xu 1 [(11,Vi s)] ?_))));obtain ⟨E,A,a⟩:=Bs a;have y:=Rm s (-1) 20000 _ D A;refine Xv y R ?_;rintro w G ⟨rfl,z⟩;obtain ⟨k,i,f⟩:=E3 (Cx.e i z) k i f;refine Xu 1 [(13,.bool (!E))] (Xk (Ci _ R a (fun a=>?_) (fun a=>?_)))
   · refine Cs (Xu 1 [(2,.bool false)] (Xk (Cr (Kb (Kr ?_)))));obtain rfl:=Sj a;have r:=Sj j;subst r;have a:=u;refine Kr (Kb (Kr (Rz (.bool false) R ?_)));obtain rfl:=Sj a;exact ⟨R,f⟩
   refine Ck (Kl (Kt (Cp (Xu 2 [(14,Vi (M4 (c+1))),(7,Vi (M4 (c+1)))] (Xe R ?_)))));obtain rfl:=Sj a;exact Kt ⟨(l,M4 (c+1)),⟨R,R,R,T0⟩,⟨j,f,i,q,k⟩,Ns _⟩
 refine Ce (Ke ?_);obtain rfl:=Sj a;have r:=Sj j;subst r;have a:=u;refine Ke (Ki (Kt (RJ [] T0 (fun t=>?_))));refine Cs (Xu 1 [(2,.bool true)] (Xk (Cr (Rz (.bool true) R ?_))));obtain rfl:=Sj a;exact ⟨R,f⟩
def Vw (a:Int):Option (Int×Int):=
((XL a a).bind fun b=>
some (b.1.1,b.1.2))
theorem Zp (c h e)(f:Vw c=some h):Md Tryz.prog 98 [Vi c] e fun j t=>j=.tuple #[Vi h.1,Vi h.2]∧Ev [] e t:=by
 refine Cw hmx Tryz.func98 R R R ?_;have b:=Ev.refl [] e;have g:=FR.nil e.heap.size;refine Cs (Xu 2 [(2,Vi 0),(3,Vi 0)] (Xk (Cs (Xu 2 [(7,Vi c),(8,Vi c)] (Xg (.agg #[Vi c,Vi c]) R ?_)))));obtain ⟨a,s,f⟩:=Bs f;have m:=M2j c c _ e s;refine Xv m R ?_;rintro j u ⟨rfl,n⟩;have b:=b.ext n;refine Xu 3 [(6,.tuple #[.agg #[Vi a.1.1,Vi a.1.2],Vi a.2]),(11,.agg #[Vi a.1.1,Vi a.1.2]),(12,Vi a.2)] (Xj #[Vi 0,Vi 0] R (fun i v q d o=>?_));have g:=g.box b.size q;have b:=b.ext o;obtain ⟨k,r,l,p⟩:=Sa [Vi a.1.1,Vi a.1.2] RK d R R R;refine Xp r R ?_;have b:=b.th p g 0;have d:=l;refine Xu 1 [(5,Vi a.2)] (Xk (Cq (Cd [] [(0,false),(1,false),(2,false),(3,false),(4,false),(5,false)] _ (by kernel_rfl) R ?_)));have d:=(Ev.drew k).box d nn;have b:=b.ext (Ev.drew k);refine Yg i 0 0 (Vi a.1.1) R R (Rf P7 _) M5 d nn R (Yg i 0 1 (Vi a.1.2) R R (Rf MO _) M5 d nn R (Xu 2 [(2,Vi a.1.1),(3,Vi a.1.2)] (Xk (Cr (Rr (Rv [Vi a.1.1,Vi a.1.2] ⟨R,R,T0⟩ ?_))))));obtain rfl:=Sj f;exact ⟨R,b⟩
def XB (f:Int) (a:Int) (b:Int) (g:Int) (h:Int) (c:Int):Option (Int×Int):=
((Vr (M4 ((M4 (19620*(M4 (b-c))))*a)) 100000).bind fun d=>
((W5 (M4 ((M4 (19620*(M4 (b-c))))*a)) 100000).bind fun e=>
some (d.1,e.1)))
theorem M3L (o c a p q b j l)(g:XB o c a p q b=some j):Md Tryz.prog 99 [.agg #[Vi o,Vi c,Vi a,Vi p,Vi q],Vi b] l fun k u=>k=.tuple #[Vi j.1,Vi j.2]∧Ev [] l u:=by
 refine Cw hmx Tryz.func99 R R R ?_;have f:=Ev.refl [] l;refine Cs (Xo R (fun m v y n r=>?_));have f:=f.ext r;refine Xu 2 [(4,Vi 0),(5,Vi 0)] (Xk (Cs (Yg m 0 2 (Vi a) R R (Rf Zi _) M5 n nn R (Xu 3 [(9,Vi b),(10,Vi (M4 (a-b))),(11,Vi (M4 (19620*(M4 (a-b)))))] (Yg m 0 1 (Vi c) R R (Rf Pj _) M5 n nn R (Xu 2 [(14,Vi (M4 ((M4 (19620*(M4 (a-b))))*c))),(6,Vi (M4 ((M4 (19620*(M4 (a-b))))*c)))] (Xk ?_)))))));refine Cs (Xu 1 [(16,Vi (M4 ((M4 (19620*(M4 (a-b))))*c)))] ?_);obtain ⟨d,i,g⟩:=Bs g;have h:=M1G (M4 ((M4 (19620*(M4 (a-b))))*c)) 100000 _ v i;refine Xv h R ?_;rintro k w ⟨rfl,s⟩;have f:=f.ext s;refine Xu 4 [(15,.tuple #[Vi d.1,Vi d.2]),(18,Vi d.1),(19,Vi d.2),(4,Vi d.1)] (Xk (Cs (Xu 1 [(21,Vi (M4 ((M4 (19620*(M4 (a-b))))*c)))] ?_)));obtain ⟨e,i,g⟩:=Bs g;have h:=M2l (M4 ((M4 (19620*(M4 (a-b))))*c)) 100000 _ w i;refine Xv h R ?_;rintro k z ⟨rfl,t⟩;have f:=f.ext t;refine Xu 4 [(20,.tuple #[Vi e.1,Vi e.2]),(23,Vi e.1),(24,Vi e.2),(5,Vi e.1)] (Xk (Cn [(4,Vi d.1),(5,Vi e.1)] (fun x=>?_)));refine Cs (Xu 4 [(25,Vi d.1),(26,Vi e.1),(4,Vi d.1),(5,Vi e.1)] (Xk (Cr (Rr (Rv [Vi d.1,Vi e.1] ⟨R,R,T0⟩ ?_)))));obtain rfl:=Sj g;exact ⟨R,f⟩
def VV (k:List (Int×Int×Int×Int×Int)) (l:List Int) (m:List Int) (n:Int×Int×(List (Int×Int))×Int×Int):Option (Mm (Int×Int×(List (Int×Int))×Int×Int) (((List (Int×Int))×Int)⊕(List (Int×Int)))):=
match n with
| (g,d,h,j,i)=>
(if (decide (i<((k).length:Int)))=true then
((idx k i).bind fun c=>
((Vw d).bind fun a=>
((idx l i).bind fun o=>
((XB c.1 c.2.1 c.2.2.1 c.2.2.2.1 c.2.2.2.2 o).bind fun e=>
(if (decide ((M4 (d+e.1))<0))=true then
some (.done (.inl (h,i)))
else
((Vw (M4 (d+e.1))).bind fun b=>
(if ((M4 (a.1+b.1))==0)=true then
some (.done (.inl (h,i)))
else
(if M4 (a.1+b.1)≠0 then
(if (decide (c.2.2.2.2>0))=true then
((idx m j).bind fun f=>
(if (decide (f≥0))=true then
(if h.length+([(if 1000000000<(M4 (g+(M4 (Int.tdiv (M4 ((M4 ((M4 ((M4 (2000*c.2.1))+a.1))+b.1))-1)) (M4 (a.1+b.1)))))) then 1000000000 else (M4 (g+(M4 (Int.tdiv (M4 ((M4 ((M4 ((M4 (2000*c.2.1))+a.1))+b.1))-1)) (M4 (a.1+b.1)))))),if (M4 ((M4 (d+e.1))-c.2.2.2.2))>(if (M4 (f*f))<(M4 (d+e.1)) then (M4 (f*f)) else (M4 (d+e.1))) then (M4 ((M4 (d+e.1))-c.2.2.2.2)) else (if (M4 (f*f))<(M4 (d+e.1)) then (M4 (f*f)) else (M4 (d+e.1))))]:List (Int×Int)).length≤4294967296 then
some (.next (if 1000000000<(M4 (g+(M4 (Int.tdiv (M4 ((M4 ((M4 ((M4 (2000*c.2.1))+a.1))+b.1))-1)) (M4 (a.1+b.1)))))) then 1000000000 else (M4 (g+(M4 (Int.tdiv (M4 ((M4 ((M4 ((M4 (2000*c.2.1))+a.1))+b.1))-1)) (M4 (a.1+b.1)))))),if (M4 ((M4 (d+e.1))-c.2.2.2.2))>(if (M4 (f*f))<(M4 (d+e.1)) then (M4 (f*f)) else (M4 (d+e.1))) then (M4 ((M4 (d+e.1))-c.2.2.2.2)) else (if (M4 (f*f))<(M4 (d+e.1)) then (M4 (f*f)) else (M4 (d+e.1))),(h++([(if 1000000000<(M4 (g+(M4 (Int.tdiv (M4 ((M4 ((M4 ((M4 (2000*c.2.1))+a.1))+b.1))-1)) (M4 (a.1+b.1)))))) then 1000000000 else (M4 (g+(M4 (Int.tdiv (M4 ((M4 ((M4 ((M4 (2000*c.2.1))+a.1))+b.1))-1)) (M4 (a.1+b.1)))))),if (M4 ((M4 (d+e.1))-c.2.2.2.2))>(if (M4 (f*f))<(M4 (d+e.1)) then (M4 (f*f)) else (M4 (d+e.1))) then (M4 ((M4 (d+e.1))-c.2.2.2.2)) else (if (M4 (f*f))<(M4 (d+e.1)) then (M4 (f*f)) else (M4 (d+e.1))))]:List (Int×Int))),M4 (j+1),M4 (i+1)))
else none)
else
(if h.length+([(if 1000000000<(M4 (g+(M4 (Int.tdiv (M4 ((M4 ((M4 ((M4 (2000*c.2.1))+a.1))+b.1))-1)) (M4 (a.1+b.1)))))) then 1000000000 else (M4 (g+(M4 (Int.tdiv (M4 ((M4 ((M4 ((M4 (2000*c.2.1))+a.1))+b.1))-1)) (M4 (a.1+b.1)))))),M4 (d+e.1))]:List (Int×Int)).length≤4294967296 then
some (.next (if 1000000000<(M4 (g+(M4 (Int.tdiv (M4 ((M4 ((M4 ((M4 (2000*c.2.1))+a.1))+b.1))-1)) (M4 (a.1+b.1)))))) then 1000000000 else (M4 (g+(M4 (Int.tdiv (M4 ((M4 ((M4 ((M4 (2000*c.2.1))+a.1))+b.1))-1)) (M4 (a.1+b.1)))))),M4 (d+e.1),(h++([(if 1000000000<(M4 (g+(M4 (Int.tdiv (M4 ((M4 ((M4 ((M4 (2000*c.2.1))+a.1))+b.1))-1)) (M4 (a.1+b.1)))))) then 1000000000 else (M4 (g+(M4 (Int.tdiv (M4 ((M4 ((M4 ((M4 (2000*c.2.1))+a.1))+b.1))-1)) (M4 (a.1+b.1)))))),M4 (d+e.1))]:List (Int×Int))),M4 (j+1),M4 (i+1)))
else none)))
else
(if h.length+([(if 1000000000<(M4 (g+(M4 (Int.tdiv (M4 ((M4 ((M4 ((M4 (2000*c.2.1))+a.1))+b.1))-1)) (M4 (a.1+b.1)))))) then 1000000000 else (M4 (g+(M4 (Int.tdiv (M4 ((M4 ((M4 ((M4 (2000*c.2.1))+a.1))+b.1))-1)) (M4 (a.1+b.1)))))),M4 (d+e.1))]:List (Int×Int)).length≤4294967296 then
some (.next (if 1000000000<(M4 (g+(M4 (Int.tdiv (M4 ((M4 ((M4 ((M4 (2000*c.2.1))+a.1))+b.1))-1)) (M4 (a.1+b.1)))))) then 1000000000 else (M4 (g+(M4 (Int.tdiv (M4 ((M4 ((M4 ((M4 (2000*c.2.1))+a.1))+b.1))-1)) (M4 (a.1+b.1)))))),M4 (d+e.1),(h++([(if 1000000000<(M4 (g+(M4 (Int.tdiv (M4 ((M4 ((M4 ((M4 (2000*c.2.1))+a.1))+b.1))-1)) (M4 (a.1+b.1)))))) then 1000000000 else (M4 (g+(M4 (Int.tdiv (M4 ((M4 ((M4 ((M4 (2000*c.2.1))+a.1))+b.1))-1)) (M4 (a.1+b.1)))))),M4 (d+e.1))]:List (Int×Int))),j,M4 (i+1)))
else none))
else none))))))))
else
some (.done (.inr h)))
def VW (b:List Int) (c:Int):Option (Mm Int (Unit⊕Unit)):=
match c with
| a=>
(if (decide (a<((b).length:Int)))=true then
((idx b a).bind fun d=>
((Rh d (-5000) 10000).bind fun e=>
(if (!e)=true then
some (.done (.inl ()))
else
some (.next (M4 (a+1))))))
else
some (.done (.inr ())))
def Wv (b:List (Int×Int×Int×Int×Int)) (a:Int) (d:List Int) (e:List Int):Option ((List (Int×Int))×Int×Int):=
((Vt b).bind fun f=>
(if (f != 0)=true then
some ([],0,f)
else
(if (((d).length:Int)!=((b).length:Int))=true then
some ([],0,1)
else
((Tc b).bind fun j=>
(if (((e).length:Int)!=j)=true then
some ([],0,1)
else
((loop (VW d) 0).bind fun c=>match c with
| (.inl _)=>some ([],0,2)
| (.inr _)=>((Rh a 0 20000).bind fun k=>
(if (!k)=true then
some ([],0,2)
else
((Vv e).bind fun l=>
(if (!l)=true then
some ([],0,2)
else
((loop (VV b d e) (0,M4 (a*a),([(0,M4 (a*a))]:List (Int×Int)),0,0)).bind fun c=>match c with
| (.inl (g,i))=>some (g,i,0)
| (.inr h)=>some (h,(-1),0))))))))))))
theorem M33 (H I z E ab ac L ae af Y ay aa G)(d:MS aa [G])(n:Ma (M3 eI (M7)) aa (fl [G]) H I z)(o:Ma eI aa (fl [G]) ab ac L)(q:Ma eI aa (fl [G]) ae af Y)(f:Wv z E L Y=some ay):Md Tryz.prog 82 [Vl H z I,.agg #[Vi E,Vl ab L ac,Vl ae Y af]] aa fun ak N=>∃ ap aN,ak=.tuple #[Vl ap ay.1 aN,Vi ay.2.1,Vi ay.2.2]∧Ev [] aa N∧MS N [Bk ap,G]∧FR aa.heap.size [Bk ap]∧M9 (M3 eI eI) 211 N (fl [Bk ap,G]) ap aN ay.1:=by
 refine Cw hmx Tryz.func82 R R R ?_;have m:=Ev.refl [] aa;have x:=FR.nil aa.heap.size;refine Cs (Xo R (fun A cd bb r bB=>?_));have x:=x.box m.size bb;obtain ⟨n,o,q,d,m⟩:=E5 (Cx.b d bB bb r) n o q d m;refine Xu 3 [(4,Z0),(5,Vi 0),(6,Vi 0)] (Xk (Cq (Cs (Xu 1 [(22,Vl H z I)] ?_))));obtain ⟨ao,X,f⟩:=Bs f;obtain ⟨au,av⟩:=Kc d [] [0,1];have U:=Zo H I z _ cd _ au (n.sub av) X;refine Xv U R ?_;rintro ak aI ⟨rfl,bH⟩;obtain ⟨n,o,q,r,d,m⟩:=E6 (Cx.e d bH) n o q r d m;refine Xu 1 [(7,Vi ao)] (Xk (Cs (Xu 2 [(24,Vi ao),(25,.bool (ao != 0))] (Xk (Ci _ R f (fun f=>?_) (fun f=>?_))))))
 · refine Cs (Xu 4 [(26,Vi ao),(4,Z0),(5,Vi 0),(6,Vi ao)] (Xk (Cr (Kr (Rr (Rv [Z0,Vi 0,Vi ao] ⟨R,R,R,T0⟩ ?_))))));obtain rfl:=Sj f;have Q:=d.pick [none,some 1] [Bk none,G] R;have O:=x.pick [none] [Bk none] R;exact ⟨none,0,R,m,Q,O,M9.nil _ _ _ _⟩
 refine Ck (Kt (Cq (Cq (Cd [] [(0,false),(1,false),(2,false),(3,false),(4,false),(5,false),(6,false),(7,false),(8,false),(9,false),(10,false),(11,false),(12,false),(13,false)] _ (by kernel_rfl) R ?_))));obtain ⟨n,o,q,r,d,m⟩:=E6 (Cx.e d (Ev.drew aI)) n o q r d m;refine Yg A 0 1 (Vl ab L ac) R R (Rf Yc _) Mp r nn R (Xz MB R (Xu 1 [(30,Vl H z I)] (Xz MF R (Xu 2 [(32,.bool (((L).length:Int)!=((z).length:Int))),(33,.bool (((L).length:Int)!=((z).length:Int)))] (Xw 33 _ R f (fun f=>?_) (fun f=>?_))))))
 · refine Xu 7 (Un 34 6++[(40,.bool true)]) (Xk (Cn [(0,Vl H z I),(3,Vp A 0),(40,.bool true)] (fun Z=>?_)));refine Me R (Cs (Xu 3 [(4,Z0),(5,Vi 0),(6,Vi 1)] (Xk (Cr (Kr (Rr (Rv [Z0,Vi 0,Vi 1] ⟨R,R,R,T0⟩ ?_)))))));obtain rfl:=Sj f;have Q:MS (aI).drew [Bk none,G]:=d.pick [none,some 1] _ R;have O:=x.pick [none] [Bk none] R;exact ⟨none,0,R,m,Q,O,M9.nil _ _ _ _⟩
 refine Yg A 0 2 (Vl ae Y af) R R (Rf Ya _) Mp r nn R (Xz MB R (Xu 1 [(37,Vl H z I)] ?_));obtain ⟨aJ,X,f⟩:=Bs f;obtain ⟨au,av⟩:=Kc d [] [0,1];have U:=M0r H I z _ (aI).drew _ au (n.sub av) X;refine Xc 95 #[] #[] _ _ R R R R U ?_;rintro ak cr ⟨rfl,aS⟩;refine ⟨.inr aS,?_⟩;obtain ⟨n,o,q,r,d,m⟩:=E6 (Cx.e d aS) n o q r d m;refine Xu 2 [(39,.bool (((Y).length:Int)!=aJ)),(40,.bool (((Y).length:Int)!=aJ))] (Xk (Cn [(0,Vl H z I),(3,Vp A 0),(40,.bool (((Y).length:Int)!=aJ))] (fun Z=>?_)));refine Ci _ R f (fun f=>?_) (fun f=>?_)
 · refine Cs (Xu 3 [(4,Z0),(5,Vi 0),(6,Vi 1)] (Xk (Cr (Kr (Rr (Rv [Z0,Vi 0,Vi 1] ⟨R,R,R,T0⟩ ?_))))));obtain rfl:=Sj f;have Q:=d.pick [none,some 1] [Bk none,G] R;have O:=x.pick [none] [Bk none] R;exact ⟨none,0,R,m,Q,O,M9.nil _ _ _ _⟩
 refine Ck (Kt (Cq (Cs (Yg A 0 1 (Vl ab L ac) R R (Rf Yc _) Mp r nn R (Xz MB R (Xu 1 [(44,Vi 0)] (Xk (Cb ?_))))))));obtain ⟨bh,aF,aQ⟩:=Bs f;obtain ⟨ax,aF⟩:=Lo aF;refine Cl (Lr hmx (σ:=Nat×Int) (fun s=>match s with | (_,ag)=>[(0,Vl H z I),(3,Vp A 0),(42,Vl ab L ac),(43,Vi ((L).length:Int)),(44,Vi ag)]) (fun s N=>match s with | (aH,ag)=>Mh (VW L) aH ag=some bh∧Ev [] aa N∧(fun ah=>MS N ah∧FR aa.heap.size [[A]]∧Ma (M3 eI (M7)) N (fl ah) H I z∧Ma eI N (fl ah) ab ac L∧Ma eI N (fl ah) ae af Y∧N.heap[A]? = some (.cells #[Vi E,Vl ab L ac,Vl ae Y af] 205 (0,0))) [[A],G]) (fun s=>s.1) (ax,0) ⟨R,R,R,R,R,T0⟩ ⟨aF,m,d,x,n,o,q,r⟩ ?_);rintro ⟨ax,ag⟩ Z bd ⟨an,m,d,x,n,o,q,r⟩;rcases ax with _ | ax
 · exact (Lz an).elim
 obtain ⟨cp,f,an⟩:=Bs an;refine Cs (Xu 1 [(45,Bd (ag<((L).length:Int)))] (Xk (Cn [(0,Vl H z I),(3,Vp A 0),(42,Vl ab L ac),(43,Vi ((L).length:Int)),(44,Vi ag),(45,Bd (ag<((L).length:Int)))] (fun Z=>?_))));refine Cq (Ci _ R f (fun f=>?_) (fun f=>?_))
 · refine Ck (Kt (Cq (Cb (Cs ?_))));obtain ⟨aK,b7,f⟩:=Bs f;refine Z6 (o.el MB) M5 b7 R (fun _=>R) (fun _=>Xu 1 [(9,Vi aK)] (Xk (Cs (Xu 1 [(48,Vi aK)] ?_))));obtain ⟨cg,X,f⟩:=Bs f;have U:=Rm aK (-5000) 10000 _ bd X;refine Xv U R ?_;rintro ak cs ⟨rfl,bu⟩;obtain ⟨n,r,o,q,d,m⟩:=E6 (Cx.e d bu) n r o q d m;refine Xu 1 [(50,.bool (!cg))] (Xk (Ci _ R f (fun f=>?_) (fun f=>?_)))
   · refine Cs (Xu 3 [(4,Z0),(5,Vi 0),(6,Vi 2)] (Xk (Cr (Kb (Kr ?_)))));obtain rfl:=Sj f;have aj:=Sj an;subst aj;have f:=aQ;refine Kr (Kb (Kr (Rr (Rv [Z0,Vi 0,Vi 2] ⟨R,R,R,T0⟩ ?_))));obtain rfl:=Sj f;have Q:=d.pick [none,some 1] [Bk none,G] R;have O:=x.pick [none] [Bk none] R;exact ⟨none,0,R,m,Q,O,M9.nil _ _ _ _⟩
   refine Ck (Kl (Kt (Cp (Xu 2 [(51,Vi (M4 (ag+1))),(44,Vi (M4 (ag+1)))] (Xe R ?_)))));obtain rfl:=Sj f;exact Kt ⟨(ax,M4 (ag+1)),⟨R,R,R,R,R,T0⟩,⟨an,m,d,x,n,o,q,r⟩,Ns _⟩
 refine Ce (Ke ?_);obtain rfl:=Sj f;have aj:=Sj an;subst aj;have f:=aQ;refine Ke (Ki (Kt (Cn [(0,Vl H z I),(3,Vp A 0)] (fun Z=>?_))));refine Cq (Cs (Yg A 0 0 (Vi E) R R (Rf M1E _) M5 r nn R ?_));obtain ⟨be,X,f⟩:=Bs f;have U:=Rm E 0 20000 _ bd X;refine Xv U R ?_;rintro ak cb ⟨rfl,bv⟩;obtain ⟨n,r,o,q,d,m⟩:=E6 (Cx.e d bv) n r o q d m;refine Xu 2 [(55,.bool (!be)),(56,.bool (!be))] (Xw 56 _ R f (fun f=>?_) (fun f=>?_))
 · refine Xu 5 [(57,U0),(58,U0),(59,U0),(60,U0),(61,.bool true)] (Xk (Me R (Cs (Xu 3 [(4,Z0),(5,Vi 0),(6,Vi 2)] (Xk (Cr (Kr (Rr (Rv [Z0,Vi 0,Vi 2] ⟨R,R,R,T0⟩ ?_)))))))));obtain rfl:=Sj f;have Q:=d.pick [none,some 1] [Bk none,G] R;have O:=x.pick [none] [Bk none] R;exact ⟨none,0,R,m,Q,O,M9.nil _ _ _ _⟩
 refine Yg A 0 2 (Vl ae Y af) R R (Rf Ya _) Mp r nn R ?_;obtain ⟨bf,X,f⟩:=Bs f;obtain ⟨au,av⟩:=Kc d [] [0,1];have U:=M1H ae af Y _ cb _ au (q.sub av) X;refine Xv U R ?_;rintro ak ct ⟨rfl,bw⟩;obtain ⟨n,r,o,q,d,m⟩:=E6 (Cx.e d bw) n r o q d m;refine Xu 2 [(60,.bool (!bf)),(61,.bool (!bf))] (Xk (Ci _ R f (fun f=>?_) (fun f=>?_)))
 · refine Cs (Xu 3 [(4,Z0),(5,Vi 0),(6,Vi 2)] (Xk (Cr (Kr (Rr (Rv [Z0,Vi 0,Vi 2] ⟨R,R,R,T0⟩ ?_))))));obtain rfl:=Sj f;have Q:=d.pick [none,some 1] [Bk none,G] R;have O:=x.pick [none] [Bk none] R;exact ⟨none,0,R,m,Q,O,M9.nil _ _ _ _⟩
 refine Ck (Kt (Cs (Yg A 0 0 (Vi E) R R (Rf M1E _) M5 r nn R (Yg A 0 0 (Vi E) R R (Rf M1E _) M5 r nn R (Xu 1 [(66,Vi (M4 (E*E)))] (Xg (.agg #[Vi 0,Vi (M4 (E*E))]) R (Xj #[Vi 0,Vi 0] R (fun D cu a9 t bx=>?_))))))));have x:=x.box m.size a9;obtain ⟨n,r,o,q,d,m⟩:=E6 (Cx.b d bx a9 t) n r o q d m;obtain ⟨cv,bN,bl,aU⟩:=Sa [Vi 0,Vi (M4 (E*E))] M0V t R R R;refine Xp bN R ?_;obtain ⟨n,r,o,q,d⟩:=E5 (Cx.j d 0 aU) n r o q d;have m:=m.th aU x 0;have t:=bl;refine Xk (Cs (Yl _ _ R (Ra 0 [Vi 0,Vi (M4 (E*E))] M0V t nn R) (Xh #[Vi 0,Vi (M4 (E*E))] 211 R (fun ci cw bI bm aX=>?_))));obtain ⟨az,bj,b3,a5⟩:=Ol (e:=(M3 eI eI)) bI bm 1 [(0,M4 (E*E))];obtain ⟨n,r,o,q,t,d⟩:=E6 (Cx.p d aX a5) n r o q t d;have x:=x.push (fun b bk=>Nat.le_trans m.size (a5 b bk).1);have m:=m.ext aX;have w:=b3 (fl [Bk az,[D],[A],G]);rw [← bj];refine Xu 1 [(11,Vl az (([(0,M4 (E*E))]:List (Int×Int))) 1)] (Xk (Cn [(0,Vl H z I),(3,Vp A 0),(10,Vp D 0),(11,Vl az (([(0,M4 (E*E))]:List (Int×Int))) 1)] (fun Z=>?_)));refine Cs (Xu 1 [(12,Vi 0)] (Xk (Cq (Cs (Xu 1 [(70,Vl H z I)] (Xz MF R (Xu 1 [(72,Vi 0)] (Xk (Cb ?_)))))))));obtain ⟨o,q,w,n,d⟩:=E5 (Cx.s d [2,1,0,3]) o q w n d;have x:=x.px [2,1,0];obtain ⟨bi,aG,aE⟩:=Bs f;obtain ⟨am,aG⟩:=Lo aG;refine Cl (Lr hmx (σ:=Nat×Int×Int×(List (Int×Int))×Int×Int×Option Addr×Nat) (fun s=>match s with | (_,v,k,C,K,B,y,F)=>[(3,Vp A 0),(10,Vp D 0),(11,Vl y C F),(12,Vi K),(70,Vl H z I),(71,Vi ((z).length:Int)),(72,Vi B)]) (fun s N=>match s with | (aH,v,k,C,K,B,y,F)=>Mh (VV z L Y) aH (v,k,C,K,B)=some bi∧Ev [] aa N∧(fun ah=>MS N ah∧FR aa.heap.size [[A],[D],Bk y]∧Ma eI N (fl ah) ab ac L∧Ma eI N (fl ah) ae af Y∧N.heap[A]? = some (.cells #[Vi E,Vl ab L ac,Vl ae Y af] 205 (0,0))∧N.heap[D]? = some (.cells #[Vi v,Vi k] 211 (0,0))∧M9 (M3 eI eI) 211 N (fl ah) y F C∧Ma (M3 eI (M7)) N (fl ah) H I z) [[A],[D],Bk y,G]) (fun s=>s.1) (am,0,M4 (E*E),([(0,M4 (E*E))]:List (Int×Int)),0,0,az,1) ⟨R,R,R,R,R,R,R,T0⟩ ⟨aG,m,d,x,o,q,r,t,w,n⟩ ?_);rintro ⟨am,v,k,C,K,B,y,F⟩ Z cH ⟨ai,m,d,x,o,q,r,t,w,n⟩;rcases am with _ | am
 · exact (Lz ai).elim
 obtain ⟨cq,f,ai⟩:=Bs ai;refine Cs (Xu 1 [(73,Bd (B<((z).length:Int)))] (Xk (Cn [(3,Vp A 0),(10,Vp D 0),(11,Vl y C F),(12,Vi K),(70,Vl H z I),(71,Vi ((z).length:Int)),(72,Vi B),(73,Bd (B<((z).length:Int)))] (fun Z=>?_))));refine Cq (Ci _ R f (fun f=>?_) (fun f=>?_))
 · refine Ck (Kt (Cq (Cb (Cs (Xu 1 [(74,Vi B)] ?_)))));obtain ⟨g,b8,f⟩:=Bs f;refine Zf [Vi g.1,Vi g.2.1,Vi g.2.2.1,Vi g.2.2.2.1,Vi g.2.2.2.2] (n.el MF) R3 b8 R (fun _=>R) (fun _=>Xj #[Vi 0,Vi 0,Vi 0,Vi 0,Vi 0] R (fun al cx ba J bz=>?_));have x:=x.box m.size ba;obtain ⟨r,o,q,t,w,n,d,m⟩:=E8 (Cx.b d bz ba J) r o q t w n d m;refine Xu 1 [(13,Vi B)] ?_;obtain ⟨cc,bO,bn,aY⟩:=Sa [Vi g.1,Vi g.2.1,Vi g.2.2.1,Vi g.2.2.2.1,Vi g.2.2.2.2] R3 J R R R;refine Xp bO R ?_;obtain ⟨r,o,q,t,w,n,d⟩:=E7 (Cx.j d 0 aY) r o q t w n d;have m:=m.th aY x 0;have J:=bn;refine Xk (Cs (Yg D 0 1 (Vi k) R R (Rf V8 _) M5 t nn R ?_));obtain ⟨a,X,f⟩:=Bs f;have U:=Zp k _ cc X;refine Xv U R ?_;rintro ak bc ⟨rfl,bA⟩;obtain ⟨r,o,q,t,w,n,J,d,m⟩:=E9 (Cx.e d bA) r o q t w n J d m;refine Xu 5 [(77,.tuple #[Vi a.1,Vi a.2]),(81,Vi a.1),(82,Vi a.2),(15,Vi a.1),(16,Vi a.2)] (Xk (Cq (Cd [] [(0,false),(1,false),(2,false),(3,false),(4,false),(5,false),(6,true),(7,false),(8,false),(9,false),(10,false),(11,false)] _ (by kernel_rfl) R ?_)));obtain ⟨r,o,q,t,w,n,J,d,m⟩:=E9 (Cx.e d (Ev.drew bc)) r o q t w n J d m;refine Yl _ _ R (Ra 0 [Vi g.1,Vi g.2.1,Vi g.2.2.1,Vi g.2.2.2.1,Vi g.2.2.2.2] R3 J nn R) (Yg A 0 1 (Vl ab L ac) R R (Rf Yc _) Mp r nn R (Xu 1 [(87,Vi B)] ?_));obtain ⟨ch,b9,f⟩:=Bs f;refine Z6 (o.el MB) M5 b9 R (fun _=>R) (fun _=>?_);obtain ⟨h,X,f⟩:=Bs f;have U:=M3L g.1 g.2.1 g.2.2.1 g.2.2.2.1 g.2.2.2.2 ch _ (bc).drew X;refine Xv U R ?_;rintro ak cy ⟨rfl,bC⟩;obtain ⟨r,o,q,t,w,n,J,d,m⟩:=E9 (Cx.e d bC) r o q t w n J d m;refine Xu 5 [(83,.tuple #[Vi h.1,Vi h.2]),(91,Vi h.1),(92,Vi h.2),(17,Vi h.1),(18,Vi h.2)] (Xk (Cn [(3,Vp A 0),(10,Vp D 0),(11,Vl y C F),(12,Vi K),(13,Vi B),(14,Vp al 0),(15,Vi a.1),(17,Vi h.1),(70,Vl H z I),(71,Vi ((z).length:Int)),(72,Vi B)] (fun Z=>?_)));refine Cs (Yg D 0 1 (Vi k) R R (Rf V8 _) M5 t nn R (Xu 2 [(95,Vi h.1),(96,Vi (M4 (k+h.1)))] (Yf (Vp D 0) (Vp D 1) R (Rf V8 _) ?_)));obtain ⟨ce,bQ,bo,aZ⟩:=Sx 1 (Vi (M4 (k+h.1))) M5 t;refine Xp bQ R ?_;obtain ⟨r,o,q,w,n,J,d⟩:=E7 (Cx.j d 2 aZ) r o q w n J d;have m:=m.th aZ x 2;have t:=bo;refine Xk (Cq (Cs (Yg D 0 1 (Vi (M4 (k+h.1))) R R (Rf V8 _) M5 t nn R (Xu 1 [(100,Bd ((M4 (k+h.1))<0))] (Xk (Ci _ R f (fun f=>?_) (fun f=>?_)))))))
   · refine Cs (Xu 5 [(101,Vl y C F),(102,Vi B),(4,Vl y C F),(5,Vi B),(6,Vi 0)] (Xk (Cr (Kr (Kb (Kr ?_))))));obtain rfl:=Sj f;have aj:=Sj ai;subst aj;have f:=aE;refine Kr (Kb (Kr (Rr (Rv [Vl y C F,Vi B,Vi 0] ⟨R,R,R,T0⟩ ?_))));obtain rfl:=Sj f;have Q:=d.pk [3,4] [Bk y,G] R;have aw:=Pk (ls:=[[al],[A],[D],Bk y,G]) [3,4] [Bk y,G] R;have O:=x.pk [3] [Bk y] R;exact ⟨y,F,R,m,Q,O,w.sub aw⟩
   refine Ck (Kt (Cs (Yg D 0 1 (Vi (M4 (k+h.1))) R R (Rf V8 _) M5 t nn R ?_)));obtain ⟨c,X,f⟩:=Bs f;have U:=Zp (M4 (k+h.1)) _ ce X;refine Xv U R ?_;rintro ak cf ⟨rfl,bD⟩;obtain ⟨r,o,q,t,w,n,J,d,m⟩:=E9 (Cx.e d bD) r o q t w n J d m;refine Xu 5 [(103,.tuple #[Vi c.1,Vi c.2]),(107,Vi c.1),(108,Vi c.2),(19,Vi c.1),(20,Vi c.2)] (Xk (Cq (Cs (Xu 4 [(109,Vi a.1),(110,Vi c.1),(111,Vi (M4 (a.1+c.1))),(112,.bool ((M4 (a.1+c.1))==0))] (Xk (Ci _ R f (fun f=>?_) (fun f=>?_)))))))
   · refine Cs (Xu 5 [(113,Vl y C F),(114,Vi B),(4,Vl y C F),(5,Vi B),(6,Vi 0)] (Xk (Cn [(4,Vl y C F),(5,Vi B),(6,Vi 0)] (fun Z=>?_))));refine Cr (Kr (Kb (Kr ?_)));obtain rfl:=Sj f;have aj:=Sj ai;subst aj;have f:=aE;refine Kr (Kb (Kr (Rr (Rv [Vl y C F,Vi B,Vi 0] ⟨R,R,R,T0⟩ ?_))));obtain rfl:=Sj f;have Q:=d.pk [3,4] [Bk y,G] R;have aw:=Pk (ls:=[[al],[A],[D],Bk y,G]) [3,4] [Bk y,G] R;have O:=x.pk [3] [Bk y] R;exact ⟨y,F,R,m,Q,O,w.sub aw⟩
   refine Ck (Kt (Cn [(3,Vp A 0),(10,Vp D 0),(11,Vl y C F),(12,Vi K),(14,Vp al 0),(15,Vi a.1),(19,Vi c.1),(70,Vl H z I),(71,Vi ((z).length:Int)),(72,Vi B)] (fun Z=>?_)));refine Cq (Cd [] [(0,false),(1,false),(2,false),(3,false),(4,false),(5,false),(6,false),(7,false),(8,false),(9,false),(10,false),(11,false),(12,false),(13,false),(14,false),(15,false),(16,false),(17,true)] _ (by kernel_rfl) R ?_);obtain ⟨r,o,q,t,w,n,J,d,m⟩:=E9 (Cx.e d (Ev.drew cf)) r o q t w n J d m;refine Yg D 0 0 (Vi v) R R (Rf Yb _) M5 t nn R (Yg al 0 1 (Vi g.2.1) R R (Rf Pj _) M5 J nn R (Xu 9 [(119,Vi (M4 (2000*g.2.1))),(120,Vi a.1),(121,Vi (M4 ((M4 (2000*g.2.1))+a.1))),(122,Vi c.1),(123,Vi (M4 ((M4 ((M4 (2000*g.2.1))+a.1))+c.1))),(124,Vi (M4 ((M4 ((M4 ((M4 (2000*g.2.1))+a.1))+c.1))-1))),(125,Vi a.1),(126,Vi c.1),(127,Vi (M4 (a.1+c.1)))] (MW (Vi (M4 (Int.tdiv (M4 ((M4 ((M4 ((M4 (2000*g.2.1))+a.1))+c.1))-1)) (M4 (a.1+c.1))))) (Vi (M4 ((M4 ((M4 ((M4 (2000*g.2.1))+a.1))+c.1))-1))) (Vi (M4 (a.1+c.1))) R R R R (M0k (Gl f)) ?_)));have f:=Gr f;refine Xu 1 [(129,Vi (M4 (v+(M4 (Int.tdiv (M4 ((M4 ((M4 ((M4 (2000*g.2.1))+a.1))+c.1))-1)) (M4 (a.1+c.1)))))))] (M0K (vs:=[Vi (M4 (v+(M4 (Int.tdiv (M4 ((M4 ((M4 ((M4 (2000*g.2.1))+a.1))+c.1))-1)) (M4 (a.1+c.1)))))),Vi 1000000000]) (Vi (if 1000000000<(M4 (v+(M4 (Int.tdiv (M4 ((M4 ((M4 ((M4 (2000*g.2.1))+a.1))+c.1))-1)) (M4 (a.1+c.1)))))) then 1000000000 else (M4 (v+(M4 (Int.tdiv (M4 ((M4 ((M4 ((M4 (2000*g.2.1))+a.1))+c.1))-1)) (M4 (a.1+c.1)))))))) R R R (fun _ _=>R) (Yf (Vp D 0) (Vp D 0) R (Rf Yb _) ?_));obtain ⟨cz,bS,bp,a0⟩:=Sx 0 (Vi (if 1000000000<(M4 (v+(M4 (Int.tdiv (M4 ((M4 ((M4 ((M4 (2000*g.2.1))+a.1))+c.1))-1)) (M4 (a.1+c.1)))))) then 1000000000 else (M4 (v+(M4 (Int.tdiv (M4 ((M4 ((M4 ((M4 (2000*g.2.1))+a.1))+c.1))-1)) (M4 (a.1+c.1)))))))) M5 t;refine Xp bS R ?_;obtain ⟨r,o,q,w,n,J,d⟩:=E7 (Cx.j d 2 a0) r o q w n J d;have m:=m.th a0 x 2;have t:=bp;refine Xk (Cq (Cs (Yg al 0 4 (Vi g.2.2.2.2) R R (Rf RY _) M5 J nn R (Xu 1 [(134,Bd (g.2.2.2.2>0))] (Xk (Ci _ R f (fun f=>?_) (fun f=>?_)))))))
   · refine Cq (Cs (Yg A 0 2 (Vl ae Y af) R R (Rf Ya _) Mp r nn R (Xu 1 [(137,Vi K)] ?_)));obtain ⟨i,ca,f⟩:=Bs f;refine Z6 (q.el MB) M5 ca R (fun _=>R) (fun _=>Xu 1 [(21,Vi i)] (Xk (Cn [(3,Vp A 0),(10,Vp D 0),(11,Vl y C F),(12,Vi K),(14,Vp al 0),(21,Vi i),(70,Vl H z I),(71,Vi ((z).length:Int)),(72,Vi B)] (fun Z=>?_))));refine Cs (Xu 2 [(140,Vi i),(141,Bd (i≥0))] (Xk (Ci _ R f (fun f=>?_) (fun f=>?_))))
     · refine Cp (Yg D 0 1 (Vi (M4 (k+h.1))) R R (Rf V8 _) M5 t nn R (Xu 3 [(144,Vi i),(145,Vi i),(146,Vi (M4 (i*i)))] (M0K (vs:=[Vi (M4 (k+h.1)),Vi (M4 (i*i))]) (Vi (if (M4 (i*i))<(M4 (k+h.1)) then (M4 (i*i)) else (M4 (k+h.1)))) R R R (fun _ _=>R) (Yg D 0 1 (Vi (M4 (k+h.1))) R R (Rf V8 _) M5 t nn R (Yg al 0 4 (Vi g.2.2.2.2) R R (Rf RY _) M5 J nn R (Xu 1 [(152,Vi (M4 ((M4 (k+h.1))-g.2.2.2.2)))] ?_))))));refine M1Y (vs:=[Vi (if (M4 (i*i))<(M4 (k+h.1)) then (M4 (i*i)) else (M4 (k+h.1))),Vi (M4 ((M4 (k+h.1))-g.2.2.2.2))]) (Vi (if (M4 ((M4 (k+h.1))-g.2.2.2.2))>(if (M4 (i*i))<(M4 (k+h.1)) then (M4 (i*i)) else (M4 (k+h.1))) then (M4 ((M4 (k+h.1))-g.2.2.2.2)) else (if (M4 (i*i))<(M4 (k+h.1)) then (M4 (i*i)) else (M4 (k+h.1))))) R R R (fun _ _=>R) (Yf (Vp D 0) (Vp D 1) R (Rf V8 _) ?_);obtain ⟨cA,bU,bq,a1⟩:=Sx 1 (Vi (if (M4 ((M4 (k+h.1))-g.2.2.2.2))>(if (M4 (i*i))<(M4 (k+h.1)) then (M4 (i*i)) else (M4 (k+h.1))) then (M4 ((M4 (k+h.1))-g.2.2.2.2)) else (if (M4 (i*i))<(M4 (k+h.1)) then (M4 (i*i)) else (M4 (k+h.1))))) M5 t;refine Xp bU R ?_;obtain ⟨r,o,q,w,n,d⟩:=E6 (Cx.j d 2 a1) r o q w n d;have m:=m.th a1 x 2;have t:=bq;refine Xk (Cp (Xu 3 [(155,Vi K),(156,Vi (M4 (K+1))),(12,Vi (M4 (K+1)))] (Xk (Cp (Xu 1 [(157,Vl y C F)] (Yl _ _ R (Ra 0 [Vi (if 1000000000<(M4 (v+(M4 (Int.tdiv (M4 ((M4 ((M4 ((M4 (2000*g.2.1))+a.1))+c.1))-1)) (M4 (a.1+c.1)))))) then 1000000000 else (M4 (v+(M4 (Int.tdiv (M4 ((M4 ((M4 ((M4 (2000*g.2.1))+a.1))+c.1))-1)) (M4 (a.1+c.1))))))),Vi (if (M4 ((M4 (k+h.1))-g.2.2.2.2))>(if (M4 (i*i))<(M4 (k+h.1)) then (M4 (i*i)) else (M4 (k+h.1))) then (M4 ((M4 (k+h.1))-g.2.2.2.2)) else (if (M4 (i*i))<(M4 (k+h.1)) then (M4 (i*i)) else (M4 (k+h.1))))] M0V t nn R) (Xh #[Vi (if 1000000000<(M4 (v+(M4 (Int.tdiv (M4 ((M4 ((M4 ((M4 (2000*g.2.1))+a.1))+c.1))-1)) (M4 (a.1+c.1)))))) then 1000000000 else (M4 (v+(M4 (Int.tdiv (M4 ((M4 ((M4 ((M4 (2000*g.2.1))+a.1))+c.1))-1)) (M4 (a.1+c.1))))))),Vi (if (M4 ((M4 (k+h.1))-g.2.2.2.2))>(if (M4 (i*i))<(M4 (k+h.1)) then (M4 (i*i)) else (M4 (k+h.1))) then (M4 ((M4 (k+h.1))-g.2.2.2.2)) else (if (M4 (i*i))<(M4 (k+h.1)) then (M4 (i*i)) else (M4 (k+h.1))))] 211 R (fun cj cB bJ br bE=>?_))))))));have S:=Cx.e d bE;obtain ⟨r,o,q,t,w,n,d,m⟩:=E8 S r o q t w n d m;have b0:=S.l (e:=(M3 eI eI)) bJ br 1 [(if 1000000000<(M4 (v+(M4 (Int.tdiv (M4 ((M4 ((M4 ((M4 (2000*g.2.1))+a.1))+c.1))-1)) (M4 (a.1+c.1)))))) then 1000000000 else (M4 (v+(M4 (Int.tdiv (M4 ((M4 ((M4 ((M4 (2000*g.2.1))+a.1))+c.1))-1)) (M4 (a.1+c.1)))))),if (M4 ((M4 (k+h.1))-g.2.2.2.2))>(if (M4 (i*i))<(M4 (k+h.1)) then (M4 (i*i)) else (M4 (k+h.1))) then (M4 ((M4 (k+h.1))-g.2.2.2.2)) else (if (M4 (i*i))<(M4 (k+h.1)) then (M4 (i*i)) else (M4 (k+h.1))))];have ar:=Gl f;have f:=Gr f;obtain ⟨aA,aC,cC,bX,a2,a6,cm,b4⟩:=Mb M6r 175 w (Mf 3 R) b0 ar;refine Xx R (Rn bX) ?_;have S:=Cx.u d 3 a2 a6;obtain ⟨r,o,q,t,n,d⟩:=E6 S r o q t n d;have aq:=x.ux 3 m a6;have m:=m.th a2 x 3;have x:=aq;have w:=b4 _ S.st.new;refine Xu 1 [(11,Vl aA ((C++([(if 1000000000<(M4 (v+(M4 (Int.tdiv (M4 ((M4 ((M4 ((M4 (2000*g.2.1))+a.1))+c.1))-1)) (M4 (a.1+c.1)))))) then 1000000000 else (M4 (v+(M4 (Int.tdiv (M4 ((M4 ((M4 ((M4 (2000*g.2.1))+a.1))+c.1))-1)) (M4 (a.1+c.1)))))),if (M4 ((M4 (k+h.1))-g.2.2.2.2))>(if (M4 (i*i))<(M4 (k+h.1)) then (M4 (i*i)) else (M4 (k+h.1))) then (M4 ((M4 (k+h.1))-g.2.2.2.2)) else (if (M4 (i*i))<(M4 (k+h.1)) then (M4 (i*i)) else (M4 (k+h.1))))]:List (Int×Int)))) aC)] (Xe R (Kl (Kt (Cn [(3,Vp A 0),(10,Vp D 0),(11,Vl aA ((C++([(if 1000000000<(M4 (v+(M4 (Int.tdiv (M4 ((M4 ((M4 ((M4 (2000*g.2.1))+a.1))+c.1))-1)) (M4 (a.1+c.1)))))) then 1000000000 else (M4 (v+(M4 (Int.tdiv (M4 ((M4 ((M4 ((M4 (2000*g.2.1))+a.1))+c.1))-1)) (M4 (a.1+c.1)))))),if (M4 ((M4 (k+h.1))-g.2.2.2.2))>(if (M4 (i*i))<(M4 (k+h.1)) then (M4 (i*i)) else (M4 (k+h.1))) then (M4 ((M4 (k+h.1))-g.2.2.2.2)) else (if (M4 (i*i))<(M4 (k+h.1)) then (M4 (i*i)) else (M4 (k+h.1))))]:List (Int×Int)))) aC),(12,Vi (M4 (K+1))),(70,Vl H z I),(71,Vi ((z).length:Int)),(72,Vi B)] (fun Z=>?_)))));refine Cp (Xu 2 [(161,Vi (M4 (B+1))),(72,Vi (M4 (B+1)))] (Xe R ?_));obtain rfl:=Sj f;obtain ⟨o,q,w,n,d⟩:=E5 (Cx.s d [1,2,3,4]) o q w n d;have x:=x.px [1,2,3];exact Kt ⟨(am,if 1000000000<(M4 (v+(M4 (Int.tdiv (M4 ((M4 ((M4 ((M4 (2000*g.2.1))+a.1))+c.1))-1)) (M4 (a.1+c.1)))))) then 1000000000 else (M4 (v+(M4 (Int.tdiv (M4 ((M4 ((M4 ((M4 (2000*g.2.1))+a.1))+c.1))-1)) (M4 (a.1+c.1)))))),if (M4 ((M4 (k+h.1))-g.2.2.2.2))>(if (M4 (i*i))<(M4 (k+h.1)) then (M4 (i*i)) else (M4 (k+h.1))) then (M4 ((M4 (k+h.1))-g.2.2.2.2)) else (if (M4 (i*i))<(M4 (k+h.1)) then (M4 (i*i)) else (M4 (k+h.1))),(C++([(if 1000000000<(M4 (v+(M4 (Int.tdiv (M4 ((M4 ((M4 ((M4 (2000*g.2.1))+a.1))+c.1))-1)) (M4 (a.1+c.1)))))) then 1000000000 else (M4 (v+(M4 (Int.tdiv (M4 ((M4 ((M4 ((M4 (2000*g.2.1))+a.1))+c.1))-1)) (M4 (a.1+c.1)))))),if (M4 ((M4 (k+h.1))-g.2.2.2.2))>(if (M4 (i*i))<(M4 (k+h.1)) then (M4 (i*i)) else (M4 (k+h.1))) then (M4 ((M4 (k+h.1))-g.2.2.2.2)) else (if (M4 (i*i))<(M4 (k+h.1)) then (M4 (i*i)) else (M4 (k+h.1))))]:List (Int×Int))),M4 (K+1),M4 (B+1),aA,aC),⟨R,R,R,R,R,R,R,T0⟩,⟨ai,m,d,x,o,q,r,t,w,n⟩,Ns _⟩
     refine Ck (Kt (Cp (Xu 3 [(155,Vi K),(156,Vi (M4 (K+1))),(12,Vi (M4 (K+1)))] (Xk (Cp (Xu 1 [(157,Vl y C F)] (Yl _ _ R (Ra 0 [Vi (if 1000000000<(M4 (v+(M4 (Int.tdiv (M4 ((M4 ((M4 ((M4 (2000*g.2.1))+a.1))+c.1))-1)) (M4 (a.1+c.1)))))) then 1000000000 else (M4 (v+(M4 (Int.tdiv (M4 ((M4 ((M4 ((M4 (2000*g.2.1))+a.1))+c.1))-1)) (M4 (a.1+c.1))))))),Vi (M4 (k+h.1))] M0V t nn R) (Xh #[Vi (if 1000000000<(M4 (v+(M4 (Int.tdiv (M4 ((M4 ((M4 ((M4 (2000*g.2.1))+a.1))+c.1))-1)) (M4 (a.1+c.1)))))) then 1000000000 else (M4 (v+(M4 (Int.tdiv (M4 ((M4 ((M4 ((M4 (2000*g.2.1))+a.1))+c.1))-1)) (M4 (a.1+c.1))))))),Vi (M4 (k+h.1))] 211 R (fun ck cD bK bs bF=>?_)))))))));have S:=Cx.e d bF;obtain ⟨r,o,q,t,w,n,d,m⟩:=E8 S r o q t w n d m;have b1:=S.l (e:=(M3 eI eI)) bK bs 1 [(if 1000000000<(M4 (v+(M4 (Int.tdiv (M4 ((M4 ((M4 ((M4 (2000*g.2.1))+a.1))+c.1))-1)) (M4 (a.1+c.1)))))) then 1000000000 else (M4 (v+(M4 (Int.tdiv (M4 ((M4 ((M4 ((M4 (2000*g.2.1))+a.1))+c.1))-1)) (M4 (a.1+c.1)))))),M4 (k+h.1))];have ar:=Gl f;have f:=Gr f;obtain ⟨aL,aO,cE,bY,a3,a7,cn,b5⟩:=Mb M6r 175 w (Mf 3 R) b1 ar;refine Xx R (Rn bY) ?_;have S:=Cx.u d 3 a3 a7;obtain ⟨r,o,q,t,n,d⟩:=E6 S r o q t n d;have aq:=x.ux 3 m a7;have m:=m.th a3 x 3;have x:=aq;have w:=b5 _ S.st.new;refine Xu 1 [(11,Vl aL ((C++([(if 1000000000<(M4 (v+(M4 (Int.tdiv (M4 ((M4 ((M4 ((M4 (2000*g.2.1))+a.1))+c.1))-1)) (M4 (a.1+c.1)))))) then 1000000000 else (M4 (v+(M4 (Int.tdiv (M4 ((M4 ((M4 ((M4 (2000*g.2.1))+a.1))+c.1))-1)) (M4 (a.1+c.1)))))),M4 (k+h.1))]:List (Int×Int)))) aO)] (Xe R (Kl (Kt (Cp (Xu 2 [(161,Vi (M4 (B+1))),(72,Vi (M4 (B+1)))] (Xe R ?_))))));obtain rfl:=Sj f;obtain ⟨o,q,w,n,d⟩:=E5 (Cx.s d [1,2,3,4]) o q w n d;have x:=x.px [1,2,3];exact Kt ⟨(am,if 1000000000<(M4 (v+(M4 (Int.tdiv (M4 ((M4 ((M4 ((M4 (2000*g.2.1))+a.1))+c.1))-1)) (M4 (a.1+c.1)))))) then 1000000000 else (M4 (v+(M4 (Int.tdiv (M4 ((M4 ((M4 ((M4 (2000*g.2.1))+a.1))+c.1))-1)) (M4 (a.1+c.1)))))),M4 (k+h.1),(C++([(if 1000000000<(M4 (v+(M4 (Int.tdiv (M4 ((M4 ((M4 ((M4 (2000*g.2.1))+a.1))+c.1))-1)) (M4 (a.1+c.1)))))) then 1000000000 else (M4 (v+(M4 (Int.tdiv (M4 ((M4 ((M4 ((M4 (2000*g.2.1))+a.1))+c.1))-1)) (M4 (a.1+c.1)))))),M4 (k+h.1))]:List (Int×Int))),M4 (K+1),M4 (B+1),aL,aO),⟨R,R,R,R,R,R,R,T0⟩,⟨ai,m,d,x,o,q,r,t,w,n⟩,Ns _⟩
   refine Ck (Kt (Cp (Xu 1 [(157,Vl y C F)] (Yl _ _ R (Ra 0 [Vi (if 1000000000<(M4 (v+(M4 (Int.tdiv (M4 ((M4 ((M4 ((M4 (2000*g.2.1))+a.1))+c.1))-1)) (M4 (a.1+c.1)))))) then 1000000000 else (M4 (v+(M4 (Int.tdiv (M4 ((M4 ((M4 ((M4 (2000*g.2.1))+a.1))+c.1))-1)) (M4 (a.1+c.1))))))),Vi (M4 (k+h.1))] M0V t nn R) (Xh #[Vi (if 1000000000<(M4 (v+(M4 (Int.tdiv (M4 ((M4 ((M4 ((M4 (2000*g.2.1))+a.1))+c.1))-1)) (M4 (a.1+c.1)))))) then 1000000000 else (M4 (v+(M4 (Int.tdiv (M4 ((M4 ((M4 ((M4 (2000*g.2.1))+a.1))+c.1))-1)) (M4 (a.1+c.1))))))),Vi (M4 (k+h.1))] 211 R (fun cl cF bL bt bG=>?_))))));have S:=Cx.e d bG;obtain ⟨r,o,q,t,w,n,d,m⟩:=E8 S r o q t w n d m;have b2:=S.l (e:=(M3 eI eI)) bL bt 1 [(if 1000000000<(M4 (v+(M4 (Int.tdiv (M4 ((M4 ((M4 ((M4 (2000*g.2.1))+a.1))+c.1))-1)) (M4 (a.1+c.1)))))) then 1000000000 else (M4 (v+(M4 (Int.tdiv (M4 ((M4 ((M4 ((M4 (2000*g.2.1))+a.1))+c.1))-1)) (M4 (a.1+c.1)))))),M4 (k+h.1))];have ar:=Gl f;have f:=Gr f;obtain ⟨aB,aD,cG,bZ,a4,a8,co,b6⟩:=Mb M6r 175 w (Mf 3 R) b2 ar;refine Xx R (Rn bZ) ?_;have S:=Cx.u d 3 a4 a8;obtain ⟨r,o,q,t,n,d⟩:=E6 S r o q t n d;have aq:=x.ux 3 m a8;have m:=m.th a4 x 3;have x:=aq;have w:=b6 _ S.st.new;refine Xu 1 [(11,Vl aB ((C++([(if 1000000000<(M4 (v+(M4 (Int.tdiv (M4 ((M4 ((M4 ((M4 (2000*g.2.1))+a.1))+c.1))-1)) (M4 (a.1+c.1)))))) then 1000000000 else (M4 (v+(M4 (Int.tdiv (M4 ((M4 ((M4 ((M4 (2000*g.2.1))+a.1))+c.1))-1)) (M4 (a.1+c.1)))))),M4 (k+h.1))]:List (Int×Int)))) aD)] (Xe R (Kl (Kt (Cn [(3,Vp A 0),(10,Vp D 0),(11,Vl aB ((C++([(if 1000000000<(M4 (v+(M4 (Int.tdiv (M4 ((M4 ((M4 ((M4 (2000*g.2.1))+a.1))+c.1))-1)) (M4 (a.1+c.1)))))) then 1000000000 else (M4 (v+(M4 (Int.tdiv (M4 ((M4 ((M4 ((M4 (2000*g.2.1))+a.1))+c.1))-1)) (M4 (a.1+c.1)))))),M4 (k+h.1))]:List (Int×Int)))) aD),(12,Vi K),(70,Vl H z I),(71,Vi ((z).length:Int)),(72,Vi B)] (fun Z=>?_)))));refine Cp (Xu 2 [(161,Vi (M4 (B+1))),(72,Vi (M4 (B+1)))] (Xe R ?_));obtain rfl:=Sj f;obtain ⟨o,q,w,n,d⟩:=E5 (Cx.s d [1,2,3,4]) o q w n d;have x:=x.px [1,2,3];exact Kt ⟨(am,if 1000000000<(M4 (v+(M4 (Int.tdiv (M4 ((M4 ((M4 ((M4 (2000*g.2.1))+a.1))+c.1))-1)) (M4 (a.1+c.1)))))) then 1000000000 else (M4 (v+(M4 (Int.tdiv (M4 ((M4 ((M4 ((M4 (2000*g.2.1))+a.1))+c.1))-1)) (M4 (a.1+c.1)))))),M4 (k+h.1),(C++([(if 1000000000<(M4 (v+(M4 (Int.tdiv (M4 ((M4 ((M4 ((M4 (2000*g.2.1))+a.1))+c.1))-1)) (M4 (a.1+c.1)))))) then 1000000000 else (M4 (v+(M4 (Int.tdiv (M4 ((M4 ((M4 ((M4 (2000*g.2.1))+a.1))+c.1))-1)) (M4 (a.1+c.1)))))),M4 (k+h.1))]:List (Int×Int))),K,M4 (B+1),aB,aD),⟨R,R,R,R,R,R,R,T0⟩,⟨ai,m,d,x,o,q,r,t,w,n⟩,Ns _⟩
 refine Ce (Ke ?_);obtain rfl:=Sj f;have aj:=Sj ai;subst aj;have f:=aE;refine Ke (Ki (Kt (Cn [(11,Vl y C F)] (fun Z=>?_))));refine Cs (Xu 4 [(162,Vl y C F),(4,Vl y C F),(5,Vi (-1)),(6,Vi 0)] (Xk (Cr (Rr (Rv [Vl y C F,Vi (-1),Vi 0] ⟨R,R,R,T0⟩ ?_)))));obtain rfl:=Sj f;have Q:=d.pk [2,3] [Bk y,G] R;have aw:=Pk (ls:=[[A],[D],Bk y,G]) [2,3] [Bk y,G] R;have O:=x.pk [2] [Bk y] R;exact ⟨y,F,R,m,Q,O,w.sub aw⟩
def Tv (b:List (Int×Int×Int×Int×Int)) (d:Int) (e:Int×Int):Option (Mm (Int×Int) (Unit⊕Int)):=
match e with
| (a,c)=>
(if (decide (c<d))=true then
(if ((M4 (a+1))==((b).length:Int))=true then
some (.done (.inl ()))
else
((idx b (M4 (a+1))).bind fun f=>
some (.next (M4 (a+1),M4 (c+f.2.1)))))
else
some (.done (.inr a)))
def TZ (b:List (Int×Int×Int×Int×Int)) (d:Int):Option (Mm Int (Unit⊕Unit)):=
match d with
| a=>
(if (decide (a<((b).length:Int)))=true then
((idx b a).bind fun c=>
(if (decide (c.2.1<1))=true then
some (.done (.inl ()))
else
(if (decide (c.2.1>1000000))=true then
some (.done (.inl ()))
else
some (.next (M4 (a+1))))))
else
some (.done (.inr ())))
def TS (b:List (Int×Int×Int×Int×Int)) (c:Int) (d:Int):Option Int:=
(if (decide (c<0))=true then
some (-1)
else
(if (decide (c≥((b).length:Int)))=true then
some (-1)
else
(if (decide (d<0))=true then
some (-1)
else
(if (decide (d>1000000))=true then
some (-1)
else
((loop (TZ b) 0).bind fun a=>match a with
| (.inl _)=>some (-1)
| (.inr _)=>((loop (Tv b d) (c,0)).bind fun a=>match a with
| (.inl _)=>some (-1)
| (.inr e)=>some e))))))
theorem M0X (f g c m e L r x)(k:MS r [x])(l:Ma (M3 eI (M7)) r (fl [x]) f g c)(a:TS c m e=some L):Md Tryz.prog 100 [Vl f c g,Vi m,Vi e] r fun Z u=>Z=Vi L∧Ev [] r u:=by
 refine Cw hmx Tryz.func100 R R R ?_;have d:=Ev.refl [] r;have o:=FR.nil r.heap.size;refine Cs (Xu 1 [(6,Vi 0)] (Xk (Cq (Cs (Xu 3 [(10,Vi m),(11,Bd (m<0)),(12,Bd (m<0))] (Xw 12 _ R a (fun a=>?_) (fun a=>?_)))))))
 · refine Xu 13 [(13,U0),(14,U0),(15,U0),(16,U0),(17,.bool true),(18,.bool true),(19,U0),(20,U0),(21,.bool true),(22,.bool true),(23,U0),(24,U0),(25,.bool true)] (Xk (Me R (Cs (Xu 1 [(6,Vi (-1))] (Xk (Cr (Kr (Rz (Vi (-1)) R ?_))))))));obtain rfl:=Sj a;exact ⟨R,d⟩
 refine Xu 2 [(13,Vi m),(14,Vl f c g)] (Xz MF R (Xu 3 [(16,Bd (m≥((c).length:Int))),(17,Bd (m≥((c).length:Int))),(18,Bd (m≥((c).length:Int)))] (Xw 18 _ R a (fun a=>?_) (fun a=>?_))))
 · refine Xu 7 [(19,U0),(20,U0),(21,.bool true),(22,.bool true),(23,U0),(24,U0),(25,.bool true)] (Xk (Me R (Cs (Xu 1 [(6,Vi (-1))] (Xk (Cr (Kr (Rz (Vi (-1)) R ?_))))))));obtain rfl:=Sj a;exact ⟨R,d⟩
 refine Xu 4 [(19,Vi e),(20,Bd (e<0)),(21,Bd (e<0)),(22,Bd (e<0))] (Xw 22 _ R a (fun a=>?_) (fun a=>?_))
 · refine Xu 3 [(23,U0),(24,U0),(25,.bool true)] (Xk (Me R (Cs (Xu 1 [(6,Vi (-1))] (Xk (Cr (Kr (Rz (Vi (-1)) R ?_))))))));obtain rfl:=Sj a;exact ⟨R,d⟩
 refine Xu 3 [(23,Vi e),(24,Bd (e>1000000)),(25,Bd (e>1000000))] (Xk (Ci _ R a (fun a=>?_) (fun a=>?_)))
 · refine Cs (Xu 1 [(6,Vi (-1))] (Xk (Cn [(6,Vi (-1))] (fun v=>?_))));refine Cr (Kr (Rz (Vi (-1)) R ?_));obtain rfl:=Sj a;exact ⟨R,d⟩
 refine Ck (Kt (Cq (Cs (Xu 1 [(26,Vl f c g)] (Xz MF R (Xu 1 [(28,Vi 0)] (Xk (Cn [(0,Vl f c g),(1,Vi m),(2,Vi e),(26,Vl f c g),(27,Vi ((c).length:Int)),(28,Vi 0)] (fun v=>?_)))))))));refine Cb ?_;obtain ⟨O,E,C⟩:=Bs a;obtain ⟨B,E⟩:=Lo E;refine Cl (Lr hmx (σ:=Nat×Int) (fun p=>match p with | (_,q)=>[(0,Vl f c g),(1,Vi m),(2,Vi e),(26,Vl f c g),(27,Vi ((c).length:Int)),(28,Vi q)]) (fun p u=>match p with | (F,q)=>Mh (TZ c) F q=some O∧Ev [] r u∧MS u [x]∧FR r.heap.size []∧Ma (M3 eI (M7)) u (fl [x]) f g c) (fun p=>p.1) (B,0) ⟨R,R,R,R,R,R,T0⟩ ⟨E,d,k,o,l⟩ ?_);rintro ⟨B,q⟩ v af ⟨w,d,k,o,l⟩;rcases B with _ | B
 · exact (Lz w).elim
 obtain ⟨ab,a,w⟩:=Bs w;refine Cs (Xu 1 [(29,Bd (q<((c).length:Int)))] (Xk (Cn [(0,Vl f c g),(1,Vi m),(2,Vi e),(26,Vl f c g),(27,Vi ((c).length:Int)),(28,Vi q),(29,Bd (q<((c).length:Int)))] (fun v=>?_))));refine Cq (Ci _ R a (fun a=>?_) (fun a=>?_))
 · refine Ck (Kt (Cq (Cb (Cs ?_))));obtain ⟨i,Y,a⟩:=Bs a;refine Zf [Vi i.1,Vi i.2.1,Vi i.2.2.1,Vi i.2.2.2.1,Vi i.2.2.2.2] (l.el MF) R3 Y R (fun _=>R) (fun _=>Xj #[Vi 0,Vi 0,Vi 0,Vi 0,Vi 0] R (fun H ad K z S=>?_));have o:=o.box d.size K;obtain ⟨l,k,d⟩:=E3 (Cx.b k S K z) l k d;obtain ⟨ac,U,Q,J⟩:=Sa [Vi i.1,Vi i.2.1,Vi i.2.2.1,Vi i.2.2.2.1,Vi i.2.2.2.2] R3 z R R R;refine Xp U R ?_;obtain ⟨l,k⟩:=E2 (Cx.j k 0 J) l k;have d:=d.th J o 0;have z:=Q;refine Xk (Cs (Yg H 0 1 (Vi i.2.1) R R (Rf Pj _) M5 z nn R (Xu 2 [(34,Bd (i.2.1<1)),(35,Bd (i.2.1<1))] (Xw 35 _ R a (fun a=>?_) (fun a=>?_)))))
   · refine Xu 4 [(36,U0),(37,U0),(38,U0),(39,.bool true)] (Xk (Me R (Cs (Xu 1 [(6,Vi (-1))] (Xk (Cr (Kb (Kr ?_))))))));obtain rfl:=Sj a;have t:=Sj w;subst t;have a:=C;refine Kr (Kb (Kr (Rz (Vi (-1)) R ?_)));obtain rfl:=Sj a;exact ⟨R,d⟩
   refine Yg H 0 1 (Vi i.2.1) R R (Rf Pj _) M5 z nn R (Xu 2 [(38,Bd (i.2.1>1000000)),(39,Bd (i.2.1>1000000))] (Xk (Ci _ R a (fun a=>?_) (fun a=>?_))))
   · refine Cs (Xu 1 [(6,Vi (-1))] (Xk (Cr (Kb (Kr ?_)))));obtain rfl:=Sj a;have t:=Sj w;subst t;have a:=C;refine Kr (Kb (Kr (Rz (Vi (-1)) R ?_)));obtain rfl:=Sj a;exact ⟨R,d⟩
   refine Ck (Kl (Kt (Cp (Xu 2 [(40,Vi (M4 (q+1))),(28,Vi (M4 (q+1)))] (Xe R ?_)))));obtain rfl:=Sj a;obtain ⟨l,k⟩:=E2 (Cx.s k [1]) l k;have o:=o.px [];exact Kt ⟨(B,M4 (q+1)),⟨R,R,R,R,R,R,T0⟩,⟨w,d,k,o,l⟩,Ns _⟩
 refine Ce (Ke ?_);obtain rfl:=Sj a;have t:=Sj w;subst t;have a:=C;refine Ke (Ki (Kt (Cn [(0,Vl f c g),(1,Vi m),(2,Vi e)] (fun v=>?_))));refine Cs (Xu 1 [(9,Vi 0)] (Xk (Cq (Cb ?_))));obtain ⟨N,D,I⟩:=Bs a;obtain ⟨A,D⟩:=Lo D;refine Cl (Lr hmx (σ:=Nat×Int×Int) (fun p=>match p with | (_,h,n)=>[(0,Vl f c g),(1,Vi h),(2,Vi e),(9,Vi n)]) (fun p u=>match p with | (F,h,n)=>Mh (Tv c e) F (h,n)=some N∧Ev [] r u∧MS u [x]∧FR r.heap.size []∧Ma (M3 eI (M7)) u (fl [x]) f g c) (fun p=>p.1) (A,m,0) ⟨R,R,R,R,T0⟩ ⟨D,d,k,o,l⟩ ?_);rintro ⟨A,h,n⟩ v ae ⟨y,d,k,o,l⟩;rcases A with _ | A
 · exact (Lz y).elim
 obtain ⟨aa,a,y⟩:=Bs y;refine Cq (Cs (Xu 3 [(41,Vi n),(42,Vi e),(43,Bd (n<e))] (Xk (Cn [(0,Vl f c g),(1,Vi h),(2,Vi e),(9,Vi n),(43,Bd (n<e))] (fun v=>?_)))));refine Ci _ R a (fun a=>?_) (fun a=>?_)
 · refine Ck (Kt (Cb (Cs (Xu 3 [(44,Vi h),(45,Vi (M4 (h+1))),(1,Vi (M4 (h+1)))] (Xk (Cq (Cs (Xu 2 [(46,Vi (M4 (h+1))),(47,Vl f c g)] (Xz MF R ?_)))))))));refine Xu 1 [(49,.bool ((M4 (h+1))==((c).length:Int)))] (Xk (Ci _ R a (fun a=>?_) (fun a=>?_)))
   · refine Cs (Xu 1 [(6,Vi (-1))] (Xk (Cr (Kr (Kb ?_)))));obtain rfl:=Sj a;have t:=Sj y;subst t;have a:=I;refine Kr (Kb (Kr (Rz (Vi (-1)) R ?_)));obtain rfl:=Sj a;exact ⟨R,d⟩
   refine Ck (Kt (Cp (Xu 3 [(50,Vi n),(51,Vl f c g),(52,Vi (M4 (h+1)))] ?_)));obtain ⟨G,X,a⟩:=Bs a;refine Xq (l.el MF) Pj M5 X R (fun _=>R) (fun _=>Xu 2 [(56,Vi (M4 (n+G.2.1))),(9,Vi (M4 (n+G.2.1)))] (Xe R (Kl ?_)));obtain rfl:=Sj a;exact Kt ⟨(A,M4 (h+1),M4 (n+G.2.1)),⟨R,R,R,R,T0⟩,⟨y,d,k,o,l⟩,Ns _⟩
 refine Ce (Ke ?_);obtain rfl:=Sj a;have t:=Sj y;subst t;have a:=I;refine Ke (Ki (Kt (Cn [(1,Vi h)] (fun v=>?_))));refine Cs (Xu 2 [(57,Vi h),(6,Vi h)] (Xk (Cr (Rz (Vi h) R ?_))));obtain rfl:=Sj a;exact ⟨R,d⟩
def T3 (d:List (Int×Int×Int×Int×Int)) (e:Int) (f:(List Int)×Int):Option (Mm ((List Int)×Int) (Unit⊕(List Int))):=
match f with
| (a,b)=>
(if (decide ((M4 (b+1))<((d).length:Int)))=true then
((TS d b e).bind fun c=>
(if (decide (c<0))=true then
some (.done (.inl ()))
else
(if a.length+([c]).length≤4294967296 then
some (.next ((a++[c]),M4 (b+1)))
else none)))
else
some (.done (.inr a)))
def Tw (d:List (Int×(List UInt8)×Int×Int×Int×Int×Int×Int)) (b:List (Int×Int×Int×Int×Int)) (e:Int):Option (Mm Int (Unit⊕Unit)):=
match e with
| a=>
(if (decide (a<((b).length:Int)))=true then
((idx b a).bind fun c=>
(if (decide (c.1<0))=true then
some (.done (.inl ()))
else
(if (decide (c.1≥((d).length:Int)))=true then
some (.done (.inl ()))
else
some (.next (M4 (a+1))))))
else
some (.done (.inr ())))
def Td (g:List (Int×(List UInt8)×Int×Int×Int×Int×Int×Int)) (a:List (Int×Int×Int×Int×Int)) (d:Int) (h:Int) (c:Int):Option ((List Int)×Int):=
((Vt a).bind fun e=>
(if (e != 0)=true then
some ([],e)
else
(if (decide (c<1))=true then
some ([],2)
else
(if (decide (c>1000000))=true then
some ([],2)
else
(if (decide (d<h))=true then
some ([],1)
else
(if (decide (d>(M4 (((a).length:Int)+1))))=true then
some ([],1)
else
((loop (Tw g a) 0).bind fun b=>match b with
| (.inl _)=>some ([],1)
| (.inr _)=>((loop (T3 a c) (([]:List Int),0)).bind fun b=>match b with
| (.inl _)=>some ([],14)
| (.inr f)=>some (f,0)))))))))
theorem M0s (G H z i k d F aa o ab x m)(c:MS x [m])(B:Ma (M3 eI (M3 Mv (M3 eI (M3 eI (M7))))) x (fl [m]) G H z)(h:Ma (M3 eI (M7)) x (fl [m]) i k d)(a:Td z d F aa o=some ab):Md Tryz.prog 83 [Vl G z H,Vl i d k,Vi F,Vi aa,Vi o] x fun ak y=>∃ S an,ak=.tuple #[Vl S ab.1 an,Vi ab.2]∧Ev [] x y∧MS y [Bk S,m]∧FR x.heap.size [Bk S]∧M9 eI 3 y (fl [Bk S,m]) S an ab.1:=by
 refine Cw hmx Tryz.func83 R R R ?_;have f:=Ev.refl [] x;have g:=FR.nil x.heap.size;refine Cs (Xu 2 [(10,Z0),(11,Vi 0)] (Xk (Cq (Cs (Xu 1 [(18,Vl i d k)] ?_)))));obtain ⟨Q,ai,a⟩:=Bs a;obtain ⟨ag,ah⟩:=Kc c [] [0];have ad:=Zo i k d _ x _ ag (h.sub ah) ai;refine Xv ad R ?_;rintro ak a5 ⟨rfl,aD⟩;obtain ⟨B,h,c,f⟩:=E4 (Cx.e c aD) B h c f;refine Xu 1 [(12,Vi Q)] (Xk (Cs (Xu 2 [(20,Vi Q),(21,.bool (Q != 0))] (Xk (Ci _ R a (fun a=>?_) (fun a=>?_))))))
 · refine Cs (Xu 3 [(22,Vi Q),(10,Z0),(11,Vi Q)] (Xk (Cr (Kr (Rr (Rv [Z0,Vi Q] ⟨R,R,T0⟩ ?_))))));obtain rfl:=Sj a;have r:=c.pick [none,some 0] [Bk none,m] R;have q:=g.pick [none] [Bk none] R;exact ⟨none,0,R,f,r,q,M9.nil _ _ _ _⟩
 refine Ck (Kt (Cq (Cs (Xu 3 [(23,Vi o),(24,Bd (o<1)),(25,Bd (o<1))] (Xw 25 _ R a (fun a=>?_) (fun a=>?_))))))
 · refine Xu 3 [(26,U0),(27,U0),(28,.bool true)] (Xk (Me R (Cs (Xu 2 [(10,Z0),(11,Vi 2)] (Xk (Cr (Kr (Rr (Rv [Z0,Vi 2] ⟨R,R,T0⟩ ?_)))))))));obtain rfl:=Sj a;have r:=c.pick [none,some 0] [Bk none,m] R;have q:=g.pick [none] [Bk none] R;exact ⟨none,0,R,f,r,q,M9.nil _ _ _ _⟩
 refine Xu 3 [(26,Vi o),(27,Bd (o>1000000)),(28,Bd (o>1000000))] (Xk (Ci _ R a (fun a=>?_) (fun a=>?_)))
 · refine Cs (Xu 2 [(10,Z0),(11,Vi 2)] (Xk (Cr (Kr (Rr (Rv [Z0,Vi 2] ⟨R,R,T0⟩ ?_))))));obtain rfl:=Sj a;have r:=c.pick [none,some 0] [Bk none,m] R;have q:=g.pick [none] [Bk none] R;exact ⟨none,0,R,f,r,q,M9.nil _ _ _ _⟩
 refine Ck (Kt (Cq (Cs (Xu 4 [(29,Vi F),(30,Vi aa),(31,Bd (F<aa)),(32,Bd (F<aa))] (Xw 32 _ R a (fun a=>?_) (fun a=>?_))))))
 · refine Xu 6 (Un 33 5++[(38,.bool true)]) (Xk (Cn [(0,Vl G z H),(1,Vl i d k),(4,Vi o),(38,.bool true)] (fun K=>?_)));refine Me R (Cs (Xu 2 [(10,Z0),(11,Vi 1)] (Xk (Cr (Kr (Rr (Rv [Z0,Vi 1] ⟨R,R,T0⟩ ?_)))))));obtain rfl:=Sj a;have r:=c.pick [none,some 0] [Bk none,m] R;have q:=g.pick [none] [Bk none] R;exact ⟨none,0,R,f,r,q,M9.nil _ _ _ _⟩
 refine Xu 2 [(33,Vi F),(34,Vl i d k)] (Xz MF R (Xu 3 [(36,Vi (M4 (((d).length:Int)+1))),(37,Bd (F>(M4 (((d).length:Int)+1)))),(38,Bd (F>(M4 (((d).length:Int)+1))))] (Xk (Cn [(0,Vl G z H),(1,Vl i d k),(4,Vi o),(38,Bd (F>(M4 (((d).length:Int)+1))))] (fun K=>?_)))));refine Ci _ R a (fun a=>?_) (fun a=>?_)
 · refine Cs (Xu 2 [(10,Z0),(11,Vi 1)] (Xk (Cr (Kr (Rr (Rv [Z0,Vi 1] ⟨R,R,T0⟩ ?_))))));obtain rfl:=Sj a;have r:=c.pick [none,some 0] [Bk none,m] R;have q:=g.pick [none] [Bk none] R;exact ⟨none,0,R,f,r,q,M9.nil _ _ _ _⟩
 refine Ck (Kt (Cq (Cs (Xu 1 [(39,Vl i d k)] (Xz MF R (Xu 1 [(41,Vi 0)] (Xk (Cb ?_))))))));obtain ⟨ax,af,ac⟩:=Bs a;obtain ⟨Z,af⟩:=Lo af;refine Cl (Lr hmx (σ:=Nat×Int) (fun C=>match C with | (_,D)=>[(0,Vl G z H),(1,Vl i d k),(4,Vi o),(39,Vl i d k),(40,Vi ((d).length:Int)),(41,Vi D)]) (fun C y=>match C with | (aj,D)=>Mh (Tw z d) aj D=some ax∧Ev [] x y∧(fun N=>MS y N∧FR x.heap.size []∧Ma (M3 eI (M3 Mv (M3 eI (M3 eI (M7))))) y (fl N) G H z∧Ma (M3 eI (M7)) y (fl N) i k d) [m]) (fun C=>C.1) (Z,0) ⟨R,R,R,R,R,R,T0⟩ ⟨af,f,c,g,B,h⟩ ?_);rintro ⟨Z,D⟩ K aS ⟨L,f,c,g,B,h⟩;rcases Z with _ | Z
 · exact (Lz L).elim
 obtain ⟨aZ,a,L⟩:=Bs L;refine Cs (Xu 1 [(42,Bd (D<((d).length:Int)))] (Xk (Cn [(0,Vl G z H),(1,Vl i d k),(4,Vi o),(39,Vl i d k),(40,Vi ((d).length:Int)),(41,Vi D),(42,Bd (D<((d).length:Int)))] (fun K=>?_))));refine Cq (Ci _ R a (fun a=>?_) (fun a=>?_))
 · refine Ck (Kt (Cq (Cb (Cs ?_))));obtain ⟨t,aO,a⟩:=Bs a;refine Zf [Vi t.1,Vi t.2.1,Vi t.2.2.1,Vi t.2.2.2.1,Vi t.2.2.2.2] (h.el MF) R3 aO R (fun _=>R) (fun _=>Xj #[Vi 0,Vi 0,Vi 0,Vi 0,Vi 0] R (fun am a0 av U aA=>?_));have g:=g.box f.size av;obtain ⟨B,h,c,f⟩:=E4 (Cx.b c aA av U) B h c f;obtain ⟨a1,aI,ay,aq⟩:=Sa [Vi t.1,Vi t.2.1,Vi t.2.2.1,Vi t.2.2.2.1,Vi t.2.2.2.2] R3 U R R R;refine Xp aI R ?_;obtain ⟨B,h,c⟩:=E3 (Cx.j c 0 aq) B h c;have f:=f.th aq g 0;have U:=ay;refine Xk (Cs (Yg am 0 0 (Vi t.1) R R (Rf Pm _) M5 U nn R (Xu 2 [(47,Bd (t.1<0)),(48,Bd (t.1<0))] (Xw 48 _ R a (fun a=>?_) (fun a=>?_)))))
   · refine Xu 6 [(49,U0),(50,U0),(51,U0),(52,U0),(53,U0),(54,.bool true)] (Xk (Me R (Cs (Xu 2 [(10,Z0),(11,Vi 1)] (Xk (Cr (Kb (Kr ?_))))))));obtain rfl:=Sj a;have E:=Sj L;subst E;have a:=ac;refine Kr (Kb (Kr (Rr (Rv [Z0,Vi 1] ⟨R,R,T0⟩ ?_))));obtain rfl:=Sj a;have r:=c.pick [none,some 1] [Bk none,m] R;have q:=g.pick [none] [Bk none] R;exact ⟨none,0,R,f,r,q,M9.nil _ _ _ _⟩
   refine Yg am 0 0 (Vi t.1) R R (Rf Pm _) M5 U nn R (Xu 1 [(51,Vl G z H)] (Xz My R (Xu 2 [(53,Bd (t.1≥((z).length:Int))),(54,Bd (t.1≥((z).length:Int)))] (Xk (Ci _ R a (fun a=>?_) (fun a=>?_))))))
   · refine Cs (Xu 2 [(10,Z0),(11,Vi 1)] (Xk (Cr (Kb (Kr ?_)))));obtain rfl:=Sj a;have E:=Sj L;subst E;have a:=ac;refine Kr (Kb (Kr (Rr (Rv [Z0,Vi 1] ⟨R,R,T0⟩ ?_))));obtain rfl:=Sj a;have r:=c.pick [none,some 1] [Bk none,m] R;have q:=g.pick [none] [Bk none] R;exact ⟨none,0,R,f,r,q,M9.nil _ _ _ _⟩
   refine Ck (Kl (Kt (Cp (Xu 2 [(55,Vi (M4 (D+1))),(41,Vi (M4 (D+1)))] (Xe R ?_)))));obtain rfl:=Sj a;obtain ⟨B,h,c⟩:=E3 (Cx.s c [1]) B h c;have g:=g.px [];exact Kt ⟨(Z,M4 (D+1)),⟨R,R,R,R,R,R,T0⟩,⟨L,f,c,g,B,h⟩,Ns _⟩
 refine Ce (Ke ?_);obtain rfl:=Sj a;have E:=Sj L;subst E;have a:=ac;refine Ke (Ki (Kt (Cn [(1,Vl i d k),(4,Vi o)] (fun K=>?_))));refine Cs (Xu 1 [(15,Z0)] (Xk (Cq (Cs (Xu 1 [(16,Vi 0)] (Xk (Cb ?_)))))));obtain ⟨h,c⟩:=E2 (Cx.n c) h c;have g:=g.pn;have aG:=M9.nil eI 3 aS (fl [Bk none,m]);obtain ⟨aw,ae,ap⟩:=Bs a;obtain ⟨Y,ae⟩:=Lo ae;refine Cl (Lr hmx (σ:=Nat×(List Int)×Int×Option Addr×Nat) (fun C=>match C with | (_,w,v,p,A)=>[(1,Vl i d k),(4,Vi o),(15,Vl p w A),(16,Vi v)]) (fun C y=>match C with | (aj,w,v,p,A)=>Mh (T3 d o) aj (w,v)=some aw∧Ev [] x y∧(fun N=>MS y N∧FR x.heap.size [Bk p]∧Ma (M3 eI (M7)) y (fl N) i k d∧M9 eI 3 y (fl N) p A w) [Bk p,m]) (fun C=>C.1) (Y,([]:List Int),0,none,0) ⟨R,R,R,R,T0⟩ ⟨ae,f,c,g,h,aG⟩ ?_);rintro ⟨Y,w,v,p,A⟩ K aQ ⟨O,f,c,g,h,I⟩;rcases Y with _ | Y
 · exact (Lz O).elim
 obtain ⟨aY,a,O⟩:=Bs O;refine Cq (Cs (Xu 3 [(56,Vi v),(57,Vi (M4 (v+1))),(58,Vl i d k)] (Xz MF R (Xu 1 [(60,Bd ((M4 (v+1))<((d).length:Int)))] (Xk (Cn [(1,Vl i d k),(4,Vi o),(15,Vl p w A),(16,Vi v),(60,Bd ((M4 (v+1))<((d).length:Int)))] (fun K=>?_)))))));refine Ci _ R a (fun a=>?_) (fun a=>?_)
 · refine Ck (Kt (Cq (Cb (Cs (Xu 3 [(63,Vl i d k),(64,Vi v),(65,Vi o)] ?_)))));obtain ⟨J,ai,a⟩:=Bs a;obtain ⟨ag,ah⟩:=Kc c [] [0,1];have ad:=M0X i k d v o _ aQ _ ag (h.sub ah) ai;refine Xv ad R ?_;rintro ak a2 ⟨rfl,aB⟩;obtain ⟨h,I,c,f⟩:=E4 (Cx.e c aB) h I c f;refine Xu 1 [(17,Vi J)] (Xk (Cq (Cs (Xu 2 [(67,Vi J),(68,Bd (J<0))] (Xk (Ci _ R a (fun a=>?_) (fun a=>?_)))))))
   · refine Cs (Xu 2 [(10,Z0),(11,Vi 14)] (Xk (Cr (Kr (Kb (Kr ?_))))));obtain rfl:=Sj a;have E:=Sj O;subst E;have a:=ap;refine Kr (Kb (Kr (Rr (Rv [Z0,Vi 14] ⟨R,R,T0⟩ ?_))));obtain rfl:=Sj a;have r:=c.pick [none,some 1] [Bk none,m] R;have q:=g.pick [none] [Bk none] R;exact ⟨none,0,R,f,r,q,M9.nil _ _ _ _⟩
   refine Ck (Kt (Cp (Xu 2 [(69,Vl p w A),(70,Vi J)] (Xh #[Vi J] 3 R (fun aU a3 aH az aC=>?_)))));have X:=Cx.e c aC;obtain ⟨h,I,c,f⟩:=E4 X h I c f;have aK:=X.l (e:=eI) aH az 1 [J];have aF:=Gl a;have a:=Gr a;obtain ⟨al,ao,a4,aJ,ar,au,aX,aN⟩:=Mb Wg 22 I (Mf 0 R) aK aF;refine Xx R (Rn aJ) ?_;have X:=Cx.u c 0 ar au;obtain ⟨h,c⟩:=E2 X h c;have aE:=g.ux 0 f au;have f:=f.th ar g 0;have g:=aE;have I:=aN _ X.st.new;refine Xu 1 [(15,Vl al ((w++[J])) ao)] (Xe R (Kl (Kt (Cp (Xu 3 [(61,Vi v),(62,Vi (M4 (v+1))),(16,Vi (M4 (v+1)))] (Xe R ?_))))));obtain rfl:=Sj a;exact Kt ⟨(Y,(w++[J]),M4 (v+1),al,ao),⟨R,R,R,R,T0⟩,⟨O,f,c,g,h,I⟩,Ns _⟩
 refine Ce (Ke ?_);obtain rfl:=Sj a;have E:=Sj O;subst E;have a:=ap;refine Ke (Ki (Kt (Cn [(15,Vl p w A)] (fun K=>?_))));refine Cs (Xu 3 [(73,Vl p w A),(10,Vl p w A),(11,Vi 0)] (Xk (Cr (Rr (Rv [Vl p w A,Vi 0] ⟨R,R,T0⟩ ?_)))));obtain rfl:=Sj a;have r:=c.pk [0,1] [Bk p,m] R;have aL:=Pk (ls:=[Bk p,m]) [0,1] [Bk p,m] R;have q:=g.pk [0] [Bk p] R;exact ⟨p,A,R,f,r,q,I.sub aL⟩
def Vx (b:List (Int×(List UInt8)×Int×Int×Int×Int×Int×Int)) (c:List (Int×Int×Int×Int×Int)) (d:Int):Option (Int×Int×Int×Int):=
((idx c d).bind fun a=>
((idx b a.1).bind fun e=>
(if (e.1==3)=true then
((idx c (M4 (d+1))).bind fun f=>
((idx b f.1).bind fun g=>
some (a.1,g.2.2.2.1,0,1000000000)))
else
some (a.1,0,0,1000000000))))
theorem M1I (r u m s v n o p l w)(f:MS l [w])(i:Ma (M3 eI (M3 Mv (M3 eI (M3 eI (M7))))) l (fl [w]) r u m)(k:Ma (M3 eI (M7)) l (fl [w]) s v n)(c:Vx m n o=some p):Md Tryz.prog 84 [Vl r m u,Vl s n v,Vi o] l fun Y Z=>Y=.agg #[Vi p.1,Vi p.2.1,Vi p.2.2.1,Vi p.2.2.2]∧Ev [] l Z:=by
 refine Cw hmx Tryz.func84 R R R ?_;have a:=Ev.refl [] l;have h:=FR.nil l.heap.size;refine Cs (Xj #[Vi 0,Vi 0,Vi 0,Vi 0] R (fun B af z d I=>?_));have h:=h.box a.size z;obtain ⟨i,k,f,a⟩:=E4 (Cx.b f I z d) i k f a;refine Xk (Cs (Xu 2 [(8,Vl s n v),(9,Vi o)] ?_));obtain ⟨e,X,c⟩:=Bs c;refine Xq (k.el MF) Pm M5 X R (fun _=>R) (fun _=>Xg (.agg #[Vi e.1,Vi 0,Vi 0,Vi 1000000000]) R (Xj #[Vi 0,Vi 0,Vi 0,Vi 0] R (fun t ag A g J=>?_)));have h:=h.box a.size A;obtain ⟨i,k,d,f,a⟩:=E5 (Cx.b f J A g) i k d f a;obtain ⟨ah,O,F,y⟩:=Sa [Vi e.1,Vi 0,Vi 0,Vi 1000000000] MP g R R R;refine Xp O R ?_;obtain ⟨i,k,d,f⟩:=E4 (Cx.j f 0 y) i k d f;have a:=a.th y h 0;have g:=F;refine Xk (Cq (Cs (Xu 1 [(14,Vl r m u)] (Yg t 0 0 (Vi e.1) R R (Rf Po _) M5 g nn R ?_))));obtain ⟨aa,Q,c⟩:=Bs c;refine Xq (i.el My) MC M5 Q R (fun _=>R) (fun _=>Xu 1 [(20,.bool (aa.1==3))] (Xk (Ci _ R c (fun c=>?_) (fun c=>?_))))
 · refine Cp (Xu 4 [(21,Vl r m u),(22,Vl s n v),(23,Vi o),(24,Vi (M4 (o+1)))] ?_);obtain ⟨ai,S,c⟩:=Bs c;refine Xq (k.el MF) Pm M5 S R (fun _=>R) (fun _=>?_);obtain ⟨q,U,c⟩:=Bs c;refine Xq (i.el My) R9 M5 U R (fun _=>R) (fun _=>Yf (Vp t 0) (Vp t 1) R (Rf TH _) ?_);obtain ⟨ac,K,C,x⟩:=Sx 1 (Vi q.2.2.2.1) M5 g;refine Xp K R ?_;have d:=E1 (Cx.j f 0 x) d;have a:=a.th x h 0;have g:=C;refine Xk (Cn [(6,Vp B 0),(7,Vp t 0)] (fun ab=>?_));refine Cs (Yl _ _ R (Ra 0 [Vi e.1,Vi q.2.2.2.1,Vi 0,Vi 1000000000] MP g nn R) ?_);obtain ⟨ad,L,D,G⟩:=Sa [Vi e.1,Vi q.2.2.2.1,Vi 0,Vi 1000000000] MP d R R R;refine Xp L R ?_;have a:=a.th G h 1;have d:=D;refine Xk (Cr (Rr (Rv [.agg #[Vi e.1,Vi q.2.2.2.1,Vi 0,Vi 1000000000]] ⟨⟨_,R,Lv (Ra (Mo:=[]) 0 [Vi e.1,Vi q.2.2.2.1,Vi 0,Vi 1000000000] MP d nn R)⟩,T0⟩ ?_)));obtain rfl:=Sj c;exact ⟨R,a⟩
 refine Ck (Kt (Cs (Yl _ _ R (Ra 0 [Vi e.1,Vi 0,Vi 0,Vi 1000000000] MP g nn R) ?_)));obtain ⟨ae,N,E,H⟩:=Sa [Vi e.1,Vi 0,Vi 0,Vi 1000000000] MP d R R R;refine Xp N R ?_;have a:=a.th H h 1;have d:=E;refine Xk (Cr (Rr (Rv [.agg #[Vi e.1,Vi 0,Vi 0,Vi 1000000000]] ⟨⟨_,R,Lv (Ra (Mo:=[]) 0 [Vi e.1,Vi 0,Vi 0,Vi 1000000000] MP d nn R)⟩,T0⟩ ?_)));obtain rfl:=Sj c;exact ⟨R,a⟩
def V0 (i:List (Int×(List UInt8)×Int×Int×Int×Int×Int×Int)) (j:List (Int×Int×Int×Int×Int)) (d:List (Int×Int)) (h:(List Int)×Int) (k:(List (Int×Int×Int×Int))×Int):Option (Mm ((List (Int×Int×Int×Int))×Int) (List (Int×Int×Int×Int))):=
match k with
| (c,b)=>
(if (decide (b<((h.1).length:Int)))=true then
((idx h.1 b).bind fun f=>
(if (decide (b≥((d).length:Int)))=true then
some (.done c)
else
((Vx i j b).bind fun a=>
((idx d b).bind fun e=>
(if (decide ((M4 (f+1))<((d).length:Int)))=true then
((idx d (M4 (f+1))).bind fun g=>
(if c.length+([(a.1,a.2.1,e.1,g.1)]:List (Int×Int×Int×Int)).length≤4294967296 then
some (.next ((c++([(a.1,a.2.1,e.1,g.1)]:List (Int×Int×Int×Int))),M4 (b+1)))
else none))
else
(if c.length+([(a.1,a.2.1,e.1,a.2.2.2)]:List (Int×Int×Int×Int)).length≤4294967296 then
some (.next ((c++([(a.1,a.2.1,e.1,a.2.2.2)]:List (Int×Int×Int×Int))),M4 (b+1)))
else none))))))
else
some (.done c))
def TT (b:List (Int×(List UInt8)×Int×Int×Int×Int×Int×Int)) (c:List (Int×Int×Int×Int×Int)) (d:List (Int×Int)) (g:Int):Option ((List (Int×Int×Int×Int))×Int):=
((Td b c ((d).length:Int) 1 g).bind fun a=>
(if (a.2 != 0)=true then
some ([],a.2)
else
((loop (V0 b c d a) (([]:List (Int×Int×Int×Int)),0)).bind fun e=>match e with
| f=>some (f,0))))
theorem M0Y (I K A J L B D E x ah ai C y)(a:MS C [y])(f:Ma (M3 eI (M3 Mv (M3 eI (M3 eI (M7))))) C (fl [y]) I K A)(g:Ma (M3 eI (M7)) C (fl [y]) J L B)(h:Ma (M3 eI eI) C (fl [y]) D E x)(d:TT A B x ah=some ai):Md Tryz.prog 59 [Vl I A K,Vl J B L,Vl D x E,Vi ah] C fun aq G=>∃ Z av,aq=.tuple #[Vl Z ai.1 av,Vi ai.2]∧Ev [] C G∧MS G [Bk Z,y]∧FR C.heap.size [Bk Z]∧M9 (M7) 49 G (fl [Bk Z,y]) Z av ai.1:=by
 refine Cw hmx Tryz.func59 R R R ?_;have i:=Ev.refl [] C;have p:=FR.nil C.heap.size;refine Cs (Xu 2 [(8,Z0),(9,Vi 0)] (Xk (Cs (Xu 3 [(17,Vl I A K),(18,Vl J B L),(19,Vl D x E)] (Xz M0p R (Xu 1 [(21,Vi ah)] ?_))))));obtain ⟨r,ao,d⟩:=Bs d;obtain ⟨am,ae⟩:=Kc a [] [0];have aj:=M0s I K A J L B ((x).length:Int) 1 ah _ C _ am (f.sub ae) (g.sub ae) ao;refine Xv aj R ?_;rintro aq bg ⟨z,O,rfl,aE,aZ,aF,k⟩;obtain ⟨f,g,h,a⟩:=E4 (Cx.c a [] aE aZ aF) f g h a;have ac:=p.cc i aF;have i:=i.ext aE;have p:=ac;have k:=k.pl a;refine Xu 5 [(16,.tuple #[Vl z r.1 O,Vi r.2]),(23,Vl z r.1 O),(24,Vi r.2),(10,Vl z r.1 O),(11,Vi r.2)] (Xk (Cq (Cs (Xu 2 [(25,Vi r.2),(26,.bool (r.2 != 0))] (Xk (Ci _ R d (fun d=>?_) (fun d=>?_)))))))
 · refine Cs (Xu 3 [(27,Vi r.2),(8,Z0),(9,Vi r.2)] (Xk (Cr (Kr (Rr (Rv [Z0,Vi r.2] ⟨R,R,T0⟩ ?_))))));obtain rfl:=Sj d;have ad:=a.pick [none,some 1] [Bk none,y] R;have ab:=p.pick [none] [Bk none] R;exact ⟨none,0,R,i,ad,ab,M9.nil _ _ _ _⟩
 refine Ck (Kt (Cs (Xu 1 [(12,Z0)] (Xk (Cq (Cs (Xu 1 [(28,Vl z r.1 O)] (Xz MB R (Xu 1 [(30,Vi 0)] ?_)))))))));refine Xk (Cb ?_);obtain ⟨f,g,h,k,a⟩:=E5 (Cx.n a) f g h k a;have p:=p.pn;have a0:=M9.nil (M7) 49 bg (fl [Bk none,Bk z,y]);obtain ⟨aJ,ak,ay⟩:=Bs d;obtain ⟨U,ak⟩:=Lo ak;refine Cl (Lr hmx (σ:=Nat×(List (Int×Int×Int×Int))×Int×Option Addr×Nat) (fun s=>match s with | (_,t,v,o,w)=>[(0,Vl I A K),(1,Vl J B L),(2,Vl D x E),(12,Vl o t w),(28,Vl z r.1 O),(29,Vi ((r.1).length:Int)),(30,Vi v)]) (fun s G=>match s with | (bf,t,v,o,w)=>Mh (V0 A B x r) bf (t,v)=some aJ∧Ev [] C G∧(fun Y=>MS G Y∧FR C.heap.size [Bk o,Bk z]∧Ma (M3 eI (M3 Mv (M3 eI (M3 eI (M7))))) G (fl Y) I K A∧Ma (M3 eI (M7)) G (fl Y) J L B∧Ma (M3 eI eI) G (fl Y) D E x∧M9 (M7) 49 G (fl Y) o w t∧M9 eI 3 G (fl Y) z O r.1) [Bk o,Bk z,y]) (fun s=>s.1) (U,([]:List (Int×Int×Int×Int)),0,none,0) ⟨R,R,R,R,R,R,R,T0⟩ ⟨ak,i,a,p,f,g,h,a0,k⟩ ?_);rintro ⟨U,t,v,o,w⟩ ag bh ⟨Q,i,a,p,f,g,h,q,k⟩;rcases U with _ | U
 · exact (Lz Q).elim
 obtain ⟨bm,d,Q⟩:=Bs Q;refine Cs (Xu 1 [(31,Bd (v<((r.1).length:Int)))] (Xk (Cn [(0,Vl I A K),(1,Vl J B L),(2,Vl D x E),(12,Vl o t w),(28,Vl z r.1 O),(29,Vi ((r.1).length:Int)),(30,Vi v),(31,Bd (v<((r.1).length:Int)))] (fun ag=>?_))));refine Cq (Ci _ R d (fun d=>?_) (fun d=>?_))
 · refine Ck (Kt (Cq (Cb (Cs (Xu 1 [(32,Vi v)] ?_)))));obtain ⟨S,bc,d⟩:=Bs d;refine Z6 (k.el MB) M5 bc R (fun _=>R) (fun _=>Xu 2 [(13,Vi v),(14,Vi S)] (Xk (Cq (Cs (Xu 2 [(35,Vi v),(36,Vl D x E)] (Xz M0p R (Xu 1 [(38,Bd (v≥((x).length:Int)))] (Xk (Ci _ R d (fun d=>?_) (fun d=>?_))))))))))
   · refine Ce (Ke (Wa R (Ke ?_)));obtain rfl:=Sj d;have ap:=Sj Q;subst ap;have d:=ay;refine Ke (Ki (Kt (Cn [(12,Vl o t w)] (fun ag=>?_))));refine Cs (Xu 3 [(66,Vl o t w),(8,Vl o t w),(9,Vi 0)] (Xk (Cr (Rr (Rv [Vl o t w,Vi 0] ⟨R,R,T0⟩ ?_)))));obtain rfl:=Sj d;have ad:=a.pk [0,2] [Bk o,y] R;have an:=Pk (ls:=[Bk o,Bk z,y]) [0,2] [Bk o,y] R;have ab:=p.pk [0] [Bk o] R;exact ⟨o,w,R,i,ad,ab,q.sub an⟩
   refine Ck (Kt (Cs (Xu 3 [(39,Vl I A K),(40,Vl J B L),(41,Vi v)] ?_)));obtain ⟨m,ao,d⟩:=Bs d;obtain ⟨am,ae⟩:=Kc a [] [0,1,2];have aj:=M1I I K A J L B v _ bh _ am (f.sub ae) (g.sub ae) ao;refine Xv aj R ?_;rintro aq bn ⟨rfl,aS⟩;obtain ⟨f,g,h,q,k,a,i⟩:=E7 (Cx.e a aS) f g h q k a i;refine Xj #[Vi 0,Vi 0,Vi 0,Vi 0] R (fun aa bo aI N aU=>?_);have p:=p.box i.size aI;obtain ⟨f,g,h,q,k,a,i⟩:=E7 (Cx.b a aU aI N) f g h q k a i;obtain ⟨bp,a3,aK,az⟩:=Sa [Vi m.1,Vi m.2.1,Vi m.2.2.1,Vi m.2.2.2] MP N R R R;refine Xp a3 R ?_;obtain ⟨f,g,h,q,k,a⟩:=E6 (Cx.j a 0 az) f g h q k a;have i:=i.th az p 0;have N:=aK;refine Xk (Cs (Xu 2 [(43,Vl D x E),(44,Vi v)] ?_));obtain ⟨H,bd,d⟩:=Bs d;refine Xq (h.el M0p) Yb M5 bd R (fun _=>R) (fun _=>Yf (Vp aa 0) (Vp aa 2) R (Rf TG _) ?_);obtain ⟨bq,a4,aL,aA⟩:=Sx 2 (Vi H.1) M5 N;refine Xp a4 R ?_;obtain ⟨f,g,h,q,k,a⟩:=E6 (Cx.j a 0 aA) f g h q k a;have i:=i.th aA p 0;have N:=aL;refine Xk (Cn [(0,Vl I A K),(1,Vl J B L),(2,Vl D x E),(12,Vl o t w),(14,Vi S),(15,Vp aa 0),(28,Vl z r.1 O),(29,Vi ((r.1).length:Int)),(30,Vi v)] (fun ag=>?_));refine Cq (Cs (Xu 3 [(49,Vi S),(50,Vi (M4 (S+1))),(51,Vl D x E)] (Xz M0p R (Xu 1 [(53,Bd ((M4 (S+1))<((x).length:Int)))] (Xk (Ci _ R d (fun d=>?_) (fun d=>?_)))))))
   · refine Cp (Xu 3 [(54,Vl D x E),(55,Vi S),(56,Vi (M4 (S+1)))] ?_);obtain ⟨X,be,d⟩:=Bs d;refine Xq (h.el M0p) Yb M5 be R (fun _=>R) (fun _=>Yf (Vp aa 0) (Vp aa 3) R (Rf Pn _) ?_);obtain ⟨br,a5,aN,aB⟩:=Sx 3 (Vi X.1) M5 N;refine Xp a5 R ?_;obtain ⟨f,g,h,q,k,a⟩:=E6 (Cx.j a 0 aB) f g h q k a;have i:=i.th aB p 0;have N:=aN;refine Xk (Cp (Xu 1 [(61,Vl o t w)] (Yl _ _ R (Ra 0 [Vi m.1,Vi m.2.1,Vi H.1,Vi X.1] MP N nn R) (Xh #[Vi m.1,Vi m.2.1,Vi H.1,Vi X.1] 49 R (fun bi bs a1 aO aX=>?_)))));have F:=Cx.e a aX;obtain ⟨f,g,h,q,k,a,i⟩:=E7 F f g h q k a i;have a8:=F.l (e:=(M7)) a1 aO 1 [(m.1,m.2.1,H.1,X.1)];have al:=Gl d;have d:=Gr d;obtain ⟨ar,aw,bt,a6,aC,aG,bk,ba⟩:=Mb M7i 43 q (Mf 1 R) a8 al;refine Xx R (Rn a6) ?_;have F:=Cx.u a 1 aC aG;obtain ⟨f,g,h,k,a⟩:=E5 F f g h k a;have ac:=p.ux 1 i aG;have i:=i.th aC p 1;have p:=ac;have q:=ba _ F.st.new;refine Xu 1 [(12,Vl ar ((t++([(m.1,m.2.1,H.1,X.1)]:List (Int×Int×Int×Int)))) aw)] (Xe R (Kl (Kt (Cp (Xu 2 [(65,Vi (M4 (v+1))),(30,Vi (M4 (v+1)))] (Xe R ?_))))));obtain rfl:=Sj d;obtain ⟨f,g,h,q,k,a⟩:=E6 (Cx.s a [1,2,3]) f g h q k a;have p:=p.px [1,2];exact Kt ⟨(U,(t++([(m.1,m.2.1,H.1,X.1)]:List (Int×Int×Int×Int))),M4 (v+1),ar,aw),⟨R,R,R,R,R,R,R,T0⟩,⟨Q,i,a,p,f,g,h,q,k⟩,Ns _⟩
   refine Ck (Kt (Cp (Xu 1 [(61,Vl o t w)] (Yl _ _ R (Ra 0 [Vi m.1,Vi m.2.1,Vi H.1,Vi m.2.2.2] MP N nn R) (Xh #[Vi m.1,Vi m.2.1,Vi H.1,Vi m.2.2.2] 49 R (fun bj bu a2 aQ aY=>?_))))));have F:=Cx.e a aY;obtain ⟨f,g,h,q,k,a,i⟩:=E7 F f g h q k a i;have a9:=F.l (e:=(M7)) a2 aQ 1 [(m.1,m.2.1,H.1,m.2.2.2)];have al:=Gl d;have d:=Gr d;obtain ⟨au,ax,bv,a7,aD,aH,bl,bb⟩:=Mb M7i 43 q (Mf 1 R) a9 al;refine Xx R (Rn a7) ?_;have F:=Cx.u a 1 aD aH;obtain ⟨f,g,h,k,a⟩:=E5 F f g h k a;have ac:=p.ux 1 i aH;have i:=i.th aD p 1;have p:=ac;have q:=bb _ F.st.new;refine Xu 1 [(12,Vl au ((t++([(m.1,m.2.1,H.1,m.2.2.2)]:List (Int×Int×Int×Int)))) ax)] (Xe R (Kl (Kt (Cp (Xu 2 [(65,Vi (M4 (v+1))),(30,Vi (M4 (v+1)))] (Xe R ?_))))));obtain rfl:=Sj d;obtain ⟨f,g,h,q,k,a⟩:=E6 (Cx.s a [1,2,3]) f g h q k a;have p:=p.px [1,2];exact Kt ⟨(U,(t++([(m.1,m.2.1,H.1,m.2.2.2)]:List (Int×Int×Int×Int))),M4 (v+1),au,ax),⟨R,R,R,R,R,R,R,T0⟩,⟨Q,i,a,p,f,g,h,q,k⟩,Ns _⟩
 refine Ce (Ke ?_);obtain rfl:=Sj d;have ap:=Sj Q;subst ap;have d:=ay;refine Ke (Ki (Kt (Cn [(12,Vl o t w)] (fun ag=>?_))));refine Cs (Xu 3 [(66,Vl o t w),(8,Vl o t w),(9,Vi 0)] (Xk (Cr (Rr (Rv [Vl o t w,Vi 0] ⟨R,R,T0⟩ ?_)))));obtain rfl:=Sj d;have ad:=a.pk [0,2] [Bk o,y] R;have an:=Pk (ls:=[Bk o,Bk z,y]) [0,2] [Bk o,y] R;have ab:=p.pk [0] [Bk o] R;exact ⟨o,w,R,i,ad,ab,q.sub an⟩
end Go.Proofs.YtlihkahbjlnbbaaGreat
