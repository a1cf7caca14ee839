
/- Walks, printed by program: each function returns what the partial function of the same name returns. Conditions: those of each theorem. -/
import Derived.Test.YtlejnkhaphlooaaGreatGT
set_option linter.unusedVariables false
set_option linter.unusedSimpArgs false
set_option maxRecDepth 4000
namespace Go.Proofs.YtlejnkhaphlooaaGreat
open Go Go.V Go.Proofs Go.IntKind
def wagonnumber_digits_L2 (b:List UInt8) (c:Int):Option (Step Int (Unit⊕Unit)):=
match c with
| a=>
(if (decide (a<(b.length:Int)))=true then
((sAt b a).bind fun d=>
(if (decide (d<48))=true then
some (.done (.inl ()))
else
((sAt b a).bind fun e=>
(if (decide (e>57))=true then
some (.done (.inl ()))
else
some (.next (i64.wrap (a+1)))))))
else
some (.done (.inr ())))
def wagonnumber_digits (a:List UInt8) (c:Int):Option Bool:=
((loop (wagonnumber_digits_L2 a) 0).bind fun b=>match b with
| (.inl _)=>some false
| (.inr _)=>some ((a.length:Int)==c))
theorem wagonnumber_digits_w (b d t e)(a:wagonnumber_digits b d=some t):CallVC Tryz.prog 126 [Vs b,Vi d] e fun z k=>z=.bool t∧Ev [] e k:=by
 refine Cv hmx Tryz.func126 (by kernel_rfl) R (rs:=[.tmp 4]) R (by kernel_rfl) (args:=[Vs b,Vi d]) R ?_;have g:Ev [] e e:=Ev.refl _ _;have r:MS e [[]]:=⟨List.pairwise_singleton _ _,fun B s A v=>by simp only [List.mem_singleton] at s; subst s; cases v⟩
 have q:FR e.heap.size []:=FR.nil _;refine Cs (Xu 1 [(4,.bool false)] (Xk (Cq (Cs (Xu 1 [(5,Vi 0)] (Xk (Cb ?_)))))));obtain ⟨u,p,o⟩:=Bs a;obtain ⟨i,p⟩:=Lo p;refine Cl (Lr hmx (σ:=Nat×Int) (fun j=>match j with | (_,c)=>[(0,Vs b),(1,Vi d),(5,Vi c)]) (fun j k=>match j with | (y,c)=>loopN (wagonnumber_digits_L2 b) y c=some u∧Ev [] e k∧MS k [[]]∧FR e.heap.size []) (fun j=>j.1) (i,0) ⟨R,R,R,T0⟩ ⟨p,g,r,q⟩ ?_);rintro ⟨i,c⟩ n D ⟨f,g,r,q⟩;rcases i with _ | i
 · exact (Lz f).elim
 obtain ⟨C,a,f⟩:=Bs f;refine Cq (Cs (Xu 2 [(6,Vi c),(7,Vs b)] (Xn (vs:=[Vs b]) (Vi (b.length:Int)) R R R (reads_slen tstr9 _) (Xu 1 [(9,Bd (c<(b.length:Int)))] (Xk (Cn [(0,Vs b),(1,Vi d),(5,Vi c),(9,Bd (c<(b.length:Int)))] (fun n=>?_)))))));refine Ci (decide (c<(b.length:Int))) R a (fun a=>?_) (fun a=>?_)
 · refine Ck (Kt (Cq (Cb (Cs (Xu 2 [(12,Vs b),(13,Vi c)] ?_)))));obtain ⟨l,w,a⟩:=Bs a;refine x_index (xv:=Vs b) (yv:=Vi c) (.int .u8 l) R R R R (reads_sindex tstr9 w) (Xu 2 [(15,Bd (l<48)),(16,Bd (l<48))] (Xw 16 (decide (l<48)) R a (fun a=>?_) (fun a=>?_)))
   · refine Xu 5 [(17,U0),(18,U0),(19,U0),(20,U0),(21,.bool true)] (Xk (c_true R (Cs (Xu 1 [(4,.bool false)] (Xk (Cr (Kb (Kr ?_))))))));obtain rfl:=Sj a;have h:=Sj f;subst h;have a:=o;refine Kr (Kb (Kr (Rr (Rv [.bool false] ⟨R,T0⟩ ?_))));obtain rfl:=Sj a;exact ⟨R,g⟩
   refine Xu 2 [(17,Vs b),(18,Vi c)] ?_;obtain ⟨m,x,a⟩:=Bs a;refine x_index (xv:=Vs b) (yv:=Vi c) (.int .u8 m) R R R R (reads_sindex tstr9 x) (Xu 2 [(20,Bd (m>57)),(21,Bd (m>57))] (Xk (Ci (decide (m>57)) R a (fun a=>?_) (fun a=>?_))))
   · refine Cs (Xu 1 [(4,.bool false)] (Xk (Cn [(4,.bool false)] (fun n=>?_))));refine Cr (Kb (Kr ?_));obtain rfl:=Sj a;have h:=Sj f;subst h;have a:=o;refine Kr (Kb (Kr (Rr (Rv [.bool false] ⟨R,T0⟩ ?_))));obtain rfl:=Sj a;exact ⟨R,g⟩
   refine Ck (Kl (Kt (Cp (Xu 3 [(10,Vi c),(11,Vi (i64.wrap (c+1))),(5,Vi (i64.wrap (c+1)))] (Xe R ?_)))));obtain rfl:=Sj a;exact Kt ⟨(i,i64.wrap (c+1)),⟨R,R,R,T0⟩,⟨f,g,r,q⟩,Ns _⟩
 refine Ce (Ke ?_);obtain rfl:=Sj a;have h:=Sj f;subst h;have a:=o;refine Ke (Ki (Kt (Cn [(0,Vs b),(1,Vi d)] (fun n=>?_))));refine Cs (Xu 1 [(22,Vs b)] (Xn (vs:=[Vs b]) (Vi (b.length:Int)) R R R (reads_slen tstr9 _) (Xu 3 [(24,Vi d),(25,.bool ((b.length:Int)==d)),(4,.bool ((b.length:Int)==d))] (Xk (Cr (Rr (Rv [.bool ((b.length:Int)==d)] ⟨R,T0⟩ ?_)))))));obtain rfl:=Sj a;exact ⟨R,g⟩
def wagonnumber_sum_L1 (d:List UInt8) (e:Int×Int):Option (Step (Int×Int) Int):=
match e with
| (b,a)=>
(if (decide (a<(d.length:Int)))=true then
((sAt d a).bind fun c=>
(if ((Int.tmod a 2)==0)=true then
(if (decide ((i64.wrap ((i64.wrap (u8.wrap (c-48)))*2))>9))=true then
some (.next (i64.wrap (b+(i64.wrap ((i64.wrap ((i64.wrap (u8.wrap (c-48)))*2))-9))),i64.wrap (a+1)))
else
some (.next (i64.wrap (b+(i64.wrap ((i64.wrap (u8.wrap (c-48)))*2))),i64.wrap (a+1))))
else
some (.next (i64.wrap (b+(i64.wrap (u8.wrap (c-48)))),i64.wrap (a+1)))))
else
some (.done b))
def wagonnumber_sum (b:List UInt8):Option Int:=
((loop (wagonnumber_sum_L1 b) (0,0)).bind fun a=>match a with
| c=>some c)
theorem wagonnumber_sum_w (e q f)(d:wagonnumber_sum e=some q):CallVC Tryz.prog 134 [Vs e] f fun x n=>x=Vi q∧Ev [] f n:=by
 refine Cv hmx Tryz.func134 (by kernel_rfl) R (rs:=[.tmp 2]) R (by kernel_rfl) (args:=[Vs e]) R ?_;have i:Ev [] f f:=Ev.refl _ _;have k:MS f [[]]:=⟨List.pairwise_singleton _ _,fun z p y t=>by simp only [List.mem_singleton] at p; subst p; cases t⟩
 have j:FR f.heap.size []:=FR.nil _;refine Cs (Xu 1 [(2,Vi 0)] (Xk (Cs (Xu 1 [(3,Vi 0)] (Xk (Cq (Cs (Xu 1 [(4,Vi 0)] (Xk ?_)))))))));refine Cb ?_;obtain ⟨r,o,s⟩:=Bs d;obtain ⟨h,o⟩:=Lo o;refine Cl (Lr hmx (σ:=Nat×Int×Int) (fun l=>match l with | (_,c,a)=>[(0,Vs e),(3,Vi c),(4,Vi a)]) (fun l n=>match l with | (w,c,a)=>loopN (wagonnumber_sum_L1 e) w (c,a)=some r∧Ev [] f n∧MS n [[]]∧FR f.heap.size []) (fun l=>l.1) (h,0,0) ⟨R,R,R,T0⟩ ⟨o,i,k,j⟩ ?_);rintro ⟨h,c,a⟩ m B ⟨g,i,k,j⟩;rcases h with _ | h
 · exact (Lz g).elim
 obtain ⟨A,d,g⟩:=Bs g;refine Cq (Cs (Xu 2 [(6,Vi a),(7,Vs e)] (Xn (vs:=[Vs e]) (Vi (e.length:Int)) R R R (reads_slen tstr9 _) (Xu 1 [(9,Bd (a<(e.length:Int)))] (Xk (Cn [(0,Vs e),(3,Vi c),(4,Vi a),(9,Bd (a<(e.length:Int)))] (fun m=>?_)))))));refine Ci (decide (a<(e.length:Int))) R d (fun d=>?_) (fun d=>?_)
 · refine Ck (Kt (Cq (Cb (Cs (Xu 2 [(12,Vs e),(13,Vi a)] ?_)))));obtain ⟨b,u,d⟩:=Bs d;refine x_index (xv:=Vs e) (yv:=Vi a) (.int .u8 b) R R R R (reads_sindex tstr9 u) (Xu 1 [(15,.int .u8 (u8.wrap (b-48)))] (x_convert (Vi (i64.wrap (u8.wrap (b-48)))) _ R R R (tcv5_3 (u8.wrap (b-48)) _) (I1 (Xu 1 [(5,Vi (i64.wrap (u8.wrap (b-48))))] (Xk (Cq (Cs (Xu 3 [(17,Vi a),(18,Vi (Int.tmod a 2)),(19,.bool ((Int.tmod a 2)==0))] (Xk ?_)))))))));refine Ci ((Int.tmod a 2)==0) R d (fun d=>?_) (fun d=>?_)
   · refine Cs (Xu 3 [(20,Vi (i64.wrap (u8.wrap (b-48)))),(21,Vi (i64.wrap ((i64.wrap (u8.wrap (b-48)))*2))),(5,Vi (i64.wrap ((i64.wrap (u8.wrap (b-48)))*2)))] (Xk (Cn [(0,Vs e),(3,Vi c),(4,Vi a),(5,Vi (i64.wrap ((i64.wrap (u8.wrap (b-48)))*2)))] (fun m=>?_))));refine Cs (Xu 2 [(22,Vi (i64.wrap ((i64.wrap (u8.wrap (b-48)))*2))),(23,.bool (decide ((i64.wrap ((i64.wrap (u8.wrap (b-48)))*2))>9)))] (Xk (Ci (decide ((i64.wrap ((i64.wrap (u8.wrap (b-48)))*2))>9)) R d (fun d=>?_) (fun d=>?_))))
     · refine Cp (Xu 3 [(24,Vi (i64.wrap ((i64.wrap (u8.wrap (b-48)))*2))),(25,Vi (i64.wrap ((i64.wrap ((i64.wrap (u8.wrap (b-48)))*2))-9))),(5,Vi (i64.wrap ((i64.wrap ((i64.wrap (u8.wrap (b-48)))*2))-9)))] (Xk (Cp (Xu 4 [(26,Vi c),(27,Vi (i64.wrap ((i64.wrap ((i64.wrap (u8.wrap (b-48)))*2))-9))),(28,Vi (i64.wrap (c+(i64.wrap ((i64.wrap ((i64.wrap (u8.wrap (b-48)))*2))-9))))),(3,Vi (i64.wrap (c+(i64.wrap ((i64.wrap ((i64.wrap (u8.wrap (b-48)))*2))-9)))))] (Xe R (Kl (Kt (Cp (Xu 3 [(10,Vi a),(11,Vi (i64.wrap (a+1))),(4,Vi (i64.wrap (a+1)))] ?_)))))))));refine Xe R ?_;obtain rfl:=Sj d;exact Kt ⟨(h,i64.wrap (c+(i64.wrap ((i64.wrap ((i64.wrap (u8.wrap (b-48)))*2))-9))),i64.wrap (a+1)),⟨R,R,R,T0⟩,⟨g,i,k,j⟩,Ns _⟩
     refine Ck (Kt (Cp (Xu 4 [(26,Vi c),(27,Vi (i64.wrap ((i64.wrap (u8.wrap (b-48)))*2))),(28,Vi (i64.wrap (c+(i64.wrap ((i64.wrap (u8.wrap (b-48)))*2))))),(3,Vi (i64.wrap (c+(i64.wrap ((i64.wrap (u8.wrap (b-48)))*2)))))] (Xe R (Kl (Kt (Cp (Xu 3 [(10,Vi a),(11,Vi (i64.wrap (a+1))),(4,Vi (i64.wrap (a+1)))] (Xe R ?_)))))))));obtain rfl:=Sj d;exact Kt ⟨(h,i64.wrap (c+(i64.wrap ((i64.wrap (u8.wrap (b-48)))*2))),i64.wrap (a+1)),⟨R,R,R,T0⟩,⟨g,i,k,j⟩,Ns _⟩
   refine Ck (Kt (Cp (Xu 4 [(26,Vi c),(27,Vi (i64.wrap (u8.wrap (b-48)))),(28,Vi (i64.wrap (c+(i64.wrap (u8.wrap (b-48)))))),(3,Vi (i64.wrap (c+(i64.wrap (u8.wrap (b-48))))))] (Xe R (Kl (Kt (Cn [(0,Vs e),(3,Vi (i64.wrap (c+(i64.wrap (u8.wrap (b-48)))))),(4,Vi a)] (fun m=>?_))))))));refine Cp (Xu 3 [(10,Vi a),(11,Vi (i64.wrap (a+1))),(4,Vi (i64.wrap (a+1)))] (Xe R ?_));obtain rfl:=Sj d;exact Kt ⟨(h,i64.wrap (c+(i64.wrap (u8.wrap (b-48)))),i64.wrap (a+1)),⟨R,R,R,T0⟩,⟨g,i,k,j⟩,Ns _⟩
 refine Ce (Ke ?_);obtain rfl:=Sj d;have v:=Sj g;subst v;have d:=s;refine Ke (Ki (Kt (Cn [(3,Vi c)] (fun m=>?_))));refine Cs (Xu 2 [(29,Vi c),(2,Vi c)] (Xk (Cr (Rr (Rv [Vi c] ⟨R,T0⟩ ?_)))));obtain rfl:=Sj d;exact ⟨R,i⟩
def wagonnumber_check (a:List UInt8):Option Int:=
((wagonnumber_sum a).bind fun b=>
some (Int.tmod (i64.wrap (10-(Int.tmod b 10))) 10))
theorem wagonnumber_check_w (b g a)(d:wagonnumber_check b=some g):CallVC Tryz.prog 127 [Vs b] a fun h m=>h=Vi g∧Ev [] a m:=by
 refine Cv hmx Tryz.func127 (by kernel_rfl) R (rs:=[.tmp 2]) R (by kernel_rfl) (args:=[Vs b]) R ?_;have e:Ev [] a a:=Ev.refl _ _;have o:MS a [[]]:=⟨List.pairwise_singleton _ _,fun p f n i=>by simp only [List.mem_singleton] at f; subst f; cases i⟩
 refine Cs (Xu 1 [(2,Vi 0)] (Xk (Cs (Xu 1 [(3,Vs b)] ?_))));obtain ⟨c,l,d⟩:=Bs d;have j:=wagonnumber_sum_w b _ a l;refine Xc 134 #[] #[] _ _ R R R R j ?_;rintro h q ⟨rfl,k⟩;refine I1 ?_;have e:=e.ext k;refine Xu 4 [(5,Vi (Int.tmod c 10)),(6,Vi (i64.wrap (10-(Int.tmod c 10)))),(7,Vi (Int.tmod (i64.wrap (10-(Int.tmod c 10))) 10)),(2,Vi (Int.tmod (i64.wrap (10-(Int.tmod c 10))) 10))] (Xk (Cr (Rr (Rv [Vi (Int.tmod (i64.wrap (10-(Int.tmod c 10))) 10)] ⟨R,T0⟩ ?_))));obtain rfl:=Sj d;exact ⟨R,e⟩
def wagonnumber_Valid (a:List UInt8):Option Int:=
((wagonnumber_digits a 12).bind fun b=>
(if (!b)=true then
some 11
else
((sAt a 11).bind fun c=>
(if 0≤((0:Int):Int)∧((0:Int):Int)≤(11:Int)∧(11:Int)≤(a.length:Int) then
((wagonnumber_check ((a.drop (Int.toNat (0:Int))).take (Int.toNat 11-Int.toNat (0:Int)))).bind fun d=>
(if ((i64.wrap (u8.wrap (c-48)))!=d)=true then
some 9
else
some 0))
else none))))
theorem wagonnumber_Valid_w (c n e)(a:wagonnumber_Valid c=some n):CallVC Tryz.prog 105 [Vs c] e fun j t=>j=Vi n∧Ev [] e t:=by
 refine Cv hmx Tryz.func105 (by kernel_rfl) R (rs:=[.tmp 2]) R (by kernel_rfl) (args:=[Vs c]) R ?_;have b:Ev [] e e:=Ev.refl _ _;have w:MS e [[]]:=⟨List.pairwise_singleton _ _,fun x m v p=>by simp only [List.mem_singleton] at m; subst m; cases p⟩
 refine Cs (Xu 1 [(2,Vi 0)] (Xk (Cq (Cs (Xu 1 [(3,Vs c)] ?_)))));obtain ⟨o,h,a⟩:=Bs a;have f:=wagonnumber_digits_w c 12 _ e h;refine Xc 126 #[] #[] _ _ R R R R f ?_;rintro j l ⟨rfl,q⟩;refine I1 ?_;have b:=b.ext q;refine Xu 1 [(5,.bool (!o))] (Xk (Ci (!o) R a (fun a=>?_) (fun a=>?_)))
 · refine Cs (Xu 1 [(2,Vi 11)] (Xk (Cr (Kr (Rr (Rv [Vi 11] ⟨R,T0⟩ ?_))))));obtain rfl:=Sj a;exact ⟨R,b⟩
 refine Ck (Kt (Cq (Cq (c_drawnp [] [(0,false),(1,false),(2,false),(4,false),(5,false)] (.alt 3 false (opsThen [(6,false),(7,false)] .stop) (.alt 6 false (opsThen [(3,false),(7,false)] .stop) .none_)) _ (by kernel_rfl) R ?_))));have b:=b.ext (Ev.drew l);refine Xu 1 [(6,Vs c)] ?_;obtain ⟨d,s,a⟩:=Bs a;refine x_index (xv:=Vs c) (yv:=Vi 11) (.int .u8 d) R R R R (reads_sindex tstr9 s) (Xu 2 [(8,.int .u8 (u8.wrap (d-48))),(10,Vs c)] ?_);have r:=Gl a;have a:=Gr a;refine x_slice (xv:=Vs c) (lv:=none) (hv:=(some (Vi 11))) (mv:=none) (Vs ((c.drop (Int.toNat (0:Int))).take (Int.toNat 11-Int.toNat (0:Int)))) R R R R R R (reads_scut tstr9 _ none (some 11) r) (Xe R (t_alt _ R ?_ ?_))
 · refine x_convert (Vi (i64.wrap (u8.wrap (d-48)))) _ R R R (tcv5_3 (u8.wrap (d-48)) _) (⟨.inr (Ev.refl _ _),?_⟩);obtain ⟨i,h,a⟩:=Bs a;have f:=wagonnumber_check_w ((c.drop (Int.toNat (0:Int))).take (Int.toNat 11-Int.toNat (0:Int))) _ (l).drew h;refine Xc 127 #[] #[] _ _ R R R R f ?_;rintro j u ⟨rfl,g⟩;refine ⟨.inr g,?_⟩;have b:=b.ext g;refine Xu 1 [(13,.bool ((i64.wrap (u8.wrap (d-48)))!=i))] (Xe R (t_stop (Kt (Ci ((i64.wrap (u8.wrap (d-48)))!=i) R a (fun a=>?_) (fun a=>?_)))))
   · refine Cs (Xu 1 [(2,Vi 9)] (Xk (Cn [(2,Vi 9)] (fun k=>?_))));refine Cr (Kr (Rr (Rv [Vi 9] ⟨R,T0⟩ ?_)));obtain rfl:=Sj a;exact ⟨R,b⟩
   refine Ck (Kt (c_norm [] T0 (fun k=>?_)));refine Cs (Xu 1 [(2,Vi 0)] (Xk (Cr (Rr (Rv [Vi 0] ⟨R,T0⟩ ?_)))));obtain rfl:=Sj a;exact ⟨R,b⟩
 refine t_alt _ R ?_ ?_
 · obtain ⟨i,h,a⟩:=Bs a;have f:=wagonnumber_check_w ((c.drop (Int.toNat (0:Int))).take (Int.toNat 11-Int.toNat (0:Int))) _ (l).drew h;refine Xc 127 #[] #[] _ _ R R R R f ?_;rintro j u ⟨rfl,g⟩;refine ⟨.inr g,?_⟩;have b:=b.ext g;refine x_convert (Vi (i64.wrap (u8.wrap (d-48)))) _ R R R (tcv5_3 (u8.wrap (d-48)) _) (⟨.inr (Ev.refl _ _),?_⟩);refine Xu 1 [(13,.bool ((i64.wrap (u8.wrap (d-48)))!=i))] (Xe R (t_stop (Kt (Ci ((i64.wrap (u8.wrap (d-48)))!=i) R a (fun a=>?_) (fun a=>?_)))))
   · refine Cs (Xu 1 [(2,Vi 9)] (Xk (Cn [(2,Vi 9)] (fun k=>?_))));refine Cr (Kr (Rr (Rv [Vi 9] ⟨R,T0⟩ ?_)));obtain rfl:=Sj a;exact ⟨R,b⟩
   refine Ck (Kt (c_norm [] T0 (fun k=>?_)));refine Cs (Xu 1 [(2,Vi 0)] (Xk (Cr (Rr (Rv [Vi 0] ⟨R,T0⟩ ?_)))));obtain rfl:=Sj a;exact ⟨R,b⟩
 exact t_none
def wagonnumber_Kind_J6 (b:Int) (a:Bool):Option (Int×Int):=
(if a=true then
some (2,0)
else
(if (b==57)=true then
some (3,0)
else
some (0,0)))
def wagonnumber_Kind_J5 (a:Int) (b:Bool):Option (Int×Int):=
(if b=true then
some (1,0)
else
(if (a==50)=true then
wagonnumber_Kind_J6 a true
else
wagonnumber_Kind_J6 a (a==52)))
def wagonnumber_Kind (b:List UInt8):Option (Int×Int):=
((wagonnumber_Valid b).bind fun c=>
(if (c != 0)=true then
some (0,c)
else
((sAt b 4).bind fun a=>
(if (a==55)=true then
wagonnumber_Kind_J5 a true
else
wagonnumber_Kind_J5 a (a==56)))))
theorem wagonnumber_Kind_w (f l d)(a:wagonnumber_Kind f=some l):CallVC Tryz.prog 72 [Vs f] d fun q h=>q=.tuple #[Vi l.1,Vi l.2]∧Ev [] d h:=by
 refine Cv hmx Tryz.func72 (by kernel_rfl) R (rs:=[.tmp 2,.tmp 3]) R (by kernel_rfl) (args:=[Vs f]) R ?_;have c:Ev [] d d:=Ev.refl _ _;have e:MS d [[]]:=⟨List.pairwise_singleton _ _,fun w p v r=>by simp only [List.mem_singleton] at p; subst p; cases r⟩
 have j:FR d.heap.size []:=FR.nil _;refine Cs (Xu 2 [(2,Vi 0),(3,Vi 0)] (Xk (Cq (Cs (Xu 1 [(5,Vs f)] ?_)))));obtain ⟨i,t,a⟩:=Bs a;have s:=wagonnumber_Valid_w f _ d t;refine Xc 105 #[] #[] _ _ R R R R s ?_;rintro q x ⟨rfl,o⟩;refine I1 ?_;have e:=e.ev o;have c:=c.ext o;refine Xu 1 [(4,Vi i)] (Xk (Cs (Xu 2 [(7,Vi i),(8,.bool (i != 0))] (Xk (Ci (i != 0) R a (fun a=>?_) (fun a=>?_))))))
 · refine Cs (Xu 3 [(9,Vi i),(2,Vi 0),(3,Vi i)] (Xk (Cr (Kr (Rr (Rv [Vi 0,Vi i] ⟨R,R,T0⟩ ?_))))));obtain rfl:=Sj a;exact ⟨R,c⟩
 refine Ck (Kt (Cq (Cs (Xu 1 [(10,Vs f)] ?_))));obtain ⟨b,u,a⟩:=Bs a;refine x_index (xv:=Vs f) (yv:=Vi 4) (.int .u8 b) R R R R (reads_sindex tstr9 u) (Xk (Cb (c_join (σ:=Bool) (fun g=>match g with | m=>[(11,.int .u8 b),(12,.bool m)]) (fun g h=>match g with | m=>wagonnumber_Kind_J5 b m=some l∧Ev [] d h∧MS h [[]]∧FR d.heap.size []) ?_ ?_)))
 · refine Cs (Xu 2 [(13,.bool (b==55)),(12,.bool (b==55))] (Xk (Ci (b==55) R a (fun a=>?_) (fun a=>?_))))
   · refine Ck ?_;exact Kt ⟨true,⟨R,R,T0⟩,a,c,e,j⟩
   refine Cp (Xu 2 [(14,.bool (b==56)),(12,.bool (b==56))] (Xe R ?_));exact Kt ⟨b==56,⟨R,R,T0⟩,a,c,e,j⟩
 rintro m k y ⟨a,c,e,j⟩;refine Ci m R a (fun a=>?_) (fun a=>?_)
 · refine Cs (Xu 2 [(2,Vi 1),(3,Vi 0)] (Xk (Cn [(2,Vi 1),(3,Vi 0)] (fun k=>?_))));refine Cr (Kb (Kr (Rr (Rv [Vi 1,Vi 0] ⟨R,R,T0⟩ ?_))));obtain rfl:=Sj a;exact ⟨R,c⟩
 refine c_join (σ:=Bool) (fun g=>match g with | n=>[(11,.int .u8 b),(15,.bool n)]) (fun g h=>match g with | n=>wagonnumber_Kind_J6 b n=some l∧Ev [] d h∧MS h [[]]∧FR d.heap.size []) ?_ ?_
 · refine Cs (Xu 2 [(16,.bool (b==50)),(15,.bool (b==50))] (Xk (Cn [(11,.int .u8 b),(15,.bool (b==50))] (fun k=>?_))));refine Ci (b==50) R a (fun a=>?_) (fun a=>?_)
   · refine Ck ?_;exact Kt ⟨true,⟨R,R,T0⟩,a,c,e,j⟩
   refine Cp (Xu 2 [(17,.bool (b==52)),(15,.bool (b==52))] (Xe R ?_));exact Kt ⟨b==52,⟨R,R,T0⟩,a,c,e,j⟩
 rintro n k z ⟨a,c,e,j⟩;refine Ci n R a (fun a=>?_) (fun a=>?_)
 · refine Cs (Xu 2 [(2,Vi 2),(3,Vi 0)] (Xk (Cn [(2,Vi 2),(3,Vi 0)] (fun k=>?_))));refine Cr (Kb (Kr (Rr (Rv [Vi 2,Vi 0] ⟨R,R,T0⟩ ?_))));obtain rfl:=Sj a;exact ⟨R,c⟩
 refine Cs (Xu 2 [(19,.bool (b==57)),(18,.bool (b==57))] (Xk (Cn [(18,.bool (b==57))] (fun k=>?_))));refine Ci (b==57) R a (fun a=>?_) (fun a=>?_)
 · refine Cs (Xu 2 [(2,Vi 3),(3,Vi 0)] (Xk (Cr (Kb (Kr (Rr (Rv [Vi 3,Vi 0] ⟨R,R,T0⟩ ?_)))))));obtain rfl:=Sj a;exact ⟨R,c⟩
 refine Ck (Kl (Kt (Cs (Xu 2 [(2,Vi 0),(3,Vi 0)] (Xk (Cr (Rr (Rv [Vi 0,Vi 0] ⟨R,R,T0⟩ ?_))))))));obtain rfl:=Sj a;exact ⟨R,c⟩
end Go.Proofs.YtlejnkhaphlooaaGreat
