/- Plain laws of the functions that the statement reaches, text by text. Conditions: those of each theorem. -/
import Derived.Test.YtlejnkhaphlooaaGreatGgen
import Derived.Test.YtlejnkhaphlooaaGreatGslplanner
import Derived.Test.YtlejnkhaphlooaaGreatGjob
import Derived.Test.YtlejnkhaphlooaaGreatGr11
import Derived.Test.YtlejnkhaphlooaaGreatGcode
import Derived.Test.YtlejnkhaphlooaaGreatGr12
import Derived.Test.YtlejnkhaphlooaaGreatGrollin
import Derived.Test.YtlejnkhaphlooaaGreatGslices
import Derived.Test.YtlejnkhaphlooaaGreatGr14
import Derived.Test.YtlejnkhaphlooaaGreatGleastcode
import Derived.Test.YtlejnkhaphlooaaGreatGcertificate
import Derived.Test.YtlejnkhaphlooaaGreatGr13
import Derived.Test.YtlejnkhaphlooaaGreatGr15
import Derived.Test.YtlejnkhaphlooaaGreatGplanner
import Derived.Test.YtlejnkhaphlooaaGreatGr17
import Derived.Test.YtlejnkhaphlooaaGreatGslassign
set_option linter.unusedVariables false
set_option linter.unusedSimpArgs false
set_option linter.unusedSectionVars false
set_option maxRecDepth 100000
namespace Go.Proofs.YtlejnkhaphlooaaGreat
open Go Go.V Go.Proofs
theorem wr_id {n:Int}(h1:-9223372036854775808≤n)(h2:n<9223372036854775808):IntKind.i64.wrap n=n:=by
  have e:∀ n:Int,IntKind.i64.wrap n=if n%18446744073709551616≥9223372036854775808 then n%18446744073709551616-18446744073709551616 else n%18446744073709551616:=by
    intro n;show (if (IntKind.i64.signed&&decide (n%(2 ^ IntKind.i64.bits:Int)≥(2 ^ (IntKind.i64.bits-1):Int)))=true then _ else _)=_
    have h1:(2 ^ IntKind.i64.bits:Int)=18446744073709551616:=by decide
    have h2:(2 ^ (IntKind.i64.bits-1):Int)=9223372036854775808:=by decide
    rw [h1,h2];simp [IntKind.signed]
  rw [e]
  split <;> omega
theorem tmod_range (x n:Int)(hn:0<n):-n<Int.tmod x n∧Int.tmod x n<n:=by
  rcases Int.le_total 0 x with h | h
  · have h1:=Int.tmod_lt_of_pos x hn;have h2:0≤Int.tmod x n:=Int.tmod_nonneg n h;omega
  · have h0:Int.tmod x n = -(Int.tmod (-x) n):=by rw [Int.neg_tmod]; omega
    have h1:=Int.tmod_lt_of_pos (-x) hn;have h2:0≤Int.tmod (-x) n:=Int.tmod_nonneg n (by omega);omega
theorem idx_of {α:Type}(xs:List α)(i:Int)(h0:0≤i)(h1:i<xs.length):∃ x,x∈xs∧idx xs i=some x:=by
  have hl:i.toNat<xs.length:=by omega
  refine ⟨xs[i.toNat],List.getElem_mem hl,?_⟩;unfold idx;rw [if_pos h0];exact List.getElem?_eq_getElem hl
theorem next_ok (l:List Int)(k n:Int)(hk:0≤k)(hk2:k<4611686018427387904)(hn:0<n)(hn2:n≤4611686018427387904) :
    ∃ v,gen_Maker_Next l k n=some (v,k+1)∧0≤v∧v<n:=by
  have hw:IntKind.i64.wrap (k+1)=k+1:=wr_id (by omega) (by omega);have fin:∀ y:Int,∃ v,gen_Maker_Next_J3 k n y=some (v,k+1)∧0≤v∧v<n:=by
    intro y;unfold gen_Maker_Next_J3;rw [if_pos (by omega)];obtain ⟨h1,h2⟩:=tmod_range y n hn;rw [hw]
    by_cases hy:Int.tmod y n<0
    · rw [if_pos (by simpa using hy),wr_id (by omega) (by omega)];exact ⟨_,rfl,by omega,by omega⟩
    · rw [if_neg (by simpa using hy)];exact ⟨_,rfl,by omega,by omega⟩
  unfold gen_Maker_Next
  by_cases hl:((l.length:Int)>0)
  · rw [if_pos (by simpa using hl),if_pos (by omega)];obtain ⟨x,_,hx⟩:=idx_of l (Int.tmod k l.length) (Int.tmod_nonneg _ hk) (Int.tmod_lt_of_pos k (by omega));rw [hx];simp only [Option.bind_some];rw [if_pos (by omega)];exact fin _
  · rw [if_neg (by simpa using hl)];exact fin 0
theorem next_nat (l:List Int)(k n:Int)(hk:0≤k)(hk2:k<4611686018427387904)(hn:0<n)(hn2:n≤4611686018427387904) :
    ∃ v:Nat,gen_Maker_Next l k n=some ((v:Int),k+1)∧(v:Int)<n:=by
  obtain ⟨v,h,h0,h1⟩:=next_ok l k n hk hk2 hn hn2;exact ⟨v.toNat,by rw [h,Int.toNat_of_nonneg h0],by omega⟩
theorem pick_ok (l:List Int)(k:Int)(xs:List Int)(hk:0≤k)(hk2:k<4611686018427387904)(hx:0<xs.length)(hx2:xs.length≤4611686018427387904) :
    ∃ v,gen_Maker_Pick l k xs=some (v,k+1)∧v∈xs:=by
  obtain ⟨i,hi,h0,h1⟩:=next_ok l k xs.length hk hk2 (by omega) (by omega);obtain ⟨x,hm,hx⟩:=idx_of xs i h0 h1;refine ⟨x,?_,hm⟩;unfold gen_Maker_Pick;rw [hi];simp only [Option.bind_some,hx]
theorem loopN_inv {S D:Type}{step:S→Option (Step S D)}(I:S→Prop)(mu:S→Nat)(P:D→Prop)
    (h:∀ s,I s→(∃ s',step s=some (.next s')∧I s'∧mu s'<mu s)∨(∃ d,step s=some (.done d)∧P d)) :
    ∀ (n:Nat) (s:S),I s→mu s<n→∃ d,loopN step n s=some d∧P d
  | 0,s,_,hm=>absurd hm (Nat.not_lt_zero _)
  | n+1,s,hi,hm=>by
    rcases h s hi with ⟨s',h1,h2,h3⟩ | ⟨d,h1,h2⟩
    · obtain ⟨d,h4,h5⟩:=loopN_inv I mu P h n s' h2 (by omega);exact ⟨d,by simp only [loopN,h1,Option.bind_some,h4],h5⟩
    · exact ⟨d,by simp only [loopN,h1,Option.bind_some],h2⟩
theorem loop_inv {S D:Type}{step:S→Option (Step S D)}(I:S→Prop)(mu:S→Nat)(P:D→Prop)
    (h:∀ s,I s→(∃ s',step s=some (.next s')∧I s'∧mu s'<mu s)∨(∃ d,step s=some (.done d)∧P d))
    (s:S) (hi:I s) (hm:mu s<18446744073709551616):∃ d,loop step s=some d∧P d:=
  loopN_inv I mu P h _ s hi hm
theorem loopN_count {D:Type}{step:Int→Option (Step Int D)}{d:D}{e:Nat}(h2:step (e:Int)=some (.done d)) :
    ∀ (m a n:Nat),a+m=e→m<n→(∀ x:Nat,a≤x→x<e→step (x:Int)=some (.next ((x:Int)+1)))→loopN step n (a:Int)=some d
  | _,_,0,_,hn,_=>absurd hn (Nat.not_lt_zero _)
  | 0,a,n+1,hm,hn,h1=>by
    rw [show a=e by omega];simp only [loopN,h2,Option.bind_some]
  | m+1,a,n+1,hm,hn,h1=>by
    have h3:=loopN_count h2 m (a+1) n (by omega) (by omega) (fun x hx1 hx2=>h1 x (by omega) hx2);simp only [loopN,h1 a (by omega) (by omega),Option.bind_some];exact h3
theorem loop_count {D:Type}(step:Int→Option (Step Int D))(d:D)(a e:Nat)(h:a≤e)(he:e<18446744073709551616)
    (h1:∀ x:Nat,a≤x→x<e→step (x:Int)=some (.next ((x:Int)+1))) (h2:step (e:Int)=some (.done d)):loop step (a:Int)=some d:=
  loopN_count h2 (e-a) a _ (by omega) (by omega) h1
theorem dpos {p:Prop} [Decidable p] (h:p):decide p=true:=decide_eq_true h
theorem dneg {p:Prop} [Decidable p] (h:¬ p):¬ decide p=true:=fun h'=>h (of_decide_eq_true h')
theorem idx_nat {α:Type}(xs:List α)(i:Nat):idx xs (i:Int)=xs[i]?:=by
  unfold idx;rw [if_pos (by omega)];simp
theorem ints_ok (a b:List Int)(ha:a.length<4611686018427387904):gen_Ints a b=some (decide (a=b)):=by
  unfold gen_Ints
  by_cases hl:a.length=b.length
  · rw [if_neg (by simp [hl])];obtain ⟨d,h1,h2⟩:=loop_inv (step:=gen_Ints_L4 a b) (fun s=>∃ i:Nat,s=(i:Int)∧i≤a.length∧a.take i=b.take i) (fun s=>a.length-s.toNat)
      (fun d=>(d=.inr ()∧a=b)∨(d=.inl ()∧a≠b)) (by
      rintro _ ⟨i,rfl,hi,ht⟩;unfold gen_Ints_L4
      by_cases h:i<a.length
      · have h':i<b.length:=by omega
        simp only;rw [if_pos (dpos (by omega)),idx_nat,idx_nat,List.getElem?_eq_getElem h,List.getElem?_eq_getElem h'];simp only [Option.bind_some]
        by_cases he:a[i]=b[i]
        · refine Or.inl ⟨_,if_neg (by simp [he]),⟨i+1,?_,by omega,?_⟩,?_⟩
          · rw [wr_id (by omega) (by omega)]; rfl
          · rw [List.take_succ_eq_append_getElem h,List.take_succ_eq_append_getElem h',ht,he]
          · rw [wr_id (by omega) (by omega)]; omega
        · refine Or.inr ⟨_,if_pos (by simpa using he),Or.inr ⟨rfl,fun e=>he ?_⟩⟩;subst e; rfl
      · refine Or.inr ⟨_,if_neg (dneg (by omega)),Or.inl ⟨rfl,?_⟩⟩;rw [List.take_of_length_le (by omega),List.take_of_length_le (by omega)] at ht;exact ht) 0 ⟨0,rfl,by omega,by simp⟩ (by omega)
    rw [h1];rcases h2 with ⟨rfl,h3⟩ | ⟨rfl,h3⟩
    · simp [h3]
    · simp [h3]
  · rw [if_pos (by simpa using (by omega:¬ (a.length:Int)=(b.length:Int)))];have:a≠b:=fun e=>hl (by rw [e])
    simp [this]
theorem obind {α β:Type}(a:α)(f:α→Option β):(some a).bind f=f a:=by
  have h:∀ o,o=some a→o.bind f=f a:=fun o h=>by subst h; rfl
  exact h _ rfl
theorem lk1 {k:Nat}(h:k<4294967296):IntKind.i64.wrap ((k:Int)+1)=((k+1:Nat):Int):=by rw [wr_id (by omega) (by omega)]; omega
abbrev Sc:=Int×Int×Int×Int
def bef (a b:Sc):Prop:=a.2.1<b.2.1∨(a.2.1=b.2.1∧(a.2.2.1<b.2.2.1∨(a.2.2.1=b.2.2.1∧a.1<b.1)))
instance (a b:Sc):Decidable (bef a b):=by unfold bef; infer_instance
def insf (x:Sc):List Sc→List Sc
  | []=>[x]
  | y::q=>if bef x y then y::insf x q else x::y::q
def insr (x:Sc) (P:List Sc):List Sc:=(insf x P.reverse).reverse
theorem insr_nil (x:Sc):insr x []=[x]:=rfl
theorem insr_snoc (x y:Sc)(Q:List Sc):insr x (Q++[y])=if bef x y then insr x Q++[y] else Q++[y,x]:=by
  unfold insr;rw [List.reverse_append];show (insf x (y::Q.reverse)).reverse=_
  unfold insf
  by_cases c:bef x y
  · rw [if_pos c,if_pos c,List.reverse_cons];cases Q.reverse <;> rfl
  · rw [if_neg c,if_neg c]; simp
theorem or_ok (a b c:Int):cmp_Or_int_ [a,b,c]=some (if a≠0 then a else if b≠0 then b else c):=by
  have s0:cmp_Or_int__L2 [a,b,c] 0=if a≠0 then some (.done (.inl a)) else some (.next 1):=by
    unfold cmp_Or_int__L2;dsimp only;rw [if_pos (dpos (by simp)),show idx [a,b,c] 0=some a from rfl];simp only [Option.bind_some,bne_iff_ne]; rfl
  have s1:cmp_Or_int__L2 [a,b,c] 1=if b≠0 then some (.done (.inl b)) else some (.next 2):=by
    unfold cmp_Or_int__L2;dsimp only;rw [if_pos (dpos (by simp)),show idx [a,b,c] 1=some b from rfl];simp only [Option.bind_some,bne_iff_ne]; rfl
  have s2:cmp_Or_int__L2 [a,b,c] 2=if c≠0 then some (.done (.inl c)) else some (.next 3):=by
    unfold cmp_Or_int__L2;dsimp only;rw [if_pos (dpos (by simp)),show idx [a,b,c] 2=some c from rfl];simp only [Option.bind_some,bne_iff_ne]; rfl
  have s3:cmp_Or_int__L2 [a,b,c] 3=some (.done (.inr ())):=by
    unfold cmp_Or_int__L2;dsimp only;rw [if_neg (dneg (by simp))]
  unfold cmp_Or_int_
  by_cases ha:a≠0
  · rw [if_pos ha] at s0 ⊢;rw [loop_of 1 (by decide) (r:=.inl a) (by simp only [loopN,s0,Option.bind_some])]; rfl
  rw [if_neg ha] at s0 ⊢
  by_cases hb:b≠0
  · rw [if_pos hb] at s1 ⊢;rw [loop_of 2 (by decide) (r:=.inl b) (by simp only [loopN,s0,s1,Option.bind_some])]; rfl
  rw [if_neg hb] at s1 ⊢
  by_cases hc:c≠0
  · rw [if_pos hc] at s2;rw [loop_of 3 (by decide) (r:=.inl c) (by simp only [loopN,s0,s1,s2,Option.bind_some])]; rfl
  · rw [if_neg hc] at s2;rw [loop_of 4 (by decide) (r:=.inr ()) (by simp only [loopN,s0,s1,s2,s3,Option.bind_some])];simp only [Option.bind_some];have:c=0:=by omega
    rw [this]
def SmS (s:Sc):Prop:=(0≤s.1∧s.1≤1000000000)∧(0≤s.2.1∧s.2.1≤1000000000)∧(0≤s.2.2.1∧s.2.2.1≤1000000000)
theorem scmp_ok {a b:Sc}(ha:SmS a)(hb:SmS b):∃ c,planner_Schemes_1 a.1 a.2.1 a.2.2.1 a.2.2.2 b.1 b.2.1 b.2.2.1 b.2.2.2=some c∧(c<0↔bef a b):=by
  obtain ⟨a1,a2,a3⟩:=ha;obtain ⟨b1,b2,b3⟩:=hb;unfold planner_Schemes_1;rw [wr_id (n:=a.2.1-b.2.1) (by omega) (by omega),wr_id (n:=a.2.2.1-b.2.2.1) (by omega) (by omega),wr_id (n:=a.1-b.1) (by omega) (by omega),or_ok];refine ⟨_,rfl,?_⟩;unfold bef
  by_cases c1:a.2.1-b.2.1≠0
  · rw [if_pos c1]; omega
  rw [if_neg c1]
  by_cases c2:a.2.2.1-b.2.2.1≠0
  · rw [if_pos c2]; omega
  rw [if_neg c2]; omega
theorem set_mid {α:Type}(Q:List α)(a b:α)(R:List α)(x:α):(Q++a::b::R).set Q.length x=Q++x::b::R:=by simp
theorem set_mid1 {α:Type}(Q:List α)(a b:α)(R:List α)(x:α):(Q++a::b::R).set (Q.length+1) x=Q++a::x::R:=by
  rw [List.set_append_right _ _ (by omega)];simp
theorem get_mid {α:Type}(Q:List α)(a b:α)(R:List α):(Q++a::b::R)[Q.length]? = some a:=by simp
theorem get_mid1 {α:Type}(Q:List α)(a b:α)(R:List α):(Q++a::b::R)[Q.length+1]? = some b:=by
  rw [List.getElem?_append_right (by omega)]; simp
theorem ins1 (x:Sc)(R:List Sc)(hx:SmS x)(P:List Sc)(hP:∀ s∈P,SmS s)(hl:P.length≤1000000) :
    loop (slices_insertionSortCmpFunc_humpyard_api_Scheme__L4 0) (P++x::R,(P.length:Int))=some (insr x P++R):=by
  obtain ⟨d,hd,rfl⟩:=loop_inv (step:=slices_insertionSortCmpFunc_humpyard_api_Scheme__L4 0) (fun p=>∃ Q R':List Sc,p=(Q++x::R',(Q.length:Int))∧(∀ s∈Q,SmS s)∧Q.length≤1000000∧insr x Q++R'=insr x P++R) (fun p=>p.2.toNat) (fun d=>d=insr x P++R) (by
    rintro _ ⟨Q,R',rfl,hQ,hQl,he⟩;unfold slices_insertionSortCmpFunc_humpyard_api_Scheme__L4;dsimp only
    by_cases hn:Q=[]
    · subst hn;rw [if_neg (dneg (by simp))];refine .inr ⟨_,rfl,?_⟩;rw [← he,insr_nil]; rfl
    · obtain ⟨Q',y,rfl⟩:∃ Q' y,Q=Q'++[y]:=⟨Q.dropLast,Q.getLast hn,(List.dropLast_concat_getLast hn).symm⟩
      have hy:=hQ y (by simp);have hl1:(Q'++[y]).length=Q'.length+1:=by simp
      have e0:(Q'++[y])++x::R'=Q'++y::x::R':=by simp
      rw [hl1] at hQl ⊢;rw [e0];have w1:IntKind.i64.wrap (((Q'.length+1:Nat):Int)-1)=(Q'.length:Int):=by rw [wr_id (by omega) (by omega)]; omega
      rw [if_pos (dpos (by omega)),w1,idx_nat,idx_nat,get_mid,get_mid1];simp only [Option.bind_some];obtain ⟨c,hc,hcb⟩:=scmp_ok hx hy;rw [hc];simp only [Option.bind_some];rw [insr_snoc] at he
      by_cases q:c<0
      · rw [if_pos (dpos q)];rw [if_pos (hcb.1 q)] at he;simp only [Int.toNat_natCast];rw [set_mid1,idx_nat,get_mid];simp only [Option.bind_some];rw [set_mid];refine .inl ⟨_,rfl,⟨Q',y::R',rfl,fun s hs=>hQ s (List.mem_append_left _ hs),by omega,?_⟩,by dsimp only; omega⟩;rw [← he]; simp
      · rw [if_neg (dneg q)];rw [if_neg (fun h=>q (hcb.2 h))] at he;refine .inr ⟨_,rfl,?_⟩;rw [← he]; simp) (P++x::R,(P.length:Int)) ⟨P,R,rfl,hP,hl,rfl⟩ (by dsimp only; omega)
  exact hd
theorem insf_mem {x s:Sc}:∀ {l:List Sc},s∈insf x l↔s=x∨s∈l
  | []=>by simp [insf]
  | y::q=>by
    unfold insf
    split
    · rw [List.mem_cons,insf_mem,List.mem_cons];constructor
      · rintro (h | h | h)
        · exact .inr (.inl h)
        · exact .inl h
        · exact .inr (.inr h)
      · rintro (h | h | h)
        · exact .inr (.inl h)
        · exact .inl h
        · exact .inr (.inr h)
    · simp
theorem insr_mem {x s:Sc}{l:List Sc}:s∈insr x l↔s=x∨s∈l:=by unfold insr; rw [List.mem_reverse,insf_mem,List.mem_reverse]
theorem insf_len (x:Sc):∀ l:List Sc,(insf x l).length=l.length+1
  | []=>rfl
  | y::q=>by
    unfold insf
    split
    · simp [insf_len x q]
    · simp
theorem insr_len (x:Sc)(l:List Sc):(insr x l).length=l.length+1:=by unfold insr; rw [List.length_reverse,insf_len,List.length_reverse]
def insAll (l:List Sc):List Sc:=l.foldl (fun a x=>insr x a) []
theorem insAll_snoc (l:List Sc)(x:Sc):insAll (l++[x])=insr x (insAll l):=by simp [insAll]
theorem insAll_len:∀ n (l:List Sc),l.length=n→(insAll l).length=n
  | 0,l,h=>by rw [List.length_eq_zero_iff.1 h]; rfl
  | n+1,l,h=>by
    have hn:l≠[]:=fun e=>by rw [e] at h; cases h
    obtain ⟨q,y,rfl⟩:∃ q y,l=q++[y]:=⟨_,_,(List.dropLast_concat_getLast hn).symm⟩
    rw [insAll_snoc,insr_len,insAll_len n q (by simpa using h)]
theorem insAll_mem (s:Sc):∀ n (l:List Sc),l.length=n→(s∈insAll l↔s∈l)
  | 0,l,h=>by rw [List.length_eq_zero_iff.1 h]; simp [insAll]
  | n+1,l,h=>by
    have hn:l≠[]:=fun e=>by rw [e] at h; cases h
    obtain ⟨q,y,rfl⟩:∃ q y,l=q++[y]:=⟨_,_,(List.dropLast_concat_getLast hn).symm⟩
    rw [insAll_snoc,insr_mem,insAll_mem s n q (by simpa using h),List.mem_append,List.mem_singleton];exact Or.comm
theorem sort_ok (l:List Sc)(hl:l.length≤19)(h0:l≠[])(hs:∀ s∈l,SmS s):slices_SortStableFunc_humpyard_api_Scheme_humpyard_api_Scheme_ l=some (insAll l):=by
  have hins:slices_insertionSortCmpFunc_humpyard_api_Scheme_ l 0 (l.length:Int)=some (insAll l):=by
    unfold slices_insertionSortCmpFunc_humpyard_api_Scheme_;have hp:0<l.length:=List.length_pos_iff.2 h0;obtain ⟨d,hd,rfl⟩:=loop_inv (step:=slices_insertionSortCmpFunc_humpyard_api_Scheme__L2 0 (l.length:Int)) (fun p=>∃ i:Nat,p=(insAll (l.take i)++l.drop i,(i:Int))∧1≤i∧i≤l.length) (fun p=>l.length-p.2.toNat) (fun d=>d=insAll l) (by
      rintro _ ⟨i,rfl,hi,hi2⟩;unfold slices_insertionSortCmpFunc_humpyard_api_Scheme__L2;dsimp only
      by_cases c:i<l.length
      · have hil:(insAll (l.take i)).length=i:=insAll_len i _ (by rw [List.length_take]; omega);have h1:=ins1 l[i] (l.drop (i+1)) (hs _ (List.getElem_mem c)) (insAll (l.take i)) (fun s hs'=>hs s (List.mem_of_mem_take ((insAll_mem s i _ (by rw [List.length_take]; omega)).1 hs'))) (by omega);rw [hil,← List.drop_eq_getElem_cons c,← insAll_snoc,← List.take_succ_eq_append_getElem c] at h1;rw [if_pos (dpos (by omega)),h1];dsimp only [Option.bind_some];rw [lk1 (by omega)];exact .inl ⟨_,rfl,⟨i+1,rfl,by omega,by omega⟩,by dsimp only; omega⟩
      · obtain rfl:i=l.length:=by omega
        rw [if_neg (dneg (by omega)),List.take_length,List.drop_length,List.append_nil];exact .inr ⟨_,rfl,rfl⟩) (l,IntKind.i64.wrap (0+1)) ⟨1,by
          have e:IntKind.i64.wrap (0+1)=((1:Nat):Int):=by decide
          rw [e];cases l with
          | nil=>exact absurd rfl h0
          | cons x q=>rfl,by omega,hp⟩ (by dsimp only; omega)
    rw [hd]; rfl
  have hil:=insAll_len l.length l rfl;unfold slices_SortStableFunc_humpyard_api_Scheme_humpyard_api_Scheme_ slices_stableCmpFunc_humpyard_api_Scheme_;have s3:slices_stableCmpFunc_humpyard_api_Scheme__L3 (l.length:Int) (l,0,20)=some (.done (l,0)):=by
    unfold slices_stableCmpFunc_humpyard_api_Scheme__L3;dsimp only;rw [if_neg (dneg (by omega))]
  have s9:slices_stableCmpFunc_humpyard_api_Scheme__L9 (l.length:Int) 20=some (.done ()):=by
    unfold slices_stableCmpFunc_humpyard_api_Scheme__L9;dsimp only;rw [if_neg (dneg (by omega))]
  rw [loop_of 1 (by decide) (r:=(l,0)) (by simp only [loopN,s3,Option.bind_some])];dsimp only [Option.bind_some];rw [hins];simp only [Option.bind_some];rw [if_pos hil,loop_of 1 (by decide) (r:=()) (by simp only [loopN,s9,Option.bind_some])];simp only [Option.bind_some];rw [if_pos hil]
abbrev Item:=Int×Int×Int×Int
theorem job_in_ok (n lo hi:Int):job_in n lo hi=some (decide (lo≤n∧n≤hi)):=by
  unfold job_in
  by_cases h:n≥lo
  · rw [if_pos (by simpa using h)];simp only [ge_iff_le] at h;simp [h]
  · rw [if_neg (by simpa using h)];simp only [ge_iff_le] at h;simp [h]
theorem rng_if {α:Type}(n lo hi:Int)(A B:α):(if (!decide (lo≤n∧n≤hi))=true then A else B)=if decide (n<lo)=true then A else if decide (n>hi)=true then A else B:=by
  by_cases h1:n<lo
  · rw [if_pos (by simp; omega),if_pos (dpos h1)]
  · rw [if_neg (c:=decide (n<lo)=true) (dneg h1)]
    by_cases h2:n>hi
    · rw [if_pos (by simp; omega),if_pos (dpos h2)]
    · rw [if_neg (by simp; omega),if_neg (dneg h2)]
theorem dge (n:Int)(m:Int):decide (n≥m)=decide (n>m-1):=by
  by_cases h:n≥m
  · rw [dpos h,dpos (by omega)]
  · rw [decide_eq_false h,decide_eq_false (by omega)]
def good1 (x:Item):Prop:=(0≤x.1∧x.1≤15)∧(0≤x.2.1∧x.2.1≤31)∧(0≤x.2.2.1∧x.2.2.1≤12)∧(1≤x.2.2.2∧x.2.2.2≤400)
structure JobGood (items:List Item) (wt:Int):Prop where
  len:items.length≤96
  w:0≤wt∧wt≤12
  it:∀ (i:Nat) (x:Item),items[i]? = some x→good1 x
  asc:∀ (i:Nat) (x y:Item),items[i]? = some x→items[i+1]? = some y→x.2.2.1≤y.2.2.1
theorem jobvalid_spec (items:List Item)(wt:Int):∃ e,job_Valid items wt=some e∧((e=0∧JobGood items wt)∨(e≠0∧¬ JobGood items wt)):=by
  unfold job_Valid
  by_cases hl:items.length>96
  · rw [if_pos (dpos (by omega))];exact ⟨_,rfl,.inr ⟨by decide,fun h=>by have:=h.len; omega⟩⟩
  rw [if_neg (dneg (by omega)),job_in_ok];simp only [Option.bind_some]
  by_cases hw:0≤wt∧wt≤12
  · rw [if_neg (by simp [hw])];obtain ⟨d,h1,h2⟩:=loop_inv (step:=job_Valid_L8 items) (fun s=>∃ i:Nat,s=(i:Int)∧i≤items.length∧(∀ (j:Nat) (x:Item),j<i→items[j]? = some x→good1 x)∧(∀ (j:Nat) (x y:Item),j+1<i→items[j]? = some x→items[j+1]? = some y→x.2.2.1≤y.2.2.1))
      (fun s=>items.length-s.toNat) (fun d=>(d=.inr ()∧JobGood items wt)∨(∃ e,d=.inl e∧e≠0∧¬ JobGood items wt)) (by
      rintro _ ⟨i,rfl,hi,hg,ha⟩;unfold job_Valid_L8;simp only [job_in_ok,Option.bind_some]
      by_cases hil:i<items.length
      · rw [if_pos (dpos (by omega)),idx_nat,List.getElem?_eq_getElem hil];simp only [Option.bind_some];have hx:items[i]? = some items[i]:=List.getElem?_eq_getElem hil;generalize items[i]=x at hx
        by_cases q1:0≤x.1∧x.1≤15
        · by_cases q2:0≤x.2.1∧x.2.1≤31
          · by_cases q3:0≤x.2.2.1∧x.2.2.1≤12
            · by_cases q4:1≤x.2.2.2∧x.2.2.2≤400
              · rw [if_neg (by simp [q1]),if_neg (by simp [q2]),if_neg (by simp [q3]),if_neg (by simp [q4])];have hg':∀ (j:Nat) (y:Item),j<i+1→items[j]? = some y→good1 y:=by
                  intro j y hj hy
                  by_cases hji:j<i
                  · exact hg j y hji hy
                  · have:j=i:=by omega
                    subst this;rw [hx] at hy; cases hy;exact ⟨q1,q2,q3,q4⟩
                by_cases h0:0<i
                · rw [if_pos (dpos (by omega)),wr_id (by omega) (by omega),show (i:Int)-1=((i-1:Nat):Int) by omega,idx_nat,List.getElem?_eq_getElem (by omega)];simp only [Option.bind_some];have hy:items[i-1]? = some items[i-1]:=List.getElem?_eq_getElem (by omega);generalize items[i-1]=y at hy
                  by_cases q5:x.2.2.1<y.2.2.1
                  · rw [if_pos (dpos q5)];refine .inr ⟨_,rfl,.inr ⟨_,rfl,by decide,fun h=>?_⟩⟩;have:=h.asc (i-1) y x hy (by rw [show i-1+1=i by omega]; exact hx);omega
                  · rw [if_neg (dneg q5),wr_id (by omega) (by omega)];refine .inl ⟨_,rfl,⟨i+1,by simp,by omega,hg',fun j x' y' hj hx' hy'=>?_⟩,by omega⟩
                    by_cases hji:j+1<i
                    · exact ha j x' y' hji hx' hy'
                    · have e:j=i-1:=by omega
                      subst e;rw [show i-1+1=i by omega,hx] at hy';rw [hy] at hx';cases hx'; cases hy';omega
                · rw [if_neg (dneg (by omega)),wr_id (by omega) (by omega)];exact .inl ⟨_,rfl,⟨i+1,by simp,by omega,hg',fun j x' y' hj=>by omega⟩,by omega⟩
              · rw [if_neg (by simp [q1]),if_neg (by simp [q2]),if_neg (by simp [q3]),if_pos (by simp; omega)];exact .inr ⟨_,rfl,.inr ⟨_,rfl,by decide,fun h=>q4 (h.it i x hx).2.2.2⟩⟩
            · rw [if_neg (by simp [q1]),if_neg (by simp [q2]),if_pos (by simp; omega)];exact .inr ⟨_,rfl,.inr ⟨_,rfl,by decide,fun h=>q3 (h.it i x hx).2.2.1⟩⟩
          · rw [if_neg (by simp [q1]),if_pos (by simp; omega)];exact .inr ⟨_,rfl,.inr ⟨_,rfl,by decide,fun h=>q2 (h.it i x hx).2.1⟩⟩
        · rw [if_pos (by simp; omega)];exact .inr ⟨_,rfl,.inr ⟨_,rfl,by decide,fun h=>q1 (h.it i x hx).1⟩⟩
      · rw [if_neg (dneg (by omega))];refine .inr ⟨_,rfl,.inl ⟨rfl,⟨by omega,hw,fun j x hx=>hg j x ?_ hx,fun j x y hx hy=>ha j x y ?_ hx hy⟩⟩⟩
        · have:=(List.getElem?_eq_some_iff.1 hx).1; omega
        · have:=(List.getElem?_eq_some_iff.1 hy).1; omega) 0 ⟨0,rfl,by omega,fun j x h=>by omega,fun j x y h=>by omega⟩ (by simp; omega)
    rw [h1];rcases h2 with ⟨rfl,hg⟩ | ⟨e,rfl,he,hg⟩
    · exact ⟨_,rfl,.inl ⟨rfl,hg⟩⟩
    · exact ⟨_,rfl,.inr ⟨he,hg⟩⟩
  · rw [if_pos (by simp; omega)];exact ⟨_,rfl,.inr ⟨by decide,fun h=>hw h.w⟩⟩
structure Its (its:List Item) (r:Int):Prop where
  it:∀ (i:Nat) (x:Item),its[i]? = some x→good1 x∧x.2.2.1≤r∧x.1≤2
  asc:∀ (i:Nat) (x y:Item),its[i]? = some x→its[i+1]? = some y→x.2.2.1≤y.2.2.1
theorem Its.snoc {its:List Item}{r r':Int}{x:Item}(h:Its its r)(hr:r≤r')(hx:good1 x)(hxr:x.2.2.1=r')(hx1:x.1≤2):Its (its++[x]) r':=by
  have key:∀ (i:Nat) (y:Item),(its++[x])[i]? = some y→(its[i]? = some y)∨(i=its.length∧y=x):=by
    intro i y hy;rcases Nat.lt_or_ge i its.length with hi | hi
    · rw [List.getElem?_append_left hi] at hy; exact .inl hy
    · rw [List.getElem?_append_right hi] at hy;have h0:i-its.length=0:=by
        rcases Nat.eq_zero_or_pos (i-its.length) with h | h
        · exact h
        · rw [List.getElem?_eq_none (by simp; omega)] at hy; cases hy
      rw [h0] at hy;cases hy;exact .inr ⟨by omega,rfl⟩
  refine ⟨fun i y hy=>?_,fun i y z hy hz=>?_⟩
  · rcases key i y hy with h1 | ⟨_,rfl⟩
    · obtain ⟨h2,h3,h4⟩:=h.it i y h1;exact ⟨h2,by omega,h4⟩
    · exact ⟨hx,by omega,hx1⟩
  · rcases key i y hy with h1 | ⟨h1,rfl⟩ <;> rcases key (i+1) z hz with h2 | ⟨h2,rfl⟩
    · exact h.asc i y z h1 h2
    · have:=(h.it i y h1).2.1; omega
    · have:=(List.getElem?_eq_some_iff.1 h2).1; omega
    · omega
theorem J15_ok (l:List Int)(a b:Int×Int)(ha:0≤a.1∧a.1≤2)(hb:0≤b.1∧b.1≤5)(its:List Item)(i k r r':Int)(hk:0≤k∧k≤1000000000)(hr:0≤r∧r≤4)(hr':r'≤r)(hi:0<i∧i≤1000)(hl:its.length≤1000)(h:Its its r') :
    ∃ x,gen_Maker_Items_J15 l a b its i k r=some (.next (k+3,its++[x],r,i-1))∧Its (its++[x]) r:=by
  obtain ⟨v1,e1,q1,q2⟩:=next_ok l k (1+a.1) hk.1 (by omega) (by omega) (by omega);obtain ⟨v2,e2,q3,q4⟩:=next_ok l (k+1) (1+b.1) (by omega) (by omega) (by omega) (by omega);obtain ⟨v3,e3,q5⟩:=pick_ok l (k+1+1) [80,142,199,262] (by omega) (by omega) (by decide) (by decide);have q6:1≤v3∧v3≤400:=(by decide:∀ x∈[(80:Int),142,199,262],1≤x∧x≤400) v3 q5;unfold gen_Maker_Items_J15;rw [wr_id (n:=1+a.1) (by omega) (by omega),e1];simp only [Option.bind_some];rw [wr_id (n:=1+b.1) (by omega) (by omega),e2];simp only [Option.bind_some,e3];rw [if_pos (by simp only [List.length_cons,List.length_nil]; omega),wr_id (by omega) (by omega)];refine ⟨(v1,v2,r,v3),?_,?_⟩
  · rw [show k+1+1+1=k+3 by omega]
  · exact h.snoc hr' ⟨⟨q1,by simp only; omega⟩,⟨q3,by simp only; omega⟩,⟨hr.1,by simp only; omega⟩,q6⟩ rfl (by simp only; omega)
theorem J16_ok (l:List Int)(a b:Int×Int)(ha:0≤a.1∧a.1≤2)(hb:0≤b.1∧b.1≤5)(its:List Item)(i k r:Int)(t:Bool)(hk:0≤k∧k≤100000000)(hr:0≤r∧r≤4)(hi:0<i∧i≤1000)(hl:its.length≤1000)(h:Its its r) :
    ∃ x k' r',gen_Maker_Items_J16 l a b its r i k t=some (.next (k',its++[x],r',i-1))∧Its (its++[x]) r'∧0≤r'∧r'≤4∧k≤k'∧k'≤k+4:=by
  unfold gen_Maker_Items_J16;cases t with
  | true=>
    obtain ⟨v,e,q1,q2⟩:=next_ok l k 3 hk.1 (by omega) (by omega) (by omega);rw [if_pos rfl,e];simp only [Option.bind_some];rw [wr_id (n:=r+v) (by omega) (by omega)];obtain ⟨x,h1,h2⟩:=J15_ok l a b ha hb its i (k+1) (if 4<r+v then 4 else r+v) r (by omega) (by split <;> omega) (by split <;> omega) hi hl h;exact ⟨x,_,_,h1,h2,by split <;> omega,by split <;> omega,by omega,by omega⟩
  | false=>
    rw [if_neg (by decide)];obtain ⟨x,h1,h2⟩:=J15_ok l a b ha hb its i k r r (by omega) hr (by omega) hi hl h;exact ⟨x,_,_,h1,h2,hr.1,hr.2,by omega,by omega⟩
theorem items_ok (l:List Int)(k n:Int)(hk:0≤k∧k≤10000000)(hn:0≤n∧n≤90):∃ its k',gen_Maker_Items l k n=some (its,k')∧k≤k'∧k'≤k+1000∧(its.length:Int)≤n∧Its its 4:=by
  obtain ⟨v1,e1,q1,q2⟩:=next_ok l k 4 hk.1 (by omega) (by omega) (by omega);obtain ⟨v2,e2,q3,q4⟩:=next_ok l (k+1) 3 (by omega) (by omega) (by omega) (by omega);obtain ⟨v3,e3,q5,q6⟩:=next_ok l (k+1+1) 6 (by omega) (by omega) (by omega) (by omega);obtain ⟨v4,e4,q7,q8⟩:=next_ok l (k+1+1+1) (n+1) (by omega) (by omega) (by omega) (by omega);unfold gen_Maker_Items;rw [e1];simp only [Option.bind_some,e2,e3];rw [wr_id (n:=n+1) (by omega) (by omega),e4];simp only [Option.bind_some];obtain ⟨d,h1,h2⟩:=loop_inv (step:=gen_Maker_Items_L11 l (v1,k+1) (v2,k+1+1) (v3,k+1+1+1))
    (fun s=>∃ (i:Nat) (k' r:Int) (its:List Item),s=(k',its,r,(i:Int))∧(i:Int)+its.length=v4∧0≤r∧r≤4∧Its its r∧k≤k'∧k'+5*i≤k+4+5*v4)
    (fun s=>s.2.2.2.toNat) (fun d=>∃ (its:List Item) (k':Int),d=(k',its)∧k≤k'∧k'≤k+1000∧(its.length:Int)≤n∧Its its 4) (by
    rintro _ ⟨i,k',r,its,rfl,hlen,hr0,hr1,hits,hk1,hk2⟩;unfold gen_Maker_Items_L11;simp only
    by_cases hi:0<i
    · rw [if_pos (dpos (by omega))];have fin:∀ (k2:Int) (t:Bool),k≤k2→k2≤k'+1→(∃ s',gen_Maker_Items_J16 l (v2,k+1+1) (v3,k+1+1+1) its r i k2 t=some (.next s')∧
          (∃ (i:Nat) (k' r:Int) (its:List Item),s'=(k',its,r,(i:Int))∧(i:Int)+its.length=v4∧0≤r∧r≤4∧Its its r∧k≤k'∧k'+5*i≤k+4+5*v4)∧s'.2.2.2.toNat<(i:Int).toNat):=by
        intro k2 t hk3 hk4;obtain ⟨x,k3,r',g1,g2,g3,g4,g5,g6⟩:=J16_ok l (v2,k+1+1) (v3,k+1+1+1) (by simp only; omega) (by simp only; omega) its i k2 r t (by omega) ⟨hr0,hr1⟩ (by omega) (by omega) hits;refine ⟨_,g1,⟨i-1,k3,r',its++[x],?_,?_,g3,g4,g2,by omega,by omega⟩,by simp only; omega⟩
        · rw [show (i:Int)-1=((i-1:Nat):Int) by omega]
        · simp only [List.length_append,List.length_cons,List.length_nil]; omega
      by_cases hv:v1=0
      · obtain ⟨v5,e5,q9,q10⟩:=next_ok l k' 4 (by omega) (by omega) (by omega) (by omega);rw [if_pos (by simp [hv]),e5];simp only [Option.bind_some];obtain ⟨s',g1,g2,g3⟩:=fin (k'+1) (v5==0) (by omega) (by omega);exact .inl ⟨s',g1,g2,g3⟩
      · rw [if_neg (by simpa using hv)];obtain ⟨s',g1,g2,g3⟩:=fin k' false (by omega) (by omega);exact .inl ⟨s',g1,g2,g3⟩
    · rw [if_neg (dneg (by omega))];refine .inr ⟨_,rfl,its,k',rfl,hk1,by omega,by omega,⟨fun j x hx=>?_,hits.asc⟩⟩;obtain ⟨a,b,c⟩:=hits.it j x hx;exact ⟨a,by omega,c⟩) (k+1+1+1+1,[],0,v4) ⟨v4.toNat,k+1+1+1+1,0,[],by rw [Int.toNat_of_nonneg q7],by simp; omega,by omega,by omega,⟨fun i x h=>by simp at h,fun i x y h=>by simp at h⟩,by omega,by omega⟩ (by simp only; omega)
  rw [h1];obtain ⟨its,k',rfl,g1,g2,g3,g4⟩:=h2;exact ⟨its,k',rfl,g1,g2,g3,g4⟩
def relI (a b:Item) (x y:Nat):Int:=if a.1≠b.1∨a.2.1≥b.2.1 then 0 else if y<x then 2 else 1
def rel (its:List Item) (x y:Nat):Int:=match its[x]?,its[y]? with
  | some a,some b=>relI a b x y
  | _,_=>0
def bOf (its:List Item) (x:Nat):Int:=match its[x]? with
  | some a=>a.2.1
  | none=>0
theorem rel_cases (its:List Item)(x y:Nat):(rel its x y=0)∨(∃ a b,its[x]? = some a∧its[y]? = some b∧a.1=b.1∧a.2.1<b.2.1∧rel its x y=if y<x then 2 else 1):=by
  unfold rel;cases hx:its[x]? with
  | none=>exact .inl rfl
  | some a=>
    cases hy:its[y]? with
    | none=>exact .inl rfl
    | some b=>
      simp only [relI]
      by_cases h:a.1≠b.1∨a.2.1≥b.2.1
      · rw [if_pos h]; exact .inl rfl
      · rw [if_neg h];refine .inr ⟨a,b,rfl,rfl,?_,?_,rfl⟩
        · exact Classical.byContradiction fun e=>h (.inl e)
        · omega
theorem rel_range (its:List Item)(x y:Nat):rel its x y=0∨rel its x y=1∨rel its x y=2:=by
  rcases rel_cases its x y with h | ⟨_,_,_,_,_,_,h⟩
  · exact .inl h
  · rw [h]; split <;> simp
theorem rel_blk {its:List Item}{x y:Nat}(h:rel its x y>0):bOf its x<bOf its y∧x<its.length∧y<its.length:=by
  rcases rel_cases its x y with h0 | ⟨a,b,ha,hb,_,h2,_⟩
  · omega
  · exact ⟨by simp only [bOf,ha,hb]; exact h2,(List.getElem?_eq_some_iff.1 ha).1,(List.getElem?_eq_some_iff.1 hb).1⟩
def needU (its:List Item) (v:List Int) (y:Nat):Nat→Int
  | 0=>0
  | m+1=>if rel its m y>0 then (if v.getD m 0+rel its m y-1>needU its v y m then v.getD m 0+rel its m y-1 else needU its v y m) else needU its v y m
def need (its:List Item) (v:List Int) (y:Nat):Int:=needU its v y its.length
structure IsLev (its:List Item) (v:List Int):Prop where
  len:v.length=its.length
  eq:∀ y,y<its.length→v.getD y 0=need its v y
theorem needU_nonneg (its:List Item)(v:List Int)(y:Nat):∀ m,0≤needU its v y m
  | 0=>Int.le_refl 0
  | m+1=>by
    have:=needU_nonneg its v y m;unfold needU
    split
    · split <;> omega
    · exact this
theorem needU_ge (its:List Item)(v:List Int)(y:Nat):∀ m x,x<m→rel its x y>0→v.getD x 0+rel its x y-1≤needU its v y m
  | 0,x,h,_=>by omega
  | m+1,x,h,hr=>by
    unfold needU
    by_cases hx:x=m
    · subst hx;rw [if_pos hr]
      split <;> omega
    · have:=needU_ge its v y m x (by omega) hr
      split
      · split <;> omega
      · exact this
theorem needU_at (its:List Item)(v:List Int)(y:Nat):∀ m,needU its v y m=0∨∃ x,x<m∧rel its x y>0∧v.getD x 0+rel its x y-1=needU its v y m
  | 0=>.inl rfl
  | m+1=>by
    have ih:=needU_at its v y m;unfold needU
    by_cases hr:rel its m y>0
    · rw [if_pos hr]
      split
      · exact .inr ⟨m,by omega,hr,rfl⟩
      · rcases ih with h | ⟨x,h1,h2,h3⟩
        · exact .inl h
        · exact .inr ⟨x,by omega,h2,h3⟩
    · rw [if_neg hr];rcases ih with h | ⟨x,h1,h2,h3⟩
      · exact .inl h
      · exact .inr ⟨x,by omega,h2,h3⟩
theorem needU_congr {its:List Item}{v v':List Int}{y:Nat}:∀ m,(∀ x,x<m→rel its x y>0→v.getD x 0=v'.getD x 0)→needU its v y m=needU its v' y m
  | 0,_=>rfl
  | m+1,h=>by
    have ih:=needU_congr m (fun x hx hr=>h x (by omega) hr);unfold needU
    by_cases hr:rel its m y>0
    · rw [if_pos hr,if_pos hr,h m (by omega) hr,ih]
    · rw [if_neg hr,if_neg hr,ih]
theorem need_congr {its:List Item}{v v':List Int}{y:Nat}(h:∀ x,rel its x y>0→v.getD x 0=v'.getD x 0):need its v y=need its v' y:=needU_congr _ (fun x _ hr=>h x hr)
theorem getD_set (l:List Int)(i j:Nat)(a:Int):(l.set i a).getD j 0=if i=j∧i<l.length then a else l.getD j 0:=by
  rw [List.getD_eq_getElem?_getD,List.getElem?_set,List.getD_eq_getElem?_getD]
  by_cases h:i=j
  · subst h
    by_cases h2:i<l.length
    · simp [h2]
    · simp [h2]
  · simp [h]
theorem idx_getD {l:List Int}{i:Nat}(h:i<l.length):idx l (i:Int)=some (l.getD i 0):=by
  rw [idx_nat,List.getElem?_eq_getElem h,List.getD_eq_getElem?_getD,List.getElem?_eq_getElem h]; rfl
theorem bOf_range {its:List Item}(h:∀ x∈its,0≤x.2.1∧x.2.1≤31)(i:Nat):0≤bOf its i∧bOf its i≤31:=by
  unfold bOf;cases hx:its[i]? with
  | none=>simp
  | some a=>exact h a (List.mem_of_getElem? hx)
theorem JobGood.b {its:List Item}{wt:Int}(h:JobGood its wt)(i:Nat):0≤bOf its i∧bOf its i≤31:=
  bOf_range (fun x hx=>by obtain ⟨i,hi,rfl⟩:=List.getElem_of_mem hx; exact (h.it i _ (List.getElem?_eq_getElem hi)).2.1) i
theorem valid_good {its:List Item}{wt:Int}(h:JobGood its wt):job_Valid its wt=some 0:=by
  obtain ⟨e,h1,h2⟩:=jobvalid_spec its wt;rcases h2 with ⟨rfl,_⟩ | ⟨_,h3⟩
  · exact h1
  · exact absurd h h3
def castL (l:List Nat):List Int:=l.map fun (x:Nat)=>(x:Int)
theorem castL_len (l:List Nat):(castL l).length=l.length:=by simp [castL]
theorem castL_app (l l':List Nat):castL (l++l')=castL l++castL l':=by simp [castL]
theorem castL_get (l:List Nat)(i:Nat):(castL l)[i]? =(l[i]?).map fun (x:Nat)=>(x:Int):=by simp [castL]
theorem castL_rev (l:List Nat):(castL l).reverse=castL l.reverse:=by simp [castL]
def nxA (p:Nat→Bool):Nat→Nat→Nat
  | 0,x=>x
  | f+1,x=>if p x=true then x else nxA p f (x+1)
theorem nxA_spec (p:Nat→Bool):∀ (f x:Nat),(∃ z,x≤z∧z<x+f∧p z=true)→p (nxA p f x)=true∧x≤nxA p f x∧nxA p f x<x+f∧∀ z,x≤z→z<nxA p f x→p z=false
  | 0,x,⟨z,h1,h2,_⟩=>by omega
  | f+1,x,⟨z,h1,h2,h3⟩=>by
    unfold nxA
    by_cases hp:p x=true
    · rw [if_pos hp];exact ⟨hp,Nat.le_refl _,by omega,fun z h1 h2=>by omega⟩
    · rw [if_neg hp];have hz:x≠z:=fun e=>hp (by rw [e]; exact h3)
      obtain ⟨q1,q2,q3,q4⟩:=nxA_spec p f (x+1) ⟨z,by omega,by omega,h3⟩;refine ⟨q1,by omega,by omega,fun y h1 h2=>?_⟩
      by_cases e:y=x
      · subst e; simpa using hp
      · exact q4 y (by omega) h2
theorem kind_ok (its:List Item)(wt:Int)(x y:Nat)(hx:x<its.length)(hy:y<its.length):r11_Kind its wt (x:Int) (y:Int)=some (rel its x y):=by
  unfold r11_Kind rel;rw [idx_nat,idx_nat,List.getElem?_eq_getElem hx,List.getElem?_eq_getElem hy];simp only [Option.bind_some];generalize its[x]=a;generalize its[y]=b;unfold r11_Kind_J4 r11_Kind_J9 relI
  by_cases h1:a.1=b.1
  · by_cases h2:a.2.1≥b.2.1
    · simp [h1,h2]
    · by_cases h3:y<x
      · have h3':(y:Int)<x:=by omega
        have h2':¬ b.2.1≤a.2.1:=by omega
        simp [h1,h2',h3]
      · have h2':¬ b.2.1≤a.2.1:=by omega
        simp [h1,h2',h3]
  · simp [h1]
def str (its:List Item) (x y:Nat):Int:=if rel its x y=2 then 1 else 0
theorem str_eq {its:List Item}{x y:Nat}(h:rel its x y>0):str its x y=rel its x y-1:=by
  unfold str;rcases rel_range its x y with e | e | e
  · omega
  · rw [if_neg (by omega)]; omega
  · rw [if_pos e]; omega
theorem str_range (its:List Item)(x y:Nat):0≤str its x y∧str its x y≤1:=by
  unfold str; split <;> omega
theorem strict_ok (its:List Item)(wt:Int)(x y:Nat)(hx:x<its.length)(hy:y<its.length):r11_Strict its wt (x:Int) (y:Int)=some (str its x y):=by
  unfold r11_Strict str;rw [kind_ok its wt x y hx hy];rcases rel_range its x y with e | e | e <;> rw [e] <;> rfl
def Small (v:List Int):Prop:=∀ x,0≤v.getD x 0∧v.getD x 0≤100000
theorem Small.need {its:List Item}{v:List Int}(h:Small v)(y m:Nat):0≤needU its v y m∧needU its v y m≤100001:=by
  refine ⟨needU_nonneg its v y m,?_⟩;rcases needU_at its v y m with h0 | ⟨x,h1,h2,h3⟩
  · omega
  · have:=h x;rcases rel_range its x y with e | e | e <;> omega
def stp2 (its:List Item) (v:List Int) (y x:Nat):Bool:=decide (rel its x y>0)&&decide (v.getD x 0+rel its x y-1=need its v y)
def nx2 (its:List Item) (v:List Int) (y:Nat):Nat:=nxA (stp2 its v y) its.length 0
theorem nx2_spec {its:List Item}{v:List Int}{y:Nat}(h:need its v y>0) :
    rel its (nx2 its v y) y>0∧v.getD (nx2 its v y) 0+rel its (nx2 its v y) y-1=need its v y∧nx2 its v y<its.length∧∀ z,z<nx2 its v y→stp2 its v y z=false:=by
  obtain ⟨q1,q2,q3,q4⟩:=nxA_spec (stp2 its v y) its.length 0 (by
    rcases needU_at its v y its.length with h0 | ⟨x,h1,h2,h3⟩
    · unfold need at h; omega
    · exact ⟨x,by omega,by omega,by unfold stp2; rw [dpos h2,dpos (by unfold need; omega)]; rfl⟩)
  have q1':stp2 its v y (nx2 its v y)=true:=q1;unfold stp2 at q1';rw [Bool.and_eq_true,decide_eq_true_eq,decide_eq_true_eq] at q1';exact ⟨q1'.1,q1'.2,by unfold nx2; omega,fun z hz=>q4 z (by omega) hz⟩
def down2 (its:List Item) (v:List Int):Nat→Nat→List Nat
  | 0,y=>[y]
  | f+1,y=>if need its v y>0 then y::down2 its v f (nx2 its v y) else [y]
theorem down2_zero (its:List Item)(v:List Int)(y:Nat)(h:need its v y=0):∀ f,down2 its v f y=[y]
  | 0=>rfl
  | f+1=>by unfold down2; rw [if_neg (by omega)]
theorem need_nonneg (its:List Item)(v:List Int)(y:Nat):0≤need its v y:=needU_nonneg its v y _
def FstMax (v:List Int) (y0:Nat):Prop:=y0<v.length∧(∀ y,y<v.length→v.getD y 0≤v.getD y0 0)∧∀ y,y<y0→v.getD y 0≠v.getD y0 0
theorem FstMax.uniq {v:List Int}{a b:Nat}(h:FstMax v a)(g:FstMax v b):a=b:=by
  obtain ⟨h1,h2,h3⟩:=h;obtain ⟨g1,g2,g3⟩:=g;have e1:=h2 b g1;have e2:=g2 a h1;rcases Nat.lt_trichotomy a b with h | h | h
  · exact absurd (by omega) (g3 a h)
  · exact h
  · exact absurd (by omega) (h3 b h)
theorem ofInt_nat (k:Nat)(hk:k<9223372036854775808):(BitVec.ofInt IntKind.i64.bits (k:Int)).toNat=k:=by
  show (BitVec.ofInt 64 (k:Int)).toNat=k
  rw [BitVec.toNat_ofInt];omega
theorem and_nat (k m:Nat)(hk:k<9223372036854775808)(hm:m<9223372036854775808) :
    IntKind.i64.wrap ((BitVec.ofInt IntKind.i64.bits (k:Int)&&&BitVec.ofInt IntKind.i64.bits (m:Int)).toNat:Int)=((k&&&m:Nat):Int):=by
  have h:k&&&m≤k:=Nat.and_le_left;rw [BitVec.toNat_and,ofInt_nat k hk,ofInt_nat m hm,wr_id (by omega) (by omega)]
theorem or_nat (k m:Nat)(hk:k<9223372036854775808)(hm:m<9223372036854775808) :
    IntKind.i64.wrap ((BitVec.ofInt IntKind.i64.bits (k:Int) ||| BitVec.ofInt IntKind.i64.bits (m:Int)).toNat:Int)=((k ||| m:Nat):Int):=by
  have h:k ||| m<2 ^ 63:=Nat.or_lt_two_pow (by omega) (by omega);rw [BitVec.toNat_or,ofInt_nat k hk,ofInt_nat m hm,wr_id (by omega) (by omega)]
theorem pow_nat (r:Nat)(hr:r≤12):(2:Int) ^ (min (Int.toNat (r:Int)) IntKind.i64.bits)=((2 ^ r:Nat):Int):=by
  have h:min (Int.toNat (r:Int)) IntKind.i64.bits=r:=by
    show min (Int.toNat (r:Int)) 64=r
    omega
  rw [h];simp
theorem pow_le (r:Nat)(hr:r≤12):1≤2 ^ r∧2 ^ r≤4096:=by
  constructor
  · exact Nat.one_le_two_pow
  · exact Nat.pow_le_pow_right (by omega) hr
theorem one_shl (r:Nat)(hr:r≤12):IntKind.i64.wrap (1*(2:Int) ^ (min (Int.toNat (r:Int)) IntKind.i64.bits))=((2 ^ r:Nat):Int):=by
  have h:=pow_le r hr;rw [pow_nat r hr,wr_id (by omega) (by omega)];omega
theorem missed_ok (r:Nat)(hr:r≤12):code_missed (r:Int)=some ((2 ^ r-1:Nat):Int):=by
  have h:=pow_le r hr;unfold code_missed;rw [if_pos (by omega),one_shl r hr,wr_id (by omega) (by omega)]
  congr 1
  omega
theorem in_ok (n lo hi:Int):code_in n lo hi=some (decide (lo≤n∧n≤hi)):=by
  unfold code_in
  by_cases h:n≥lo
  · rw [if_pos (by simpa using h)];simp only [ge_iff_le] at h;simp [h]
  · rw [if_neg (by simpa using h)];simp only [ge_iff_le] at h;simp [h]
theorem form_ok (r w:Int):code_form r w=some (decide (0≤r∧r≤12∧0≤w∧w≤12)):=by
  unfold code_form;rw [in_ok,in_ok];simp only [Option.bind_some]
  by_cases h:0≤r∧r≤12
  · rw [if_pos (by simpa using h)];simp [h]
  · rw [if_neg (by simpa using h)];have h':¬(0≤r∧r≤12∧0≤w∧w≤12):=fun ⟨a,b,_⟩=>h ⟨a,b⟩
    simp [h']
theorem rform_ok (r w:Int):r12_form r w=some (decide (0≤r∧r≤12∧0≤w∧w≤12)):=by
  unfold r12_form
  by_cases h1:0≤r <;> by_cases h2:r≤12 <;> by_cases h3:0≤w <;> by_cases h4:w≤12 <;>
    simp [h1,h2,h3,h4] <;> omega
theorem tmod_nat' (k m:Nat):Int.tmod (k:Int) (m:Int)=((k%m:Nat):Int):=rfl
theorem tdiv_nat' (k m:Nat):Int.tdiv (k:Int) (m:Int)=((k / m:Nat):Int):=rfl
theorem even_odd (u:Nat):(∃ m,u=2*m)∨(∃ m,u=2*m+1):=by
  rcases Nat.mod_two_eq_zero_or_one u with h | h
  · exact Or.inl ⟨u / 2,by omega⟩
  · exact Or.inr ⟨u / 2,by omega⟩
def pcd:Nat→Nat→Nat
  | 0,_=>0
  | d+1,u=>u%2+pcd d (u / 2)
def pc (u:Nat):Nat:=pcd 12 u
def isN (r w k:Nat):Bool:=decide (k%2 ^ r=2 ^ r-1)&&decide (pc (k / 2 ^ r)≤w)
theorem pcd_zero:∀ d,pcd d 0=0
  | 0=>rfl
  | d+1=>by simp [pcd,pcd_zero d]
theorem and_even_odd (a b:Nat):(2*a)&&&(2*b+1)=2*(a&&&b):=by
  have h1:((2*a)&&&(2*b+1)) / 2=a&&&b:=by
    rw [Nat.and_div_two]; congr 1 <;> omega
  have h2:((2*a)&&&(2*b+1))%2=0:=by
    have:=Nat.and_mod_two_eq_one (a:=2*a) (b:=2*b+1);omega
  omega
theorem and_odd_even (a b:Nat):(2*a+1)&&&(2*b)=2*(a&&&b):=by
  rw [Nat.and_comm,and_even_odd,Nat.and_comm]
theorem and_even_even (a b:Nat):(2*a)&&&(2*b)=2*(a&&&b):=by
  have h1:((2*a)&&&(2*b)) / 2=a&&&b:=by
    rw [Nat.and_div_two]; congr 1 <;> omega
  have h2:((2*a)&&&(2*b))%2=0:=by
    have:=Nat.and_mod_two_eq_one (a:=2*a) (b:=2*b);omega
  omega
theorem and_odd_odd (a b:Nat):(2*a+1)&&&(2*b+1)=2*(a&&&b)+1:=by
  have h1:((2*a+1)&&&(2*b+1)) / 2=a&&&b:=by
    rw [Nat.and_div_two]; congr 1 <;> omega
  have h2:((2*a+1)&&&(2*b+1))%2=1:=by
    have:=Nat.and_mod_two_eq_one (a:=2*a+1) (b:=2*b+1);omega
  omega
theorem pcd_even (d m:Nat):pcd (d+1) (2*m)=pcd d m:=by
  simp [pcd]
theorem pcd_odd (d m:Nat):pcd (d+1) (2*m+1)=1+pcd d m:=by
  have h:(2*m+1) / 2=m:=by omega
  simp [pcd,h]
theorem pcd_clear:∀ (d u:Nat),u<2 ^ d→u≠0→pcd d (u&&&(u-1))+1=pcd d u
  | 0,u,h,h0=>absurd h (by simp; omega)
  | d+1,u,h,h0=>by
    have e:2 ^ (d+1)=2*2 ^ d:=by rw [Nat.pow_succ]; omega
    rcases even_odd u with ⟨m,rfl⟩ | ⟨m,rfl⟩
    · have h1:2*m-1=2*(m-1)+1:=by omega
      rw [h1,and_even_odd,pcd_even,pcd_even];exact pcd_clear d m (by omega) (by omega)
    · rw [show 2*m+1-1=2*m by omega,and_odd_even,pcd_odd,Nat.and_self,pcd_even];omega
theorem ones_ok (u:Nat)(hu:u<4096):code_ones (u:Int)=some (pc u:Int):=by
  unfold code_ones;obtain ⟨d,h1,h2⟩:=loop_inv (step:=code_ones_L1) (fun s=>∃ k n:Nat,s=((k:Int),(n:Int))∧k<4096∧n+pc k=pc u∧n≤4096∧n+k≤4096) (fun s=>s.1.toNat) (fun r=>r=(pc u:Int)) (by
    rintro _ ⟨k,n,rfl,hk,hn,_,hnk⟩;unfold code_ones_L1
    by_cases h0:k=0
    · subst h0;exact Or.inr ⟨_,by simp; rfl,by simp only [pc,pcd_zero] at hn ⊢; omega⟩
    · refine Or.inl ⟨_,if_pos (by simpa using h0),⟨k&&&(k-1),n+1,?_,?_,?_,?_,?_⟩,?_⟩
      · rw [wr_id (n:=(k:Int)-1) (by omega) (by omega),show (k:Int)-1=((k-1:Nat):Int) by omega,and_nat _ _ (by omega) (by omega),wr_id (by omega) (by omega)];rfl
      · exact Nat.lt_of_le_of_lt Nat.and_le_left hk
      · have:=pcd_clear 12 k hk h0;simp only [pc] at hn ⊢;omega
      · omega
      · have:k&&&(k-1)≤k-1:=Nat.and_le_right;omega
      · simp only;rw [wr_id (n:=(k:Int)-1) (by omega) (by omega),show (k:Int)-1=((k-1:Nat):Int) by omega,and_nat _ _ (by omega) (by omega)];have:k&&&(k-1)≤k-1:=Nat.and_le_right;omega) ((u:Int),0) ⟨u,0,rfl,hu,by omega,by omega,by omega⟩ (by simp; omega)
  rw [h1];simp [h2]
theorem bits_ok (u:Nat)(hu:u<4096):loop r12_Is_L4 (0,(u:Int))=some (pc u:Int):=by
  obtain ⟨d,h1,h2⟩:=loop_inv (step:=r12_Is_L4) (fun s=>∃ (e k n:Nat),s=((n:Int),(k:Int))∧k<2 ^ e∧e≤12∧n+pcd e k=pc u∧n+e≤12) (fun s=>s.2.toNat) (fun r=>r=(pc u:Int)) (by
    rintro _ ⟨e,k,n,rfl,hk,he,hn,hne⟩;unfold r12_Is_L4;have hp:=pow_le e he
    by_cases h0:k=0
    · subst h0;exact Or.inr ⟨_,by simp; rfl,by simp [pcd_zero] at hn; omega⟩
    · obtain ⟨e,rfl⟩:∃ f,e=f+1:=⟨e-1,by
        cases e with
        | zero=>simp at hk; omega
        | succ f=>rfl⟩
      rw [Nat.pow_succ] at hk;refine Or.inl ⟨_,if_pos (by simp; omega),⟨e,k / 2,n+k%2,?_,by omega,by omega,?_,by omega⟩,?_⟩
      · rw [show (2:Int)=((2:Nat):Int) from rfl,tmod_nat',tdiv_nat',wr_id (by omega) (by omega),wr_id (by omega) (by omega)];rfl
      · simp only [pcd] at hn;omega
      · simp only;rw [show (2:Int)=((2:Nat):Int) from rfl,tdiv_nat',wr_id (by omega) (by omega)];omega) (0,(u:Int)) ⟨12,u,0,rfl,hu,by omega,by simp [pc],by omega⟩ (by simp; omega)
  rw [h1,h2]
theorem fdiv_nat (k m:Nat):Int.fdiv (k:Int) (m:Int)=((k / m:Nat):Int):=by
  rw [Int.fdiv_eq_ediv_of_nonneg _ (by omega)];rfl
theorem tmod_nat (k m:Nat):Int.tmod (k:Int) (m:Int)=((k%m:Nat):Int):=rfl
theorem is_ok (k r w:Nat)(hk:k<4096)(hr:r≤12)(hw:w≤12):code_Is (k:Int) (r:Int) (w:Int)=some (isN r w k):=by
  have hp:=pow_le r hr;unfold code_Is;rw [form_ok,in_ok];simp only [Option.bind_some];rw [if_pos (by simp; omega),if_pos (by simp; omega),missed_ok r hr];simp only [Option.bind_some];rw [and_nat _ _ (by omega) (by omega),Nat.and_two_pow_sub_one_eq_mod]
  by_cases h:k%2 ^ r=2 ^ r-1
  · rw [h,if_pos (by simp),if_pos (by omega),pow_nat r hr,fdiv_nat,ones_ok _ (Nat.lt_of_le_of_lt (Nat.div_le_self _ _) hk)];simp [isN,h]
  · rw [if_neg (by simpa using (by omega:¬ ((k%2 ^ r:Nat):Int)=((2 ^ r-1:Nat):Int)))];simp [isN,h]
theorem ris_ok (k r w:Nat)(hk:k<4096)(hr:r≤12)(hw:w≤12):r12_Is (k:Int) (r:Int) (w:Int)=some (isN r w k):=by
  have hp:=pow_le r hr;unfold r12_Is;rw [rform_ok];simp only [Option.bind_some];rw [if_neg (by simp; omega),if_neg (by simp),if_neg (by simp; omega),if_pos (by omega),one_shl r hr,if_pos (by omega),if_pos (by omega)];have h1:((2 ^ r:Nat):Int)-1=((2 ^ r-1:Nat):Int):=by omega
  rw [tmod_nat,wr_id (by omega) (by omega),h1]
  by_cases h:k%2 ^ r=2 ^ r-1
  · rw [if_neg (by rw [h]; simp),if_pos (by omega),pow_nat r hr,fdiv_nat,bits_ok _ (Nat.lt_of_le_of_lt (Nat.div_le_self _ _) hk)];simp [isN,h]
  · rw [if_pos (by simpa using (by omega:¬ ((k%2 ^ r:Nat):Int)=((2 ^ r-1:Nat):Int)))];simp [isN,h]
theorem pcd_add:∀ (j e M t:Nat),t<2 ^ j→pcd (j+e) (2 ^ j*M+t)=pcd j t+pcd e M
  | 0,e,M,t,h=>by
    have:t=0:=by simpa using h
    subst this;simp [pcd]
  | j+1,e,M,t,h=>by
    rw [Nat.pow_succ] at h;have e1:2 ^ (j+1)*M=2*(2 ^ j*M):=by rw [Nat.pow_succ,Nat.mul_comm (2 ^ j) 2,Nat.mul_assoc]
    have h2:(2 ^ (j+1)*M+t) / 2=2 ^ j*M+t / 2:=by omega
    have h3:(2 ^ (j+1)*M+t)%2=t%2:=by omega
    rw [show j+1+e=(j+e)+1 by omega];simp only [pcd];rw [h2,h3,pcd_add j e M (t / 2) (by omega)];omega
theorem pc_add (j M t:Nat)(hj:j≤12)(ht:t<2 ^ j):pc (2 ^ j*M+t)=pcd j t+pcd (12-j) M:=by
  have h:=pcd_add j (12-j) M t ht;rw [show j+(12-j)=12 by omega] at h;exact h
theorem low_bit:∀ (d e x:Nat),d≤e→0<x→x<2 ^ d→∃ j m,j<d∧x=2 ^ j*(2*m+1)∧x&&&(2 ^ e-x)=2 ^ j
  | 0,e,x,_,h1,h2=>absurd h2 (by simp; omega)
  | d+1,e,x,hde,h1,h2=>by
    rw [Nat.pow_succ] at h2;obtain ⟨f,rfl⟩:∃ f,e=f+1:=⟨e-1,by omega⟩
    have hp:2 ^ d≤2 ^ f:=Nat.pow_le_pow_right (by omega) (by omega);rcases even_odd x with ⟨m,rfl⟩ | ⟨m,rfl⟩
    · obtain ⟨j,k,h3,h4,h5⟩:=low_bit d f m (by omega) (by omega) (by omega);refine ⟨j+1,k,by omega,?_,?_⟩
      · rw [h4,Nat.pow_succ,Nat.mul_comm (2 ^ j) 2,Nat.mul_assoc]
      · rw [show 2 ^ (f+1)-2*m=2*(2 ^ f-m) by rw [Nat.pow_succ]; omega,and_even_even,h5,Nat.pow_succ,Nat.mul_comm 2]
    · refine ⟨0,m,by omega,by simp,?_⟩;have h6:m&&&(2 ^ f-1-m)=0:=by
        have h7:m<2 ^ f:=by omega
        apply Nat.eq_of_testBit_eq;intro i;rw [Nat.testBit_and,show 2 ^ f-1-m=2 ^ f-(m+1) by omega,Nat.testBit_two_pow_sub_succ h7];cases m.testBit i <;> simp
      rw [show 2 ^ (f+1)-(2*m+1)=2*(2 ^ f-1-m)+1 by rw [Nat.pow_succ]; omega,and_odd_odd,h6]
theorem ofInt_neg (x:Nat)(h0:0<x)(hx:x<9223372036854775808):(BitVec.ofInt IntKind.i64.bits (0-(x:Int))).toNat=2 ^ 64-x:=by
  show (BitVec.ofInt 64 (0-(x:Int))).toNat=2 ^ 64-x
  rw [BitVec.toNat_ofInt];omega
theorem low_ok (x:Nat)(h0:0<x)(hx:x<4096):∃ j m,j<12∧x=2 ^ j*(2*m+1)∧
    IntKind.i64.wrap ((BitVec.ofInt IntKind.i64.bits (x:Int)&&&BitVec.ofInt IntKind.i64.bits (IntKind.i64.wrap (0-(x:Int)))).toNat:Int)=((2 ^ j:Nat):Int):=by
  obtain ⟨j,m,h1,h2,h3⟩:=low_bit 12 64 x (by omega) h0 hx;refine ⟨j,m,h1,h2,?_⟩;have hp:=pow_le j (by omega);rw [wr_id (n:=0-(x:Int)) (by omega) (by omega),BitVec.toNat_and,ofInt_nat x (by omega),ofInt_neg x h0 (by omega),h3,wr_id (by omega) (by omega)]
def NextSpec (n r w:Nat) (p:Int×Int):Prop:=
  (∃ k:Nat,p=((k:Int),0)∧n≤k∧k<4096∧isN r w k=true∧∀ x,n≤x→x<k→isN r w x=false)∨
  (p=(0,15)∧∀ x,n≤x→x<4096→isN r w x=false)
theorem next_unique {n r w:Nat}{p q:Int×Int}(hp:NextSpec n r w p)(hq:NextSpec n r w q):p=q:=by
  rcases hp with ⟨k,rfl,h1,h2,h3,h4⟩ | ⟨rfl,h1⟩ <;> rcases hq with ⟨l,rfl,g1,g2,g3,g4⟩ | ⟨rfl,g1⟩
  · have h5:¬ l<k:=fun h=>by rw [h4 l g1 h] at g3; cases g3
    have h6:¬ k<l:=fun h=>by rw [g4 k h1 h] at h3; cases h3
    rw [show k=l by omega]
  · rw [g1 k h1 h2] at h3; cases h3
  · rw [h1 l g1 g2] at g3; cases g3
  · rfl
theorem next_loop (w a:Nat)(ha:a<4096):∃ d,loop (code_Next_L9 (w:Int)) (a:Int)=some d∧
    ((∃ u:Nat,d=.inr (u:Int)∧a≤u∧u<4096∧pc u≤w∧∀ y,a≤y→y<u→w<pc y)∨(d=.inl ()∧∀ y,a≤y→y<4096→w<pc y)):=by
  apply loop_inv (step:=code_Next_L9 (w:Int)) (fun s=>∃ u:Nat,s=(u:Int)∧a≤u∧u<4096∧∀ y,a≤y→y<u→w<pc y) (fun s=>4096-s.toNat)
    (fun d=>(∃ u:Nat,d=.inr (u:Int)∧a≤u∧u<4096∧pc u≤w∧∀ y,a≤y→y<u→w<pc y)∨(d=.inl ()∧∀ y,a≤y→y<4096→w<pc y))
  · rintro _ ⟨u,rfl,h1,h2,h3⟩;unfold code_Next_L9;simp only [ones_ok u h2,Option.bind_some]
    by_cases hw:pc u≤w
    · refine Or.inr ⟨_,if_neg (dneg (by omega)),Or.inl ⟨u,rfl,h1,h2,hw,h3⟩⟩
    · rw [if_pos (dpos (by omega))];have h0:0<u:=by
        rcases Nat.eq_zero_or_pos u with h | h
        · subst h;exact absurd (by simp [pc,pcd_zero]) hw
        · exact h
      obtain ⟨j,m,hj,hu,hl⟩:=low_ok u h0 h2;have hp:=pow_le j (by omega);have hc:((2 ^ j:Nat):Int)=(((2 ^ j:Nat)):Int):=rfl;rw [hl,wr_id (by omega) (by omega)];have h4:∀ y,a≤y→y<u+2 ^ j→w<pc y:=by
        intro y hy1 hy2
        by_cases hy:y<u
        · exact h3 y hy1 hy
        · obtain ⟨t,rfl⟩:∃ t,y=u+t:=⟨y-u,by omega⟩
          have e1:=pc_add j (2*m+1) t (by omega) (by omega);have e2:=pc_add j (2*m+1) 0 (by omega) (by omega);rw [← hu] at e1 e2;rw [pcd_zero] at e2;simp only [Nat.add_zero] at e2;omega
      by_cases h5:u+2 ^ j≥4096
      · exact Or.inr ⟨_,if_pos (dpos (by omega)),Or.inr ⟨rfl,fun y hy1 hy2=>h4 y hy1 (by omega)⟩⟩
      · refine Or.inl ⟨_,if_neg (dneg (by omega)),⟨u+2 ^ j,by omega,by omega,by omega,h4⟩,by omega⟩
  · exact ⟨a,rfl,by omega,ha,fun y h1 h2=>by omega⟩
  · show 4096-Int.toNat (a:Int)<_; omega
theorem div_mono (n x r:Nat)(h:n≤x):n / 2 ^ r≤x / 2 ^ r:=Nat.div_le_div_right h
theorem mod_div (x r:Nat):x=x / 2 ^ r*2 ^ r+x%2 ^ r:=by
  have:=Nat.div_add_mod x (2 ^ r);rw [Nat.mul_comm] at this;omega
theorem isN_real {r w x:Nat}(h:isN r w x=true):x=x / 2 ^ r*2 ^ r+(2 ^ r-1)∧pc (x / 2 ^ r)≤w:=by
  simp only [isN,Bool.and_eq_true,decide_eq_true_eq] at h;refine ⟨?_,h.2⟩;have:=mod_div x r;omega
theorem real_div (u r:Nat):(u*2 ^ r+(2 ^ r-1)) / 2 ^ r=u∧(u*2 ^ r+(2 ^ r-1))%2 ^ r=2 ^ r-1:=by
  have h:1≤2 ^ r:=Nat.one_le_two_pow;constructor
  · rw [Nat.mul_comm,Nat.mul_add_div (by omega),Nat.div_eq_of_lt (by omega)];omega
  · rw [Nat.mul_comm,Nat.mul_add_mod,Nat.mod_eq_of_lt (by omega)]
theorem isN_mk (u r w:Nat):isN r w (u*2 ^ r+(2 ^ r-1))=decide (pc u≤w):=by
  obtain ⟨h1,h2⟩:=real_div u r;simp [isN,h1,h2]
theorem isN_false {r w x:Nat}(h:isN r w x=true→False):isN r w x=false:=by
  cases hx:isN r w x
  · rfl
  · exact absurd hx h
theorem next_tail (n r w a:Nat)(hn:n<4096)(hr:r≤12)(ha:a=n / 2 ^ r):∃ p,code_Next_J5 (r:Int) (w:Int) (a:Int)=some p∧NextSpec n r w p:=by
  have hd:n / 2 ^ r≤n:=Nat.div_le_self _ _;obtain ⟨d,h0,h⟩:=next_loop w a (by omega);subst ha;unfold code_Next_J5;rw [h0];simp only [Option.bind_some];have hp:=pow_le r hr;rcases h with ⟨u,rfl,h1,h2,h3,h4⟩ | ⟨rfl,h1⟩
  · simp only;rw [missed_ok r hr,pow_nat r hr];simp only [Option.bind_some];have hm:u*2 ^ r≤4096*4096:=Nat.mul_le_mul (by omega) hp.2;rw [if_pos (by omega)];rw [← Int.natCast_mul,wr_id (n:=((u*2 ^ r:Nat):Int)) (by omega) (by omega),or_nat _ _ (by omega) (by omega)];have ho:u*2 ^ r ||| (2 ^ r-1)=u*2 ^ r+(2 ^ r-1):=by
      rw [Nat.mul_comm,Nat.two_pow_add_eq_or_of_lt (by omega)]
    rw [ho];have hb:∀ x,n≤x→x<u*2 ^ r+(2 ^ r-1)→isN r w x=false:=by
      intro x hx1 hx2;apply isN_false;intro hi;obtain ⟨e1,e2⟩:=isN_real hi;have h5:=div_mono n x r hx1;have h6:x / 2 ^ r<u:=by
        rcases Nat.lt_or_ge (x / 2 ^ r) u with h | h
        · exact h
        · have:=Nat.mul_le_mul_right (2 ^ r) h;omega
      have:=h4 _ h5 h6;omega
    by_cases hk:u*2 ^ r+(2 ^ r-1)<4096
    · refine ⟨_,if_pos (dpos (by omega)),Or.inl ⟨_,rfl,?_,hk,?_,hb⟩⟩
      · have h7:=mod_div n r;have h8:n%2 ^ r<2 ^ r:=Nat.mod_lt _ (by omega);have h9:=Nat.mul_le_mul_right (2 ^ r) h1;omega
      · rw [isN_mk]; simpa using h3
    · exact ⟨_,if_neg (dneg (by omega)),Or.inr ⟨rfl,fun x hx1 hx2=>hb x hx1 (by omega)⟩⟩
  · refine ⟨_,rfl,Or.inr ⟨rfl,fun x hx1 hx2=>isN_false fun hi=>?_⟩⟩;obtain ⟨e1,e2⟩:=isN_real hi;have h5:=div_mono n x r hx1;have:=h1 _ h5 (Nat.lt_of_le_of_lt (Nat.div_le_self _ _) hx2);omega
theorem next_ok' (n r w:Nat)(hr:r≤12)(hw:w≤12):∃ p,code_Next (n:Int) (r:Int) (w:Int)=some p∧NextSpec n r w p:=by
  have hp:=pow_le r hr;unfold code_Next;rw [form_ok];simp only [Option.bind_some];rw [if_neg (by simp; omega),if_neg (dneg (by omega))]
  by_cases hn:n<4096
  · rw [if_neg (dneg (by omega)),missed_ok r hr];simp only [Option.bind_some]
    by_cases hl:n>2 ^ r-1
    · rw [if_pos (dpos (by omega)),if_pos (by omega),if_pos (by omega),one_shl r hr,pow_nat r hr];rw [wr_id (n:=(n:Int)-((2 ^ r-1:Nat):Int)) (by omega) (by omega),wr_id (n:=(n:Int)-((2 ^ r-1:Nat):Int)+((2 ^ r:Nat):Int)) (by omega) (by omega),wr_id (by omega) (by omega)];rw [show (n:Int)-((2 ^ r-1:Nat):Int)+((2 ^ r:Nat):Int)-1=(n:Int) by omega,fdiv_nat];exact next_tail n r w _ hn hr rfl
    · rw [if_neg (dneg (by omega))];exact next_tail n r w 0 hn hr (Nat.div_eq_of_lt (by omega)).symm
  · rw [if_pos (dpos (by omega))];exact ⟨_,rfl,Or.inr ⟨rfl,fun x _ _=>by omega⟩⟩
theorem rnext_ok (n r w:Nat)(hr:r≤12)(hw:w≤12):∃ p,r12_Next (n:Int) (r:Int) (w:Int)=some p∧NextSpec n r w p:=by
  unfold r12_Next;rw [rform_ok];simp only [Option.bind_some];rw [if_neg (by simp; omega),if_neg (dneg (by omega))];obtain ⟨d,h1,h2⟩:=loop_inv (step:=r12_Next_L4 (r:Int) (w:Int)) (fun s=>∃ k:Nat,s=(k:Int)∧n≤k∧(k≤4096∨k=n)∧∀ x,n≤x→x<k→isN r w x=false) (fun s=>4096-s.toNat)
    (fun d=>(∃ k:Nat,d=.inl (k:Int)∧n≤k∧k<4096∧isN r w k=true∧∀ x,n≤x→x<k→isN r w x=false)∨(d=.inr ()∧∀ x,n≤x→x<4096→isN r w x=false)) (by
    rintro _ ⟨k,rfl,h1,h2,h3⟩;unfold r12_Next_L4
    by_cases hk:k<4096
    · simp only;rw [if_pos (by simp; omega),ris_ok k r w hk hr hw];simp only [Option.bind_some];cases hi:isN r w k
      · refine Or.inl ⟨_,if_neg (by simp),⟨k+1,?_,by omega,Or.inl (by omega),?_⟩,?_⟩
        · rw [wr_id (by omega) (by omega)]; omega
        · intro x hx1 hx2
          by_cases hx:x<k
          · exact h3 x hx1 hx
          · rw [show x=k by omega]; exact hi
        · rw [wr_id (by omega) (by omega)];omega
      · exact Or.inr ⟨_,if_pos rfl,Or.inl ⟨k,rfl,h1,hk,hi,h3⟩⟩
    · exact Or.inr ⟨_,if_neg (by simp; omega),Or.inr ⟨rfl,fun x hx1 hx2=>h3 x hx1 (by omega)⟩⟩) (n:Int) ⟨n,rfl,by omega,Or.inr rfl,fun x _ _=>by omega⟩ (by omega)
  rw [h1];simp only [Option.bind_some];rcases h2 with ⟨k,rfl,g1,g2,g3,g4⟩ | ⟨rfl,g1⟩
  · exact ⟨_,rfl,Or.inl ⟨k,rfl,g1,g2,g3,g4⟩⟩
  · exact ⟨_,rfl,Or.inr ⟨rfl,g1⟩⟩
theorem is_outC (n:Int)(r w:Int)(h:¬ (0≤n∧n<4096))(hr:0≤r∧r≤12)(hw:0≤w∧w≤12):code_Is n r w=some false:=by
  unfold code_Is;rw [form_ok,in_ok];simp only [Option.bind_some];rw [if_pos (by simp; omega),if_neg (by simp; omega)]
theorem is_out (n:Int)(r w:Int)(h:¬ (0≤n∧n<4096))(hr:0≤r∧r≤12)(hw:0≤w∧w≤12):code_Is n r w=some false∧r12_Is n r w=some false:=by
  constructor
  · exact is_outC n r w h hr hw
  · unfold r12_Is;rw [rform_ok];simp only [Option.bind_some];rw [if_neg (by simp; omega)]
    by_cases h0:n<0
    · rw [if_pos (dpos h0)]
    · rw [if_neg (dneg h0),if_pos (dpos (by omega))]
structure Good (items:List Item) (wt S:Int) (codes:List Int):Prop where
  job:JobGood items wt
  st:0≤S∧S≤12
  cl:codes.length=items.length
  code:∀ (i:Nat) (x:Item) (c:Int),items[i]? = some x→codes[i]? = some c→0≤c∧c<((2 ^ S.toNat:Nat):Int)∧isN x.2.2.1.toNat wt.toNat c.toNat=true
theorem fdiv_ne (c:Int)(S:Nat)(h:0≤c):(Int.fdiv c ((2 ^ S:Nat):Int)≠0)↔((2 ^ S:Nat):Int)≤c:=by
  obtain ⟨k,rfl⟩:=Int.eq_ofNat_of_zero_le h;rw [fdiv_nat];have hp:0<2 ^ S:=Nat.two_pow_pos S;constructor
  · intro h1;have h2:k / 2 ^ S≠0:=fun e=>h1 (by rw [e]; rfl)
    have h3:=Nat.div_pos_iff.1 (Nat.pos_of_ne_zero h2);omega
  · intro h1 h2;have h3:k / 2 ^ S=0:=by omega
    rcases (Nat.div_eq_zero_iff).1 h3 with h4 | h4 <;> omega
def cgood (x:Item) (wt S c:Int):Prop:=0≤c∧c<((2 ^ S.toNat:Nat):Int)∧isN x.2.2.1.toNat wt.toNat c.toNat=true
theorem valid_loop (step:Int→Option (Step Int (Unit⊕Unit)))(items:List Item)(wt S:Int)(codes:List Int)(hl:items.length≤96)(hc:codes.length=items.length)
    (h1:∀ (i:Nat) (x:Item) (c:Int),items[i]? = some x→codes[i]? = some c→cgood x wt S c→step (i:Int)=some (.next ((i:Int)+1)))
    (h2:∀ (i:Nat) (x:Item) (c:Int),items[i]? = some x→codes[i]? = some c→¬ cgood x wt S c→step (i:Int)=some (.done (.inl ())))
    (h3:step (items.length:Int)=some (.done (.inr ()))) :
    ∃ d,loop step 0=some d∧((d=.inr ()∧∀ (i:Nat) (x:Item) (c:Int),items[i]? = some x→codes[i]? = some c→cgood x wt S c)∨(d=.inl ()∧¬ ∀ (i:Nat) (x:Item) (c:Int),items[i]? = some x→codes[i]? = some c→cgood x wt S c)):=by
  refine loop_inv (step:=step) (fun s=>∃ i:Nat,s=(i:Int)∧i≤items.length∧∀ (j:Nat) (x:Item) (c:Int),j<i→items[j]? = some x→codes[j]? = some c→cgood x wt S c) (fun s=>items.length-s.toNat) _ ?_ 0 ⟨0,rfl,by omega,fun j x c h=>by omega⟩ (by simp; omega);rintro _ ⟨i,rfl,hi,hg⟩
  by_cases hil:i<items.length
  · have hx:items[i]? = some items[i]:=List.getElem?_eq_getElem hil;have hcc:codes[i]? = some codes[i]:=List.getElem?_eq_getElem (by omega)
    by_cases hq:cgood items[i] wt S codes[i]
    · refine .inl ⟨_,h1 i _ _ hx hcc hq,⟨i+1,by simp,by omega,fun j x c hj hjx hjc=>?_⟩,by omega⟩
      by_cases hji:j<i
      · exact hg j x c hji hjx hjc
      · have e:j=i:=by omega
        subst e;rw [hx] at hjx; rw [hcc] at hjc;cases hjx; cases hjc; exact hq
    · exact .inr ⟨_,h2 i _ _ hx hcc hq,.inr ⟨rfl,fun h=>hq (h i _ _ hx hcc)⟩⟩
  · have e:i=items.length:=by omega
    subst e;exact .inr ⟨_,h3,.inl ⟨rfl,fun j x c hx hc=>hg j x c (List.getElem?_eq_some_iff.1 hx).1 hx hc⟩⟩
theorem pow_min (S:Int)(hS:0≤S∧S≤12):(2:Int) ^ (min (Int.toNat S) IntKind.i64.bits)=((2 ^ S.toNat:Nat):Int):=by
  obtain ⟨k,rfl⟩:=Int.eq_ofNat_of_zero_le hS.1;rw [pow_nat k (by omega)];rfl
theorem valid_spec (items:List Item)(wt S:Int)(codes:List Int)(hcl:codes.length<4611686018427387904)(hil:items.length<4611686018427387904) :
    ∃ e,rollin_Valid items wt S codes=some e∧((e=0∧Good items wt S codes)∨(e≠0∧¬ Good items wt S codes∧(JobGood items wt→e=1))):=by
  obtain ⟨e,he,hj⟩:=jobvalid_spec items wt;unfold rollin_Valid;rw [he];simp only [Option.bind_some];rcases hj with ⟨rfl,hj⟩ | ⟨hne,hj⟩
  · simp only [bne_self_eq_false,Bool.false_eq_true,if_false]
    by_cases hS:0≤S∧S≤12
    · simp only [show decide (S<0)=false from decide_eq_false (by omega),show decide (S>12)=false from decide_eq_false (by omega),Bool.false_eq_true,if_false]
      by_cases hc:codes.length=items.length
      · simp only [show ((codes.length:Int)!=(items.length:Int))=false by simp [hc],Bool.false_eq_true,if_false];have hl:=hj.len;have hp:=pow_le S.toNat (by omega);have isx:∀ (i:Nat) (x:Item) (c:Int),items[i]? = some x→0≤c∧c<4096→code_Is c x.2.2.1 wt=some (isN x.2.2.1.toNat wt.toNat c.toNat)∧r12_Is c x.2.2.1 wt=some (isN x.2.2.1.toNat wt.toNat c.toNat):=by
          intro i x c hx hcr;obtain ⟨_,_,hr,_⟩:=hj.it i x hx;have hw:=hj.w;have e1:c=(c.toNat:Int):=by omega
          have e2:x.2.2.1=(x.2.2.1.toNat:Int):=by omega
          have e3:wt=(wt.toNat:Int):=by omega
          have a:=is_ok c.toNat x.2.2.1.toNat wt.toNat (by omega) (by omega) (by omega);have b:=ris_ok c.toNat x.2.2.1.toNat wt.toNat (by omega) (by omega) (by omega);rw [← e1,← e2,← e3] at a b;exact ⟨a,b⟩
        obtain ⟨d,g1,g2⟩:=valid_loop (rollin_Valid_L11 items wt S codes) items wt S codes hl hc
          (fun i x c hx hcc hq=>by
            obtain ⟨q1,q2,q3⟩:=hq;have hlt:=(List.getElem?_eq_some_iff.1 hx).1;unfold rollin_Valid_L11;simp only;rw [if_pos (dpos (by omega)),idx_nat,hcc];simp only [Option.bind_some];rw [idx_nat,hx];simp only [Option.bind_some];rw [(isx i x c hx ⟨q1,by omega⟩).1];simp only [Option.bind_some];rw [if_neg (by simp [q3]),if_pos hS.1,pow_min S hS,if_neg (by
              have:=mt (fdiv_ne c S.toNat q1).1 (by omega)
              simpa using this),wr_id (by omega) (by omega)])
          (fun i x c hx hcc hq=>by
            have hlt:=(List.getElem?_eq_some_iff.1 hx).1;obtain ⟨_,_,hr,_⟩:=hj.it i x hx;unfold rollin_Valid_L11;simp only;rw [if_pos (dpos (by omega)),idx_nat,hcc];simp only [Option.bind_some];rw [idx_nat,hx];simp only [Option.bind_some]
            by_cases hcr:0≤c∧c<4096
            · rw [(isx i x c hx hcr).1];simp only [Option.bind_some];cases hi:isN x.2.2.1.toNat wt.toNat c.toNat
              · rfl
              · rw [if_neg (by simp),if_pos hS.1,pow_min S hS,if_pos (by
                  have:=(fdiv_ne c S.toNat hcr.1).2 (by
                    rcases Int.lt_or_le c ((2 ^ S.toNat:Nat):Int) with h | h
                    · exact absurd ⟨hcr.1,h,hi⟩ hq
                    · exact h)
                  simpa using this)]
            · rw [(is_outC c _ wt hcr hr hj.w)];rfl)
          (by
            unfold rollin_Valid_L11;simp only;rw [if_neg (dneg (by omega))])
        rw [g1];simp only [Option.bind_some];rcases g2 with ⟨rfl,g2⟩ | ⟨rfl,g2⟩
        · exact ⟨_,rfl,.inl ⟨rfl,⟨hj,hS,hc,g2⟩⟩⟩
        · exact ⟨_,rfl,.inr ⟨by decide,fun h=>g2 h.code,fun _=>rfl⟩⟩
      · simp only [show ((codes.length:Int)!=(items.length:Int))=true by simpa using (show ¬ (codes.length:Int)=(items.length:Int) by omega),if_true];exact ⟨_,rfl,.inr ⟨by decide,fun h=>hc h.cl,fun _=>rfl⟩⟩
    · by_cases h0:S<0
      · simp only [show decide (S<0)=true from decide_eq_true h0,if_true];exact ⟨_,rfl,.inr ⟨by decide,fun h=>hS h.st,fun _=>rfl⟩⟩
      · simp only [show decide (S<0)=false from decide_eq_false h0,show decide (S>12)=true from decide_eq_true (by omega),Bool.false_eq_true,if_false,if_true];exact ⟨_,rfl,.inr ⟨by decide,fun h=>hS h.st,fun _=>rfl⟩⟩
  · simp only [show (e != 0)=true by simpa using hne,if_true];exact ⟨_,rfl,.inr ⟨hne,fun h=>hj h.job,fun h=>absurd h hj⟩⟩
def nb (c S:Nat) (t:Nat):Option Nat:=if t<S then (if c.testBit t then some t else nb c S (t+1)) else none
termination_by S-t
theorem nb_some {c S:Nat}:∀ {t b:Nat},nb c S t=some b→t≤b∧b<S∧c.testBit b=true∧∀ j,t≤j→j<b→c.testBit j=false:=by
  intro t
  induction h:S-t generalizing t with
  | zero=>
    intro b hb;rw [nb,if_neg (by omega)] at hb;cases hb
  | succ m ih=>
    intro b hb;rw [nb,if_pos (by omega)] at hb
    split at hb
    · rename_i hc
      cases hb;exact ⟨by omega,by omega,hc,fun j h1 h2=>by omega⟩
    · rename_i hc
      obtain ⟨h1,h2,h3,h4⟩:=ih (t:=t+1) (by omega) hb;refine ⟨by omega,h2,h3,fun j hj1 hj2=>?_⟩
      by_cases hjt:j=t
      · subst hjt; simpa using hc
      · exact h4 j (by omega) hj2
theorem nb_step {c S t:Nat}(h:c.testBit t=false):nb c S t=nb c S (t+1):=by
  by_cases ht:t<S
  · rw [nb,if_pos ht,if_neg (by simp [h])]
  · rw [nb,if_neg ht,nb,if_neg (by omega)]
theorem nb_here {c S t:Nat}(h:c.testBit t=true)(ht:t<S):nb c S t=some t:=by
  rw [nb,if_pos ht,if_pos h]
structure Yard where
  n:Nat
  S:Nat
  T:Nat
  c:Nat→Nat
  rd:Nat→Nat
  tr:Nat→Nat
namespace Yard
variable (Y : Yard)
def new (k:Nat):List Nat:=(List.range Y.n).filter fun x=>Y.rd x==k
def both:Nat→(Nat→List Nat)×(Nat→List Nat)
  | 0=>(fun _=>[],fun _=>[])
  | k+1=>
    let p:=both k
    let xs:=(if k=0 then [] else p.1 (k-1))++Y.new k
    (fun b=>(if b+1=k then [] else p.1 b)++xs.filter (fun x=>nb (Y.c x) Y.S k==some b),
     fun t=>p.2 t++xs.filter (fun x=>nb (Y.c x) Y.S k==none&&Y.tr x==t))
def A (k:Nat):Nat→List Nat:=(Y.both k).1
def B (k:Nat):Nat→List Nat:=(Y.both k).2
def pull (k:Nat):List Nat:=if k=0 then [] else Y.A k (k-1)
theorem A_succ (k b:Nat):Y.A (k+1) b=(if b+1=k then [] else Y.A k b)++(Y.pull k++Y.new k).filter (fun x=>nb (Y.c x) Y.S k==some b):=rfl
theorem B_succ (k t:Nat):Y.B (k+1) t=Y.B k t++(Y.pull k++Y.new k).filter (fun x=>nb (Y.c x) Y.S k==none&&Y.tr x==t):=rfl
def moves:Nat→Nat
  | 0=>0
  | k+1=>moves k+((Y.pull k).length+(Y.new k).length)
def pushes:Nat→Nat
  | 0=>0
  | k+1=>pushes k+(if 0<(Y.pull k).length+(Y.new k).length then 1 else 0)
theorem mem_new {k x:Nat}:x∈Y.new k↔x<Y.n∧Y.rd x=k:=by simp [new]
structure Inv (k:Nat):Prop where
  a:∀ b x,x∈Y.A (k+1) b↔x<Y.n∧Y.rd x≤k∧nb (Y.c x) Y.S k=some b
  b:∀ t x,x∈Y.B (k+1) t↔x<Y.n∧Y.rd x≤k∧nb (Y.c x) Y.S k=none∧Y.tr x=t
  an:∀ b,(Y.A (k+1) b).Nodup
  bn:∀ t,(Y.B (k+1) t).Nodup
theorem new_nodup (k:Nat):(Y.new k).Nodup:=List.Nodup.sublist List.filter_sublist List.nodup_range
theorem inv0:Y.Inv 0:=by
  have hp:Y.pull 0=[]:=rfl;refine ⟨fun b x=>?_,fun t x=>?_,fun b=>?_,fun t=>?_⟩
  · rw [A_succ,hp,if_neg (by omega)];simp only [A,both,List.nil_append,List.mem_filter,mem_new,beq_iff_eq];constructor
    · rintro ⟨⟨h1,h2⟩,h3⟩; exact ⟨h1,by omega,h3⟩
    · rintro ⟨h1,h2,h3⟩; exact ⟨⟨h1,by omega⟩,h3⟩
  · rw [B_succ,hp];simp only [B,both,List.nil_append,List.mem_filter,mem_new,beq_iff_eq,Bool.and_eq_true];constructor
    · rintro ⟨⟨h1,h2⟩,h3,h4⟩; exact ⟨h1,by omega,h3,h4⟩
    · rintro ⟨h1,h2,h3,h4⟩; exact ⟨⟨h1,by omega⟩,h3,h4⟩
  · rw [A_succ,hp,if_neg (by omega)];simp only [A,both,List.nil_append];exact List.Nodup.sublist List.filter_sublist (Y.new_nodup 0)
  · rw [B_succ,hp];simp only [B,both,List.nil_append];exact List.Nodup.sublist List.filter_sublist (Y.new_nodup 0)
theorem inv_succ {k:Nat}(hk:k<Y.S)(h:Y.Inv k):Y.Inv (k+1):=by
  have hp:Y.pull (k+1)=Y.A (k+1) k:=rfl;have hpm:∀ x,x∈Y.pull (k+1)↔x<Y.n∧Y.rd x≤k∧(Y.c x).testBit k=true:=by
    intro x;rw [hp,h.a];constructor
    · rintro ⟨h1,h2,h3⟩; exact ⟨h1,h2,(nb_some h3).2.2.1⟩
    · rintro ⟨h1,h2,h3⟩; exact ⟨h1,h2,nb_here h3 hk⟩
  have hnd:(Y.pull (k+1)++Y.new (k+1)).Nodup:=by
    refine List.nodup_append.2 ⟨by rw [hp]; exact h.an k,Y.new_nodup _,fun x hx y hy he=>?_⟩;subst he;have h1:=((hpm x).1 hx).2.1;have h2:=(Y.mem_new.1 hy).2;omega
  refine ⟨fun b x=>?_,fun t x=>?_,fun b=>?_,fun t=>?_⟩
  · rw [A_succ,List.mem_append,List.mem_filter,List.mem_append,hpm,mem_new,beq_iff_eq];constructor
    · rintro (h1 | ⟨⟨h1,h2,h3⟩ | ⟨h1,h2⟩,h4⟩)
      · split at h1
        · cases h1
        · rename_i hb
          obtain ⟨q1,q2,q3⟩:=(h.a b x).1 h1;obtain ⟨r1,r2,r3,r4⟩:=nb_some q3;have hkb:(Y.c x).testBit k=false:=r4 k (by omega) (by omega);exact ⟨q1,by omega,by rw [← nb_step hkb]; exact q3⟩
      · exact ⟨h1,by omega,h4⟩
      · exact ⟨h1,by omega,h4⟩
    · rintro ⟨h1,h2,h3⟩;have hb:=nb_some h3
      by_cases hr:Y.rd x=k+1
      · exact .inr ⟨.inr ⟨h1,hr⟩,h3⟩
      · cases ht:(Y.c x).testBit k with
        | true=>exact .inr ⟨.inl ⟨h1,by omega,rfl⟩,h3⟩
        | false=>
          left;rw [if_neg (by omega)];exact (h.a b x).2 ⟨h1,by omega,by rw [nb_step ht]; exact h3⟩
  · rw [B_succ,List.mem_append,List.mem_filter,List.mem_append,hpm,mem_new,Bool.and_eq_true,beq_iff_eq,beq_iff_eq,h.b];constructor
    · rintro (⟨q1,q2,q3,q4⟩ | ⟨⟨h1,h2,h3⟩ | ⟨h1,h2⟩,h4,h5⟩)
      · have hkb:(Y.c x).testBit k=false:=by
          cases ht:(Y.c x).testBit k with
          | false=>rfl
          | true=>rw [nb_here ht hk] at q3; cases q3
        exact ⟨q1,by omega,by rw [← nb_step hkb]; exact q3,q4⟩
      · exact ⟨h1,by omega,h4,h5⟩
      · exact ⟨h1,by omega,h4,h5⟩
    · rintro ⟨h1,h2,h3,h4⟩
      by_cases hr:Y.rd x=k+1
      · exact .inr ⟨.inr ⟨h1,hr⟩,h3,h4⟩
      · cases ht:(Y.c x).testBit k with
        | true=>exact .inr ⟨.inl ⟨h1,by omega,rfl⟩,h3,h4⟩
        | false=>exact .inl ⟨h1,by omega,by rw [nb_step ht]; exact h3,h4⟩
  · rw [A_succ];refine List.nodup_append.2 ⟨?_,List.Nodup.sublist List.filter_sublist hnd,fun x hx y hy he=>?_⟩
    · split
      · exact List.nodup_nil
      · exact h.an b
    · subst he
      split at hx
      · cases hx
      · rename_i hb
        obtain ⟨q1,q2,q3⟩:=(h.a b x).1 hx;have hm:=(List.mem_filter.1 hy).1;rcases List.mem_append.1 hm with h1 | h1
        · have ht:=((hpm x).1 h1).2.2;rw [nb_here ht hk] at q3;cases q3;omega
        · have:=(Y.mem_new.1 h1).2;omega
  · rw [B_succ];refine List.nodup_append.2 ⟨h.bn t,List.Nodup.sublist List.filter_sublist hnd,fun x hx y hy he=>?_⟩;subst he;obtain ⟨q1,q2,q3,q4⟩:=(h.b t x).1 hx;have hm:=(List.mem_filter.1 hy).1;rcases List.mem_append.1 hm with h1 | h1
    · have ht:=((hpm x).1 h1).2.2;rw [nb_here ht hk] at q3;cases q3
    · have:=(Y.mem_new.1 h1).2;omega
theorem inv:∀ (k:Nat),k≤Y.S→Y.Inv k
  | 0,_=>Y.inv0
  | k+1,h=>Y.inv_succ (by omega) (inv k (by omega))
theorem sub_len {α:Type} [DecidableEq α]:∀ {l l':List α},l.Nodup→(∀ x∈l,x∈l')→l.length≤l'.length
  | [],_,_,_=>by simp
  | x::l,l',hn,h=>by
    have hx:x∈l':=h x List.mem_cons_self;obtain ⟨h1,h2⟩:=List.nodup_cons.1 hn;have h3:=sub_len (l:=l) (l':=l'.erase x) h2 (fun y hy=>(List.mem_erase_of_ne (fun e=>by subst e; exact h1 hy)).2 (h y (List.mem_cons_of_mem _ hy)));rw [List.length_erase_of_mem hx] at h3;have:=List.length_pos_of_mem hx;simp only [List.length_cons];omega
theorem len_of {l:List Nat}{n:Nat}(hn:l.Nodup)(h:∀ x∈l,x<n):l.length≤n:=by
  have:=sub_len (l':=List.range n) hn (fun x hx=>List.mem_range.2 (h x hx))
  simpa using this
theorem pull_len {k:Nat}(hk:k≤Y.S):(Y.pull k).length≤Y.n:=by
  cases k with
  | zero=>simp [pull]
  | succ k=>
    have hi:=Y.inv k (by omega);exact len_of (hi.an k) (fun x hx=>((hi.a k x).1 hx).1)
theorem new_len (k:Nat):(Y.new k).length≤Y.n:=len_of (Y.new_nodup k) (fun x hx=>(Y.mem_new.1 hx).1)
theorem A_len {k:Nat}(hk:k≤Y.S+1)(b:Nat):(Y.A k b).length≤Y.n:=by
  cases k with
  | zero=>simp [A,both]
  | succ k=>
    have hi:=Y.inv k (by omega);exact len_of (hi.an b) (fun x hx=>((hi.a b x).1 hx).1)
theorem B_len {k:Nat}(hk:k≤Y.S+1)(t:Nat):(Y.B k t).length≤Y.n:=by
  cases k with
  | zero=>simp [B,both]
  | succ k=>
    have hi:=Y.inv k (by omega);exact len_of (hi.bn t) (fun x hx=>((hi.b t x).1 hx).1)
theorem moves_le:∀ {k:Nat},k≤Y.S+1→Y.moves k≤2*Y.n*k
  | 0,_=>by simp [moves]
  | k+1,h=>by
    have h1:=moves_le (k:=k) (by omega);have h2:=Y.pull_len (k:=k) (by omega);have h3:=Y.new_len k;have h4:2*Y.n*(k+1)=2*Y.n*k+2*Y.n:=by rw [Nat.mul_add,Nat.mul_one]
    simp only [moves];omega
theorem pushes_le:∀ (k:Nat),Y.pushes k≤k
  | 0=>by simp [pushes]
  | k+1=>by
    have:=pushes_le k;simp only [pushes]
    split <;> omega
end Yard
def rows (f:Nat→List Nat) (m:Nat):List (List Int):=(List.range m).map fun b=>castL (f b)
theorem rows_len (f:Nat→List Nat)(m:Nat):(rows f m).length=m:=by simp [rows]
theorem rows_get (f:Nat→List Nat){m b:Nat}(h:b<m):(rows f m)[b]? = some (castL (f b)):=by simp [rows,h]
theorem rows_set (f f':Nat→List Nat){m b:Nat}(l:List Nat)(h:b<m)(h1:f' b=l)(h2:∀ j,j≠b→f' j=f j):(rows f m).set b (castL l)=rows f' m:=by
  apply List.ext_getElem?;intro i;rw [List.getElem?_set]
  by_cases hi:b=i
  · subst hi;rw [if_pos rfl,if_pos (by rw [rows_len]; exact h),rows_get f' h,h1]
  · rw [if_neg hi]
    by_cases him:i<m
    · rw [rows_get f him,rows_get f' him,h2 i (Ne.symm hi)]
    · rw [List.getElem?_eq_none (by rw [rows_len]; omega),List.getElem?_eq_none (by rw [rows_len]; omega)]
theorem rows_congr {f f':Nat→List Nat}{m:Nat}(h:∀ b,b<m→f b=f' b):rows f m=rows f' m:=by
  apply List.ext_getElem?;intro i
  by_cases him:i<m
  · rw [rows_get f him,rows_get f' him,h i him]
  · rw [List.getElem?_eq_none (by rw [rows_len]; omega),List.getElem?_eq_none (by rw [rows_len]; omega)]
theorem rows_nil (f:Nat→List Nat)(m:Nat)(h:∀ b,b<m→f b=[]):List.replicate m ([]:List Int)=rows f m:=by
  apply List.ext_getElem?;intro i
  by_cases him:i<m
  · rw [rows_get f him,h i him,List.getElem?_replicate,if_pos him]; rfl
  · rw [List.getElem?_eq_none (by simp; omega),List.getElem?_eq_none (by rw [rows_len]; omega)]
def trains (items:List Item):Nat:=items.foldl (fun m x=>max m (x.1.toNat+1)) 0
theorem trains_app (l:List Item)(x:Item):trains (l++[x])=max (trains l) (x.1.toNat+1):=by simp [trains]
def yard (items:List Item) (S:Int) (codes:List Int):Yard where
  n:=items.length
  S:=S.toNat
  T:=trains items
  c:=fun i=>(codes.getD i 0).toNat
  rd:=fun i=>(items.getD i (0,0,0,0)).2.2.1.toNat
  tr:=fun i=>(items.getD i (0,0,0,0)).1.toNat
theorem trains_le:∀ (l:List Item) (m:Nat),m≤l.foldl (fun m x=>max m (x.1.toNat+1)) m∧∀ x∈l,x.1.toNat+1≤l.foldl (fun m x=>max m (x.1.toNat+1)) m
  | [],m=>⟨Nat.le_refl _,fun x h=>by cases h⟩
  | y::l,m=>by
    obtain ⟨h1,h2⟩:=trains_le l (max m (y.1.toNat+1));refine ⟨by simp only [List.foldl_cons]; omega,fun x hx=>?_⟩;simp only [List.foldl_cons];cases hx with
    | head=>omega
    | tail _ hx=>exact h2 x hx
theorem trains_bound:∀ (l:List Item) (m:Nat),m≤16→(∀ x∈l,x.1≤15)→l.foldl (fun m x=>max m (x.1.toNat+1)) m≤16
  | [],m,h,_=>h
  | y::l,m,h,h2=>by
    simp only [List.foldl_cons];refine trains_bound l _ ?_ (fun x hx=>h2 x (List.mem_cons_of_mem _ hx));have:=h2 y List.mem_cons_self;omega
section
variable {items : List Item} {wt S : Int} {codes : List Int} (hg : Good items wt S codes)
include hg
theorem item_at {i:Nat}(hi:i<items.length):∃ x c,items[i]? = some x∧codes[i]? = some c∧good1 x∧c=(((yard items S codes).c i:Nat):Int)∧(yard items S codes).c i<2 ^ S.toNat∧
    x.2.2.1=(((yard items S codes).rd i:Nat):Int)∧x.1=(((yard items S codes).tr i:Nat):Int)∧(yard items S codes).tr i<trains items∧isN ((yard items S codes).rd i) wt.toNat ((yard items S codes).c i)=true:=by
  have hx:items[i]? = some items[i]:=List.getElem?_eq_getElem hi;have hil:i<codes.length:=by rw [hg.cl]; exact hi
  have hc:codes[i]? = some codes[i]:=List.getElem?_eq_getElem hil;obtain ⟨c1,c2,c3⟩:=hg.code i _ _ hx hc;have q:=hg.job.it i _ hx;have e1:codes.getD i 0=codes[i]:=by simp [List.getD,hc]
  have e2:items.getD i (0,0,0,0)=items[i]:=by simp [List.getD,hx]
  refine ⟨items[i],codes[i],hx,hc,q,?_,?_,?_,?_,?_,?_⟩
  · simp only [yard,e1]; omega
  · simp only [yard,e1]; omega
  · simp only [yard,e2]; have:=q.2.2.1; omega
  · simp only [yard,e2]; have:=q.1; omega
  · simp only [yard,e2];have:=(trains_le items 0).2 items[i] (List.getElem_mem hi);simp only [trains];omega
  · simp only [yard,e1,e2]; exact c3
theorem T_le:trains items≤16:=trains_bound items 0 (by omega) (fun x hx=>by
  obtain ⟨i,hi,rfl⟩:=List.getElem_of_mem hx;exact (hg.job.it i _ (List.getElem?_eq_getElem hi)).1.2)
omit hg in
theorem bit_if (c b:Nat)(hc:c<4096)(hb:b≤12):((IntKind.i64.wrap ↑(BitVec.ofInt IntKind.i64.bits (Int.fdiv (c:Int) (2 ^ (min (Int.toNat (b:Int)) IntKind.i64.bits)))&&&BitVec.ofInt IntKind.i64.bits 1).toNat)==1)=c.testBit b:=by
  rw [pow_nat b hb,fdiv_nat];have h1:c / 2 ^ b≤c:=Nat.div_le_self _ _;have h2:=and_nat (c / 2 ^ b) 1 (by omega) (by omega);rw [show ((1:Nat):Int)=1 from rfl] at h2;rw [h2,Nat.and_one_is_mod,Nat.testBit_eq_decide_div_mod_eq]
  by_cases h:c / 2 ^ b%2=1
  · rw [h]; rfl
  · rw [decide_eq_false h];have:c / 2 ^ b%2=0:=by omega
    rw [this]; rfl
theorem push_ok (f g:Nat→List Nat)(m pu:Int)(x t:Nat)(hx:x<items.length)(hf:∀ b,(f b).length≤1000000)(hgl:∀ b,(g b).length≤1000000)(f' g':Nat→List Nat)
    (hf':∀ b,f' b=f b++[x].filter (fun x=>nb ((yard items S codes).c x) S.toNat t==some b))
    (hg':∀ u,g' u=g u++[x].filter (fun x=>nb ((yard items S codes).c x) S.toNat t==none&&(yard items S codes).tr x==u)) :
    rollin_machine_push items wt S codes (rows f S.toNat) (rows g (trains items)) m pu (x:Int) (t:Int)=some (IntKind.i64.wrap (m+1),rows f' S.toNat,rows g' (trains items)):=by
  obtain ⟨it,c,hit,hc,hgd,ec,hcl,er,et,htr,_⟩:=item_at hg hx;obtain ⟨hS0,hS1⟩:=hg.st;have hp:=pow_le S.toNat (by omega);generalize hcc:(yard items S codes).c x=cx at *
  generalize htt:(yard items S codes).tr x=tx at *
  unfold rollin_machine_push;obtain ⟨d,h1,h2⟩:=loop_inv (step:=rollin_machine_push_L8 S codes (rows f S.toNat) (x:Int)) (fun s=>∃ b:Nat,s=(b:Int)∧t≤b∧nb cx S.toNat b=nb cx S.toNat t) (fun s=>S.toNat-s.toNat)
    (fun d=>(∃ b,nb cx S.toNat t=some b∧b<S.toNat∧d=.inl ((rows f S.toNat).set b (castL (f b++[x]))))∨(nb cx S.toNat t=none∧d=.inr ())) (by
    rintro _ ⟨b,rfl,hb,hn⟩;unfold rollin_machine_push_L8;simp only
    by_cases hbS:b<S.toNat
    · rw [if_pos (dpos (by omega)),idx_nat,hc];simp only [Option.bind_some];rw [if_pos (by omega),ec,bit_if cx b (by omega) (by omega)];cases htb:cx.testBit b with
      | true=>
        rw [if_pos rfl,idx_nat,rows_get f hbS];simp only [Option.bind_some];rw [if_pos (by rw [castL_len]; have:=hf b; simp only [List.length_cons,List.length_nil]; omega)];refine .inr ⟨_,rfl,.inl ⟨b,by rw [← hn]; exact nb_here htb hbS,hbS,?_⟩⟩;rw [Int.toNat_natCast,castL_app]; rfl
      | false=>
        rw [if_neg (by decide),wr_id (by omega) (by omega)];exact .inl ⟨_,rfl,⟨b+1,by simp,by omega,by rw [← nb_step htb]; exact hn⟩,by omega⟩
    · rw [if_neg (dneg (by omega))];refine .inr ⟨_,rfl,.inr ⟨?_,rfl⟩⟩;rw [← hn,nb,if_neg hbS]) (t:Int) ⟨t,rfl,Nat.le_refl _,rfl⟩ (by omega)
  rw [h1];simp only [Option.bind_some];rcases h2 with ⟨b,hb,hbS,rfl⟩ | ⟨hb,rfl⟩
  · simp only
    congr 2
    · congr 1
      · refine rows_set f f' _ hbS ?_ (fun j hj=>?_)
        · rw [hf']; simp [hcc,hb]
        · rw [hf']; simp [hcc,hb,Ne.symm hj]
      · refine rows_congr fun u _=>?_
        rw [hg']; simp [hcc,hb]
  · simp only;rw [idx_nat,hit];simp only [Option.bind_some];rw [et,idx_nat,rows_get g htr];simp only [Option.bind_some];rw [if_pos (by rw [castL_len]; have:=hgl tx; simp only [List.length_cons,List.length_nil]; omega)]
    congr 2
    · congr 1
      · refine rows_congr fun u _=>?_
        rw [hf']; simp [hcc,hb]
      · rw [Int.toNat_natCast,show castL (g tx)++[(x:Int)]=castL (g tx++[x]) by rw [castL_app]; rfl];refine rows_set g g' _ htr ?_ (fun j hj=>?_)
        · rw [hg']; simp [hcc,hb,htt]
        · rw [hg']; simp [hcc,hb,htt,Ne.symm hj]
def upA (Y:Yard) (f:Nat→List Nat) (t:Nat) (xs:List Nat) (b:Nat):List Nat:=f b++xs.filter (fun x=>nb (Y.c x) Y.S t==some b)
def upB (Y:Yard) (g:Nat→List Nat) (t:Nat) (xs:List Nat) (u:Nat):List Nat:=g u++xs.filter (fun x=>nb (Y.c x) Y.S t==none&&Y.tr x==u)
omit hg in
theorem upA_app (Y:Yard)(f:Nat→List Nat)(t:Nat)(xs ys:List Nat)(b:Nat):upA Y f t (xs++ys) b=upA Y f t xs b++ys.filter (fun x=>nb (Y.c x) Y.S t==some b):=by simp [upA]
omit hg in
theorem upB_app (Y:Yard)(g:Nat→List Nat)(t:Nat)(xs ys:List Nat)(b:Nat):upB Y g t (xs++ys) b=upB Y g t xs b++ys.filter (fun x=>nb (Y.c x) Y.S t==none&&Y.tr x==b):=by simp [upB]
omit hg in
theorem upA_len (Y:Yard)(f:Nat→List Nat)(t:Nat)(xs:List Nat)(b:Nat):(upA Y f t xs b).length≤(f b).length+xs.length:=by
  simp only [upA,List.length_append];have:=List.length_filter_le (fun x=>nb (Y.c x) Y.S t==some b) xs;omega
omit hg in
theorem upB_len (Y:Yard)(f:Nat→List Nat)(t:Nat)(xs:List Nat)(b:Nat):(upB Y f t xs b).length≤(f b).length+xs.length:=by
  simp only [upB,List.length_append];have:=List.length_filter_le (fun x=>nb (Y.c x) Y.S t==none&&Y.tr x==b) xs;omega
theorem L14_ok (f g:Nat→List Nat)(m:Nat)(pu:Int)(t:Nat)(xs:List Nat)(hxs:∀ x∈xs,x<items.length)(hxl:xs.length≤1000)(hf:∀ b,(f b).length≤1000)(hgl:∀ b,(g b).length≤1000)(hm:m≤1000000) :
    loop (rollin_machine_at_L14 items wt S codes pu (t:Int) (castL xs)) (rows f S.toNat,rows g (trains items),(m:Int),0) =
      some (rows (upA (yard items S codes) f t xs) S.toNat,rows (upB (yard items S codes) g t xs) (trains items),((m+xs.length:Nat):Int)):=by
  obtain ⟨d,h1,h2⟩:=loop_inv (step:=rollin_machine_at_L14 items wt S codes pu (t:Int) (castL xs))
    (fun s=>∃ i:Nat,i≤xs.length∧s=(rows (upA (yard items S codes) f t (xs.take i)) S.toNat,rows (upB (yard items S codes) g t (xs.take i)) (trains items),((m+i:Nat):Int),(i:Int)))
    (fun s=>xs.length-s.2.2.2.toNat) (fun d=>d=(rows (upA (yard items S codes) f t xs) S.toNat,rows (upB (yard items S codes) g t xs) (trains items),((m+xs.length:Nat):Int))) (by
    rintro _ ⟨i,hi,rfl⟩;unfold rollin_machine_at_L14;simp only
    by_cases hil:i<xs.length
    · rw [if_pos (dpos (by rw [castL_len]; omega)),idx_nat,castL_get,List.getElem?_eq_getElem hil];simp only [Option.map_some,Option.bind_some];have hta:xs.take (i+1)=xs.take i++[xs[i]]:=List.take_succ_eq_append_getElem hil;have htl:(xs.take i).length=i:=by rw [List.length_take]; omega
      rw [push_ok hg _ _ _ pu xs[i] t (hxs _ (List.getElem_mem hil)) (fun b=>by have:=upA_len (yard items S codes) f t (xs.take i) b; have:=hf b; omega) (fun b=>by have:=upB_len (yard items S codes) g t (xs.take i) b; have:=hgl b; omega)
        (upA (yard items S codes) f t (xs.take (i+1))) (upB (yard items S codes) g t (xs.take (i+1))) (fun b=>by rw [hta,upA_app]; rfl) (fun b=>by rw [hta,upB_app]; rfl)]
      simp only [Option.bind_some];refine .inl ⟨_,rfl,⟨i+1,by omega,?_⟩,?_⟩
      · rw [wr_id (by omega) (by omega),wr_id (by omega) (by omega)];rfl
      · simp only;rw [wr_id (n:=(i:Int)+1) (by omega) (by omega)];omega
    · rw [if_neg (dneg (by rw [castL_len]; omega))];refine .inr ⟨_,rfl,?_⟩;have e:i=xs.length:=by omega
      subst e;rw [List.take_length]) _ ⟨0,by omega,by rw [rows_congr (f':=f) (fun b _=>by simp [upA]),rows_congr (f:=upB _ _ _ _) (f':=g) (fun b _=>by simp [upB])]⟩ (by simp; omega)
  have e:((m+0:Nat):Int)=(m:Int):=rfl;exact h1.trans (by rw [h2])
theorem L21_ok (f g:Nat→List Nat)(m:Nat)(pu:Int)(t:Nat)(hf:∀ b,(f b).length≤1000)(hgl:∀ b,(g b).length≤1000)(hm:m≤1000000) :
    loop (rollin_machine_at_L21 items wt S codes pu (t:Int)) (rows f S.toNat,rows g (trains items),(m:Int),0) =
      some (rows (upA (yard items S codes) f t ((yard items S codes).new t)) S.toNat,rows (upB (yard items S codes) g t ((yard items S codes).new t)) (trains items),((m+((yard items S codes).new t).length:Nat):Int)):=by
  have hl:=hg.job.len
  let nw (i:Nat):List Nat:=(List.range i).filter fun x=>(yard items S codes).rd x==t
  have hnl:∀ i,(nw i).length≤i:=fun i=>by
    have:=List.length_filter_le (fun x=>(yard items S codes).rd x==t) (List.range i)
    simpa using this
  obtain ⟨d,h1,h2⟩:=loop_inv (step:=rollin_machine_at_L21 items wt S codes pu (t:Int))
    (fun s=>∃ i:Nat,i≤items.length∧s=(rows (upA (yard items S codes) f t (nw i)) S.toNat,rows (upB (yard items S codes) g t (nw i)) (trains items),((m+(nw i).length:Nat):Int),(i:Int)))
    (fun s=>items.length-s.2.2.2.toNat) (fun d=>d=(rows (upA (yard items S codes) f t (nw items.length)) S.toNat,rows (upB (yard items S codes) g t (nw items.length)) (trains items),((m+(nw items.length).length:Nat):Int))) (by
    rintro _ ⟨i,hi,rfl⟩;unfold rollin_machine_at_L21;simp only
    by_cases hil:i<items.length
    · obtain ⟨it,c,hit,hc,hgd,ec,hcl,er,et,htr,_⟩:=item_at hg hil;have h3:=hnl i;have hns:nw (i+1)=nw i++[i].filter (fun x=>(yard items S codes).rd x==t):=by simp only [nw,List.range_succ,List.filter_append]
      rw [if_pos (dpos (by omega)),idx_nat,hit];simp only [Option.bind_some];rw [er]
      by_cases hr:(yard items S codes).rd i=t
      · have hns':nw (i+1)=nw i++[i]:=by rw [hns]; simp [hr]
        rw [if_pos (by simp [hr]),push_ok hg _ _ _ pu i t hil (fun b=>by have:=upA_len (yard items S codes) f t (nw i) b; have:=hf b; omega) (fun b=>by have:=upB_len (yard items S codes) g t (nw i) b; have:=hgl b; omega)
          (upA (yard items S codes) f t (nw (i+1))) (upB (yard items S codes) g t (nw (i+1))) (fun b=>by rw [hns',upA_app]; rfl) (fun b=>by rw [hns',upB_app]; rfl)]
        simp only [Option.bind_some];refine .inl ⟨_,rfl,⟨i+1,by omega,?_⟩,?_⟩
        · rw [wr_id (by omega) (by omega),wr_id (by omega) (by omega),hns'];simp;omega
        · simp only;rw [wr_id (n:=(i:Int)+1) (by omega) (by omega)];omega
      · have hns':nw (i+1)=nw i:=by rw [hns]; simp [hr]
        rw [if_neg (by simpa using (by omega:¬ ((yard items S codes).rd i:Int)=(t:Int)))];refine .inl ⟨_,rfl,⟨i+1,by omega,?_⟩,?_⟩
        · rw [wr_id (by omega) (by omega),hns']; rfl
        · simp only;rw [wr_id (n:=(i:Int)+1) (by omega) (by omega)];omega
    · rw [if_neg (dneg (by omega))];refine .inr ⟨_,rfl,?_⟩;have e:i=items.length:=by omega
      subst e;rfl) _ ⟨0,by omega,by rw [rows_congr (f':=f) (fun b _=>by simp [upA,nw]),rows_congr (f:=upB _ _ _ _) (f':=g) (fun b _=>by simp [upB,nw])]⟩ (by simp; omega)
  exact h1.trans (by rw [h2]; rfl)
theorem at_ok (k:Nat)(hk:k≤S.toNat) :
    rollin_machine_at items wt S codes (rows ((yard items S codes).A k) S.toNat) (rows ((yard items S codes).B k) (trains items)) ((yard items S codes).moves k) ((yard items S codes).pushes k) (k:Int) =
      some ((((yard items S codes).moves (k+1):Nat):Int),(((yard items S codes).pushes (k+1):Nat):Int),rows ((yard items S codes).A (k+1)) S.toNat,rows ((yard items S codes).B (k+1)) (trains items)):=by
  have hl:=hg.job.len;obtain ⟨hS0,hS1⟩:=hg.st;generalize hY:yard items S codes=Y;have hn:Y.n=items.length:=by rw [← hY]; rfl
  have hYS:Y.S=S.toNat:=by rw [← hY]; rfl
  have ha:=fun b=>Y.A_len (k:=k) (by omega) b
  have hb:=fun b=>Y.B_len (k:=k) (by omega) b
  have hmv:=Y.moves_le (k:=k) (by omega);have hpl:=Y.pull_len (k:=k) (by omega);have hnl:=Y.new_len k;have hpu:=Y.pushes_le k;have hmv2:2*Y.n*k≤2*96*12:=Nat.mul_le_mul (by omega) (by omega);have tail:∀ (f g:Nat→List Nat) (m:Nat),(∀ b,(f b).length≤1000)→(∀ b,(g b).length≤1000)→m=Y.moves k+(Y.pull k).length→
      (∀ b,b<S.toNat→upA Y f k (Y.new k) b=Y.A (k+1) b)→(∀ b,upB Y g k (Y.new k) b=Y.B (k+1) b)→
      rollin_machine_at_J6 items wt S codes (Y.moves k) (Y.pushes k) (k:Int) (rows f S.toNat) (rows g (trains items)) (m:Int) =
        some (((Y.moves (k+1):Nat):Int),((Y.pushes (k+1):Nat):Int),rows (Y.A (k+1)) S.toNat,rows (Y.B (k+1)) (trains items)):=by
    intro f g m hf hgl hm hA hB;have h21:=L21_ok hg f g m (Y.pushes k) k hf hgl (by omega);rw [hY] at h21;unfold rollin_machine_at_J6;rw [h21];simp only [Option.bind_some];rw [rows_congr hA,rows_congr (fun b _=>hB b)];have e1:m+(Y.new k).length=Y.moves (k+1):=by simp only [Yard.moves]; omega
    rw [e1];have e2:Y.pushes (k+1)=Y.pushes k+(if 0<(Y.pull k).length+(Y.new k).length then 1 else 0):=rfl;have e3:Y.moves (k+1)=Y.moves k+((Y.pull k).length+(Y.new k).length):=rfl
    by_cases h:0<(Y.pull k).length+(Y.new k).length
    · rw [if_pos (dpos (by omega)),wr_id (by omega) (by omega),e2,if_pos h]; rfl
    · rw [if_neg (dneg (by omega)),e2,if_neg h]; rfl
  unfold rollin_machine_at
  by_cases h0:0<k
  · rw [if_pos (dpos (by omega)),wr_id (by omega) (by omega),show (k:Int)-1=((k-1:Nat):Int) by omega,idx_nat,rows_get _ (by omega)];simp only [Option.bind_some,Int.toNat_natCast];have hpull:Y.pull k=Y.A k (k-1):=by simp only [Yard.pull]; rw [if_neg (by omega)]
    have hset:(rows (Y.A k) S.toNat).set (k-1) ([]:List Int)=rows (fun b=>if b+1=k then [] else Y.A k b) S.toNat:=
      rows_set (Y.A k) _ [] (by omega) (if_pos (by omega)) (fun j hj=>if_neg (by omega))
    rw [hset];have hmem:∀ x∈Y.A k (k-1),x<items.length:=by
      intro x hx;have hi:=Y.inv (k-1) (by omega);have:=(hi.a (k-1) x).1 (by rw [show k-1+1=k by omega]; exact hx);omega
    have hfb:∀ b,((fun b=>if b+1=k then [] else Y.A k b) b).length≤1000:=by
      intro b;simp only
      split
      · simp
      · have:=ha b; omega
    have h14:=L14_ok hg (fun b=>if b+1=k then [] else Y.A k b) (Y.B k) (Y.moves k) (Y.pushes k) k (Y.A k (k-1)) hmem (by have:=ha (k-1); omega) hfb (fun b=>by have:=hb b; omega) (by omega);rw [hY] at h14;rw [h14];simp only [Option.bind_some];refine tail _ _ _ (fun b=>?_) (fun b=>?_) (by rw [hpull]) (fun b _=>?_) (fun b=>?_)
    · have:=upA_len Y (fun b=>if b+1=k then [] else Y.A k b) k (Y.A k (k-1)) b;have h2:=ha (k-1);have h3:(if b+1=k then [] else Y.A k b).length≤96:=by
        split
        · simp
        · have:=ha b; omega
      have h4:(upA Y (fun b=>if b+1=k then [] else Y.A k b) k (Y.A k (k-1)) b).length≤(if b+1=k then [] else Y.A k b).length+(Y.A k (k-1)).length:=this;omega
    · have:=upB_len Y (Y.B k) k (Y.A k (k-1)) b;have h2:=ha (k-1);have h3:=hb b;omega
    · rw [Yard.A_succ,hpull]; simp [upA]
    · rw [Yard.B_succ,hpull]; simp [upB]
  · have hk0:k=0:=by omega
    subst hk0;rw [if_neg (by decide)];have hp0:Y.pull 0=[]:=rfl;refine tail _ _ _ (fun b=>by have:=ha b; omega) (fun b=>by have:=hb b; omega) (by rw [hp0]; rfl) (fun b _=>?_) (fun b=>?_)
    · rw [Yard.A_succ,hp0]; simp [upA]
    · rw [Yard.B_succ,hp0]; simp [upB]
theorem start_ok:rollin_start items wt S codes=some ((items,wt),(S,codes),rows ((yard items S codes).A 0) S.toNat,rows ((yard items S codes).B 0) (trains items),0,0):=by
  have hl:=hg.job.len;obtain ⟨hS0,hS1⟩:=hg.st;have h20:∀ (k:Nat) (x:Item),k≤20→0≤x.1→x.1≤15→loop (rollin_start_L20 x) (List.replicate k ([]:List Int))=some (List.replicate (max k (x.1.toNat+1)) ([]:List Int)):=by
    intro k x hk hx0 hx1;obtain ⟨d,h1,h2⟩:=loop_inv (step:=rollin_start_L20 x) (fun s=>∃ i:Nat,k≤i∧i≤max k (x.1.toNat+1)∧s=List.replicate i ([]:List Int)) (fun s=>40-s.length) (fun d=>d=List.replicate (max k (x.1.toNat+1)) ([]:List Int)) (by
      rintro _ ⟨i,hi1,hi2,rfl⟩;unfold rollin_start_L20;simp only [List.length_replicate]
      by_cases h:(i:Int)≤x.1
      · rw [if_pos (dpos h),if_pos (by omega)];refine .inl ⟨_,rfl,⟨i+1,by omega,by omega,?_⟩,by simp; omega⟩;rw [← List.replicate_succ']
      · rw [if_neg (dneg h)];exact .inr ⟨_,rfl,by rw [show i=max k (x.1.toNat+1) by omega]⟩) _ ⟨k,Nat.le_refl _,by omega,rfl⟩ (by simp; omega)
    rw [h1,h2]
  obtain ⟨d,h1,h2⟩:=loop_inv (step:=rollin_start_L11 items) (fun s=>∃ i:Nat,i≤items.length∧s=(List.replicate (trains (items.take i)) ([]:List Int),(i:Int))) (fun s=>items.length-s.2.toNat)
    (fun d=>d=List.replicate (trains items) ([]:List Int)) (by
    rintro _ ⟨i,hi,rfl⟩;unfold rollin_start_L11;simp only
    by_cases hil:i<items.length
    · obtain ⟨it,c,hit,hc,hgd,_⟩:=item_at hg hil;have hb:trains (items.take i)≤16:=trains_bound _ 0 (by omega) (fun x hx=>by
        obtain ⟨j,hj,rfl⟩:=List.getElem_of_mem (List.mem_of_mem_take hx);exact (hg.job.it j _ (List.getElem?_eq_getElem hj)).1.2)
      rw [if_pos (dpos (by omega)),idx_nat,hit];simp only [Option.bind_some];rw [h20 _ it (by omega) hgd.1.1 hgd.1.2];simp only [Option.bind_some];have e:items.take (i+1)=items.take i++[it]:=by
        rw [List.take_add_one,hit]; rfl
      refine .inl ⟨_,rfl,⟨i+1,by omega,?_⟩,?_⟩
      · rw [wr_id (by omega) (by omega),e,trains_app]; rfl
      · simp only;rw [wr_id (n:=(i:Int)+1) (by omega) (by omega)];omega
    · rw [if_neg (dneg (by omega))];exact .inr ⟨_,rfl,by rw [List.take_of_length_le (by omega)]⟩) ([],0) ⟨0,by omega,by simp [trains]⟩ (by simp; omega)
  unfold rollin_start;rw [if_pos (by omega),h1];simp only [Option.bind_some];rw [h2,← rows_nil ((yard items S codes).A 0) S.toNat (fun _ _=>rfl),← rows_nil ((yard items S codes).B 0) (trains items) (fun _ _=>rfl)]
theorem run_ok (t:Nat)(ht:t≤S.toNat):rollin_run items wt S codes (t:Int)=some ((items,wt),(S,codes),rows ((yard items S codes).A (t+1)) S.toNat,rows ((yard items S codes).B (t+1)) (trains items),(((yard items S codes).moves (t+1):Nat):Int),(((yard items S codes).pushes (t+1):Nat):Int)):=by
  obtain ⟨hS0,hS1⟩:=hg.st;unfold rollin_run;rw [start_ok hg];simp only [Option.bind_some];obtain ⟨d,h1,h2⟩:=loop_inv (step:=rollin_run_L14 (t:Int) ((items,wt),(S,codes),rows ((yard items S codes).A 0) S.toNat,rows ((yard items S codes).B 0) (trains items),0,0))
    (fun s=>∃ k:Nat,k≤t+1∧s=(rows ((yard items S codes).A k) S.toNat,rows ((yard items S codes).B k) (trains items),(((yard items S codes).moves k:Nat):Int),(((yard items S codes).pushes k:Nat):Int),(k:Int)))
    (fun s=>t+1-s.2.2.2.2.toNat) (fun d=>d=(rows ((yard items S codes).A (t+1)) S.toNat,rows ((yard items S codes).B (t+1)) (trains items),(((yard items S codes).moves (t+1):Nat):Int),(((yard items S codes).pushes (t+1):Nat):Int))) (by
    rintro _ ⟨k,hk,rfl⟩;unfold rollin_run_L14;simp only
    by_cases h:k≤t
    · rw [if_pos (dpos (by omega)),at_ok hg k (by omega)];simp only [Option.bind_some];refine .inl ⟨_,rfl,⟨k+1,by omega,?_⟩,?_⟩
      · rw [wr_id (by omega) (by omega)]; rfl
      · simp only;rw [wr_id (n:=(k:Int)+1) (by omega) (by omega)];omega
    · rw [if_neg (dneg (by omega))];exact .inr ⟨_,rfl,by rw [show k=t+1 by omega]⟩) _ ⟨0,by omega,rfl⟩ (by simp; omega)
  have h3:loop (rollin_run_L14 (t:Int) ((items,wt),(S,codes),rows ((yard items S codes).A 0) S.toNat,rows ((yard items S codes).B 0) (trains items),0,0)) (rows ((yard items S codes).A 0) S.toNat,rows ((yard items S codes).B 0) (trains items),0,0,0)=some d:=h1;rw [h3,h2];rfl
end
namespace Yard
variable (Y : Yard)
def lt (k x y:Nat):Prop:=Y.c x%2 ^ k<Y.c y%2 ^ k∨(Y.c x%2 ^ k=Y.c y%2 ^ k∧x<y)
theorem mod_bit (c k:Nat):c%2 ^ (k+1)=(if c.testBit k then 2 ^ k else 0)+c%2 ^ k:=by
  rw [Nat.pow_succ,Nat.mod_mul];rw [Nat.testBit_eq_decide_div_mod_eq]
  by_cases h1:c / 2 ^ k%2=1
  · rw [h1]; simp; omega
  · have:c / 2 ^ k%2=0:=by omega
    rw [this]; simp
theorem sorted (ha:∀ x y,x<Y.n→y<Y.n→Y.rd x<Y.rd y→x<y)(hm:∀ x,x<Y.n→Y.c x%2 ^ (Y.rd x)=2 ^ (Y.rd x)-1) :
    ∀ (k:Nat),k≤Y.S→(∀ b,(Y.A (k+1) b).Pairwise (Y.lt k))∧(∀ t,(Y.B (k+1) t).Pairwise (Y.lt k))
  | 0,_=>by
    have hp:Y.pull 0=[]:=rfl;have h0:(Y.new 0).Pairwise (Y.lt 0):=by
      refine List.Pairwise.imp (R:=(· < ·)) (fun {a b} h=>.inr ⟨by simp [Nat.mod_one],h⟩) ?_;exact List.Pairwise.sublist List.filter_sublist List.pairwise_lt_range
    refine ⟨fun b=>?_,fun t=>?_⟩
    · rw [A_succ,hp,if_neg (by omega)];simp only [A,both,List.nil_append];exact List.Pairwise.sublist List.filter_sublist h0
    · rw [B_succ,hp];simp only [B,both,List.nil_append];exact List.Pairwise.sublist List.filter_sublist h0
  | k+1,hk=>by
    obtain ⟨iA,iB⟩:=sorted ha hm k (by omega);have hi:=Y.inv k (by omega);have hp:Y.pull (k+1)=Y.A (k+1) k:=rfl;have p0:0<2 ^ k:=Nat.two_pow_pos k;have pb:∀ x,x∈Y.pull (k+1)→x<Y.n∧Y.rd x≤k∧(Y.c x).testBit k=true:=by
      intro x hx;rw [hp,hi.a] at hx;exact ⟨hx.1,hx.2.1,(nb_some hx.2.2).2.2.1⟩
    have ps:(Y.pull (k+1)).Pairwise (Y.lt (k+1)):=by
      rw [hp];refine List.Pairwise.imp_of_mem (fun {a b} ha' hb' h=>?_) (iA k);have h1:=(pb a (by rw [hp]; exact ha')).2.2;have h2:=(pb b (by rw [hp]; exact hb')).2.2;simp only [lt,mod_bit,h1,h2,if_true] at h ⊢;omega
    have ns:(Y.new (k+1)).Pairwise (Y.lt (k+1)):=by
      refine List.Pairwise.imp_of_mem (R:=(· < ·)) (fun {a b} ha' hb' h=>.inr ⟨?_,h⟩) (List.Pairwise.sublist List.filter_sublist List.pairwise_lt_range);obtain ⟨a1,a2⟩:=Y.mem_new.1 ha';obtain ⟨b1,b2⟩:=Y.mem_new.1 hb';have e1:=hm a a1;have e2:=hm b b1;rw [a2] at e1; rw [b2] at e2;omega
    have all:(Y.pull (k+1)++Y.new (k+1)).Pairwise (Y.lt (k+1)):=by
      refine List.pairwise_append.2 ⟨ps,ns,fun x hx y hy=>?_⟩;obtain ⟨x1,x2,x3⟩:=pb x hx;obtain ⟨y1,y2⟩:=Y.mem_new.1 hy;have e2:=hm y y1;rw [y2] at e2;have e3:Y.c x%2 ^ (k+1)<2 ^ (k+1):=Nat.mod_lt _ (Nat.two_pow_pos _);have e4:=ha x y x1 y1 (by omega);simp only [lt];omega
    have old:∀ (l:List Nat),l.Pairwise (Y.lt k)→(∀ x∈l,x<Y.n∧Y.rd x≤k∧(Y.c x).testBit k=false)→∀ q:Nat→Bool,
        (l++(Y.pull (k+1)++Y.new (k+1)).filter q).Pairwise (Y.lt (k+1)):=by
      intro l hl hlm q;refine List.pairwise_append.2 ⟨?_,List.Pairwise.sublist List.filter_sublist all,fun x hx y hy=>?_⟩
      · refine List.Pairwise.imp_of_mem (fun {a b} ha' hb' h=>?_) hl;have h1:=(hlm a ha').2.2;have h2:=(hlm b hb').2.2;simp only [lt,mod_bit,h1,h2] at h ⊢
        simpa using h
      · obtain ⟨x1,x2,x3⟩:=hlm x hx;have hy':=(List.mem_filter.1 hy).1;have e1:Y.c x%2 ^ k<2 ^ k:=Nat.mod_lt _ p0;have e0:Y.c x%2 ^ (k+1)=Y.c x%2 ^ k:=by rw [mod_bit,x3]; simp
        rcases List.mem_append.1 hy' with h | h
        · have h2:=(pb y h).2.2;have e2:Y.c y%2 ^ (k+1)=2 ^ k+Y.c y%2 ^ k:=by rw [mod_bit,h2]; simp
          left; omega
        · obtain ⟨y1,y2⟩:=Y.mem_new.1 h;have e2:=hm y y1;rw [y2] at e2;have e3:2 ^ (k+1)=2 ^ k*2:=Nat.pow_succ 2 k;have e4:=ha x y x1 y1 (by omega);simp only [lt];omega
    refine ⟨fun b=>?_,fun t=>?_⟩
    · rw [A_succ]
      by_cases hb:b+1=k+1
      · rw [if_pos hb,List.nil_append];exact List.Pairwise.sublist List.filter_sublist all
      · rw [if_neg hb];refine old _ (iA b) (fun x hx=>?_) _;obtain ⟨q1,q2,q3⟩:=(hi.a b x).1 hx;obtain ⟨r1,r2,r3,r4⟩:=nb_some q3;exact ⟨q1,q2,r4 k (by omega) (by omega)⟩
    · rw [B_succ];refine old _ (iB t) (fun x hx=>?_) _;obtain ⟨q1,q2,q3,q4⟩:=(hi.b t x).1 hx;refine ⟨q1,q2,?_⟩;cases ht:(Y.c x).testBit k with
      | false=>rfl
      | true=>rw [nb_here ht (by omega)] at q3; cases q3
end Yard
theorem asc_le {items:List Item}{wt:Int}(h:JobGood items wt):∀ (d i:Nat) (x y:Item),items[i]? = some x→items[i+d]? = some y→x.2.2.1≤y.2.2.1
  | 0,i,x,y,hx,hy=>by
    rw [Nat.add_zero,hx] at hy; cases hy; exact Int.le_refl _
  | d+1,i,x,y,hx,hy=>by
    have hlt:=(List.getElem?_eq_some_iff.1 hy).1;have hz:items[i+d]? = some (items[i+d]'(by omega)):=List.getElem?_eq_getElem _;have h1:=asc_le h d i x _ hx hz;have h2:=h.asc (i+d) _ y hz (by rw [← hy]; rfl);omega
section
variable {items : List Item} {wt S : Int} {codes : List Int} (hg : Good items wt S codes)
include hg
theorem valid_ok:rollin_Valid items wt S codes=some 0:=by
  have hl:=hg.job.len;obtain ⟨e,h1,h2⟩:=valid_spec items wt S codes (by rw [hg.cl]; omega) (by omega);rcases h2 with ⟨rfl,_⟩ | ⟨_,h,_⟩
  · exact h1
  · exact absurd hg h
theorem Run_ok:rollin_Run items wt S codes=some ((rows ((yard items S codes).B (S.toNat+1)) (trains items),(((yard items S codes).moves (S.toNat+1):Nat):Int)),0):=by
  unfold rollin_Run;rw [valid_ok hg];simp only [Option.bind_some,bne_self_eq_false,Bool.false_eq_true,if_false];have h:=run_ok hg S.toNat (Nat.le_refl _);rw [Int.toNat_of_nonneg hg.st.1] at h;rw [h];rfl
end
def lst (f:Nat→Int) (N:Nat):List Int:=(List.range N).map f
theorem lst_len (f:Nat→Int)(N:Nat):(lst f N).length=N:=by simp [lst]
theorem lst_get (f:Nat→Int){N p:Nat}(h:p<N):(lst f N)[p]? = some (f p):=by simp [lst,h]
theorem lst_set (f f':Nat→Int){N p:Nat}(v:Int)(h:p<N)(h1:f' p=v)(h2:∀ j,j≠p→f' j=f j):(lst f N).set p v=lst f' N:=by
  apply List.ext_getElem?;intro i;rw [List.getElem?_set]
  by_cases hi:p=i
  · subst hi;rw [if_pos rfl,if_pos (by rw [lst_len]; exact h),lst_get f' h,h1]
  · rw [if_neg hi]
    by_cases him:i<N
    · rw [lst_get f him,lst_get f' him,h2 i (Ne.symm hi)]
    · rw [List.getElem?_eq_none (by rw [lst_len]; omega),List.getElem?_eq_none (by rw [lst_len]; omega)]
theorem lst_congr {f f':Nat→Int}{N:Nat}(h:∀ b,b<N→f b=f' b):lst f N=lst f' N:=by
  apply List.ext_getElem?;intro i
  by_cases him:i<N
  · rw [lst_get f him,lst_get f' him,h i him]
  · rw [List.getElem?_eq_none (by rw [lst_len]; omega),List.getElem?_eq_none (by rw [lst_len]; omega)]
theorem lst_zero (N:Nat):List.replicate N (0:Int)=lst (fun _=>0) N:=by
  apply List.ext_getElem?;intro i
  by_cases him:i<N
  · rw [lst_get _ him,List.getElem?_replicate,if_pos him]
  · rw [List.getElem?_eq_none (by simp; omega),List.getElem?_eq_none (by rw [lst_len]; omega)]
section
variable {items : List Item} {wt S : Int} {codes : List Int} (hg : Good items wt S codes)
include hg
end
def con (Y:Yard) (ln:Nat→Int) (i p:Nat):Int:=if p<Y.S then (if Y.rd i≤p∧(Y.c i).testBit p=true then ln i else 0) else (if p=Y.S+Y.tr i then ln i else 0)
def ld (Y:Yard) (ln:Nat→Int):Nat→Nat→Int
  | 0,_=>0
  | i+1,p=>ld Y ln i p+con Y ln i p
def lens (items:List Item):Nat→Int:=fun i=>(items.getD i (0,0,0,0)).2.2.2
theorem con_range (Y:Yard)(ln:Nat→Int)(h:∀ i,0≤ln i∧ln i≤400)(i p:Nat):0≤con Y ln i p∧con Y ln i p≤400:=by
  have:=h i;unfold con
  split <;> split <;> omega
theorem ld_range (Y:Yard)(ln:Nat→Int)(h:∀ i,0≤ln i∧ln i≤400):∀ i p,0≤ld Y ln i p∧ld Y ln i p≤400*i
  | 0,p=>by simp [ld]
  | i+1,p=>by
    have h1:=ld_range Y ln h i p;have h2:=con_range Y ln h i p;simp only [ld];omega
section
variable {items : List Item} {wt S : Int} {codes : List Int} (hg : Good items wt S codes)
include hg
theorem lens_at {i:Nat}{x:Item}(h:items[i]? = some x):lens items i=x.2.2.2:=by
  have e2:items.getD i (0,0,0,0)=x:=by simp [List.getD,h]
  simp only [lens,e2]
theorem lens_range (i:Nat):0≤lens items i∧lens items i≤400:=by
  by_cases h:i<items.length
  · have hx:items[i]? = some items[i]:=List.getElem?_eq_getElem h;rw [lens_at hg hx];have:=(hg.job.it i _ hx).2.2.2;omega
  · have:items.getD i (0,0,0,0)=(0,0,0,0):=by simp [List.getD,List.getElem?_eq_none (by omega:items.length≤i)]
    simp only [lens,this];decide
theorem LL27_ok (i:Nat)(hi:i<items.length)(x:Item)(hx:items[i]? = some x)(N:Nat)(hN:S.toNat≤N) :
    loop (rollin_Loads_L27 S codes (i:Int) x) (lst (ld (yard items S codes) (lens items) i) N,x.2.2.1) =
      some (lst (fun p=>ld (yard items S codes) (lens items) i p+if p<S.toNat then con (yard items S codes) (lens items) i p else 0) N):=by
  obtain ⟨it,c,hit,hc,hgd,ec,hcl,er,et,htr,_⟩:=item_at hg hi;rw [hx] at hit; cases hit;obtain ⟨hS0,hS1⟩:=hg.st;have hl:=hg.job.len;have hp:=pow_le S.toNat (by omega);have hln:=lens_at hg hx;have hlr:=lens_range hg;have hlr':=ld_range (yard items S codes) (lens items) hlr i;have hYS:(yard items S codes).S=S.toNat:=rfl;generalize yard items S codes=Y at *
  obtain ⟨d,h1,h2⟩:=loop_inv (step:=rollin_Loads_L27 S codes (i:Int) x) (fun s=>∃ b:Nat,Y.rd i≤b∧s=(lst (fun p=>ld Y (lens items) i p+if p<S.toNat∧p<b then con Y (lens items) i p else 0) N,(b:Int)))
    (fun s=>20-s.2.toNat) (fun d=>d=lst (fun p=>ld Y (lens items) i p+if p<S.toNat then con Y (lens items) i p else 0) N) (by
    rintro _ ⟨b,hb,rfl⟩;unfold rollin_Loads_L27;simp only
    by_cases hbS:b<S.toNat
    · rw [if_pos (dpos (by omega)),idx_nat,hc];simp only [Option.bind_some];rw [if_pos (by omega),ec,bit_if _ b (by omega) (by omega)];have same:∀ p,p≠b→(ld Y (lens items) i p+if p<S.toNat∧p<b+1 then con Y (lens items) i p else 0)=(ld Y (lens items) i p+if p<S.toNat∧p<b then con Y (lens items) i p else 0):=by
        intro p hpb
        by_cases h1:p<S.toNat∧p<b
        · rw [if_pos h1,if_pos (by omega)]
        · rw [if_neg h1,if_neg (by omega)]
      cases htb:(Y.c i).testBit b with
      | true=>
        rw [if_pos rfl,idx_nat,lst_get _ (by omega)];simp only [Option.bind_some];refine .inl ⟨_,rfl,⟨b+1,by omega,?_⟩,?_⟩
        · rw [wr_id (n:=(b:Int)+1) (by omega) (by omega),Int.toNat_natCast]
          congr 1
          refine lst_set _ _ _ (by omega) ?_ same;have h3:=hlr' b;have h4:=hlr i;have e1:con Y (lens items) i b=lens items i:=by
            simp only [con];rw [if_pos (by omega),if_pos ⟨hb,htb⟩]
          rw [if_pos (by omega),if_neg (by omega),e1,← hln,wr_id (by omega) (by omega)];omega
        · simp only;rw [wr_id (n:=(b:Int)+1) (by omega) (by omega)];omega
      | false=>
        rw [if_neg (by decide)];refine .inl ⟨_,rfl,⟨b+1,by omega,?_⟩,?_⟩
        · rw [wr_id (n:=(b:Int)+1) (by omega) (by omega)]
          congr 1
          refine lst_congr fun p _=>?_
          by_cases hpb:p=b
          · subst hpb;have e1:con Y (lens items) i p=0:=by
              simp only [con];rw [if_pos (by omega),if_neg (by simp [htb])]
            rw [if_neg (by omega),if_pos (by omega),e1]
          · exact (same p hpb).symm
        · simp only;rw [wr_id (n:=(b:Int)+1) (by omega) (by omega)];omega
    · rw [if_neg (dneg (by omega))];refine .inr ⟨_,rfl,lst_congr fun p _=>?_⟩
      by_cases h1:p<S.toNat
      · rw [if_pos h1,if_pos (by omega)]
      · rw [if_neg h1,if_neg (by omega)]) (lst (ld Y (lens items) i) N,x.2.2.1) ⟨Y.rd i,Nat.le_refl _,by
        rw [er]
        congr 1
        refine lst_congr fun p _=>?_
        by_cases h1:p<S.toNat∧p<Y.rd i
        · rw [if_pos h1];have e1:con Y (lens items) i p=0:=by
            simp only [con];rw [if_pos (by omega),if_neg (by omega)]
          rw [e1]; omega
        · rw [if_neg h1]; omega⟩ (by simp only; omega)
  rw [h1,h2]
theorem Loads_ok:rollin_Loads items wt S codes=some (lst (ld (yard items S codes) (lens items) items.length) (S.toNat+trains items),0):=by
  obtain ⟨hS0,hS1⟩:=hg.st;have hl:=hg.job.len;have hT:=T_le hg;have hlr:=lens_range hg;unfold rollin_Loads;rw [valid_ok hg];simp only [Option.bind_some,bne_self_eq_false,Bool.false_eq_true,if_false];rw [start_ok hg];simp only [Option.bind_some];have eN:IntKind.i64.wrap (S+((rows ((yard items S codes).B 0) (trains items)).length:Int))=((S.toNat+trains items:Nat):Int):=by
    rw [rows_len,wr_id (by omega) (by omega)]; omega
  rw [eN,if_pos (by omega),Int.toNat_natCast,lst_zero];obtain ⟨d,h1,h2⟩:=loop_inv (step:=rollin_Loads_L19 items S codes) (fun s=>∃ i:Nat,i≤items.length∧s=(lst (ld (yard items S codes) (lens items) i) (S.toNat+trains items),(i:Int))) (fun s=>items.length-s.2.toNat)
    (fun d=>d=lst (ld (yard items S codes) (lens items) items.length) (S.toNat+trains items)) (by
    rintro _ ⟨i,hi,rfl⟩;unfold rollin_Loads_L19;simp only
    by_cases hil:i<items.length
    · obtain ⟨x,c,hx,hc,hgd,ec,hcl,er,et,htr,_⟩:=item_at hg hil;rw [if_pos (dpos (by omega)),idx_nat,hx];simp only [Option.bind_some];rw [LL27_ok hg i hil x hx _ (by omega)];simp only [Option.bind_some];have hln:=lens_at hg hx;have hlr':=ld_range (yard items S codes) (lens items) hlr i;have hYS:(yard items S codes).S=S.toNat:=rfl;generalize yard items S codes=Y at *
      rw [et,wr_id (n:=S+(Y.tr i:Int)) (by omega) (by omega),show S+(Y.tr i:Int)=((S.toNat+Y.tr i:Nat):Int) by omega,idx_nat,lst_get _ (by omega)];simp only [Option.bind_some];refine .inl ⟨_,rfl,⟨i+1,by omega,?_⟩,?_⟩
      · rw [wr_id (n:=(i:Int)+1) (by omega) (by omega),Int.toNat_natCast]
        congr 1
        have h3:=hlr' (S.toNat+Y.tr i);have h4:=hlr i;refine lst_set _ _ _ (by omega) ?_ (fun p hp=>?_)
        · rw [if_neg (by omega),← hln,wr_id (by omega) (by omega)];simp only [ld,con];rw [if_neg (by omega),if_pos (by omega)];omega
        · simp only [ld]
          by_cases hpS:p<S.toNat
          · rw [if_pos hpS]
          · rw [if_neg hpS];simp only [con];rw [if_neg (by omega),if_neg (by omega)]
      · simp only;rw [wr_id (n:=(i:Int)+1) (by omega) (by omega)];omega
    · rw [if_neg (dneg (by omega))];exact .inr ⟨_,rfl,by rw [show i=items.length by omega]⟩) (lst (fun _=>0) (S.toNat+trains items),0) ⟨0,by omega,by congr 1⟩ (by simp; omega)
  rw [h1,h2];rfl
end
theorem max_ok (v:List Int)(h:0<v.length)(hl:v.length≤4294967296):∃ m,slices_Max_int_int_ v=some m∧(∃ i,i<v.length∧v.getD i 0=m)∧∀ i,i<v.length→v.getD i 0≤m:=by
  unfold slices_Max_int_int_;rw [if_neg (dneg (by omega)),show (0:Int)=((0:Nat):Int) from rfl,idx_getD h];simp only [Option.bind_some];obtain ⟨d,h1,h2⟩:=loop_inv (step:=slices_Max_int_int__L5 v) (fun s=>∃ (i:Nat) (m:Int),s=(m,(i:Int))∧i≤v.length∧(∃ j,j<v.length∧v.getD j 0=m)∧∀ j,j<i→v.getD j 0≤m) (fun s=>v.length-s.2.toNat)
    (fun m=>(∃ j,j<v.length∧v.getD j 0=m)∧∀ j,j<v.length→v.getD j 0≤m) (by
    rintro _ ⟨i,m,rfl,hi,hj,hm⟩;unfold slices_Max_int_int__L5;simp only
    by_cases hil:i<v.length
    · rw [if_pos (dpos (by omega)),idx_getD hil];simp only [Option.bind_some];rw [wr_id (by omega) (by omega)];refine .inl ⟨_,rfl,⟨i+1,_,rfl,by omega,?_,fun j hji=>?_⟩,by simp only; omega⟩
      · split
        · exact ⟨i,hil,rfl⟩
        · exact hj
      · by_cases e:j=i
        · subst e; split <;> omega
        · have:=hm j (by omega)
          split <;> omega
    · rw [if_neg (dneg (by omega))];exact .inr ⟨_,rfl,hj,fun j hjl=>hm j (by omega)⟩) (v.getD 0 0,1) ⟨1,_,rfl,by omega,⟨0,h,rfl⟩,fun j hj=>by
        have:j=0:=by omega
        subst this;exact Int.le_refl _⟩ (by simp; omega)
  rw [show ((0:Nat):Int)=0 from rfl] at *
  rw [h1];exact ⟨d,rfl,h2⟩
theorem index_ok (v:List Int)(m:Int)(hl:v.length≤4294967296)(h:∃ i,i<v.length∧v.getD i 0=m):∃ i:Nat,slices_Index_int_int_ v m=some (i:Int)∧i<v.length∧v.getD i 0=m∧∀ j,j<i→v.getD j 0≠m:=by
  obtain ⟨w,hw,hwm⟩:=h;unfold slices_Index_int_int_;obtain ⟨d,h1,h2⟩:=loop_inv (step:=slices_Index_int_int__L2 v m) (fun s=>∃ i:Nat,s=(i:Int)∧i≤w∧∀ j,j<i→v.getD j 0≠m) (fun s=>v.length-s.toNat)
    (fun d=>∃ i:Nat,d=.inl (i:Int)∧i<v.length∧v.getD i 0=m∧∀ j,j<i→v.getD j 0≠m) (by
    rintro _ ⟨i,rfl,hi,hj⟩;unfold slices_Index_int_int__L2;simp only;have hil:i<v.length:=by omega
    rw [if_pos (dpos (by omega)),idx_getD hil];simp only [Option.bind_some]
    by_cases e:m=v.getD i 0
    · rw [if_pos (by simpa using e)];exact .inr ⟨_,rfl,i,rfl,hil,e.symm,hj⟩
    · rw [if_neg (by simpa using e),wr_id (by omega) (by omega)];have hiw:i≠w:=fun e'=>by subst e'; exact e hwm.symm
      refine .inl ⟨_,rfl,⟨i+1,rfl,by omega,fun j hji=>?_⟩,by omega⟩
      by_cases e2:j=i
      · subst e2; exact fun h=>e h.symm
      · exact hj j (by omega)) 0 ⟨0,rfl,by omega,fun j h=>by omega⟩ (by simp; omega)
  rw [h1];obtain ⟨i,rfl,h3⟩:=h2;exact ⟨i,rfl,h3⟩
theorem jv_step (items:List Item):job_Valid_L8 items=r11_Valid_L6 items:=by
  funext s;unfold job_Valid_L8 r11_Valid_L6;simp only [job_in_ok,Option.bind_some,rng_if,dge];rfl
theorem jv_same (items:List Item)(wt:Int):r11_Valid items wt=job_Valid items wt:=by
  unfold job_Valid r11_Valid;rw [jv_step];simp only [job_in_ok,Option.bind_some,rng_if];rfl
theorem base_ok {its:List Item}{v:List Int}(wt:Int)(hl:its.length≤1000)(hv:v.length=its.length)(hs:Small v)(y:Nat)(hy:y<its.length):r11_Base its wt v (y:Int)=some (need its v y):=by
  unfold r11_Base;obtain ⟨d,h1,h2⟩:=loop_inv (step:=r11_Base_L5 its wt v (y:Int)) (fun s=>∃ m:Nat,s=(needU its v y m,(m:Int))∧m≤its.length) (fun s=>its.length-s.2.toNat)
    (fun d=>d=need its v y) (by
    rintro _ ⟨m,rfl,hm⟩;unfold r11_Base_L5;simp only
    by_cases h:m<its.length
    · rw [if_pos (dpos (by omega)),kind_ok its wt m y h hy];simp only [Option.bind_some]
      by_cases hr:rel its m y>0
      · have hvm:=hs m;have hsr:=str_range its m y;rw [if_pos (dpos hr),idx_getD (by omega),strict_ok its wt m y h hy];simp only [Option.bind_some];rw [wr_id (n:=v.getD m 0+str its m y) (by omega) (by omega),wr_id (n:=(m:Int)+1) (by omega) (by omega)];refine .inl ⟨_,rfl,⟨m+1,?_,by omega⟩,by simp only; omega⟩;simp only [needU,if_pos hr];rw [str_eq hr,show v.getD m 0+(rel its m y-1)=v.getD m 0+rel its m y-1 by omega];rfl
      · rw [if_neg (dneg hr),wr_id (by omega) (by omega)];refine .inl ⟨_,rfl,⟨m+1,?_,by omega⟩,by simp only; omega⟩;simp only [needU,if_neg hr];rfl
    · rw [if_neg (dneg (by omega))];have:m=its.length:=by omega
      subst this;exact .inr ⟨_,rfl,rfl⟩) (0,0) ⟨0,rfl,by omega⟩ (by simp; omega)
  rw [h1,h2];rfl
section
variable {its : List Item} {v : List Int} (wt : Int) (hl : its.length ≤ 1000) (hv : v.length = its.length) (hs : Small v) (hb : ∀ i, 0 ≤ bOf its i ∧ bOf its i ≤ 31)
include hl hv hs hb
theorem BL20_ok (y:Nat)(hy:y<its.length)(h:need its v y>0):loop (r11_Back_L20 its wt v (y:Int) (need its v y)) 0=some (nx2 its v y:Int):=by
  obtain ⟨s1,s2,s3,s4⟩:=nx2_spec h;obtain ⟨d,h1,h2⟩:=loop_inv (step:=r11_Back_L20 its wt v (y:Int) (need its v y)) (fun s=>∃ x:Nat,s=(x:Int)∧x≤nx2 its v y) (fun s=>its.length-s.toNat)
    (fun d=>d=(nx2 its v y:Int)) (by
    rintro _ ⟨x,rfl,hx⟩;unfold r11_Back_L20;simp only;rw [kind_ok its wt x y (by omega) hy];simp only [obind];rw [wr_id (n:=(x:Int)+1) (by omega) (by omega)]
    by_cases hr:rel its x y=0
    · rw [if_pos (by simp [hr])];have hne:x≠nx2 its v y:=fun e=>by rw [← e] at s1; omega
      exact .inl ⟨_,rfl,⟨x+1,rfl,by omega⟩,by omega⟩
    · have hrr:=rel_range its x y;have hvx:=hs x;have hsr:=str_range its x y;rw [if_neg (by rw [beq_iff_eq]; exact hr),idx_getD (by omega)];simp only [obind];rw [strict_ok its wt x y (by omega) hy];simp only [obind];rw [wr_id (n:=v.getD x 0+str its x y) (by omega) (by omega),str_eq (by omega)]
      by_cases e:v.getD x 0+(rel its x y-1)=need its v y
      · rw [if_neg (by rw [e]; simp)];refine .inr ⟨_,rfl,?_⟩;rcases Nat.lt_or_ge x (nx2 its v y) with hlt | hge
        · have:=s4 x hlt;unfold stp2 at this;rw [dpos (by omega),dpos (by omega)] at this;cases this
        · rw [show x=nx2 its v y by omega]
      · rw [if_pos (bne_iff_ne.2 e)];have hne:x≠nx2 its v y:=fun e'=>by rw [← e'] at s2; omega
        exact .inl ⟨_,rfl,⟨x+1,rfl,by omega⟩,by omega⟩) 0 ⟨0,rfl,by omega⟩ (by simp; omega)
  rw [h1,h2]
theorem BL17_ok (y0:Nat)(hy0:y0<its.length):loop (r11_Back_L17 its wt v) ((y0:Int),[(y0:Int)],need its v y0)=some (castL (down2 its v 40 y0).reverse):=by
  obtain ⟨d,h1,h2⟩:=loop_inv (step:=r11_Back_L17 its wt v) (fun s=>∃ (acc:List Nat) (y f:Nat),s=((y:Int),castL (acc++[y]).reverse,need its v y)∧y<its.length∧acc++down2 its v f y=down2 its v 40 y0∧bOf its y≤f∧acc.length+f≤40) (fun s=>(bOf its s.1.toNat).toNat)
    (fun d=>d=castL (down2 its v 40 y0).reverse) (by
    rintro _ ⟨acc,y,f,rfl,hy,hd,hbf,hfl⟩;unfold r11_Back_L17;simp only
    by_cases hp:need its v y>0
    · obtain ⟨s1,s2,s3,s4⟩:=nx2_spec hp;have hblk:=(rel_blk s1).1;have hb0:=hb (nx2 its v y);have hby:=hb y;rw [if_pos (dpos hp),BL20_ok wt hl hv hs hb y hy hp];simp only [obind];rw [if_pos (by rw [castL_len]; simp only [List.length_reverse,List.length_append,List.length_cons,List.length_nil]; omega),base_ok wt hl hv hs _ s3];simp only [obind];obtain ⟨f',rfl⟩:∃ f',f=f'+1:=⟨f-1,by omega⟩
      refine .inl ⟨_,rfl,⟨acc++[y],nx2 its v y,f',?_,s3,?_,by omega,by simp; omega⟩,by simp only [Int.toNat_natCast]; omega⟩
      · have e:(acc++[y]++[nx2 its v y]).reverse=nx2 its v y::(acc++[y]).reverse:=by simp
        rw [e]; rfl
      · rw [← hd]
        conv=>rhs; unfold down2
        rw [if_pos hp,List.append_assoc]; rfl
    · have h0:need its v y=0:=by have:=need_nonneg its v y; omega
      rw [if_neg (dneg hp)];refine .inr ⟨_,rfl,?_⟩;rw [← hd,down2_zero its v y h0]) ((y0:Int),[(y0:Int)],need its v y0) ⟨[],y0,40,rfl,hy0,rfl,by have:=hb y0; omega,by simp⟩ (by have:=hb y0; simp only [Int.toNat_natCast]; omega)
  rw [h1,h2]
theorem BL7_ok (h0:0<v.length):∃ y0:Nat,loop (r11_Back_L7 v) (0,0)=some (y0:Int)∧FstMax v y0:=by
  obtain ⟨d,h1,h2⟩:=loop_inv (step:=r11_Back_L7 v) (fun s=>∃ (y x:Nat),s=((y:Int),(x:Int))∧x≤v.length∧y<v.length∧(∀ z,z<x→v.getD z 0≤v.getD y 0)∧∀ z,z<y→v.getD z 0≠v.getD y 0) (fun s=>v.length-s.2.toNat)
    (fun d=>∃ y0:Nat,d=(y0:Int)∧FstMax v y0) (by
    rintro _ ⟨y,x,rfl,hx,hy,hm,hn⟩;unfold r11_Back_L7;simp only
    by_cases h:x<v.length
    · rw [if_pos (dpos (by omega)),idx_getD h,idx_getD hy];simp only [obind];rw [wr_id (by omega) (by omega)]
      by_cases hgt:v.getD x 0>v.getD y 0
      · rw [if_pos (dpos hgt)];refine .inl ⟨_,rfl,⟨x,x+1,rfl,by omega,h,fun z hz=>?_,fun z hz=>?_⟩,by simp only; omega⟩
        · by_cases e:z=x
          · subst e; exact Int.le_refl _
          · have:=hm z (by omega); omega
        · have:=hm z hz; omega
      · rw [if_neg (dneg hgt)];refine .inl ⟨_,rfl,⟨y,x+1,rfl,by omega,hy,fun z hz=>?_,hn⟩,by simp only; omega⟩
        by_cases e:z=x
        · subst e; omega
        · exact hm z (by omega)
    · rw [if_neg (dneg (by omega))];exact .inr ⟨_,rfl,y,rfl,hy,fun z hz=>hm z (by omega),hn⟩) (0,0) ⟨0,0,rfl,by omega,h0,fun z h=>by omega,fun z h=>by omega⟩ (by simp; omega)
  obtain ⟨y0,rfl,h3⟩:=h2;exact ⟨y0,h1,h3⟩
theorem back_ok:(v.length=0∧r11_Back its wt v=some [])∨(∃ y0,FstMax v y0∧r11_Back its wt v=some (castL (down2 its v 40 y0).reverse)):=by
  unfold r11_Back
  by_cases h0:v.length=0
  · rw [if_pos (by rw [h0]; rfl)];exact .inl ⟨h0,rfl⟩
  · rw [if_neg (by rw [beq_iff_eq]; omega)];obtain ⟨y0,h1,h2⟩:=BL7_ok hl hv hs hb (by omega);rw [h1];simp only [obind];rw [base_ok wt hl hv hs y0 (by have:=h2.1; omega)];simp only [obind];rw [BL17_ok wt hl hv hs hb y0 (by have:=h2.1; omega)];exact .inr ⟨y0,h2,rfl⟩
end
theorem valid_spec14 (items:List Item)(wt S:Int)(codes:List Int)(hcl:codes.length<4611686018427387904)(hil:items.length<4611686018427387904) :
    ∃ e,rollin_Valid items wt S codes=some e∧r14_Valid items wt S codes=some e∧((e=0∧Good items wt S codes)∨(e≠0∧¬ Good items wt S codes∧(JobGood items wt→e=1))):=by
  obtain ⟨e,he,hj⟩:=jobvalid_spec items wt;unfold rollin_Valid r14_Valid;rw [jv_same,he];simp only [Option.bind_some];rcases hj with ⟨rfl,hj⟩ | ⟨hne,hj⟩
  · simp only [bne_self_eq_false,Bool.false_eq_true,if_false]
    by_cases hS:0≤S∧S≤12
    · simp only [show decide (S<0)=false from decide_eq_false (by omega),show decide (S>12)=false from decide_eq_false (by omega),Bool.false_eq_true,if_false]
      by_cases hc:codes.length=items.length
      · simp only [show ((codes.length:Int)!=(items.length:Int))=false by simp [hc],Bool.false_eq_true,if_false];have hl:=hj.len;have hp:=pow_le S.toNat (by omega);have isx:∀ (i:Nat) (x:Item) (c:Int),items[i]? = some x→0≤c∧c<4096→code_Is c x.2.2.1 wt=some (isN x.2.2.1.toNat wt.toNat c.toNat)∧r12_Is c x.2.2.1 wt=some (isN x.2.2.1.toNat wt.toNat c.toNat):=by
          intro i x c hx hcr;obtain ⟨_,_,hr,_⟩:=hj.it i x hx;have hw:=hj.w;have e1:c=(c.toNat:Int):=by omega
          have e2:x.2.2.1=(x.2.2.1.toNat:Int):=by omega
          have e3:wt=(wt.toNat:Int):=by omega
          have a:=is_ok c.toNat x.2.2.1.toNat wt.toNat (by omega) (by omega) (by omega);have b:=ris_ok c.toNat x.2.2.1.toNat wt.toNat (by omega) (by omega) (by omega);rw [← e1,← e2,← e3] at a b;exact ⟨a,b⟩
        obtain ⟨d,g1,g2⟩:=valid_loop (rollin_Valid_L11 items wt S codes) items wt S codes hl hc
          (fun i x c hx hcc hq=>by
            obtain ⟨q1,q2,q3⟩:=hq;have hlt:=(List.getElem?_eq_some_iff.1 hx).1;unfold rollin_Valid_L11;simp only;rw [if_pos (dpos (by omega)),idx_nat,hcc];simp only [Option.bind_some];rw [idx_nat,hx];simp only [Option.bind_some];rw [(isx i x c hx ⟨q1,by omega⟩).1];simp only [Option.bind_some];rw [if_neg (by simp [q3]),if_pos hS.1,pow_min S hS,if_neg (by
              have:=mt (fdiv_ne c S.toNat q1).1 (by omega)
              simpa using this),wr_id (by omega) (by omega)])
          (fun i x c hx hcc hq=>by
            have hlt:=(List.getElem?_eq_some_iff.1 hx).1;obtain ⟨_,_,hr,_⟩:=hj.it i x hx;unfold rollin_Valid_L11;simp only;rw [if_pos (dpos (by omega)),idx_nat,hcc];simp only [Option.bind_some];rw [idx_nat,hx];simp only [Option.bind_some]
            by_cases hcr:0≤c∧c<4096
            · rw [(isx i x c hx hcr).1];simp only [Option.bind_some];cases hi:isN x.2.2.1.toNat wt.toNat c.toNat
              · rfl
              · rw [if_neg (by simp),if_pos hS.1,pow_min S hS,if_pos (by
                  have:=(fdiv_ne c S.toNat hcr.1).2 (by
                    rcases Int.lt_or_le c ((2 ^ S.toNat:Nat):Int) with h | h
                    · exact absurd ⟨hcr.1,h,hi⟩ hq
                    · exact h)
                  simpa using this)]
            · rw [(is_out c _ wt hcr hr hj.w).1];rfl)
          (by
            unfold rollin_Valid_L11;simp only;rw [if_neg (dneg (by omega))])
        obtain ⟨d',g1',g2'⟩:=valid_loop (r14_Valid_L11 items wt S codes) items wt S codes hl hc
          (fun i x c hx hcc hq=>by
            obtain ⟨q1,q2,q3⟩:=hq;have hlt:=(List.getElem?_eq_some_iff.1 hx).1;unfold r14_Valid_L11;simp only;rw [if_pos (dpos (by omega)),idx_nat,hcc];simp only [Option.bind_some];rw [if_pos hS.1,pow_min S hS,wr_id (n:=1*_) (by omega) (by omega),if_neg (dneg (by omega))];rw [idx_nat,hx];simp only [Option.bind_some];rw [(isx i x c hx ⟨q1,by omega⟩).2];simp only [Option.bind_some];rw [if_neg (by simp [q3]),wr_id (by omega) (by omega)])
          (fun i x c hx hcc hq=>by
            have hlt:=(List.getElem?_eq_some_iff.1 hx).1;obtain ⟨_,_,hr,_⟩:=hj.it i x hx;unfold r14_Valid_L11;simp only;rw [if_pos (dpos (by omega)),idx_nat,hcc];simp only [Option.bind_some];rw [if_pos hS.1,pow_min S hS,wr_id (n:=1*_) (by omega) (by omega)]
            by_cases hcS:c≥1*((2 ^ S.toNat:Nat):Int)
            · rw [if_pos (dpos hcS)]
            · rw [if_neg (dneg hcS),idx_nat,hx];simp only [Option.bind_some]
              by_cases hcr:0≤c∧c<4096
              · rw [(isx i x c hx hcr).2];simp only [Option.bind_some];cases hi:isN x.2.2.1.toNat wt.toNat c.toNat
                · rfl
                · exact absurd ⟨hcr.1,by omega,hi⟩ hq
              · rw [(is_out c _ wt hcr hr hj.w).2];rfl)
          (by
            unfold r14_Valid_L11;simp only;rw [if_neg (dneg (by omega))])
        rw [g1,g1'];simp only [Option.bind_some];rcases g2 with ⟨rfl,g2⟩ | ⟨rfl,g2⟩ <;> rcases g2' with ⟨rfl,g2'⟩ | ⟨rfl,g2'⟩
        · exact ⟨_,rfl,rfl,.inl ⟨rfl,⟨hj,hS,hc,g2⟩⟩⟩
        · exact absurd g2 g2'
        · exact absurd g2' g2
        · exact ⟨_,rfl,rfl,.inr ⟨by decide,fun h=>g2 h.code,fun _=>rfl⟩⟩
      · simp only [show ((codes.length:Int)!=(items.length:Int))=true by simpa using (show ¬ (codes.length:Int)=(items.length:Int) by omega),if_true];exact ⟨_,rfl,rfl,.inr ⟨by decide,fun h=>hc h.cl,fun _=>rfl⟩⟩
    · by_cases h0:S<0
      · simp only [show decide (S<0)=true from decide_eq_true h0,if_true];exact ⟨_,rfl,rfl,.inr ⟨by decide,fun h=>hS h.st,fun _=>rfl⟩⟩
      · simp only [show decide (S<0)=false from decide_eq_false h0,show decide (S>12)=true from decide_eq_true (by omega),Bool.false_eq_true,if_false,if_true];exact ⟨_,rfl,rfl,.inr ⟨by decide,fun h=>hS h.st,fun _=>rfl⟩⟩
  · simp only [show (e != 0)=true by simpa using hne,if_true];exact ⟨_,rfl,rfl,.inr ⟨hne,fun h=>hj h.job,fun h=>absurd h hj⟩⟩
section
variable {items : List Item} {wt S : Int} {codes : List Int} (hg : Good items wt S codes)
include hg
theorem rvalid_ok:r14_Valid items wt S codes=some 0:=by
  have hl:=hg.job.len;obtain ⟨e,_,h1,h2⟩:=valid_spec14 items wt S codes (by rw [hg.cl]; omega) (by omega);rcases h2 with ⟨rfl,_⟩ | ⟨_,h,_⟩
  · exact h1
  · exact absurd hg h
theorem rtrains_ok:r14_trains items wt=some ((trains items:Nat):Int):=by
  have hl:=hg.job.len;unfold r14_trains;obtain ⟨d,h1,h2⟩:=loop_inv (step:=r14_trains_L4 items) (fun s=>∃ i:Nat,i≤items.length∧s=(((trains (items.take i):Nat):Int),(i:Int))) (fun s=>items.length-s.2.toNat) (fun d=>d=((trains items:Nat):Int)) (by
    rintro _ ⟨i,hi,rfl⟩;unfold r14_trains_L4;simp only
    by_cases hil:i<items.length
    · obtain ⟨it,c,hit,hc,hgd,_⟩:=item_at hg hil;have e:items.take (i+1)=items.take i++[it]:=by rw [List.take_add_one,hit]; rfl
      have q:=hgd.1;rw [if_pos (dpos (by omega)),idx_nat,hit];simp only [Option.bind_some];rw [wr_id (n:=it.1+1) (by omega) (by omega),wr_id (n:=(i:Int)+1) (by omega) (by omega)];refine .inl ⟨_,rfl,⟨i+1,by omega,?_⟩,by simp only; omega⟩;rw [e,trains_app]
      congr 1
      split <;> omega
    · rw [if_neg (dneg (by omega))];exact .inr ⟨_,rfl,by rw [List.take_of_length_le (by omega)]⟩) (0,0) ⟨0,by omega,by simp [trains]⟩ (by simp; omega)
  rw [h1,h2];rfl
theorem r14_round (time:Int)(st tr:List (List Int))(mv pu i:Int)(h:i≤time) :
    r14_At_L10 items wt S codes time (st,tr,mv,pu,i)=(rollin_machine_at items wt S codes st tr mv pu i).bind fun x=>some (.next (x.2.2.1,x.2.2.2,x.1,x.2.1,IntKind.i64.wrap (i+1))):=by
  have jn:∀ (a b:List (List Int)) (c:Int),r14_At_J12 items wt S codes mv pu i a b c=(rollin_machine_at_J6 items wt S codes mv pu i a b c).bind fun x=>some (.next (x.2.2.1,x.2.2.2,x.1,x.2.1,IntKind.i64.wrap (i+1))):=by
    intro a b c;unfold r14_At_J12 rollin_machine_at_J6;have e:r14_At_L27 items wt S codes pu i=rollin_machine_at_L21 items wt S codes pu i:=rfl;rw [e];cases loop (rollin_machine_at_L21 items wt S codes pu i) (a,b,c,0) with
    | none=>rfl
    | some d=>
      obtain ⟨d1,d2,d3⟩:=d;simp only [Option.bind_some]
      by_cases h:d3>mv
      · rw [if_pos (dpos h),if_pos (dpos h)]; rfl
      · rw [if_neg (dneg h),if_neg (dneg h)]; rfl
  unfold r14_At_L10 rollin_machine_at;simp only;rw [if_pos (dpos h)]
  by_cases h0:i>0
  · rw [if_pos (dpos h0),if_pos (dpos h0)];cases idx st (IntKind.i64.wrap (i-1)) with
    | none=>rfl
    | some r=>
      simp only [Option.bind_some];have e:r14_At_L20 items wt S codes pu i r=rollin_machine_at_L14 items wt S codes pu i r:=rfl;rw [e];cases loop (rollin_machine_at_L14 items wt S codes pu i r) (st.set (Int.toNat (IntKind.i64.wrap (i-1))) ([]:List Int),tr,mv,0) with
      | none=>rfl
      | some d=>
        obtain ⟨d1,d2,d3⟩:=d;simp only [Option.bind_some];exact jn d1 d2 d3
  · rw [if_neg (dneg h0),if_neg (dneg h0)];exact jn st tr mv
theorem At_ok (t:Nat)(ht:t≤S.toNat):r14_At items wt S codes (t:Int)=some (rows ((yard items S codes).A (t+1)) S.toNat,rows ((yard items S codes).B (t+1)) (trains items),(((yard items S codes).moves (t+1):Nat):Int),(((yard items S codes).pushes (t+1):Nat):Int)):=by
  obtain ⟨hS0,hS1⟩:=hg.st;have hT:=T_le hg;unfold r14_At r14_At_J9;rw [if_pos (by omega),rtrains_ok hg];simp only [Option.bind_some];rw [if_pos (by omega),Int.toNat_natCast,rows_nil ((yard items S codes).A 0) S.toNat (fun _ _=>rfl),rows_nil ((yard items S codes).B 0) (trains items) (fun _ _=>rfl)];obtain ⟨d,h1,h2⟩:=loop_inv (step:=r14_At_L10 items wt S codes (t:Int))
    (fun s=>∃ k:Nat,k≤t+1∧s=(rows ((yard items S codes).A k) S.toNat,rows ((yard items S codes).B k) (trains items),(((yard items S codes).moves k:Nat):Int),(((yard items S codes).pushes k:Nat):Int),(k:Int)))
    (fun s=>t+1-s.2.2.2.2.toNat) (fun d=>d=(rows ((yard items S codes).A (t+1)) S.toNat,rows ((yard items S codes).B (t+1)) (trains items),(((yard items S codes).moves (t+1):Nat):Int),(((yard items S codes).pushes (t+1):Nat):Int))) (by
    rintro _ ⟨k,hk,rfl⟩
    by_cases h:k≤t
    · rw [r14_round hg (t:Int) _ _ _ _ (k:Int) (by omega),at_ok hg k (by omega)];simp only [Option.bind_some];refine .inl ⟨_,rfl,⟨k+1,by omega,?_⟩,?_⟩
      · rw [wr_id (by omega) (by omega)]; rfl
      · simp only;rw [wr_id (n:=(k:Int)+1) (by omega) (by omega)];omega
    · unfold r14_At_L10;simp only;rw [if_neg (dneg (by omega))];exact .inr ⟨_,rfl,by rw [show k=t+1 by omega]⟩) _ ⟨0,by omega,rfl⟩ (by simp; omega)
  have h3:loop (r14_At_L10 items wt S codes (t:Int)) (rows ((yard items S codes).A 0) S.toNat,rows ((yard items S codes).B 0) (trains items),0,0,0)=some d:=h1;rw [h3,h2];rfl
theorem RL19_ok (i:Nat)(hi:i<items.length)(x:Item)(hx:items[i]? = some x)(s:List Int×Int):r14_Loads_L19 items S codes (i:Int) s=rollin_Loads_L27 S codes (i:Int) x s:=by
  unfold r14_Loads_L19 rollin_Loads_L27;rw [idx_nat (xs:=items),hx];rfl
theorem RL14_ok:r14_Loads_L14 items S codes=rollin_Loads_L19 items S codes:=by
  funext s;obtain ⟨l,i⟩:=s;unfold r14_Loads_L14 rollin_Loads_L19;simp only
  by_cases h:i<(items.length:Int)
  · rw [if_pos (dpos h),if_pos (dpos h)];cases hx:idx items i with
    | none=>rfl
    | some x=>
      obtain ⟨h0,h1,h2⟩:=idx_some hx;have e:r14_Loads_L19 items S codes i=rollin_Loads_L27 S codes i x:=by
        funext s;have:=RL19_ok hg i.toNat (by omega) x h2 s
        rwa [Int.toNat_of_nonneg h0] at this
      simp only [Option.bind_some,e]
  · rw [if_neg (dneg h),if_neg (dneg h)]
theorem rLoads_ok:r14_Loads items wt S codes=some (lst (ld (yard items S codes) (lens items) items.length) (S.toNat+trains items),0):=by
  have h:=Loads_ok hg;unfold rollin_Loads at h;rw [valid_ok hg] at h;simp only [Option.bind_some,bne_self_eq_false,Bool.false_eq_true,if_false] at h;rw [start_ok hg] at h;simp only [Option.bind_some] at h;rw [rows_len] at h;unfold r14_Loads;rw [rvalid_ok hg];simp only [Option.bind_some,bne_self_eq_false,Bool.false_eq_true,if_false];rw [rtrains_ok hg];simp only [Option.bind_some];rw [RL14_ok hg];exact h
end
def relRow (its:List Item) (x:Nat):List Int:=(List.range its.length).map fun y=>rel its x y
def relM (its:List Item):List (List Int):=(List.range its.length).map fun x=>relRow its x
def relPart (its:List Item) (x m:Nat):List Int:=(List.range its.length).map fun y=>if y<m then rel its x y else 0
theorem relRow_get {its:List Item}{x y:Nat}(hy:y<its.length):idx (relRow its x) (y:Int)=some (rel its x y):=by
  rw [idx_nat]; unfold relRow; rw [List.getElem?_map,List.getElem?_range hy]; rfl
theorem relM_get {its:List Item}{x:Nat}(hx:x<its.length):idx (relM its) (x:Int)=some (relRow its x):=by
  rw [idx_nat]; unfold relM; rw [List.getElem?_map,List.getElem?_range hx]; rfl
theorem relPart_len (its:List Item)(x m:Nat):(relPart its x m).length=its.length:=by simp [relPart]
theorem relPart_get {its:List Item}{x m y:Nat}(hy:y<its.length):(relPart its x m)[y]? = some (if y<m then rel its x y else 0):=by
  unfold relPart; rw [List.getElem?_map,List.getElem?_range hy]; rfl
theorem relPart_zero (its:List Item)(x:Nat):relPart its x 0=List.replicate its.length 0:=by
  unfold relPart;apply List.ext_getElem (by simp);intro i h1 h2;simp
theorem relPart_all (its:List Item)(x:Nat):relPart its x its.length=relRow its x:=by
  unfold relPart relRow;apply List.ext_getElem (by simp);intro i h1 h2;simp at h1;simp [h1]
theorem relPart_set {its:List Item}{x m:Nat}(hm:m<its.length):(relPart its x m).set m (rel its x m)=relPart its x (m+1):=by
  apply List.ext_getElem?;intro j;rw [List.getElem?_set,relPart_len]
  by_cases hj:j<its.length
  · rw [relPart_get hj,relPart_get hj]
    by_cases e:m=j
    · subst e; rw [if_pos rfl,if_pos hm,if_pos (by omega)]
    · rw [if_neg e]
      by_cases h:j<m
      · rw [if_pos h,if_pos (by omega)]
      · rw [if_neg h,if_neg (by omega)]
  · rw [List.getElem?_eq_none (by rw [relPart_len]; omega),List.getElem?_eq_none (by rw [relPart_len]; omega),if_neg (by omega)]
theorem relPart_skip {its:List Item}{x m:Nat}(hm:m<its.length)(h:rel its x m=0):relPart its x (m+1)=relPart its x m:=by
  rw [← relPart_set hm];apply List.ext_getElem?;intro j;rw [List.getElem?_set,relPart_len]
  by_cases e:m=j
  · subst e; rw [if_pos rfl,if_pos hm,relPart_get hm,if_neg (by omega),h]
  · rw [if_neg e]
theorem RL17_ok {its:List Item}(hl:its.length≤1000)(x:Nat)(hx:x<its.length)(d:List (List Int))(hd:d.length=its.length)(r0:List Int)(hr0:r0.length=its.length) :
    loop (leastcode_relations_L17 its (x:Int) r0) (d.set x (relPart its x 0),0)=some (d.set x (relRow its x)):=by
  obtain ⟨d',h1,h2⟩:=loop_inv (step:=leastcode_relations_L17 its (x:Int) r0) (fun s=>∃ m:Nat,s=(d.set x (relPart its x m),(m:Int))∧m≤its.length) (fun s=>its.length-s.2.toNat)
    (fun d'=>d'=d.set x (relRow its x)) (by
    rintro _ ⟨m,rfl,hm⟩;unfold leastcode_relations_L17;simp only [hr0]
    by_cases h:m<its.length
    · obtain ⟨a,ha⟩:∃ a,its[x]? = some a:=⟨_,List.getElem?_eq_getElem hx⟩
      obtain ⟨b,hb⟩:∃ b,its[m]? = some b:=⟨_,List.getElem?_eq_getElem h⟩
      have hrel:rel its x m=relI a b x m:=by unfold rel; rw [ha,hb]
      have hix:idx (d.set x (relPart its x m)) (x:Int)=some (relPart its x m):=by rw [idx_nat,List.getElem?_set_self (by omega)]
      have him:∃ z,idx (relPart its x m) (m:Int)=some z:=⟨_,by rw [idx_nat]; exact List.getElem?_eq_getElem (by rw [relPart_len]; exact h)⟩
      obtain ⟨z,hz⟩:=him;rw [if_pos (dpos (by omega)),idx_nat,idx_nat,ha,hb];simp only [obind];have hskip:rel its x m=0→leastcode_relations_J24 (x:Int) (d.set x (relPart its x m)) (m:Int) true=some (.next (d.set x (relPart its x (m+1)),((m+1:Nat):Int))):=fun h0=>by
        unfold leastcode_relations_J24;rw [if_pos rfl,wr_id (by omega) (by omega),relPart_skip h h0];rfl
      have hgo:rel its x m≠0→leastcode_relations_J24 (x:Int) (d.set x (relPart its x m)) (m:Int) false=some (.next (d.set x (relPart its x (m+1)),((m+1:Nat):Int))):=fun h0=>by
        have hv:rel its x m=if m<x then 2 else 1:=by
          rcases rel_cases its x m with e | ⟨_,_,_,_,_,_,e⟩
          · exact absurd e h0
          · exact e
        unfold leastcode_relations_J24;rw [if_neg (by decide),wr_id (by omega) (by omega)]
        by_cases hmx:m<x
        · rw [if_pos hmx] at hv;have e:=relPart_set (its:=its) (x:=x) h;rw [hv] at e;rw [if_pos (dpos (by omega)),hix];simp only [obind];rw [hz];simp only [obind,Int.toNat_natCast];rw [List.set_set,e];rfl
        · rw [if_neg hmx] at hv;have e:=relPart_set (its:=its) (x:=x) h;rw [hv] at e;rw [if_neg (dneg (by omega)),hix];simp only [obind];rw [hz];simp only [obind,Int.toNat_natCast];rw [List.set_set,e];rfl
      have hstep:leastcode_relations_J19 (x:Int) (d.set x (relPart its x m)) (m:Int) a.1 a.2.1 a.2.2.1 a.2.2.2 b.1 b.2.1 b.2.2.1 b.2.2.2=some (.next (d.set x (relPart its x (m+1)),((m+1:Nat):Int))):=by
        unfold leastcode_relations_J19
        by_cases h1:a.1=b.1
        · rw [if_neg (by simp [h1])]
          by_cases h2:a.2.1≥b.2.1
          · rw [dpos h2];exact hskip (by rw [hrel]; unfold relI; rw [if_pos (.inr h2)])
          · rw [decide_eq_false h2];refine hgo ?_;rw [hrel];unfold relI;rw [if_neg (by rintro (q | q); exact q h1; exact h2 q)]
            split <;> omega
        · rw [if_pos (by simpa using h1)];exact hskip (by rw [hrel]; unfold relI; rw [if_pos (.inl h1)])
      rw [hstep];exact .inl ⟨_,rfl,⟨m+1,rfl,by omega⟩,by simp only; omega⟩
    · rw [if_neg (dneg (by omega))];have:m=its.length:=by omega
      subst this;rw [relPart_all];exact .inr ⟨_,rfl,rfl⟩) (d.set x (relPart its x 0),0) ⟨0,rfl,by omega⟩ (by simp; omega)
  rw [h1,h2]
theorem relations_ok (its:List Item)(wt:Int)(hl:its.length≤1000):leastcode_relations its wt=some (relM its):=by
  unfold leastcode_relations;rw [if_pos (by omega)];obtain ⟨d,h1,h2⟩:=loop_inv (step:=leastcode_relations_L6 its) (fun s=>∃ (d:List (List Int)) (x:Nat),s=(d,(x:Int))∧x≤its.length∧d.length=its.length∧∀ j,j<x→d[j]? = some (relRow its j)) (fun s=>its.length-s.2.toNat)
    (fun d=>d=relM its) (by
    rintro _ ⟨d,x,rfl,hx,hd,hj⟩;unfold leastcode_relations_L6;simp only [List.length_replicate,Int.toNat_natCast]
    by_cases h:x<its.length
    · obtain ⟨r,hr⟩:∃ r,idx d (x:Int)=some r:=⟨_,by rw [idx_nat]; exact List.getElem?_eq_getElem (by omega)⟩
      rw [if_pos (dpos (by omega)),if_pos (by omega),hr];simp only [obind];rw [idx_nat,List.getElem?_set_self (by omega)];simp only [obind];rw [← relPart_zero its x,RL17_ok hl x h d hd _ (by rw [relPart_len])];simp only [obind];rw [wr_id (by omega) (by omega)];refine .inl ⟨_,rfl,⟨_,x+1,rfl,by omega,by rw [List.length_set]; exact hd,fun j hjx=>?_⟩,by simp only; omega⟩;rw [List.getElem?_set]
      by_cases e:x=j
      · subst e; rw [if_pos rfl,if_pos (by omega)]
      · rw [if_neg e]; exact hj j (by omega)
    · rw [if_neg (dneg (by omega))];refine .inr ⟨_,rfl,?_⟩;have hx':x=its.length:=by omega
      subst hx';apply List.ext_getElem?;intro j
      by_cases hjl:j<its.length
      · rw [hj j hjl]; unfold relM; rw [List.getElem?_map,List.getElem?_range hjl]; rfl
      · rw [List.getElem?_eq_none (by omega),List.getElem?_eq_none (by simp [relM]; omega)]) ((List.replicate (Int.toNat ((its.length:Nat):Int)) ([]:List Int)),0) ⟨_,0,rfl,by omega,by simp,fun j h=>by omega⟩ (by simp; omega)
  rw [h1,h2];rfl
def rOf (its:List Item) (x:Nat):Int:=match its[x]? with
  | some a=>a.2.2.1
  | none=>0
def NX (n r w:Int):Int×Int:=(code_Next n r w).getD (0,0)
theorem nx_ok {n r w:Int}(hn:0≤n)(hr:0≤r∧r≤12)(hw:0≤w∧w≤12):code_Next n r w=some (NX n r w)∧r12_Next n r w=some (NX n r w)∧NextSpec n.toNat r.toNat w.toNat (NX n r w):=by
  obtain ⟨p,h1,h2⟩:=next_ok' n.toNat r.toNat w.toNat (by omega) (by omega);obtain ⟨q,h3,h4⟩:=rnext_ok n.toNat r.toNat w.toNat (by omega) (by omega);rw [show ((n.toNat:Nat):Int)=n by omega,show ((r.toNat:Nat):Int)=r by omega,show ((w.toNat:Nat):Int)=w by omega] at h1 h3;have e:NX n r w=p:=by unfold NX; rw [h1]; rfl
  rw [e];exact ⟨h1,by rw [h3,next_unique h2 h4],h2⟩
theorem nx_cases {n r w:Int}(hn:0≤n)(hr:0≤r∧r≤12)(hw:0≤w∧w≤12):((NX n r w).2=0∧n≤(NX n r w).1∧(NX n r w).1≤4095)∨NX n r w=(0,15):=by
  rcases (nx_ok hn hr hw).2.2 with ⟨k,e,h1,h2,_⟩ | ⟨e,_⟩
  · rw [e]; exact .inl ⟨rfl,by simp only; omega,by simp only; omega⟩
  · exact .inr e
structure IsLst (its:List Item) (wt:Int) (v:List Int):Prop where
  len:v.length=its.length
  eq:∀ y,y<its.length→NX (need its v y) (rOf its y) wt=(v.getD y 0,0)
theorem JobGood.r {its:List Item}{wt:Int}(hg:JobGood its wt)(y:Nat):0≤rOf its y∧rOf its y≤12:=by
  unfold rOf;cases h:its[y]? with
  | none=>simp
  | some a=>exact (hg.it y a h).2.2.1
theorem needU_nn (its:List Item)(v:List Int)(y:Nat):0≤need its v y:=needU_nonneg its v y _
theorem lst_agree {its:List Item}{wt:Int}(hb:∀ i,0≤bOf its i){v d:List Int}(hv:IsLst its wt v)(S:Nat→Prop)(hS:∀ y,S y→y<its.length)(hdown:∀ x y,S y→rel its x y>0→S x)
    (hd:∀ y,S y→NX (need its d y) (rOf its y) wt=(d.getD y 0,0)):∀ y,S y→v.getD y 0=d.getD y 0:=by
  have key:∀ n y,(bOf its y).toNat<n→S y→v.getD y 0=d.getD y 0:=by
    intro n
    induction n with
    | zero=>intro y hy; omega
    | succ n ih=>
      intro y hy hs;have e1:=hv.eq y (hS y hs);have e2:=hd y hs;have e3:need its v y=need its d y:=need_congr fun x hr=>by
        have h1:=(rel_blk hr).1;have:=hb x;exact ih x (by omega) (hdown x y hs hr)
      rw [e3,e2] at e1;exact (congrArg Prod.fst e1).symm
  exact fun y hs=>key _ y (Nat.lt_succ_self _) hs
theorem lst_unique {its:List Item}{wt:Int}(hb:∀ i,0≤bOf its i){v d:List Int}(hv:IsLst its wt v)(hd:IsLst its wt d):v=d:=by
  apply List.ext_getElem (by rw [hv.len,hd.len]);intro i h1 h2;have:=lst_agree hb hv (fun y=>y<its.length) (fun y h=>h) (fun x y _ hr=>(rel_blk hr).2.1) hd.eq i (by rw [← hv.len]; exact h1);rw [List.getD_eq_getElem?_getD,List.getD_eq_getElem?_getD,List.getElem?_eq_getElem h1,List.getElem?_eq_getElem h2] at this;exact this
theorem lst_none {its:List Item}{wt:Int}(hb:∀ i,0≤bOf its i){d:List Int}(S:Nat→Prop)(hS:∀ y,S y→y<its.length)(hdown:∀ x y,S y→rel its x y>0→S x)
    (hd:∀ y,S y→NX (need its d y) (rOf its y) wt=(d.getD y 0,0)) (y:Nat) (hy:y<its.length) (hyS:∀ x,rel its x y>0→S x) (hn:NX (need its d y) (rOf its y) wt=(0,15)):∀ v,¬ IsLst its wt v:=by
  intro v hv;have e:=hv.eq y hy;have e3:need its v y=need its d y:=need_congr fun x hr=>lst_agree hb hv S hS hdown hd x (hyS x hr)
  rw [e3,hn] at e;have:=congrArg Prod.snd e;simp at this
def Stuck (its:List Item) (wt:Int):Prop:=∃ (d:List Int) (S:Nat→Prop) (y:Nat),(∀ y,S y→y<its.length)∧(∀ x y,S y→rel its x y>0→S x)∧
  (∀ y,S y→NX (need its d y) (rOf its y) wt=(d.getD y 0,0))∧y<its.length∧(∀ x,rel its x y>0→S x)∧NX (need its d y) (rOf its y) wt=(0,15)
theorem Stuck.none {its:List Item}{wt:Int}(hb:∀ i,0≤bOf its i)(h:Stuck its wt):∀ v,¬ IsLst its wt v:=by
  obtain ⟨d,S,y,h1,h2,h3,h4,h5,h6⟩:=h;exact lst_none hb S h1 h2 h3 y h4 h5 h6
def C12 (v:List Int):Prop:=∀ y,0≤v.getD y 0∧v.getD y 0≤4095
theorem C12.need {its:List Item}{v:List Int}(h:C12 v)(y m:Nat):0≤needU its v y m∧needU its v y m≤4096:=by
  refine ⟨needU_nonneg its v y m,?_⟩;rcases needU_at its v y m with h0 | ⟨x,h1,h2,h3⟩
  · omega
  · have:=h x;rcases rel_range its x y with e | e | e <;> omega
theorem IsLst.c12 {its:List Item}{wt:Int}(hg:JobGood its wt){v:List Int}(h:IsLst its wt v):C12 v:=fun y=>by
  by_cases hy:y<its.length
  · have e:=h.eq y hy;rcases nx_cases (needU_nn its v y) (hg.r y) hg.w with ⟨_,h2,h3⟩ | h2
    · rw [e] at h2 h3;have:=needU_nn its v y;simp only at h2 h3;omega
    · rw [e] at h2;have:=congrArg Prod.snd h2;simp at this
  · rw [List.getD_eq_getElem?_getD,List.getElem?_eq_none (by rw [h.len]; omega)];decide
theorem order_ok (its:List Item)(wt:Int)(hl:its.length≤1000)(hb:∀ i,0≤bOf its i∧bOf its i≤31) :
    ∃ d ys:List Int,loop (leastcode_solve_L8 its) ((List.replicate (Int.toNat ((its.length:Nat):Int)) 0:List Int),0)=some d∧sortF (fun sx sy=>leastcode_solve_1 sx sy its wt) d=some ys∧
      ys.Perm ((List.range its.length).map fun (x:Nat)=>(x:Int))∧ys.Pairwise (fun a b=>bOf its a.toNat≤bOf its b.toNat):=by
  obtain ⟨d,h1,h2⟩:=loop_inv (step:=leastcode_solve_L8 its) (fun s=>∃ (i:Nat) (d:List Int),s=(d,(i:Int))∧i≤its.length∧d.length=its.length∧∀ j:Nat,j<i→d[j]? = some (j:Int)) (fun s=>its.length-s.2.toNat)
    (fun d=>d=(List.range its.length).map fun (x:Nat)=>(x:Int)) (by
    rintro _ ⟨i,d,rfl,hi,hd,hj⟩;unfold leastcode_solve_L8;simp only [List.length_replicate,Int.toNat_natCast]
    by_cases h:i<its.length
    · rw [if_pos (dpos (by omega)),idx_nat,List.getElem?_eq_getElem (by omega)];simp only [Option.bind_some];rw [wr_id (by omega) (by omega)];refine .inl ⟨_,rfl,⟨i+1,_,rfl,by omega,by simp [hd],fun j hji=>?_⟩,by simp only; omega⟩;rw [List.getElem?_set]
      by_cases e:i=j
      · subst e; rw [if_pos rfl,if_pos (by omega)]
      · rw [if_neg e]; exact hj j (by omega)
    · rw [if_neg (dneg (by omega))];refine .inr ⟨_,rfl,?_⟩;have hi':i=its.length:=by omega
      subst hi';apply List.ext_getElem?;intro j
      by_cases hjl:j<its.length
      · rw [hj j hjl]; simp [hjl]
      · rw [List.getElem?_eq_none (by omega),List.getElem?_eq_none (by simp; omega)]) ((List.replicate (Int.toNat ((its.length:Nat):Int)) 0:List Int),0) ⟨0,_,rfl,by omega,by simp,fun j h=>by omega⟩ (by simp; omega)
  subst h2;obtain ⟨ys,h3,h4,h5⟩:=sortF_spec (cmp:=fun sx sy=>leastcode_solve_1 sx sy its wt) (xs:=(List.range its.length).map fun (x:Nat)=>(x:Int)) (fun a=>bOf its a.toNat) (by simp; omega) (by
    intro x hx y hy;simp only [List.mem_map,List.mem_range] at hx hy;obtain ⟨x,hx,rfl⟩:=hx;obtain ⟨y,hy,rfl⟩:=hy;unfold leastcode_solve_1;have hbx:=hb x;have hby:=hb y;rw [idx_nat,idx_nat,List.getElem?_eq_getElem hx,List.getElem?_eq_getElem hy];simp only [Option.bind_some,Int.toNat_natCast];simp only [bOf,List.getElem?_eq_getElem hx,List.getElem?_eq_getElem hy] at hbx hby ⊢;rw [wr_id (by omega) (by omega)])
  exact ⟨_,ys,h1,h3,h4,h5⟩
theorem SL23_ok {its:List Item}(hl:its.length≤1000)(base least:List Int)(hb:base.length=its.length)(hle:least.length=its.length)(hc:C12 least)(y:Nat)(hy:y<its.length)(h0:base.getD y 0=0) :
    loop (leastcode_solve_L23 its (relM its) least (y:Int)) (base,0)=some (base.set y (need its least y)):=by
  obtain ⟨d',g1,g2⟩:=loop_inv (step:=leastcode_solve_L23 its (relM its) least (y:Int)) (fun s=>∃ k:Nat,s=(base.set y (needU its least y k),(k:Int))∧k≤its.length) (fun s=>its.length-s.2.toNat)
    (fun d'=>d'=base.set y (need its least y)) (by
    rintro _ ⟨k,rfl,hk⟩;unfold leastcode_solve_L23;simp only
    by_cases hkl:k<its.length
    · rw [if_pos (dpos (by omega)),relM_get hkl];simp only [obind];rw [relRow_get hy];simp only [obind];have hnb:=hc.need (its:=its) y k
      by_cases hr:rel its k y>0
      · have hlen2:(base.set y (needU its least y k)).length=its.length:=by simp [hb]
        have q1:idx (base.set y (needU its least y k)) (y:Int)=some (needU its least y k):=by
          rw [idx_getD (by omega),getD_set,if_pos ⟨rfl,by omega⟩]
        have hdk:=hc k;have hrr:=rel_range its k y;rw [if_pos (dpos hr),q1,idx_getD (l:=least) (i:=k) (by omega)];simp only [obind];rw [wr_id (n:=least.getD k 0+rel its k y) (by omega) (by omega),wr_id (n:=least.getD k 0+rel its k y-1) (by omega) (by omega),wr_id (n:=(k:Int)+1) (by omega) (by omega),Int.toNat_natCast,List.set_set];refine .inl ⟨_,rfl,⟨k+1,?_,by omega⟩,by simp only; omega⟩;simp only [needU,if_pos hr];rfl
      · rw [if_neg (dneg hr),wr_id (by omega) (by omega)];refine .inl ⟨_,rfl,⟨k+1,?_,by omega⟩,by simp only; omega⟩;simp only [needU,if_neg hr];rfl
    · rw [if_neg (dneg (by omega))];have:k=its.length:=by omega
      subst this;exact .inr ⟨_,rfl,rfl⟩) (base,0) ⟨0,by
        have:base.set y 0=base:=by
          apply List.ext_getElem?;intro j;rw [List.getElem?_set]
          by_cases e:y=j
          · subst e;rw [if_pos rfl,if_pos (by omega)];rw [List.getD_eq_getElem?_getD,List.getElem?_eq_getElem (by omega)] at h0;rw [List.getElem?_eq_getElem (by omega)];simp only [Option.getD_some] at h0;rw [h0]
          · rw [if_neg e]
        simp only [needU,this]; rfl,by omega⟩ (by simp; omega)
  rw [g1,g2]
def SolveSpec (its:List Item) (wt:Int) (p:List Int×List Int×Int):Prop:=
  (p.2.2=0∧IsLst its wt p.2.1∧p.1.length=its.length∧∀ y,y<its.length→p.1.getD y 0=need its p.2.1 y)∨(p=([],[],15)∧Stuck its wt)
theorem solve_ok {its:List Item}{wt:Int}(hg:JobGood its wt):∃ p,leastcode_solve its wt (relM its)=some p∧SolveSpec its wt p:=by
  have hl:=hg.len;have hb:=hg.b;obtain ⟨d0,ys,e0,e1,hp,hs⟩:=order_ok its wt (by omega) hb;have hys:∀ y∈ys,∃ n:Nat,y=(n:Int)∧n<its.length:=by
    intro y hy;have:=hp.mem_iff.1 hy;simp only [List.mem_map,List.mem_range] at this;obtain ⟨n,h1,rfl⟩:=this;exact ⟨n,rfl,h1⟩
  have hlen:ys.length=its.length:=by rw [hp.length_eq]; simp
  have hall:∀ n,n<its.length→(n:Int)∈ys:=fun n hn=>hp.mem_iff.2 (by simp only [List.mem_map,List.mem_range]; exact ⟨n,hn,rfl⟩)
  have hnd:ys.Nodup:=by
    refine hp.symm.nodup ?_;rw [List.nodup_iff_pairwise_ne,List.pairwise_map];exact List.Pairwise.imp (fun h=>by omega) (List.nodup_iff_pairwise_ne.1 List.nodup_range)
  have hinj:∀ (i j y:Nat),ys[i]? = some (y:Int)→ys[j]? = some (y:Int)→i=j:=by
    intro i j y h1 h2;obtain ⟨hi,e1⟩:=List.getElem?_eq_some_iff.1 h1;obtain ⟨hj,e2⟩:=List.getElem?_eq_some_iff.1 h2;have hpw:=List.nodup_iff_pairwise_ne.1 hnd;rcases Nat.lt_trichotomy i j with h | h | h
    · exact absurd (by rw [e1,e2]) (List.pairwise_iff_getElem.1 hpw i j hi hj h)
    · exact h
    · exact absurd (by rw [e1,e2]) (List.pairwise_iff_getElem.1 hpw j i hj hi h)
  have hlow:∀ (i y x:Nat),ys[i]? = some (y:Int)→rel its x y>0→∃ j,j<i∧ys[j]? = some (x:Int):=by
    intro i y x hi hr;obtain ⟨hblk,hx,_⟩:=rel_blk hr;obtain ⟨j,hj,hjx⟩:=List.getElem_of_mem (hall x hx);obtain ⟨hil,hiy⟩:=List.getElem?_eq_some_iff.1 hi;refine ⟨j,?_,by rw [List.getElem?_eq_getElem hj,hjx]⟩;rcases Nat.lt_or_ge j i with h | h
    · exact h
    · by_cases e:i=j
      · subst e; rw [hjx] at hiy; have:x=y:=by omega
        subst this; omega
      · have:=List.pairwise_iff_getElem.1 hs i j hil hj (by omega);rw [hiy,hjx] at this;simp only [Int.toNat_natCast] at this;omega
  unfold leastcode_solve;rw [if_pos (by omega),e0];simp only [obind];rw [e1];simp only [obind,hlen];rw [if_pos (by omega),if_pos (by omega)];obtain ⟨r,h1,h2⟩:=loop_inv (step:=leastcode_solve_L18 its wt (relM its) ys) (fun s=>∃ (i:Nat) (base d:List Int),s=(base,d,(i:Int))∧i≤its.length∧base.length=its.length∧d.length=its.length∧C12 d∧
      (∀ (j y:Nat),j<i→ys[j]? = some (y:Int)→base.getD y 0=need its d y∧NX (need its d y) (rOf its y) wt=(d.getD y 0,0))∧(∀ (j y:Nat),i≤j→ys[j]? = some (y:Int)→base.getD y 0=0)) (fun s=>its.length-s.2.2.toNat)
    (fun r=>(∃ base d,r=.inr (base,d)∧IsLst its wt d∧base.length=its.length∧∀ y,y<its.length→base.getD y 0=need its d y)∨(r=.inl 15∧Stuck its wt)) (by
    rintro _ ⟨i,base,d,rfl,hi,hbl,hd,hB,hdone,hzero⟩;unfold leastcode_solve_L18;simp only [hlen]
    by_cases h:i<its.length
    · have hyi:ys[i]? = some ys[i]:=List.getElem?_eq_getElem (by omega);obtain ⟨y,hy,hyl⟩:=hys ys[i] (List.getElem_mem _);rw [hy] at hyi;obtain ⟨a,ha⟩:∃ a,its[y]? = some a:=⟨_,List.getElem?_eq_getElem hyl⟩
      have har:rOf its y=a.2.2.1:=by unfold rOf; rw [ha]
      rw [if_pos (dpos (by omega)),idx_nat,hyi];simp only [obind];rw [SL23_ok (by omega) base d hbl hd hB y hyl (hzero i y (Nat.le_refl _) hyi)];simp only [obind];rw [idx_getD (by rw [List.length_set]; omega),getD_set,if_pos ⟨rfl,by omega⟩,idx_nat,ha];simp only [obind];have hne:=needU_nn its d y;have hrr:=hg.r y;rw [← har,(nx_ok hne hrr hg.w).1];simp only [obind];rcases nx_cases hne hrr hg.w with ⟨c0,c1,c2⟩ | c0
      · rw [if_neg (by simp [c0]),idx_getD (by omega)];simp only [obind,Int.toNat_natCast];rw [wr_id (by omega) (by omega)];have hpair:NX (need its d y) (rOf its y) wt=((NX (need its d y) (rOf its y) wt).1,0):=Prod.ext rfl c0;have hother:∀ j z:Nat,j≤i→ys[j]? = some (z:Int)→need its (d.set y (NX (need its d y) (rOf its y) wt).1) z=need its d z:=by
          intro j z hj hz;refine need_congr fun x hr=>?_
          obtain ⟨j',hj',hx⟩:=hlow j z x hz hr;rw [getD_set,if_neg (fun q=>by
            have e:y=x:=q.1;subst e;have:=hinj _ _ _ hyi hx;omega)]
        refine .inl ⟨_,rfl,⟨i+1,_,_,rfl,by omega,by rw [List.length_set]; exact hbl,by rw [List.length_set]; exact hd,fun z=>?_,fun j z hj hz=>?_,fun j z hj hz=>?_⟩,by simp only; omega⟩
        · rw [getD_set]
          split
          · omega
          · exact hB z
        · rw [hother j z (by omega) hz]
          by_cases e:y=z
          · subst e;rw [getD_set,if_pos ⟨rfl,by omega⟩,getD_set,if_pos ⟨rfl,by omega⟩];exact ⟨rfl,hpair⟩
          · have hji:j≠i:=fun q=>by
              subst q;rw [hyi] at hz;have:=Option.some.inj hz;omega
            rw [getD_set,if_neg (fun q=>e q.1),getD_set,if_neg (fun q=>e q.1)];exact hdone j z (by omega) hz
        · have hne2:y≠z:=fun e=>by
            subst e;have:=hinj _ _ _ hyi hz;omega
          rw [getD_set,if_neg (fun q=>hne2 q.1)];exact hzero j z (by omega) hz
      · rw [if_pos (by rw [c0]; rfl),c0];refine .inr ⟨_,rfl,.inr ⟨rfl,?_⟩⟩;refine ⟨d,fun z=>∃ j,j<i∧ys[j]? = some (z:Int),y,?_,?_,?_,hyl,fun x hr=>hlow i y x hyi hr,c0⟩
        · rintro z ⟨j,hj,hz⟩;obtain ⟨n,e,hn⟩:=hys _ (List.mem_of_getElem? hz);omega
        · rintro x z ⟨j,hj,hz⟩ hr;obtain ⟨j',h3,h4⟩:=hlow j z x hz hr;exact ⟨j',by omega,h4⟩
        · rintro z ⟨j,hj,hz⟩;exact (hdone j z hj hz).2
    · rw [if_neg (dneg (by omega))];refine .inr ⟨_,rfl,.inl ⟨base,d,rfl,⟨hd,fun y hy=>?_⟩,hbl,fun y hy=>?_⟩⟩
      · obtain ⟨j,hj,hjy⟩:=List.getElem_of_mem (hall y hy);exact (hdone j y (by omega) (by rw [List.getElem?_eq_getElem hj,hjy])).2
      · obtain ⟨j,hj,hjy⟩:=List.getElem_of_mem (hall y hy);exact (hdone j y (by omega) (by rw [List.getElem?_eq_getElem hj,hjy])).1) ((List.replicate (Int.toNat ((its.length:Nat):Int)) 0:List Int),(List.replicate (Int.toNat ((its.length:Nat):Int)) 0:List Int),0)
      ⟨0,_,_,rfl,by omega,by simp,by simp,fun y=>by
        rw [List.getD_eq_getElem?_getD,List.getElem?_replicate]; split <;> decide,fun j y h=>by omega,fun j y _ _=>by
        rw [List.getD_eq_getElem?_getD,List.getElem?_replicate]; split <;> rfl⟩ (by simp; omega)
  rw [h1];rcases h2 with ⟨base,d,rfl,g1,g2,g3⟩ | ⟨rfl,g1⟩
  · exact ⟨_,rfl,.inl ⟨rfl,g1,g2,g3⟩⟩
  · exact ⟨_,rfl,.inr ⟨rfl,g1⟩⟩
def LongSpec (k:Nat) (d:Int):Prop:=∃ n:Nat,d=(n:Int)∧n≤12∧k<2 ^ n∧(n=0∨k / 2 ^ (n-1)=1)
theorem long_unique {k:Nat}{d e:Int}(hd:LongSpec k d)(he:LongSpec k e):d=e:=by
  obtain ⟨n,rfl,_,h1,h2⟩:=hd;obtain ⟨m,rfl,_,g1,g2⟩:=he;have key:∀ a b:Nat,k<2 ^ a→(b=0∨k / 2 ^ (b-1)=1)→b≤a:=by
    intro a b ha hb;rcases hb with rfl | hb
    · omega
    · rcases Nat.lt_or_ge a b with h | h
      · have h3:2 ^ a≤2 ^ (b-1):=Nat.pow_le_pow_right (by omega) (by omega);rw [Nat.div_eq_of_lt (by omega)] at hb;cases hb
      · exact h
  have:=key n m h1 g2;have:=key m n g1 h2;omega
theorem steps_loop (k:Nat)(hk:k<4096):∃ d,loop code_Steps_L4 ((k:Int),0)=some d∧LongSpec k d:=by
  apply loop_inv (step:=code_Steps_L4) (fun s=>∃ n:Nat,s=(((k / 2 ^ n:Nat):Int),(n:Int))∧n≤12∧(n=0∨0<k / 2 ^ (n-1))) (fun s=>s.1.toNat) (LongSpec k)
  · rintro _ ⟨n,rfl,hn,h0⟩;unfold code_Steps_L4;simp only;have hle:k / 2 ^ n≤k:=Nat.div_le_self _ _
    by_cases h:0<k / 2 ^ n
    · have hlt:n<12:=by
        rcases Nat.lt_or_ge n 12 with h' | h'
        · exact h'
        · rw [show n=12 by omega,Nat.div_eq_of_lt (by omega)] at h;cases h
      have e:Int.fdiv ((k / 2 ^ n:Nat):Int) (2 ^ (min (Int.toNat (1)) IntKind.i64.bits))=((k / 2 ^ (n+1):Nat):Int):=by
        have:=pow_nat 1 (by omega);rw [show (1:Int)=((1:Nat):Int) from rfl,this,fdiv_nat,Nat.pow_succ,Nat.div_div_eq_div_mul];rfl
      refine Or.inl ⟨_,if_pos (dpos (by omega)),⟨n+1,?_,by omega,Or.inr (by simpa using h)⟩,?_⟩
      · rw [wr_id (by omega) (by omega),e];rfl
      · simp only;rw [e];have:k / 2 ^ (n+1)=k / 2 ^ n / 2:=by rw [Nat.pow_succ,Nat.div_div_eq_div_mul]
        omega
    · have h3:k / 2 ^ n=0:=Nat.eq_zero_of_not_pos h;have h4:k<2 ^ n:=by
        rcases Nat.lt_or_ge k (2 ^ n) with h' | h'
        · exact h'
        · have:=Nat.div_pos h' (Nat.two_pow_pos n);omega
      refine Or.inr ⟨_,if_neg (dneg (by omega)),⟨n,rfl,hn,h4,?_⟩⟩;rcases h0 with h0 | h0
      · exact Or.inl h0
      · rcases Nat.eq_zero_or_pos n with h5 | h5
        · exact Or.inl h5
        · obtain ⟨m,rfl⟩:∃ m,n=m+1:=⟨n-1,by omega⟩
          rw [Nat.pow_succ,← Nat.div_div_eq_div_mul] at h3;simp only [Nat.add_sub_cancel] at h0 ⊢;exact Or.inr (by omega)
  · exact ⟨0,by simp,by omega,Or.inl rfl⟩
  · simp only; omega
theorem steps_ok (k:Nat)(hk:k<4096):∃ d,code_Steps (k:Int)=some (d,0)∧LongSpec k d:=by
  obtain ⟨d,h1,h2⟩:=steps_loop k hk;refine ⟨d,?_,h2⟩;unfold code_Steps;rw [in_ok];simp only [Option.bind_some];rw [if_neg (by simp; omega),h1];rfl
theorem long_mono {k l:Nat}{d e:Int}(h:k≤l)(hd:LongSpec k d)(he:LongSpec l e):d≤e:=by
  obtain ⟨n,rfl,_,h1,h2⟩:=hd;obtain ⟨m,rfl,_,g1,g2⟩:=he;rcases h2 with rfl | h2
  · omega
  · rcases Nat.lt_or_ge m n with hmn | hmn
    · have h3:2 ^ m≤2 ^ (n-1):=Nat.pow_le_pow_right (by omega) (by omega);rw [Nat.div_eq_of_lt (by omega)] at h2;cases h2
    · omega
theorem long_zero:LongSpec 0 0:=⟨0,rfl,by omega,by decide,.inl rfl⟩
def IsMx (v:List Int) (m:Nat):Prop:=(∀ y,v.getD y 0≤m)∧(m=0∨∃ y,y<v.length∧v.getD y 0=m)
theorem IsMx.uniq {v:List Int}{m n:Nat}(h:IsMx v m)(g:IsMx v n):m=n:=by
  have a:m≤n:=by
    rcases h.2 with e | ⟨y,_,e⟩
    · omega
    · have:=g.1 y; omega
  have b:n≤m:=by
    rcases g.2 with e | ⟨y,_,e⟩
    · omega
    · have:=h.1 y; omega
  omega
def LeastSpec (its:List Item) (wt:Int) (p:(Int×List Int)×Int):Prop:=
  (∃ v S m,IsLst its wt v∧p=((S,v),0)∧IsMx v m∧LongSpec m S)∨(p=((0,[]),15)∧Stuck its wt)
theorem LL22_ok (v base:List Int)(e:Int)(hc:C12 v)(hl:v.length≤1000):∃ S m,loop (leastcode_Least_L22 (base,v,e)) (0,0)=some S∧IsMx v m∧LongSpec m S:=by
  obtain ⟨S,h1,h2⟩:=loop_inv (step:=leastcode_Least_L22 (base,v,e)) (fun s=>∃ (i m:Nat) (S:Int),s=(S,(i:Int))∧i≤v.length∧LongSpec m S∧(∀ y,y<i→v.getD y 0≤m)∧(m=0∨∃ y,y<v.length∧v.getD y 0=m)) (fun s=>v.length-s.2.toNat)
    (fun S=>∃ m,IsMx v m∧LongSpec m S) (by
    rintro _ ⟨i,m,S,rfl,hi,hS,hm,hat⟩;unfold leastcode_Least_L22;simp only
    by_cases h:i<v.length
    · obtain ⟨c0,c1⟩:=hc i;obtain ⟨d,e1,e2⟩:=steps_ok (v.getD i 0).toNat (by omega);rw [if_pos (dpos (by omega)),idx_getD h];simp only [obind];rw [show v.getD i 0=(((v.getD i 0).toNat:Nat):Int) by omega,e1];simp only [obind];rw [wr_id (by omega) (by omega)]
      by_cases hgt:(v.getD i 0).toNat>m
      · have hd:=long_mono (by omega) hS e2;refine .inl ⟨_,rfl,⟨i+1,(v.getD i 0).toNat,_,rfl,by omega,?_,fun y hy=>?_,.inr ⟨i,h,by omega⟩⟩,by simp only; omega⟩
        · by_cases q:d>S
          · rw [if_pos q]; exact e2
          · rw [if_neg q,show S=d by omega]; exact e2
        · by_cases q:y=i
          · subst q; omega
          · have:=hm y (by omega); omega
      · have hd:=long_mono (by omega) e2 hS;refine .inl ⟨_,rfl,⟨i+1,m,_,rfl,by omega,by rw [if_neg (by omega)]; exact hS,fun y hy=>?_,hat⟩,by simp only; omega⟩
        by_cases q:y=i
        · subst q; omega
        · exact hm y (by omega)
    · rw [if_neg (dneg (by omega))];refine .inr ⟨_,rfl,m,⟨fun y=>?_,hat⟩,hS⟩
      by_cases q:y<v.length
      · exact hm y (by omega)
      · rw [List.getD_eq_getElem?_getD,List.getElem?_eq_none (by omega)];show (0:Int)≤m
        omega) (0,0) ⟨0,0,0,rfl,by omega,long_zero,fun y h=>by omega,.inl rfl⟩ (by simp; omega)
  obtain ⟨m,h3,h4⟩:=h2;exact ⟨S,m,h1,h3,h4⟩
section
variable {its : List Item} {wt : Int} (hg : JobGood its wt)
include hg
theorem Least_ok:∃ p,leastcode_Least its wt=some p∧LeastSpec its wt p:=by
  have hl:=hg.len;unfold leastcode_Least;rw [valid_good hg];simp only [obind,bne_self_eq_false,Bool.false_eq_true,if_false];rw [relations_ok its wt (by omega)];simp only [obind];obtain ⟨⟨base,v,e⟩,h1,h2⟩:=solve_ok hg;rw [h1];simp only [obind];rcases h2 with ⟨e0,hv,_,_⟩ | ⟨e0,hS⟩
  · simp only at e0 hv;subst e0;obtain ⟨S,m,g1,g2,g3⟩:=LL22_ok v base 0 (hv.c12 hg) (by rw [hv.len]; omega);simp only [bne_self_eq_false,Bool.false_eq_true,if_false];rw [g1];exact ⟨_,rfl,.inl ⟨v,S,m,hv,rfl,g2,g3⟩⟩
  · cases e0;rw [if_pos (by decide)];exact ⟨_,rfl,.inr ⟨rfl,hS⟩⟩
end
theorem nx_ge {n r w:Int}(hn:0≤n)(hr:0≤r∧r≤12)(hw:0≤w∧w≤12)(h:(NX n r w).2=0):n≤(NX n r w).1∧(NX n r w).1≤4095:=by
  rcases nx_cases hn hr hw with ⟨_,h1,h2⟩ | e
  · exact ⟨h1,h2⟩
  · rw [e] at h; simp at h
theorem lst_ge {its:List Item}{wt:Int}(hg:JobGood its wt){v:List Int}(hv:IsLst its wt v){y:Nat}(hy:y<its.length):need its v y≤v.getD y 0:=by
  have e:=hv.eq y hy;have:=(nx_ge (needU_nn its v y) (hg.r y) hg.w (by rw [e])).1;rw [e] at this;exact this
theorem lst_rel {its:List Item}{wt:Int}(hg:JobGood its wt){v:List Int}(hv:IsLst its wt v){x y:Nat}(hr:rel its x y>0):v.getD x 0+rel its x y-1≤v.getD y 0:=by
  obtain ⟨_,hx,hy⟩:=rel_blk hr;have h1:=needU_ge its v y its.length x hx hr;have h2:=lst_ge hg hv hy;unfold need at h2;omega
def RelOK (its:List Item) (codes:List Int):Prop:=∀ x y,rel its x y>0→codes.getD x 0+rel its x y-1≤codes.getD y 0
theorem lst_isN {its:List Item}{wt:Int}(hg:JobGood its wt){v:List Int}(hv:IsLst its wt v){y:Nat}(hy:y<its.length):isN (rOf its y).toNat wt.toNat (v.getD y 0).toNat=true:=by
  have e:=hv.eq y hy;rcases (nx_ok (needU_nn its v y) (hg.r y) hg.w).2.2 with ⟨c,e1,_,e2,e3,_⟩ | ⟨e1,_⟩
  · rw [e] at e1;have e4:v.getD y 0=(c:Int):=congrArg Prod.fst e1;rw [e4,Int.toNat_natCast];exact e3
  · rw [e] at e1;have:=congrArg Prod.snd e1;simp at this
theorem least_good {its:List Item}{wt:Int}(hg:JobGood its wt){v:List Int}(hv:IsLst its wt v){m:Nat}{S:Int}(hm:IsMx v m)(hS:LongSpec m S):Good its wt S v:=by
  obtain ⟨n,rfl,hn,h1,_⟩:=hS;have hc:=hv.c12 hg;refine ⟨hg,by omega,hv.len,fun i x c hx hcc=>?_⟩;have hi:=(List.getElem?_eq_some_iff.1 hx).1;have hvc:v.getD i 0=c:=by rw [List.getD_eq_getElem?_getD,hcc]; rfl
  have hr:rOf its i=x.2.2.1:=by unfold rOf; rw [hx]
  have h3:=lst_isN hg hv hi;rw [hvc,hr] at h3;have h4:=hc i;have h5:=hm.1 i;rw [hvc] at h4 h5;rw [Int.toNat_natCast];exact ⟨h4.1,by omega,h3⟩
section
variable {its : List Item} {wt : Int} (hg : JobGood its wt)
include hg
theorem WL27_ok {base v:List Int}(e:Int)(hv:IsLst its wt v)(hbl:base.length=its.length)(hba:∀ y,y<its.length→base.getD y 0=need its v y)(y:Nat)(hy:y<its.length)(h:need its v y>0) :
    loop (leastcode_Witness_L27 (relM its) (base,v,e) (y:Int)) 0=some (nx2 its v y:Int):=by
  have hl:=hg.len;have hc:=hv.c12 hg;have hvl:=hv.len;obtain ⟨s1,s2,s3,s4⟩:=nx2_spec h;obtain ⟨d,h1,h2⟩:=loop_inv (step:=leastcode_Witness_L27 (relM its) (base,v,e) (y:Int)) (fun s=>∃ x:Nat,s=(x:Int)∧x≤nx2 its v y) (fun s=>its.length-s.toNat)
    (fun d=>d=(nx2 its v y:Int)) (by
    rintro _ ⟨x,rfl,hx⟩;unfold leastcode_Witness_L27;simp only;rw [if_pos (dpos (by omega)),relM_get (by omega)];simp only [obind];rw [relRow_get hy];simp only [obind];rw [wr_id (n:=(x:Int)+1) (by omega) (by omega)];have hrr:=rel_range its x y
    by_cases hr:rel its x y>0
    · have hvx:=hc x;rw [if_pos (dpos hr),idx_getD (by omega)];simp only [obind];rw [idx_getD (by omega),hba y hy];simp only [obind];rw [wr_id (n:=v.getD x 0+rel its x y) (by omega) (by omega),wr_id (n:=v.getD x 0+rel its x y-1) (by omega) (by omega)]
      by_cases e:v.getD x 0+rel its x y-1=need its v y
      · rw [if_pos (by rw [e]; simp)];refine .inr ⟨_,rfl,?_⟩;rcases Nat.lt_or_ge x (nx2 its v y) with hlt | hge
        · have:=s4 x hlt;unfold stp2 at this;rw [dpos hr,dpos e] at this;cases this
        · rw [show x=nx2 its v y by omega]
      · rw [if_neg (by rw [beq_iff_eq]; exact e)];have hne:x≠nx2 its v y:=fun e'=>by rw [← e'] at s2; omega
        exact .inl ⟨_,rfl,⟨x+1,rfl,by omega⟩,by omega⟩
    · rw [if_neg (dneg hr)];have hne:x≠nx2 its v y:=fun e=>by rw [← e] at s1; omega
      exact .inl ⟨_,rfl,⟨x+1,rfl,by omega⟩,by omega⟩) 0 ⟨0,rfl,by omega⟩ (by simp; omega)
  rw [h1,h2]
theorem WL23_ok {base v:List Int}(e:Int)(hv:IsLst its wt v)(hbl:base.length=its.length)(hba:∀ y,y<its.length→base.getD y 0=need its v y)(y0:Nat)(hy0:y0<its.length) :
    loop (leastcode_Witness_L23 (relM its) (base,v,e)) ((y0:Int),[(y0:Int)])=some (castL (down2 its v 40 y0)):=by
  have hl:=hg.len;have hb:=hg.b;obtain ⟨d,h1,h2⟩:=loop_inv (step:=leastcode_Witness_L23 (relM its) (base,v,e)) (fun s=>∃ (acc:List Nat) (y f:Nat),s=((y:Int),castL (acc++[y]))∧y<its.length∧acc++down2 its v f y=down2 its v 40 y0∧bOf its y≤f∧acc.length+f≤40) (fun s=>(bOf its s.1.toNat).toNat)
    (fun d=>d=castL (down2 its v 40 y0)) (by
    rintro _ ⟨acc,y,f,rfl,hy,hd,hbf,hfl⟩;unfold leastcode_Witness_L23;simp only;rw [idx_getD (by omega),hba y hy];simp only [obind]
    by_cases hp:need its v y>0
    · obtain ⟨s1,s2,s3,s4⟩:=nx2_spec hp;have hblk:=(rel_blk s1).1;have hb0:=hb (nx2 its v y);have hby:=hb y;rw [if_pos (dpos hp),WL27_ok hg e hv hbl hba y hy hp];simp only [obind];rw [if_pos (by rw [castL_len]; simp only [List.length_append,List.length_cons,List.length_nil]; omega)];obtain ⟨f',rfl⟩:∃ f',f=f'+1:=⟨f-1,by omega⟩
      refine .inl ⟨_,rfl,⟨acc++[y],nx2 its v y,f',?_,s3,?_,by omega,by simp; omega⟩,by simp only [Int.toNat_natCast]; omega⟩
      · rw [castL_app (acc++[y])]; rfl
      · rw [← hd]
        conv=>rhs; unfold down2
        rw [if_pos hp,List.append_assoc]; rfl
    · have h0:need its v y=0:=by have:=need_nonneg its v y; omega
      rw [if_neg (dneg hp)];refine .inr ⟨_,rfl,?_⟩;rw [← hd,down2_zero its v y h0]) ((y0:Int),[(y0:Int)]) ⟨[],y0,40,rfl,hy0,rfl,by have:=hb y0; omega,by simp⟩ (by have:=hb y0; simp only [Int.toNat_natCast]; omega)
  rw [h1,h2]
def WitSpec (its:List Item) (wt:Int) (p:List Int×Int):Prop:=
  (∃ v,IsLst its wt v∧p.2=0∧((v.length=0∧p.1=[])∨∃ y0,FstMax v y0∧p.1=castL (down2 its v 40 y0).reverse))∨(p=([],15)∧Stuck its wt)
theorem Witness_ok:∃ p,leastcode_Witness its wt=some p∧WitSpec its wt p:=by
  have hl:=hg.len;unfold leastcode_Witness;rw [valid_good hg];simp only [obind,bne_self_eq_false,Bool.false_eq_true,if_false];rw [relations_ok its wt (by omega)];simp only [obind];obtain ⟨⟨base,v,e⟩,h1,h2⟩:=solve_ok hg;rw [h1];simp only [obind];rcases h2 with ⟨e0,hv,hbl,hba⟩ | ⟨e0,hS⟩
  · simp only at e0 hv hbl hba;subst e0;have hvl:=hv.len;simp only [bne_self_eq_false,Bool.false_eq_true,if_false]
    by_cases h0:v.length=0
    · rw [if_pos (by rw [h0]; rfl)];exact ⟨_,rfl,.inl ⟨v,hv,rfl,.inl ⟨h0,rfl⟩⟩⟩
    · rw [if_neg (by rw [beq_iff_eq]; omega)];obtain ⟨m,e1,q1,q2⟩:=max_ok v (by omega) (by omega);obtain ⟨y0,e2,q3,q4,q5⟩:=index_ok v m (by omega) q1;rw [e1];simp only [obind];rw [e2];simp only [obind];rw [WL23_ok hg 0 hv hbl hba y0 (by omega)];simp only [obind];rw [castL_rev];exact ⟨_,rfl,.inl ⟨v,hv,rfl,.inr ⟨y0,⟨q3,fun y hy=>by rw [q4]; exact q2 y hy,fun y hy=>by rw [q4]; exact q5 y hy⟩,rfl⟩⟩⟩
  · cases e0;rw [if_pos (by decide)];exact ⟨_,rfl,.inr ⟨rfl,hS⟩⟩
end
def ChainOK (its:List Item) (c:List Int) (m:Nat):Prop:=
  (∀ i,i<m→0≤c.getD i 0∧c.getD i 0<its.length)∧∀ i,i+1<m→rel its (c.getD i 0).toNat (c.getD (i+1) 0).toNat≠0
def bdr (its:List Item) (wt:Int) (c:List Int):Nat→Int×Int
  | 0=>(0,0)
  | m+1=>if (bdr its wt c m).2≠0 then (0,15) else
      NX ((bdr its wt c m).1+(if 0<m then rel its (c.getD (m-1) 0).toNat (c.getD m 0).toNat-1 else 0)) (rOf its (c.getD m 0).toNat) wt
theorem ChainOK.rel_pos {its:List Item}{c:List Int}{m:Nat}(h:ChainOK its c m){i:Nat}(hi:i+1<m):rel its (c.getD i 0).toNat (c.getD (i+1) 0).toNat>0:=by
  have:=h.2 i hi;rcases rel_range its (c.getD i 0).toNat (c.getD (i+1) 0).toNat with e | e | e <;> omega
theorem chain_short {its:List Item}(hb:∀ i,0≤bOf its i∧bOf its i≤31){c:List Int}{m:Nat}(h:ChainOK its c m):m≤32:=by
  have key:∀ i,i<m→(i:Int)≤bOf its (c.getD i 0).toNat:=by
    intro i
    induction i with
    | zero=>intro _; have:=hb (c.getD 0 0).toNat; omega
    | succ i ih=>
      intro hi;have:=ih (by omega);have hr:=h.rel_pos (i:=i) hi;have:=(rel_blk hr).1;omega
  rcases Nat.lt_or_ge 32 m with h' | h'
  · have:=key 32 h';have:=hb (c.getD 32 0).toNat;omega
  · exact h'
theorem bdr_range {its:List Item}{wt:Int}(hg:JobGood its wt){c:List Int}{n:Nat}(h:ChainOK its c n):∀ m,m≤n→((bdr its wt c m).2=0∧0≤(bdr its wt c m).1∧(bdr its wt c m).1≤4095)∨bdr its wt c m=(0,15)
  | 0,_=>.inl ⟨rfl,Int.le_refl 0,by show (0:Int)≤4095; omega⟩
  | m+1,hm=>by
    have ih:=bdr_range hg h m (by omega);unfold bdr;rcases ih with ⟨h0,h1,h2⟩ | h0
    · rw [if_neg (by simp [h0])];have hs:0≤(if 0<m then rel its (c.getD (m-1) 0).toNat (c.getD m 0).toNat-1 else 0):=by
        split
        · have:=h.rel_pos (i:=m-1) (by omega);rw [show m-1+1=m by omega] at this;omega
        · omega
      rcases nx_cases (n:=(bdr its wt c m).1+(if 0<m then rel its (c.getD (m-1) 0).toNat (c.getD m 0).toNat-1 else 0)) (by omega) (hg.r (c.getD m 0).toNat) hg.w with ⟨q0,q1,q2⟩ | q0
      · exact .inl ⟨q0,by omega,q2⟩
      · exact .inr q0
    · rw [if_pos (by rw [h0]; decide)];exact .inr rfl
theorem bd_get {c:List Int}{i:Nat}(h:i<c.length):idx c (i:Int)=some (c.getD i 0):=idx_getD h
section
variable {its : List Item} {wt : Int} (hg : JobGood its wt)
include hg
theorem Bound_okU (c:List Int) :
    (ChainOK its c c.length∧leastcode_Bound its wt c=some (bdr its wt c c.length))∨(¬ ChainOK its c c.length∧leastcode_Bound its wt c=some (0,1)):=by
  have hl:=hg.len;unfold leastcode_Bound;rw [valid_good hg];simp only [obind,bne_self_eq_false,Bool.false_eq_true,if_false];rw [relations_ok its wt (by omega)];simp only [obind];obtain ⟨d,h1,h2⟩:=loop_inv (step:=leastcode_Bound_L12 its c (relM its)) (fun s=>∃ i:Nat,s=(i:Int)∧i≤c.length∧ChainOK its c i) (fun s=>100-s.toNat)
    (fun d=>(d=.inr ()∧ChainOK its c c.length)∨(d=.inl ()∧¬ ChainOK its c c.length)) (by
    rintro _ ⟨i,rfl,hi,hC⟩;have hi33:=chain_short hg.b hC;unfold leastcode_Bound_L12;simp only
    by_cases h:i<c.length
    · rw [if_pos (dpos (by omega)),bd_get h];simp only [obind]
      by_cases h3:c.getD i 0<0
      · rw [if_pos (dpos h3)];exact .inr ⟨_,rfl,.inr ⟨rfl,fun q=>by have:=q.1 i h; omega⟩⟩
      rw [if_neg (dneg h3)]
      by_cases h4:c.getD i 0≥its.length
      · rw [if_pos (dpos h4)];exact .inr ⟨_,rfl,.inr ⟨rfl,fun q=>by have:=q.1 i h; omega⟩⟩
      rw [if_neg (dneg h4),wr_id (n:=(i:Int)+1) (by omega) (by omega)];have hnext:(0<i→rel its (c.getD (i-1) 0).toNat (c.getD i 0).toNat≠0)→∃ k:Nat,(i:Int)+1=(k:Int)∧k≤c.length∧ChainOK its c k:=fun hr=>by
        refine ⟨i+1,rfl,by omega,fun j hj=>?_,fun j hj=>?_⟩
        · by_cases e:j=i
          · subst e; omega
          · exact hC.1 j (by omega)
        · by_cases e:j+1=i
          · have:=hr (by omega);rw [show i-1=j by omega,← e] at this;exact this
          · exact hC.2 j (by omega)
      by_cases h5:0<i
      · obtain ⟨p0,p1⟩:=hC.1 (i-1) (by omega);rw [if_pos (dpos (by omega)),wr_id (n:=(i:Int)-1) (by omega) (by omega),show (i:Int)-1=((i-1:Nat):Int) by omega,bd_get (by omega)];simp only [obind];rw [show c.getD (i-1) 0=(((c.getD (i-1) 0).toNat:Nat):Int) by omega,relM_get (by omega)];simp only [obind];rw [show c.getD i 0=(((c.getD i 0).toNat:Nat):Int) by omega,relRow_get (by omega)];simp only [obind,Int.toNat_natCast]
        by_cases h6:rel its (c.getD (i-1) 0).toNat (c.getD i 0).toNat=0
        · rw [if_pos (by rw [h6]; rfl)];refine .inr ⟨_,rfl,.inr ⟨rfl,fun q=>q.2 (i-1) (by omega) ?_⟩⟩;rw [show i-1+1=i by omega]; exact h6
        · rw [if_neg (by rw [beq_iff_eq]; exact h6)];exact .inl ⟨_,rfl,hnext (fun _=>h6),by omega⟩
      · rw [if_neg (dneg (by omega))];exact .inl ⟨_,rfl,hnext (fun q=>absurd q h5),by omega⟩
    · rw [if_neg (dneg (by omega))];have:i=c.length:=by omega
      subst this;exact .inr ⟨_,rfl,.inl ⟨rfl,hC⟩⟩) 0 ⟨0,rfl,by omega,⟨fun i h=>by omega,fun i h=>by omega⟩⟩ (by simp)
  rw [h1];rcases h2 with ⟨rfl,hC⟩ | ⟨rfl,hC⟩
  · have hcl:=chain_short hg.b hC;refine .inl ⟨hC,?_⟩;simp only [obind];obtain ⟨d,g1,g2⟩:=loop_inv (step:=leastcode_Bound_L24 its wt c (relM its)) (fun s=>∃ i:Nat,s=((bdr its wt c i).1,(i:Int))∧i≤c.length∧(bdr its wt c i).2=0) (fun s=>c.length-s.2.toNat)
      (fun d=>(d=.inr (bdr its wt c c.length).1∧(bdr its wt c c.length).2=0)∨(d=.inl 15∧bdr its wt c c.length=(0,15))) (by
      rintro _ ⟨i,rfl,hi,h0⟩;unfold leastcode_Bound_L24;simp only
      by_cases h:i<c.length
      · rw [if_pos (dpos (by omega)),bd_get h];simp only [obind];obtain ⟨p0,p1⟩:=hC.1 i h;have hbr:=bdr_range hg hC i (by omega);have hb0:0≤(bdr its wt c i).1∧(bdr its wt c i).1≤4095:=by
          rcases hbr with ⟨_,q1,q2⟩ | q
          · exact ⟨q1,q2⟩
          · rw [q] at h0; exact absurd h0 (by decide)
        have hstep:∀ n:Int,n=(bdr its wt c i).1+(if 0<i then rel its (c.getD (i-1) 0).toNat (c.getD i 0).toNat-1 else 0)→0≤n→
            ((∃ s',leastcode_Bound_J28 its wt (i:Int) (c.getD i 0) n=some (.next s')∧(∃ k:Nat,s'=((bdr its wt c k).1,(k:Int))∧k≤c.length∧(bdr its wt c k).2=0)∧c.length-s'.2.toNat<c.length-((i:Int)).toNat)∨
             (∃ d,leastcode_Bound_J28 its wt (i:Int) (c.getD i 0) n=some (.done d)∧((d=.inr (bdr its wt c c.length).1∧(bdr its wt c c.length).2=0)∨(d=.inl 15∧bdr its wt c c.length=(0,15))))):=by
          intro n hn hn0;have hb1:bdr its wt c (i+1)=NX n (rOf its (c.getD i 0).toNat) wt:=by
            rw [hn]
            conv=>lhs; unfold bdr
            rw [if_neg (by simp [h0])]
          obtain ⟨a,ha⟩:∃ a,its[(c.getD i 0).toNat]? = some a:=⟨_,List.getElem?_eq_getElem (by omega)⟩
          have har:rOf its (c.getD i 0).toNat=a.2.2.1:=by unfold rOf; rw [ha]
          have hix:idx its (c.getD i 0)=some a:=by rw [show c.getD i 0=(((c.getD i 0).toNat:Nat):Int) by omega,idx_nat]; simpa using ha
          have hr:=hg.r (c.getD i 0).toNat;unfold leastcode_Bound_J28;rw [hix];simp only [obind];rw [← har,(nx_ok hn0 hr hg.w).1];simp only [obind];rw [wr_id (n:=(i:Int)+1) (by omega) (by omega)];rcases nx_cases hn0 hr hg.w with ⟨q0,q1,q2⟩ | q0
          · rw [if_neg (by rw [q0]; decide)];refine .inl ⟨_,rfl,⟨i+1,by rw [hb1]; rfl,by omega,by rw [hb1]; exact q0⟩,by simp only; omega⟩
          · rw [if_pos (by rw [q0]; rfl),q0];refine .inr ⟨_,rfl,.inr ⟨rfl,?_⟩⟩;rw [q0] at hb1;have hst:∀ k,bdr its wt c (i+1+k)=(0,15):=by
              intro k
              induction k with
              | zero=>exact hb1
              | succ k ih=>
                show bdr its wt c ((i+1+k)+1)=(0,15)
                unfold bdr;rw [ih];rfl
            have:=hst (c.length-(i+1));rw [show i+1+(c.length-(i+1))=c.length by omega] at this;exact this
        by_cases h5:0<i
        · obtain ⟨p2,p3⟩:=hC.1 (i-1) (by omega);have hrp:=hC.rel_pos (i:=i-1) (by omega);have hrr:=rel_range its (c.getD (i-1) 0).toNat (c.getD i 0).toNat;rw [show i-1+1=i by omega] at hrp;rw [if_pos (dpos (by omega)),wr_id (n:=(i:Int)-1) (by omega) (by omega),show (i:Int)-1=((i-1:Nat):Int) by omega,bd_get (by omega)];simp only [obind];have hM:idx (relM its) (c.getD (i-1) 0)=some (relRow its (c.getD (i-1) 0).toNat):=by
            conv=>lhs; rw [show c.getD (i-1) 0=(((c.getD (i-1) 0).toNat:Nat):Int) by omega]
            exact relM_get (by omega)
          have hR:idx (relRow its (c.getD (i-1) 0).toNat) (c.getD i 0)=some (rel its (c.getD (i-1) 0).toNat (c.getD i 0).toNat):=by
            conv=>lhs; rw [show c.getD i 0=(((c.getD i 0).toNat:Nat):Int) by omega]
            exact relRow_get (by omega)
          rw [hM];simp only [obind];rw [hR];simp only [obind];rw [wr_id (n:=rel its (c.getD (i-1) 0).toNat (c.getD i 0).toNat-1) (by omega) (by omega),wr_id (n:=(bdr its wt c i).1+(rel its (c.getD (i-1) 0).toNat (c.getD i 0).toNat-1)) (by omega) (by omega)];exact hstep _ (by rw [if_pos h5]) (by omega)
        · rw [if_neg (dneg (by omega))];exact hstep _ (by rw [if_neg h5]; omega) (by omega)
      · rw [if_neg (dneg (by omega))];have:i=c.length:=by omega
        subst this;exact .inr ⟨_,rfl,.inl ⟨rfl,h0⟩⟩) (0,0) ⟨0,rfl,by omega,rfl⟩ (by simp; omega)
    rw [g1];rcases g2 with ⟨rfl,q⟩ | ⟨rfl,q⟩
    · simp only [obind]
      congr 1
      exact Prod.ext rfl q.symm
    · simp only [obind];rw [q]
  · exact .inr ⟨hC,rfl⟩
end
section
variable {its : List Item} {wt : Int} (hg : JobGood its wt) {v : List Int} (hv : IsLst its wt v)
include hg hv
theorem down2_facts:∀ (f y:Nat),bOf its y≤f→y<its.length→(∀ x∈down2 its v f y,x<its.length)∧(down2 its v f y)[0]? = some y∧
    (∀ (i a b:Nat),(down2 its v f y)[i]? = some a→(down2 its v f y)[i+1]? = some b→rel its b a>0∧v.getD b 0+rel its b a-1=need its v a)∧
    (∀ a,(down2 its v f y)[(down2 its v f y).length-1]? = some a→need its v a=0)∧(down2 its v f y).length≤f+1
  | 0,y,hb,hy=>by
    have h0:need its v y=0:=by
      rcases needU_at its v y its.length with h | ⟨x,h1,h2,h3⟩
      · exact h
      · have:=(rel_blk h2).1;have:=(hg.b x).1;omega
    unfold down2;refine ⟨fun x hx=>by simp only [List.mem_singleton] at hx; omega,rfl,fun i a b _ h=>?_,fun a h=>?_,by simp⟩
    · rw [List.getElem?_eq_none (by simp)] at h; cases h
    · simp at h; subst h; exact h0
  | f+1,y,hb,hy=>by
    by_cases hp:need its v y>0
    · obtain ⟨s1,s2,s3,s4⟩:=nx2_spec hp;have hblk:=(rel_blk s1).1;obtain ⟨r1,r2,r3,r4,r5⟩:=down2_facts f (nx2 its v y) (by omega) s3;unfold down2;rw [if_pos hp];refine ⟨fun x hx=>?_,rfl,fun i a b ha hb=>?_,fun a ha=>?_,by simp only [List.length_cons]; omega⟩
      · rcases List.mem_cons.1 hx with rfl | hx
        · exact hy
        · exact r1 x hx
      · cases i with
        | zero=>
          rw [List.getElem?_cons_zero] at ha;rw [List.getElem?_cons_succ,r2] at hb;cases ha; cases hb;exact ⟨s1,s2⟩
        | succ i=>
          rw [List.getElem?_cons_succ] at ha hb;exact r3 i a b ha hb
      · have hpos:0<(down2 its v f (nx2 its v y)).length:=(List.getElem?_eq_some_iff.1 r2).1;rw [List.length_cons,show (down2 its v f (nx2 its v y)).length+1-1=((down2 its v f (nx2 its v y)).length-1)+1 by omega,List.getElem?_cons_succ] at ha;exact r4 a ha
    · have h0:need its v y=0:=by have:=need_nonneg its v y; omega
      rw [down2_zero its v y h0];refine ⟨fun x hx=>by simp only [List.mem_singleton] at hx; omega,rfl,fun i a b _ h=>?_,fun a h=>?_,by simp⟩
      · rw [List.getElem?_eq_none (by simp)] at h; cases h
      · simp at h; subst h; exact h0
theorem wit_bound (y0:Nat)(hy0:y0<its.length):ChainOK its (castL (down2 its v 40 y0).reverse) (castL (down2 its v 40 y0).reverse).length∧(castL (down2 its v 40 y0).reverse).length≤41∧
    bdr its wt (castL (down2 its v 40 y0).reverse) (castL (down2 its v 40 y0).reverse).length=(v.getD y0 0,0):=by
  obtain ⟨f1,f2,f3,f4,f5⟩:=down2_facts hg hv 40 y0 (by have:=hg.b y0; omega) hy0;generalize down2 its v 40 y0=c at f1 f2 f3 f4 f5 ⊢;have hc0:0<c.length:=(List.getElem?_eq_some_iff.1 f2).1;have hlen:(castL c.reverse).length=c.length:=by rw [castL_len,List.length_reverse]
  have hget:∀ (i a:Nat),i<c.length→c[c.length-1-i]? = some a→(castL c.reverse).getD i 0=(a:Int):=by
    intro i a hi ha;rw [List.getD_eq_getElem?_getD,castL_get,List.getElem?_reverse hi,ha]; rfl
  have hex:∀ i,i<c.length→∃ a,c[c.length-1-i]? = some a:=fun i hi=>⟨_,List.getElem?_eq_getElem (by omega)⟩
  have hstep:∀ i a b,i+1<c.length→c[c.length-1-i]? = some a→c[c.length-1-(i+1)]? = some b→rel its a b>0∧v.getD a 0+rel its a b-1=need its v b:=by
    intro i a b hi ha hb;refine f3 (c.length-1-(i+1)) b a hb ?_;rw [show c.length-1-(i+1)+1=c.length-1-i by omega];exact ha
  rw [hlen];have hC:ChainOK its (castL c.reverse) c.length:=by
    refine ⟨fun i hi=>?_,fun i hi=>?_⟩
    · obtain ⟨a,ha⟩:=hex i hi;have:=f1 a (List.mem_of_getElem? ha);rw [hget i a hi ha];omega
    · obtain ⟨a,ha⟩:=hex i (by omega);obtain ⟨b,hb⟩:=hex (i+1) hi;rw [hget i a (by omega) ha,hget (i+1) b hi hb];simp only [Int.toNat_natCast];have:=(hstep i a b hi ha hb).1;omega
  refine ⟨hC,f5,?_⟩;have key:∀ m a,m<c.length→c[c.length-1-m]? = some a→bdr its wt (castL c.reverse) (m+1)=(v.getD a 0,0):=by
    intro m
    induction m with
    | zero=>
      intro a hm ha;have h0:=f4 a (by simpa using ha);have hal:=f1 a (List.mem_of_getElem? ha);have he:=hv.eq a hal;unfold bdr bdr;rw [if_neg (by decide),if_neg (by decide),hget 0 a hm ha,Int.toNat_natCast,← he,h0];rfl
    | succ m ih=>
      intro b hm hb;obtain ⟨a,ha⟩:=hex m (by omega);have hi:=ih a (by omega) ha;obtain ⟨r1,r2⟩:=hstep m a b hm ha hb;have hbl:=f1 b (List.mem_of_getElem? hb);have he:=hv.eq b hbl;unfold bdr;rw [hi,if_neg (fun q=>q rfl),if_pos (by omega),show m+1-1=m by omega,hget m a (by omega) ha,hget (m+1) b hm hb,Int.toNat_natCast,Int.toNat_natCast,← he,← r2];simp only
      congr 1
      omega
  have:=key (c.length-1) y0 (by omega) (by rw [show c.length-1-(c.length-1)=0 by omega]; exact f2);rw [show c.length-1+1=c.length by omega] at this;exact this
end
theorem relation_ok (its:List Item)(wt:Int)(x y:Nat)(hx:x<its.length)(hy:y<its.length):job_relation its wt (x:Int) (y:Int)=some (rel its x y):=by
  unfold job_relation rel;rw [idx_nat,idx_nat,List.getElem?_eq_getElem hx,List.getElem?_eq_getElem hy];simp only [Option.bind_some];generalize its[x]=a;generalize its[y]=b;unfold job_relation_J4 job_relation_J9 relI
  by_cases h1:a.1=b.1
  · by_cases h2:a.2.1≥b.2.1
    · simp [h1,h2]
    · by_cases h3:y<x
      · have h3':(y:Int)<x:=by omega
        have h2':¬ b.2.1≤a.2.1:=by omega
        simp [h1,h2',h3]
      · have h2':¬ b.2.1≤a.2.1:=by omega
        simp [h1,h2',h3]
  · simp [h1]
theorem Relation_good {its:List Item}{wt:Int}(h:JobGood its wt)(x y:Nat)(hx:x<its.length)(hy:y<its.length):job_Relation its wt (x:Int) (y:Int)=some (rel its x y,0):=by
  have hl:=h.len;unfold job_Relation;rw [valid_good h];simp only [Option.bind_some,bne_self_eq_false,Bool.false_eq_true,if_false];rw [job_in_ok,job_in_ok,wr_id (by omega) (by omega)];simp only [Option.bind_some];rw [if_neg (by simp; omega),if_neg (by simp; omega),relation_ok its wt x y hx hy];rfl
section
variable {its : List Item} {wt S : Int} {codes : List Int} (hG : Good its wt S codes)
include hG
theorem codes_small (y:Nat):0≤codes.getD y 0∧codes.getD y 0≤4095:=by
  by_cases hy:y<its.length
  · have hyc:y<codes.length:=by rw [hG.cl]; exact hy
    obtain ⟨c1,c2,_⟩:=hG.code y _ _ (List.getElem?_eq_getElem hy) (List.getElem?_eq_getElem hyc);have hp:=pow_le S.toNat (by have:=hG.st; omega);rw [List.getD_eq_getElem?_getD,List.getElem?_eq_getElem hyc];simp only [Option.getD_some];omega
  · rw [List.getD_eq_getElem?_getD,List.getElem?_eq_none (by rw [hG.cl]; omega)];decide
theorem CC14_ok (x:Nat)(hx:x<its.length):(loop (certificate_Check_L14 its wt codes (x:Int)) 0=some (.inr ())∧∀ y,y<its.length→rel its x y>0→codes.getD x 0+rel its x y-1≤codes.getD y 0)∨
    (loop (certificate_Check_L14 its wt codes (x:Int)) 0=some (.inl 12)∧¬ ∀ y,y<its.length→rel its x y>0→codes.getD x 0+rel its x y-1≤codes.getD y 0):=by
  have hl:=hG.job.len;have hcl:=hG.cl;obtain ⟨d,h1,h2⟩:=loop_inv (step:=certificate_Check_L14 its wt codes (x:Int)) (fun s=>∃ t:Nat,s=(t:Int)∧t≤its.length∧∀ y,y<t→rel its x y>0→codes.getD x 0+rel its x y-1≤codes.getD y 0) (fun s=>its.length-s.toNat)
    (fun d=>(d=.inr ()∧∀ y,y<its.length→rel its x y>0→codes.getD x 0+rel its x y-1≤codes.getD y 0)∨(d=.inl 12∧¬ ∀ y,y<its.length→rel its x y>0→codes.getD x 0+rel its x y-1≤codes.getD y 0)) (by
    rintro _ ⟨t,rfl,ht,hall⟩;unfold certificate_Check_L14;simp only
    by_cases h:t<its.length
    · have hrr:=rel_range its x t;rw [if_pos (dpos (by omega)),Relation_good hG.job x t hx h];simp only [obind,bne_self_eq_false,Bool.false_eq_true,if_false];rw [wr_id (n:=(t:Int)+1) (by omega) (by omega)]
      by_cases hr:rel its x t>0
      · have hcx:=codes_small hG x;rw [if_pos (dpos hr),idx_getD (by omega)];simp only [obind];rw [idx_getD (by omega)];simp only [obind];rw [wr_id (n:=codes.getD x 0+rel its x t) (by omega) (by omega),wr_id (n:=codes.getD x 0+rel its x t-1) (by omega) (by omega)]
        by_cases hgt:codes.getD x 0+rel its x t-1>codes.getD t 0
        · rw [if_pos (dpos hgt)];exact .inr ⟨_,rfl,.inr ⟨rfl,fun q=>by have:=q t h hr; omega⟩⟩
        · rw [if_neg (dneg hgt)];refine .inl ⟨_,rfl,⟨t+1,rfl,by omega,fun y hy hyr=>?_⟩,by omega⟩
          by_cases e:y=t
          · subst e; omega
          · exact hall y (by omega) hyr
      · rw [if_neg (dneg hr)];refine .inl ⟨_,rfl,⟨t+1,rfl,by omega,fun y hy hyr=>?_⟩,by omega⟩
        by_cases e:y=t
        · subst e; omega
        · exact hall y (by omega) hyr
    · rw [if_neg (dneg (by omega))];have:t=its.length:=by omega
      subst this;exact .inr ⟨_,rfl,.inl ⟨rfl,hall⟩⟩) 0 ⟨0,rfl,by omega,fun y h=>by omega⟩ (by simp; omega)
  rcases h2 with ⟨rfl,h2⟩ | ⟨rfl,h2⟩
  · exact .inl ⟨h1,h2⟩
  · exact .inr ⟨h1,h2⟩
theorem CC12_ok:(loop (certificate_Check_L12 its wt codes) 0=some (.inr ())∧RelOK its codes)∨(loop (certificate_Check_L12 its wt codes) 0=some (.inl 12)∧¬ RelOK its codes):=by
  have hl:=hG.job.len;obtain ⟨d,h1,h2⟩:=loop_inv (step:=certificate_Check_L12 its wt codes) (fun s=>∃ t:Nat,s=(t:Int)∧t≤its.length∧∀ x,x<t→∀ y,y<its.length→rel its x y>0→codes.getD x 0+rel its x y-1≤codes.getD y 0) (fun s=>its.length-s.toNat)
    (fun d=>(d=.inr ()∧RelOK its codes)∨(d=.inl 12∧¬ RelOK its codes)) (by
    rintro _ ⟨t,rfl,ht,hall⟩;unfold certificate_Check_L12;simp only
    by_cases h:t<its.length
    · rw [if_pos (dpos (by omega))];rcases CC14_ok hG t h with ⟨e1,e2⟩ | ⟨e1,e2⟩
      · rw [e1];simp only [obind];rw [wr_id (n:=(t:Int)+1) (by omega) (by omega)];refine .inl ⟨_,rfl,⟨t+1,rfl,by omega,fun x hx=>?_⟩,by omega⟩
        by_cases e:x=t
        · subst e; exact e2
        · exact hall x (by omega)
      · rw [e1];exact .inr ⟨_,rfl,.inr ⟨rfl,fun q=>e2 fun y _ hr=>q t y hr⟩⟩
    · rw [if_neg (dneg (by omega))];have:t=its.length:=by omega
      subst this;exact .inr ⟨_,rfl,.inl ⟨rfl,fun x y hr=>hall x (rel_blk hr).2.1 y (rel_blk hr).2.2 hr⟩⟩) 0 ⟨0,rfl,by omega,fun x h=>by omega⟩ (by simp; omega)
  rcases h2 with ⟨rfl,h2⟩ | ⟨rfl,h2⟩
  · exact .inl ⟨h1,h2⟩
  · exact .inr ⟨h1,h2⟩
end
def Accepts (its:List Item) (wt S:Int) (codes c:List Int):Prop:=
  Good its wt S codes∧RelOK its codes∧ChainOK its c c.length∧(bdr its wt c c.length).2=0∧∃ b:Nat,(bdr its wt c c.length).1=(b:Int)∧b<4096∧LongSpec b S
theorem Make_ok0 {its:List Item}{wt:Int}(hg:JobGood its wt) :
    (∃ v S m w,IsLst its wt v∧IsMx v m∧LongSpec m S∧Accepts its wt S v w∧w.length≤41∧certificate_Make its wt=some (((S,v),w),0)∧leastcode_Least its wt=some ((S,v),0))∨
    certificate_Make its wt=some (((0,[]),[]),15):=by
  obtain ⟨p,e1,e2⟩:=Least_ok hg;obtain ⟨w,w1,w4⟩:=Witness_ok hg;unfold certificate_Make;rw [e1];simp only [obind];rw [w1];rcases e2 with ⟨v,S,m,hv,rfl,hm,hS⟩ | ⟨rfl,hs⟩
  · left;simp only [obind,bne_self_eq_false,Bool.false_eq_true,if_false];have hc:=hv.c12 hg;have hm12:m<4096:=by
      rcases hm.2 with q | ⟨y,_,q⟩
      · omega
      · have:=hc y; omega
    rcases w4 with ⟨v',hv',h0,h3⟩ | ⟨_,hs⟩
    · have e:=lst_unique (fun i=>(hg.b i).1) hv hv';subst e;rw [h0];simp only [bne_self_eq_false,Bool.false_eq_true,if_false];have hrel:RelOK its v:=fun x y hr=>lst_rel hg hv hr
      have hG:=least_good hg hv hm hS;rcases h3 with ⟨h3,h4⟩ | ⟨y0,h3,h4⟩
      · have hm0:m=0:=by
          rcases hm.2 with q | ⟨y,q,_⟩
          · exact q
          · omega
        subst hm0;refine ⟨v,S,0,w.1,hv,hm,hS,⟨hG,hrel,?_,?_,0,?_,by omega,hS⟩,?_,rfl,rfl⟩
        · rw [h4]; exact ⟨fun i h=>by simp at h,fun i h=>by simp at h⟩
        · rw [h4]; rfl
        · rw [h4]; rfl
        · rw [h4]; simp
      · obtain ⟨b1,b2,b3⟩:=wit_bound hg hv y0 (by have:=h3.1; have:=hv.len; omega);have hmx:v.getD y0 0=m:=by
          have q1:=hm.1 y0;have q0:=hc y0;rcases hm.2 with q | ⟨y,q,q2⟩
          · omega
          · have:=h3.2.1 y q;omega
        refine ⟨v,S,m,w.1,hv,hm,hS,⟨hG,hrel,?_,?_,m,?_,hm12,hS⟩,?_,rfl,rfl⟩
        · rw [h4]; exact b1
        · rw [h4,b3]
        · rw [h4,b3]; exact hmx
        · rw [h4]; exact b2
    · exact absurd hv (hs.none (fun i=>(hg.b i).1) v)
  · right;simp
theorem rlong_ok (k:Nat)(hk:k<4096):∃ d,r12_Long (k:Int)=some d∧LongSpec k d:=by
  obtain ⟨d,h1,h2⟩:=steps_loop k hk;refine ⟨d,?_,h2⟩;unfold r12_Long;have e:∀ (m:Nat) (s:Int×Int),0≤s.1→s.1<4096→loopN r12_Long_L1 m s=loopN code_Steps_L4 m s:=by
    intro m
    induction m with
    | zero=>intro s _ _; rfl
    | succ m ih=>
      rintro ⟨a,n⟩ h3 h4;simp only at h3 h4;have e1:IntKind.i64.wrap (Int.tdiv a 2)=Int.fdiv a (2 ^ (min (Int.toNat (1)) IntKind.i64.bits)):=by
        have:=pow_nat 1 (by omega);rw [show (1:Int)=((1:Nat):Int) from rfl,this,Int.fdiv_eq_ediv_of_nonneg _ (by omega),Int.tdiv_eq_ediv_of_nonneg h3,wr_id (by omega) (by omega)];rfl
      have e2:r12_Long_L1 (a,n)=code_Steps_L4 (a,n):=by
        unfold r12_Long_L1 code_Steps_L4;simp only [e1]
      simp only [loopN,e2];unfold code_Steps_L4
      by_cases h5:a>0
      · simp only;rw [if_pos (dpos h5)];simp only [Option.bind_some];have e3:0≤Int.tdiv a 2∧Int.tdiv a 2<4096:=by rw [Int.tdiv_eq_ediv_of_nonneg h3]; omega
        rw [wr_id (by omega) (by omega)] at e1;apply ih
        · simp only; rw [← e1]; exact e3.1
        · simp only; rw [← e1]; exact e3.2
      · simp only;rw [if_neg (dneg h5)];rfl
  have h3:loop r12_Long_L1 ((k:Int),0)=some d:=by
    unfold loop at h1 ⊢;rw [e _ _ (by simp only; omega) (by simp only; omega),h1]
  rw [h3];rfl
def RUp (its:List Item) (wt:Int) (d:List Int) (m:Nat) (b:Int) (y:Nat):Prop:=
  d.length=its.length∧C12 d∧IsMx d m∧(∀ z,z<its.length→(bOf its z<b∨(bOf its z=b∧z<y))→NX (need its d z) (rOf its z) wt=(d.getD z 0,0))∧(∀ z,z<its.length→¬ (bOf its z<b∨(bOf its z=b∧z<y))→d.getD z 0=0)
theorem C12.small {d:List Int}(h:C12 d):Small d:=fun x=>by have:=h x; omega
theorem need_set' {its:List Item}{d:List Int}{z y:Nat}{a:Int}(h:bOf its z≤bOf its y):need its (d.set y a) z=need its d z:=
  need_congr fun x hr=>by
    have:=(rel_blk hr).1;rw [getD_set,if_neg (fun q=>by rw [q.1] at h; omega)]
section
variable {its : List Item} {wt : Int} (hg : JobGood its wt)
include hg
theorem RL15_ok (b:Nat)(d0:List Int)(m0:Nat)(h0:RUp its wt d0 m0 (b:Int) 0) :
    ∃ d,loop (r13_Least_L15 its wt (b:Int)) (d0,(m0:Int),0)=some d∧((∃ d2 m2,d=.inr (d2,((m2:Nat):Int))∧RUp its wt d2 m2 ((b:Int)+1) 0)∨(d=.inl 15∧Stuck its wt)):=by
  have hl:=hg.len;refine loop_inv (step:=r13_Least_L15 its wt (b:Int)) (fun s=>∃ (d:List Int) (m y:Nat),s=(d,(m:Int),(y:Int))∧y≤its.length∧RUp its wt d m (b:Int) y) (fun s=>its.length-s.2.2.toNat) _ ?_ _ ⟨d0,m0,0,rfl,by omega,h0⟩ (by simp; omega);rintro _ ⟨d,m,y,rfl,hy,⟨hd,hB,hm,hq,hz⟩⟩;unfold r13_Least_L15;simp only [hd]
  by_cases h:y<its.length
  · obtain ⟨a,ha⟩:∃ a,its[y]? = some a:=⟨_,List.getElem?_eq_getElem h⟩
    have hba:bOf its y=a.2.1:=by unfold bOf; rw [ha]
    have har:rOf its y=a.2.2.1:=by unfold rOf; rw [ha]
    rw [if_pos (dpos (by omega)),idx_nat,ha];simp only [obind];rw [wr_id (n:=(y:Int)+1) (by omega) (by omega)]
    by_cases hab:a.2.1=(b:Int)
    · have hneed:0≤need its d y∧need its d y≤4096:=hB.need (its:=its) y its.length;have hr:=hg.r y;rw [if_neg (by rw [hab]; simp),base_ok wt (by omega) hd hB.small y h];simp only [obind];rw [← har,(nx_ok hneed.1 hr hg.w).2.1];simp only [obind];rcases nx_cases hneed.1 hr hg.w with ⟨q0,q1,q2⟩ | q0
      · rw [if_neg (by rw [q0]; decide),idx_getD (by omega)];simp only [obind,Int.toNat_natCast];have hz0:=hz y h (by omega);have hmx:∃ m2:Nat,(if (NX (need its d y) (rOf its y) wt).1>(m:Int) then (NX (need its d y) (rOf its y) wt).1 else (m:Int))=(m2:Int)∧IsMx (d.set y (NX (need its d y) (rOf its y) wt).1) m2:=by
          by_cases hgt:(NX (need its d y) (rOf its y) wt).1>(m:Int)
          · refine ⟨(NX (need its d y) (rOf its y) wt).1.toNat,by rw [if_pos hgt]; omega,fun z=>?_,.inr ⟨y,by rw [List.length_set]; omega,by rw [getD_set,if_pos ⟨rfl,by omega⟩]; omega⟩⟩;rw [getD_set]
            split
            · omega
            · have:=hm.1 z; omega
          · refine ⟨m,by rw [if_neg hgt],fun z=>?_,?_⟩
            · rw [getD_set]
              split
              · omega
              · exact hm.1 z
            · rcases hm.2 with e | ⟨z,e1,e2⟩
              · exact .inl e
              · by_cases e:y=z
                · subst e; left; omega
                · exact .inr ⟨z,by rw [List.length_set]; exact e1,by rw [getD_set,if_neg (fun q=>e q.1)]; exact e2⟩
        obtain ⟨m2,e1,e2⟩:=hmx;rw [e1];refine .inl ⟨_,rfl,⟨_,m2,y+1,rfl,by omega,by rw [List.length_set]; exact hd,fun z=>?_,e2,fun z hzl hzz=>?_,fun z hzl hzz=>?_⟩,by simp only; omega⟩
        · rw [getD_set]
          split
          · omega
          · exact hB z
        · have hzy:bOf its z≤bOf its y:=by omega
          rw [need_set' hzy,getD_set]
          by_cases e:y=z
          · subst e;rw [if_pos ⟨rfl,by omega⟩];exact Prod.ext rfl q0
          · rw [if_neg (fun q=>e q.1)];exact hq z hzl (by omega)
        · rw [getD_set,if_neg (fun q=>hzz (.inr ⟨by rw [← q.1]; omega,by omega⟩))];exact hz z hzl (by omega)
      · rw [if_pos (by rw [q0]; decide),q0];refine .inr ⟨_,rfl,.inr ⟨rfl,d,fun z=>z<its.length∧bOf its z<(b:Int),y,fun z hzz=>hzz.1,fun x z hzz hr=>?_,fun z hzz=>hq z hzz.1 (.inl hzz.2),h,fun x hr=>?_,q0⟩⟩
        · have:=rel_blk hr;exact ⟨this.2.1,by omega⟩
        · have:=rel_blk hr;exact ⟨this.2.1,by omega⟩
    · rw [if_pos (by simpa using hab)];refine .inl ⟨_,rfl,⟨d,m,y+1,rfl,by omega,hd,hB,hm,fun z hzl hzz=>hq z hzl ?_,fun z hzl hzz=>hz z hzl ?_⟩,by simp only; omega⟩
      · rcases hzz with e | ⟨e1,e2⟩
        · exact .inl e
        · by_cases e:z=y
          · subst e; omega
          · exact .inr ⟨e1,by omega⟩
      · omega
  · rw [if_neg (dneg (by omega))];refine .inr ⟨_,rfl,.inl ⟨d,m,rfl,hd,hB,hm,fun z hzl hzz=>hq z hzl ?_,fun z hzl hzz=>hz z hzl ?_⟩⟩
    · rcases hzz with e | ⟨_,e2⟩
      · omega
      · omega
    · omega
theorem rLeast_ok:∃ p,r13_Least its wt=some p∧LeastSpec its wt p:=by
  have hl:=hg.len;unfold r13_Least;rw [jv_same,valid_good hg];simp only [obind,bne_self_eq_false,Bool.false_eq_true,if_false];rw [if_pos (by omega)];have hrep:∀ y,(List.replicate (Int.toNat ((its.length:Nat):Int)) 0:List Int).getD y 0=0:=fun y=>by
    rw [List.getD_eq_getElem?_getD,List.getElem?_replicate]; split <;> rfl
  obtain ⟨d,h1,h2⟩:=loop_inv (step:=r13_Least_L13 its wt) (fun s=>∃ (d:List Int) (m b:Nat),s=(d,(m:Int),(b:Int))∧b≤32∧RUp its wt d m (b:Int) 0) (fun s=>32-s.2.2.toNat)
    (fun d=>(∃ d2 m2,d=.inr (d2,((m2:Nat):Int))∧RUp its wt d2 m2 32 0)∨(d=.inl 15∧Stuck its wt)) (by
    rintro _ ⟨d,m,b,rfl,hb,hd⟩;unfold r13_Least_L13;simp only
    by_cases h:b<32
    · obtain ⟨r,e1,e2⟩:=RL15_ok hg b d m hd;rw [if_pos (dpos (by omega)),e1];rcases e2 with ⟨d2,m2,rfl,e3⟩ | ⟨rfl,e3⟩
      · simp only [obind];rw [wr_id (by omega) (by omega)];exact .inl ⟨_,rfl,⟨d2,m2,b+1,rfl,by omega,e3⟩,by simp only; omega⟩
      · exact .inr ⟨_,rfl,.inr ⟨rfl,e3⟩⟩
    · rw [if_neg (dneg (by omega))];have:b=32:=by omega
      subst this;exact .inr ⟨_,rfl,.inl ⟨d,m,rfl,hd⟩⟩) ((List.replicate (Int.toNat ((its.length:Nat):Int)) 0:List Int),0,0) ⟨_,0,0,rfl,by omega,by simp,fun y=>by rw [hrep]; omega,⟨fun y=>by rw [hrep]; omega,.inl rfl⟩,fun z hz h=>by have:=hg.b z; omega,fun z hz h=>hrep z⟩ (by simp)
  rw [h1];rcases h2 with ⟨v,m,rfl,h3,h4,h5,h6,_⟩ | ⟨rfl,h3⟩
  · have hv:IsLst its wt v:=⟨h3,fun y hy=>h6 y hy (.inl (by have:=hg.b y; omega))⟩
    have hm:m<4096:=by
      rcases h5.2 with e | ⟨y,_,e⟩
      · omega
      · have:=h4 y; omega
    obtain ⟨S,e1,e2⟩:=rlong_ok m hm;simp only [obind];rw [e1];exact ⟨_,rfl,.inl ⟨v,S,m,hv,rfl,h5,e2⟩⟩
  · exact ⟨_,rfl,.inr ⟨rfl,h3⟩⟩
theorem spec_uniq {p q:(Int×List Int)×Int}(h:LeastSpec its wt p)(g:LeastSpec its wt q):p=q:=by
  rcases h with ⟨v,S,m,hv,rfl,hm,hS⟩ | ⟨rfl,hs⟩ <;> rcases g with ⟨v',S',m',hv',rfl,hm',hS'⟩ | ⟨rfl,hs'⟩
  · have e:=lst_unique (fun i=>(hg.b i).1) hv hv';subst e;have e:=hm.uniq hm';subst e;rw [long_unique hS hS']
  · exact absurd hv (hs'.none (fun i=>(hg.b i).1) v)
  · exact absurd hv' (hs.none (fun i=>(hg.b i).1) v')
  · rfl
theorem wit_same:∃ p,leastcode_Witness its wt=some p∧r13_Witness its wt=some p∧p.1.length≤1000:=by
  have hl:=hg.len;obtain ⟨⟨w,we⟩,w1,w2⟩:=Witness_ok hg;obtain ⟨p,e1,e2⟩:=rLeast_ok hg;refine ⟨_,w1,?_⟩;unfold r13_Witness;rw [e1];simp only [obind];rcases e2 with ⟨v,S,m,hv,rfl,hm,hS⟩ | ⟨rfl,hs⟩
  · have hc:=hv.c12 hg;simp only [bne_self_eq_false,Bool.false_eq_true,if_false];rcases w2 with ⟨v',hv',rfl,w3⟩ | ⟨_,hs⟩
    · have e:=lst_unique (fun i=>(hg.b i).1) hv hv';subst e;rcases back_ok wt (by omega) hv.len hc.small hg.b with ⟨q0,q⟩ | ⟨y1,q0,q⟩
      · rcases w3 with ⟨w3,w4⟩ | ⟨y0,w3,w4⟩
        · simp only at w4;subst w4;rw [q]; exact ⟨rfl,by simp⟩
        · have:=w3.1; omega
      · rcases w3 with ⟨w3,w4⟩ | ⟨y0,w3,w4⟩
        · have:=q0.1; omega
        · have e:=q0.uniq w3;subst e;simp only at w4;subst w4;rw [q];refine ⟨rfl,?_⟩;have key:∀ (f y:Nat),(down2 its v f y).length≤f+1:=by
            intro f
            induction f with
            | zero=>intro y; simp [down2]
            | succ f ih=>
              intro y;unfold down2
              split
              · have:=ih (nx2 its v y); simp only [List.length_cons]; omega
              · simp
          have:=key 40 y1;show (castL (down2 its v 40 y1).reverse).length≤1000
          rw [castL_len,List.length_reverse];omega
    · exact absurd hv (hs.none (fun i=>(hg.b i).1) v)
  · rw [if_pos (by decide)];rcases w2 with ⟨v',hv',_⟩ | ⟨w3,_⟩
    · exact absurd hv' (hs.none (fun i=>(hg.b i).1) v')
    · cases w3; exact ⟨rfl,Nat.zero_le _⟩
theorem rBound_okU (c:List Int) :
    (ChainOK its c c.length∧r13_Bound its wt c=some (bdr its wt c c.length))∨(¬ ChainOK its c c.length∧r13_Bound its wt c=some (0,1)):=by
  have hl:=hg.len;unfold r13_Bound;rw [jv_same,valid_good hg];simp only [obind,bne_self_eq_false,Bool.false_eq_true,if_false];obtain ⟨d,h1,h2⟩:=loop_inv (step:=r13_Bound_L9 its wt c) (fun s=>∃ i:Nat,s=(i:Int)∧i≤c.length∧ChainOK its c i) (fun s=>100-s.toNat)
    (fun d=>(d=.inr ()∧ChainOK its c c.length)∨(d=.inl ()∧¬ ChainOK its c c.length)) (by
    rintro _ ⟨i,rfl,hi,hC⟩;have hi33:=chain_short hg.b hC;unfold r13_Bound_L9;simp only
    by_cases h:i<c.length
    · rw [if_pos (dpos (by omega)),bd_get h];simp only [obind]
      by_cases h3:c.getD i 0<0
      · rw [if_pos (dpos h3)];exact .inr ⟨_,rfl,.inr ⟨rfl,fun q=>by have:=q.1 i h; omega⟩⟩
      rw [if_neg (dneg h3)]
      by_cases h4:c.getD i 0≥its.length
      · rw [if_pos (dpos h4)];exact .inr ⟨_,rfl,.inr ⟨rfl,fun q=>by have:=q.1 i h; omega⟩⟩
      rw [if_neg (dneg h4),wr_id (n:=(i:Int)+1) (by omega) (by omega)];have hnext:(0<i→rel its (c.getD (i-1) 0).toNat (c.getD i 0).toNat≠0)→∃ k:Nat,(i:Int)+1=(k:Int)∧k≤c.length∧ChainOK its c k:=fun hr=>by
        refine ⟨i+1,rfl,by omega,fun j hj=>?_,fun j hj=>?_⟩
        · by_cases e:j=i
          · subst e; omega
          · exact hC.1 j (by omega)
        · by_cases e:j+1=i
          · have:=hr (by omega);rw [show i-1=j by omega,← e] at this;exact this
          · exact hC.2 j (by omega)
      by_cases h5:0<i
      · obtain ⟨p0,p1⟩:=hC.1 (i-1) (by omega);rw [if_pos (dpos (by omega)),wr_id (n:=(i:Int)-1) (by omega) (by omega),show (i:Int)-1=((i-1:Nat):Int) by omega,bd_get (by omega)];simp only [obind];have hK:r11_Kind its wt (c.getD (i-1) 0) (c.getD i 0)=some (rel its (c.getD (i-1) 0).toNat (c.getD i 0).toNat):=by
          have:=kind_ok its wt (c.getD (i-1) 0).toNat (c.getD i 0).toNat (by omega) (by omega);rw [show (((c.getD (i-1) 0).toNat:Nat):Int)=c.getD (i-1) 0 by omega,show (((c.getD i 0).toNat:Nat):Int)=c.getD i 0 by omega] at this;exact this
        rw [hK];simp only [obind]
        by_cases h6:rel its (c.getD (i-1) 0).toNat (c.getD i 0).toNat=0
        · rw [if_pos (by rw [h6]; rfl)];refine .inr ⟨_,rfl,.inr ⟨rfl,fun q=>q.2 (i-1) (by omega) ?_⟩⟩;rw [show i-1+1=i by omega]; exact h6
        · rw [if_neg (by rw [beq_iff_eq]; exact h6)];exact .inl ⟨_,rfl,hnext (fun _=>h6),by omega⟩
      · rw [if_neg (dneg (by omega))];exact .inl ⟨_,rfl,hnext (fun q=>absurd q h5),by omega⟩
    · rw [if_neg (dneg (by omega))];have:i=c.length:=by omega
      subst this;exact .inr ⟨_,rfl,.inl ⟨rfl,hC⟩⟩) 0 ⟨0,rfl,by omega,⟨fun i h=>by omega,fun i h=>by omega⟩⟩ (by simp)
  rw [h1];rcases h2 with ⟨rfl,hC⟩ | ⟨rfl,hC⟩
  · have hcl:=chain_short hg.b hC;refine .inl ⟨hC,?_⟩;simp only [obind];obtain ⟨d,g1,g2⟩:=loop_inv (step:=r13_Bound_L21 its wt c) (fun s=>∃ i:Nat,s=((bdr its wt c i).1,(i:Int))∧i≤c.length∧(bdr its wt c i).2=0) (fun s=>c.length-s.2.toNat)
      (fun d=>(d=.inr (bdr its wt c c.length).1∧(bdr its wt c c.length).2=0)∨(d=.inl 15∧bdr its wt c c.length=(0,15))) (by
      rintro _ ⟨i,rfl,hi,h0⟩;unfold r13_Bound_L21;simp only
      by_cases h:i<c.length
      · rw [if_pos (dpos (by omega))];obtain ⟨p0,p1⟩:=hC.1 i h;have hbr:=bdr_range hg hC i (by omega);have hb0:0≤(bdr its wt c i).1∧(bdr its wt c i).1≤4095:=by
          rcases hbr with ⟨_,q1,q2⟩ | q
          · exact ⟨q1,q2⟩
          · rw [q] at h0; exact absurd h0 (by decide)
        have hstep:∀ n:Int,n=(bdr its wt c i).1+(if 0<i then rel its (c.getD (i-1) 0).toNat (c.getD i 0).toNat-1 else 0)→0≤n→
            ((∃ s',r13_Bound_J23 its wt c (i:Int) n=some (.next s')∧(∃ k:Nat,s'=((bdr its wt c k).1,(k:Int))∧k≤c.length∧(bdr its wt c k).2=0)∧c.length-s'.2.toNat<c.length-((i:Int)).toNat)∨
             (∃ d,r13_Bound_J23 its wt c (i:Int) n=some (.done d)∧((d=.inr (bdr its wt c c.length).1∧(bdr its wt c c.length).2=0)∨(d=.inl 15∧bdr its wt c c.length=(0,15))))):=by
          intro n hn hn0;have hb1:bdr its wt c (i+1)=NX n (rOf its (c.getD i 0).toNat) wt:=by
            rw [hn]
            conv=>lhs; unfold bdr
            rw [if_neg (by simp [h0])]
          obtain ⟨a,ha⟩:∃ a,its[(c.getD i 0).toNat]? = some a:=⟨_,List.getElem?_eq_getElem (by omega)⟩
          have har:rOf its (c.getD i 0).toNat=a.2.2.1:=by unfold rOf; rw [ha]
          have hix:idx its (c.getD i 0)=some a:=by rw [show c.getD i 0=(((c.getD i 0).toNat:Nat):Int) by omega,idx_nat]; simpa using ha
          have hr:=hg.r (c.getD i 0).toNat;unfold r13_Bound_J23;rw [bd_get h];simp only [obind];rw [hix];simp only [obind];rw [← har,(nx_ok hn0 hr hg.w).2.1];simp only [obind];rw [wr_id (n:=(i:Int)+1) (by omega) (by omega)];rcases nx_cases hn0 hr hg.w with ⟨q0,q1,q2⟩ | q0
          · rw [if_neg (by rw [q0]; decide)];refine .inl ⟨_,rfl,⟨i+1,by rw [hb1]; rfl,by omega,by rw [hb1]; exact q0⟩,by simp only; omega⟩
          · rw [if_pos (by rw [q0]; rfl),q0];refine .inr ⟨_,rfl,.inr ⟨rfl,?_⟩⟩;rw [q0] at hb1;have hst:∀ k,bdr its wt c (i+1+k)=(0,15):=by
              intro k
              induction k with
              | zero=>exact hb1
              | succ k ih=>
                show bdr its wt c ((i+1+k)+1)=(0,15)
                unfold bdr;rw [ih];rfl
            have:=hst (c.length-(i+1));rw [show i+1+(c.length-(i+1))=c.length by omega] at this;exact this
        by_cases h5:0<i
        · obtain ⟨p2,p3⟩:=hC.1 (i-1) (by omega);have hrp:=hC.rel_pos (i:=i-1) (by omega);have hrr:=rel_range its (c.getD (i-1) 0).toNat (c.getD i 0).toNat;rw [show i-1+1=i by omega] at hrp;rw [if_pos (dpos (by omega)),wr_id (n:=(i:Int)-1) (by omega) (by omega),show (i:Int)-1=((i-1:Nat):Int) by omega,bd_get (by omega)];simp only [obind];rw [bd_get h];simp only [obind];have hK:r11_Strict its wt (c.getD (i-1) 0) (c.getD i 0)=some (str its (c.getD (i-1) 0).toNat (c.getD i 0).toNat):=by
            have:=strict_ok its wt (c.getD (i-1) 0).toNat (c.getD i 0).toNat (by omega) (by omega);rw [show (((c.getD (i-1) 0).toNat:Nat):Int)=c.getD (i-1) 0 by omega,show (((c.getD i 0).toNat:Nat):Int)=c.getD i 0 by omega] at this;exact this
          rw [hK];simp only [obind];rw [str_eq hrp,wr_id (n:=(bdr its wt c i).1+(rel its (c.getD (i-1) 0).toNat (c.getD i 0).toNat-1)) (by omega) (by omega)];exact hstep _ (by rw [if_pos h5]) (by omega)
        · rw [if_neg (dneg (by omega))];exact hstep _ (by rw [if_neg h5]; omega) (by omega)
      · rw [if_neg (dneg (by omega))];have:i=c.length:=by omega
        subst this;exact .inr ⟨_,rfl,.inl ⟨rfl,h0⟩⟩) (0,0) ⟨0,rfl,by omega,rfl⟩ (by simp; omega)
    rw [g1];rcases g2 with ⟨rfl,q⟩ | ⟨rfl,q⟩
    · simp only [obind]
      congr 1
      exact Prod.ext rfl q.symm
    · simp only [obind];rw [q]
  · exact .inr ⟨hC,rfl⟩
end
section
variable {its : List Item} {wt S : Int} {codes : List Int} (hG : Good its wt S codes)
include hG
theorem RC14_ok (x:Nat)(hx:x<its.length):(loop (r15_Check_L14 its wt codes (x:Int)) 0=some (.inr ())∧∀ y,y<its.length→rel its x y>0→codes.getD x 0+rel its x y-1≤codes.getD y 0)∨
    (loop (r15_Check_L14 its wt codes (x:Int)) 0=some (.inl ())∧¬ ∀ y,y<its.length→rel its x y>0→codes.getD x 0+rel its x y-1≤codes.getD y 0):=by
  have hl:=hG.job.len;have hcl:=hG.cl;obtain ⟨d,h1,h2⟩:=loop_inv (step:=r15_Check_L14 its wt codes (x:Int)) (fun s=>∃ t:Nat,s=(t:Int)∧t≤its.length∧∀ y,y<t→rel its x y>0→codes.getD x 0+rel its x y-1≤codes.getD y 0) (fun s=>its.length-s.toNat)
    (fun d=>(d=.inr ()∧∀ y,y<its.length→rel its x y>0→codes.getD x 0+rel its x y-1≤codes.getD y 0)∨(d=.inl ()∧¬ ∀ y,y<its.length→rel its x y>0→codes.getD x 0+rel its x y-1≤codes.getD y 0)) (by
    rintro _ ⟨t,rfl,ht,hall⟩;unfold r15_Check_L14;simp only [hcl]
    by_cases h:t<its.length
    · have hrr:=rel_range its x t;rw [if_pos (dpos (by omega)),kind_ok its wt x t hx h];simp only [obind];rw [wr_id (n:=(t:Int)+1) (by omega) (by omega)]
      by_cases hr:rel its x t>0
      · have hcx:=codes_small hG x;have hsr:=str_range its x t;rw [if_pos (dpos hr),idx_getD (by omega)];simp only [obind];rw [idx_getD (by omega)];simp only [obind];rw [strict_ok its wt x t hx h];simp only [obind];rw [wr_id (n:=codes.getD x 0+str its x t) (by omega) (by omega),str_eq hr]
        by_cases hgt:codes.getD x 0+(rel its x t-1)>codes.getD t 0
        · rw [if_pos (dpos hgt)];exact .inr ⟨_,rfl,.inr ⟨rfl,fun q=>by have:=q t h hr; omega⟩⟩
        · rw [if_neg (dneg hgt)];refine .inl ⟨_,rfl,⟨t+1,rfl,by omega,fun y hy hyr=>?_⟩,by omega⟩
          by_cases e:y=t
          · subst e; omega
          · exact hall y (by omega) hyr
      · rw [if_neg (dneg hr)];refine .inl ⟨_,rfl,⟨t+1,rfl,by omega,fun y hy hyr=>?_⟩,by omega⟩
        by_cases e:y=t
        · subst e; omega
        · exact hall y (by omega) hyr
    · rw [if_neg (dneg (by omega))];have:t=its.length:=by omega
      subst this;exact .inr ⟨_,rfl,.inl ⟨rfl,hall⟩⟩) 0 ⟨0,rfl,by omega,fun y h=>by omega⟩ (by simp; omega)
  rcases h2 with ⟨rfl,h2⟩ | ⟨rfl,h2⟩
  · exact .inl ⟨h1,h2⟩
  · exact .inr ⟨h1,h2⟩
theorem RC12_ok:(loop (r15_Check_L12 its wt codes) 0=some (.inr ())∧RelOK its codes)∨(loop (r15_Check_L12 its wt codes) 0=some (.inl ())∧¬ RelOK its codes):=by
  have hl:=hG.job.len;have hcl:=hG.cl;obtain ⟨d,h1,h2⟩:=loop_inv (step:=r15_Check_L12 its wt codes) (fun s=>∃ t:Nat,s=(t:Int)∧t≤its.length∧∀ x,x<t→∀ y,y<its.length→rel its x y>0→codes.getD x 0+rel its x y-1≤codes.getD y 0) (fun s=>its.length-s.toNat)
    (fun d=>(d=.inr ()∧RelOK its codes)∨(d=.inl ()∧¬ RelOK its codes)) (by
    rintro _ ⟨t,rfl,ht,hall⟩;unfold r15_Check_L12;simp only [hcl]
    by_cases h:t<its.length
    · rw [if_pos (dpos (by omega))];rcases RC14_ok hG t h with ⟨e1,e2⟩ | ⟨e1,e2⟩
      · rw [e1];simp only [obind];rw [wr_id (n:=(t:Int)+1) (by omega) (by omega)];refine .inl ⟨_,rfl,⟨t+1,rfl,by omega,fun x hx=>?_⟩,by omega⟩
        by_cases e:x=t
        · subst e; exact e2
        · exact hall x (by omega)
      · rw [e1];exact .inr ⟨_,rfl,.inr ⟨rfl,fun q=>e2 fun y _ hr=>q t y hr⟩⟩
    · rw [if_neg (dneg (by omega))];have:t=its.length:=by omega
      subst this;exact .inr ⟨_,rfl,.inl ⟨rfl,fun x y hr=>hall x (rel_blk hr).2.1 y (rel_blk hr).2.2 hr⟩⟩) 0 ⟨0,rfl,by omega,fun x h=>by omega⟩ (by simp; omega)
  rcases h2 with ⟨rfl,h2⟩ | ⟨rfl,h2⟩
  · exact .inl ⟨h1,h2⟩
  · exact .inr ⟨h1,h2⟩
end
theorem Check_ok (its:List Item)(wt S:Int)(codes c:List Int)(hcl:codes.length<4611686018427387904∨its.length≤1000):∃ e,certificate_Check its wt S codes c=some e∧r15_Check its wt S codes c=some e∧(e=0↔Accepts its wt S codes c)∧
    (Good its wt S codes→¬ RelOK its codes→e=12)∧(JobGood its wt→¬ Good its wt S codes→e=1):=by
  obtain ⟨e0,he0,hj0⟩:=jobvalid_spec its wt;rcases hj0 with ⟨rfl,hj0⟩ | ⟨hne,hj0⟩
  rotate_left
  · have hb:(e0 != 0)=true:=bne_iff_ne.2 hne;have h1:rollin_Valid its wt S codes=some e0:=by unfold rollin_Valid; rw [he0]; simp only [obind,hb,if_true]
    have h2:r14_Valid its wt S codes=some e0:=by unfold r14_Valid; rw [jv_same,he0]; simp only [obind,hb,if_true]
    unfold certificate_Check r15_Check;rw [h1,h2];simp only [obind,hb,if_true];exact ⟨_,rfl,rfl,⟨fun q=>absurd q hne,fun q=>absurd q.1.job hj0⟩,fun q=>absurd q.job hj0,fun q=>absurd q hj0⟩
  have hlen:=hj0.len
  by_cases hbig:codes.length<4611686018427387904
  rotate_left
  · -- codes too many: the lengths differ
    have hne2:((codes.length:Int)!=(its.length:Int))=true:=by rw [bne_iff_ne]; omega
    have hng:¬ Good its wt S codes:=fun q=>by have:=q.cl; omega
    have h1:rollin_Valid its wt S codes=some 1:=by
      unfold rollin_Valid; rw [he0];simp only [obind,bne_self_eq_false,Bool.false_eq_true,if_false]
      split
      · rfl
      · split
        · rfl
        · first | rfl | rw [if_pos hne2]
    have h2:r14_Valid its wt S codes=some 1:=by
      unfold r14_Valid; rw [jv_same,he0];simp only [obind,bne_self_eq_false,Bool.false_eq_true,if_false]
      split
      · rfl
      · split
        · rfl
        · first | rfl | rw [if_pos hne2]
    unfold certificate_Check r15_Check;rw [h1,h2];exact ⟨1,rfl,rfl,⟨fun q=>(by cases q),fun q=>absurd q.1 hng⟩,fun q=>absurd q hng,fun _ _=>rfl⟩
  obtain ⟨e,h1,h2,hv⟩:=valid_spec14 its wt S codes hbig (by omega);rcases hv with ⟨rfl,hG⟩ | ⟨hne,hng,he1⟩
  rotate_left
  · have hb:(e != 0)=true:=bne_iff_ne.2 hne;unfold certificate_Check r15_Check;rw [h1,h2];simp only [obind,hb,if_true];exact ⟨_,rfl,rfl,⟨fun q=>absurd q hne,fun q=>absurd q.1 hng⟩,fun q=>absurd q hng,fun q _=>he1 q⟩
  unfold certificate_Check r15_Check;rw [h1,h2];simp only [obind,bne_self_eq_false,Bool.false_eq_true,if_false];rcases CC12_ok hG with ⟨c1,c2⟩ | ⟨c1,c2⟩ <;> rcases RC12_ok hG with ⟨r1,r2⟩ | ⟨r1,r2⟩
  · rw [c1,r1];simp only [obind];rcases Bound_okU hj0 c with ⟨b1,b2⟩ | ⟨b1,b2⟩ <;> rcases rBound_okU hj0 c with ⟨d1,d2⟩ | ⟨d1,d2⟩
    · rw [b2,d2];simp only [obind];rcases bdr_range hj0 b1 c.length (Nat.le_refl _) with ⟨q0,q1,q2⟩ | q0
      · obtain ⟨T,t1,t2⟩:=steps_ok (bdr its wt c c.length).1.toNat (by omega);obtain ⟨T',u1,u2⟩:=rlong_ok (bdr its wt c c.length).1.toNat (by omega);have eT:=long_unique t2 u2;subst eT;rw [show (((bdr its wt c c.length).1.toNat:Nat):Int)=(bdr its wt c c.length).1 by omega] at t1 u1;rw [if_neg (by rw [q0]; decide),if_neg (by rw [q0]; decide),t1,u1];simp only [obind,bne_self_eq_false,Bool.false_eq_true,if_false]
        by_cases hT:T=S
        · subst hT;rw [if_neg (by simp)];exact ⟨0,rfl,rfl,⟨fun _=>⟨hG,c2,b1,q0,(bdr its wt c c.length).1.toNat,by omega,by omega,t2⟩,fun _=>rfl⟩,fun _ q=>absurd c2 q,fun _ q=>absurd hG q⟩
        · rw [if_pos (bne_iff_ne.2 hT)];refine ⟨17,rfl,rfl,⟨fun q=>(by cases q),?_⟩,fun _ q=>absurd c2 q,fun _ q=>absurd hG q⟩;rintro ⟨_,_,_,_,b,w1,w2,w3⟩;rw [w1,Int.toNat_natCast] at t2;exact absurd (long_unique t2 w3) hT
      · rw [q0,if_pos (by decide)];refine ⟨15,rfl,rfl,⟨fun q=>(by cases q),?_⟩,fun _ q=>absurd c2 q,fun _ q=>absurd hG q⟩;rintro ⟨_,_,_,w,_⟩;rw [q0] at w;exact absurd w (by decide)
    · exact absurd b1 d1
    · exact absurd d1 b1
    · rw [b2,d2];simp only [obind];rw [if_pos (by decide)];exact ⟨1,rfl,rfl,⟨fun q=>(by cases q),fun q=>absurd q.2.2.1 b1⟩,fun _ q=>absurd c2 q,fun _ q=>absurd hG q⟩
  · exact absurd c2 r2
  · exact absurd r2 c2
  · rw [c1,r1];exact ⟨12,rfl,rfl,⟨fun q=>(by cases q),fun q=>absurd q.2.1 c2⟩,fun _ _=>rfl,fun _ q=>absurd hG q⟩
theorem rMake_same {its:List Item}{wt:Int}(hg:JobGood its wt):r15_Make its wt=certificate_Make its wt:=by
  obtain ⟨p,e1,e2⟩:=Least_ok hg;obtain ⟨q,f1,f2⟩:=rLeast_ok hg;have e:=spec_uniq hg e2 f2;subst e;obtain ⟨w,w1,w2,_⟩:=wit_same hg;obtain ⟨w',w3,w4⟩:=Witness_ok hg;rw [w1] at w3;cases w3;unfold certificate_Make r15_Make;rw [e1,f1];simp only [obind];rw [w1,w2];rcases e2 with ⟨v,S,m,hv,rfl,hm,hS⟩ | ⟨rfl,hs⟩
  · simp only [obind,bne_self_eq_false,Bool.false_eq_true,if_false];rcases w4 with ⟨v',hv',h0,h3⟩ | ⟨_,hs⟩
    · rw [h0]; rfl
    · exact absurd hv (hs.none (fun i=>(hg.b i).1) v)
  · rfl
theorem Pushes_ok' {its:List Item}{wt S:Int}{codes:List Int}(hg:Good its wt S codes):rollin_Pushes its wt S codes=some ((((yard its S codes).pushes (S.toNat+1):Nat):Int),0):=by
  unfold rollin_Pushes;rw [valid_ok hg];simp only [obind,bne_self_eq_false,Bool.false_eq_true,if_false];have h:=run_ok hg S.toNat (Nat.le_refl _);rw [Int.toNat_of_nonneg hg.st.1] at h;rw [h];rfl
def scOf (its:List Item) (wt S:Int) (v:List Int):Sc:=(wt,S,(((yard its S v).moves (S.toNat+1):Nat):Int),(((yard its S v).pushes (S.toNat+1):Nat):Int))
def HasPlan (its:List Item) (wt S:Int) (v:List Int):Prop:=∃ m,IsLst its wt v∧IsMx v m∧LongSpec m S∧Good its wt S v
theorem sch_cases {its:List Item}{wt:Int}(hg:JobGood its wt) :
    (∃ S v,HasPlan its wt S v∧leastcode_Least its wt=some ((S,v),0)∧planner_scheme its wt=some (scOf its wt S v,(S,v),true))∨
    (Stuck its wt∧leastcode_Least its wt=some ((0,[]),15)∧planner_scheme its wt=some ((0,0,0,0),(0,[]),false)):=by
  obtain ⟨p,e1,e2⟩:=Least_ok hg;rcases e2 with ⟨v,S,m,hv,rfl,hm,hS⟩ | ⟨rfl,hs⟩
  · left;have hG:=least_good hg hv hm hS;refine ⟨S,v,⟨m,hv,hm,hS,hG⟩,e1,?_⟩;unfold planner_scheme;rw [e1];simp only [obind,bne_self_eq_false,Bool.false_eq_true,if_false];rw [Run_ok hG];simp only [obind,bne_self_eq_false,Bool.false_eq_true,if_false];rw [Pushes_ok' hG];rfl
  · right;refine ⟨hs,e1,?_⟩;unfold planner_scheme;rw [e1]; rfl
theorem rLeast_same {its:List Item}{wt:Int}(hg:JobGood its wt):r13_Least its wt=leastcode_Least its wt:=by
  obtain ⟨p,e1,e2⟩:=Least_ok hg;obtain ⟨q,f1,f2⟩:=rLeast_ok hg;have e:=spec_uniq hg e2 f2;subst e;rw [e1,f1]
theorem rAt_plan {its:List Item}{wt S:Int}{v:List Int}(hP:HasPlan its wt S v):∃ A B,r14_At its wt S v S=some (A,B,(scOf its wt S v).2.2.1,(scOf its wt S v).2.2.2):=by
  obtain ⟨_,_,_,_,hG⟩:=hP;have h:=At_ok hG S.toNat (Nat.le_refl _);rw [Int.toNat_of_nonneg hG.st.1] at h;exact ⟨_,_,h⟩
noncomputable def schO (its:List Item) (wt:Int):Option Sc:=(planner_scheme its wt).bind fun p=>if p.2.2=true then some p.1 else none
theorem sc_sm {its:List Item}{wt S:Int}{v:List Int}(h:Good its wt S v):SmS (scOf its wt S v):=by
  have h1:=h.job.w;have h2:=h.st;have h3:=h.job.len;have h4:(yard its S v).moves (S.toNat+1)≤2*its.length*(S.toNat+1):=(yard its S v).moves_le (k:=S.toNat+1) (Nat.le_refl _);have h5:2*its.length*(S.toNat+1)≤192*13:=Nat.mul_le_mul (by omega) (by omega);refine ⟨⟨h1.1,?_⟩,⟨h2.1,?_⟩,?_,?_⟩
  · show wt≤1000000000; omega
  · show S≤1000000000; omega
  · show (0:Int)≤(((yard its S v).moves (S.toNat+1):Nat):Int); omega
  · show (((yard its S v).moves (S.toNat+1):Nat):Int)≤1000000000; omega
theorem schO_some {its:List Item}{wt S:Int}{v:List Int}(h:planner_scheme its wt=some (scOf its wt S v,(S,v),true)):schO its wt=some (scOf its wt S v):=by
  unfold schO; rw [h]; rfl
theorem schO_none {its:List Item}{wt:Int}(h:planner_scheme its wt=some ((0,0,0,0),(0,[]),false)):schO its wt=none:=by
  unfold schO; rw [h]; rfl
def ws4:List Int:=[0,1,2,12]
theorem ws4_mem {w:Int}(h:w∈ws4):0≤w∧w≤12:=by
  simp only [ws4,List.mem_cons,List.not_mem_nil,or_false] at h; omega
theorem good_w {its:List Item}{wt:Int}(h:JobGood its wt){w:Int}(hw:0≤w∧w≤12):JobGood its w:=⟨h.len,hw,h.it,h.asc⟩
noncomputable def schL (its:List Item):List Sc:=ws4.filterMap (schO its)
theorem schO_is {its:List Item}(h:JobGood its 0){w:Int}(hw:w∈ws4){s:Sc}(hs:schO its w=some s):∃ S v,s=scOf its w S v∧HasPlan its w S v∧leastcode_Least its w=some ((S,v),0):=by
  rcases sch_cases (good_w h (ws4_mem hw)) with ⟨S,v,a,b,d⟩ | ⟨a,b,d⟩
  · rw [schO_some d] at hs; cases hs; exact ⟨S,v,rfl,a,b⟩
  · rw [schO_none d] at hs; cases hs
theorem schL_mem {its:List Item}(h:JobGood its 0){s:Sc}(hs:s∈schL its):∃ w S v,w∈ws4∧s=scOf its w S v∧HasPlan its w S v∧leastcode_Least its w=some ((S,v),0):=by
  obtain ⟨w,hw,hs⟩:=List.mem_filterMap.1 hs;obtain ⟨S,v,a⟩:=schO_is h hw hs;exact ⟨w,S,v,hw,a⟩
theorem schL_sm {its:List Item}(h:JobGood its 0){s:Sc}(hs:s∈schL its):SmS s:=by
  obtain ⟨w,S,v,_,rfl,⟨_,_,_,_,hG⟩,_⟩:=schL_mem h hs;exact sc_sm hG
theorem schL_len (its:List Item):(schL its).length≤4:=List.length_filterMap_le _ _
theorem fm_take {its:List Item}{i:Nat}(hi:i<ws4.length):(ws4.take (i+1)).filterMap (schO its)=(ws4.take i).filterMap (schO its)++(match schO its (ws4[i]'hi) with | some s=>[s] | none=>[]):=by
  rw [List.take_succ_eq_append_getElem hi,List.filterMap_append]
  congr 1
  cases h:schO its (ws4[i]'hi) <;> simp [h]
theorem fm_len (its:List Item)(i:Nat):((ws4.take i).filterMap (schO its)).length≤4:=Nat.le_trans (List.length_filterMap_le _ _) (by rw [List.length_take]; exact Nat.min_le_right _ _)
noncomputable def schR (its:List Item):List Sc×Int:=if schL its=[] then ([],15) else (insAll (schL its),0)
theorem Schemes_ok {its:List Item}(h:JobGood its 0):planner_Schemes its=some (schR its):=by
  obtain ⟨e,he,hj⟩:=jobvalid_spec its 0;obtain rfl:e=0:=by
    rcases hj with ⟨rfl,_⟩ | ⟨_,q⟩
    · rfl
    · exact absurd h q
  unfold planner_Schemes;rw [he];simp only [obind,bne_self_eq_false,Bool.false_eq_true,if_false];obtain ⟨d,hd,rfl⟩:=loop_inv (step:=planner_Schemes_L6 its) (fun p=>∃ i:Nat,p=((ws4.take i).filterMap (schO its),(i:Int))∧i≤4) (fun p=>4-p.2.toNat) (fun d=>d=schL its) (by
    rintro _ ⟨i,rfl,hi⟩;unfold planner_Schemes_L6;dsimp only
    by_cases c0:i<4
    · have c:i<ws4.length:=c0;have hm:ws4[i]'c∈ws4:=List.getElem_mem c;have hl:=fm_len its i;rw [if_pos (dpos (by omega)),show ([0,1,2,12]:List Int)=ws4 from rfl,idx_nat,List.getElem?_eq_getElem c];simp only [obind];have hft:=fm_take (its:=its) c;rcases sch_cases (good_w h (ws4_mem hm)) with ⟨S,v,_,_,q⟩ | ⟨_,_,q⟩
      · rw [schO_some q] at hft;rw [q];simp only [obind];rw [if_pos trivial,if_pos (by simp only [List.length_singleton]; omega),lk1 (by omega)];exact .inl ⟨_,rfl,⟨i+1,by rw [hft],by omega⟩,by dsimp only; omega⟩
      · rw [schO_none q] at hft;rw [q];simp only [obind];rw [if_neg (by simp),lk1 (by omega)];exact .inl ⟨_,rfl,⟨i+1,by rw [hft,List.append_nil],by omega⟩,by dsimp only; omega⟩
    · obtain rfl:i=4:=by omega
      exact .inr ⟨_,if_neg (dneg (by omega)),rfl⟩) ([],0) ⟨0,rfl,by omega⟩ (by dsimp only; omega)
  rw [hd];simp only [obind];unfold schR
  by_cases c:schL its=[]
  · rw [if_pos c,c]; rfl
  · have hl:=schL_len its;have hp:0<(schL its).length:=List.length_pos_iff.2 c;rw [if_neg c,if_neg (by simpa using (by omega:¬ ((schL its).length:Int)=0)),sort_ok _ (by omega) c fun s hs=>schL_sm h hs];simp only [obind];rw [if_pos (insAll_len _ _ rfl)]
theorem Schemes_bad {its:List Item}(h:¬ JobGood its 0):∃ e,e≠0∧job_Valid its 0=some e∧planner_Schemes its=some ([],e):=by
  obtain ⟨e,he,hj⟩:=jobvalid_spec its 0;have hne:e≠0:=by
    rcases hj with ⟨_,q⟩ | ⟨q,_⟩
    · exact absurd q h
    · exact q
  refine ⟨e,hne,he,?_⟩;unfold planner_Schemes;rw [he];simp only [obind];rw [if_pos (by simpa using hne)]
theorem rSchemes_bad {its:List Item}{e:Int}(he:job_Valid its 0=some e)(hne:e≠0):r17_Schemes its=some ([],e):=by
  unfold r17_Schemes;rw [jv_same,he];simp only [obind];rw [if_pos (by simpa using hne)]
theorem before_ok {a b:Sc}:r17_before a.1 a.2.1 a.2.2.1 a.2.2.2 b.1 b.2.1 b.2.2.1 b.2.2.2=some (decide (bef a b)):=by
  unfold r17_before bef
  by_cases c1:a.2.1=b.2.1
  · rw [if_neg (by simpa using c1)]
    by_cases c2:a.2.2.1=b.2.2.1
    · rw [if_neg (by simpa using c2)];exact congrArg some (decide_eq_decide.2 (by omega))
    · rw [if_pos (by simpa using c2)];exact congrArg some (decide_eq_decide.2 (by omega))
  · rw [if_pos (by simpa using c1)];exact congrArg some (decide_eq_decide.2 (by omega))
theorem splace_ok (s:Sc)(d:List Sc)(hl:d.length≤1000)(wt S:Int)(P:(Int×List Int)×Int)(A:(List (List Int))×(List (List Int))×Int×Int)(hs:s=(wt,P.1.1,A.2.2.1,A.2.2.2)) :
    ∃ k:Nat,loop (r17_Schemes_L37 d wt P A) (d.length:Int)=some (k:Int)∧k≤d.length∧d.take k++s::d.drop k=insr s d:=by
  obtain ⟨r,hr,k,rfl,h⟩:=loop_inv (step:=r17_Schemes_L37 d wt P A) (fun p=>∃ k:Nat,p=(k:Int)∧k≤d.length∧insr s (d.take k)++d.drop k=insr s d) (fun p=>p.toNat) (fun r=>∃ k:Nat,r=(k:Int)∧k≤d.length∧d.take k++s::d.drop k=insr s d) (by
    rintro _ ⟨k,rfl,hk,he⟩;unfold r17_Schemes_L37;dsimp only
    by_cases c:k=0
    · subst c;rw [if_neg (dneg (by simp))];exact .inr ⟨_,rfl,0,rfl,by omega,by rw [← he]; rfl⟩
    · obtain ⟨j,rfl⟩:∃ j,k=j+1:=⟨k-1,by omega⟩
      have hj:j<d.length:=by omega
      have w1:IntKind.i64.wrap (((j+1:Nat):Int)-1)=(j:Int):=by rw [wr_id (by omega) (by omega)]; omega
      rw [if_pos (dpos (by omega)),w1,idx_nat,List.getElem?_eq_getElem hj];simp only [obind];have hb:=before_ok (a:=s) (b:=d[j]);rw [hs] at hb;dsimp only at hb;rw [hb];simp only [obind];rw [← hs] at *
      rw [List.take_succ_eq_append_getElem hj,insr_snoc] at he
      by_cases q:bef s d[j]
      · rw [if_pos q] at he;rw [if_pos (by simpa using q)];refine .inl ⟨_,rfl,⟨j,rfl,by omega,?_⟩,by omega⟩;rw [← he,List.drop_eq_getElem_cons hj]; simp
      · rw [if_neg q] at he;rw [if_neg (by simpa using q)];refine .inr ⟨_,rfl,j+1,rfl,hk,?_⟩;rw [← he,List.take_succ_eq_append_getElem hj,List.append_assoc,List.append_assoc]; rfl) (d.length:Int) ⟨d.length,rfl,Nat.le_refl _,by simp⟩ (by omega)
  exact ⟨k,hr,h⟩
theorem rSchemes_ok {its:List Item}(h:JobGood its 0):r17_Schemes its=some (schR its):=by
  obtain ⟨e,he,hj⟩:=jobvalid_spec its 0;obtain rfl:e=0:=by
    rcases hj with ⟨rfl,_⟩ | ⟨_,q⟩
    · rfl
    · exact absurd h q
  unfold r17_Schemes;rw [jv_same,he];simp only [obind,bne_self_eq_false,Bool.false_eq_true,if_false];obtain ⟨d,hd,rfl⟩:=loop_inv (step:=r17_Schemes_L8 its) (fun p=>∃ i:Nat,p=(insAll ((ws4.take i).filterMap (schO its)),(i:Int))∧i≤4) (fun p=>4-p.2.toNat) (fun d=>d=insAll (schL its)) (by
    rintro _ ⟨i,rfl,hi⟩;unfold r17_Schemes_L8;dsimp only
    by_cases c0:i<4
    · have c:i<ws4.length:=c0;have hm:ws4[i]'c∈ws4:=List.getElem_mem c;have hl:=fm_len its i;have hil:=insAll_len _ ((ws4.take i).filterMap (schO its)) rfl;rw [if_pos (dpos (by simp; omega)),show ([0,1,2,12]:List Int)=ws4 from rfl,idx_nat,List.getElem?_eq_getElem c];simp only [obind];have hft:=fm_take (its:=its) c;rcases sch_cases (good_w h (ws4_mem hm)) with ⟨S,v,hP,q0,q⟩ | ⟨_,q0,q⟩
      · obtain ⟨A,B,q2⟩:=rAt_plan hP;rw [schO_some q] at hft;rw [rLeast_same (good_w h (ws4_mem hm)),q0];simp only [obind];rw [if_neg (by simp),q2];simp only [obind];obtain ⟨k,hk,hkl,hins⟩:=splace_ok (scOf its (ws4[i]'c) S v) (insAll ((ws4.take i).filterMap (schO its))) (by omega) (ws4[i]'c) S ((S,v),0) (A,B,(scOf its (ws4[i]'c) S v).2.2.1,(scOf its (ws4[i]'c) S v).2.2.2) rfl;rw [hk];simp only [obind];unfold r17_Schemes_J36;have t1:(insAll ((ws4.take i).filterMap (schO its))).length≤4:=by omega
        have t2:((insAll ((ws4.take i).filterMap (schO its))).drop (Int.toNat (0:Int))).take (Int.toNat (k:Int)-Int.toNat (0:Int))=(insAll ((ws4.take i).filterMap (schO its))).take k:=by simp
        have t3:((insAll ((ws4.take i).filterMap (schO its))).drop (Int.toNat (k:Int))).take (Int.toNat ((insAll ((ws4.take i).filterMap (schO its))).length:Int)-Int.toNat (k:Int))=(insAll ((ws4.take i).filterMap (schO its))).drop k:=by
          rw [Int.toNat_natCast,Int.toNat_natCast]; exact List.take_of_length_le (by simp)
        have t4:((insAll ((ws4.take i).filterMap (schO its))).take k).length≤4:=by rw [List.length_take]; omega
        have t5:((insAll ((ws4.take i).filterMap (schO its))).drop k).length≤4:=by rw [List.length_drop]; omega
        rw [t2,t3,List.nil_append,if_pos ⟨by omega,by omega,by omega⟩,if_pos (by simp only [List.length_nil]; omega),if_pos (by simp only [List.length_singleton]; omega),if_pos ⟨by omega,by omega,by omega⟩,if_pos (by simp only [List.length_append,List.length_singleton]; omega),lk1 (by omega)];refine .inl ⟨_,rfl,⟨i+1,?_,by omega⟩,by dsimp only; omega⟩;rw [hft,insAll_snoc,← hins];simp [scOf]
      · rw [schO_none q] at hft;rw [rLeast_same (good_w h (ws4_mem hm)),q0];simp only [obind];rw [if_pos (by decide),lk1 (by omega)];exact .inl ⟨_,rfl,⟨i+1,by rw [hft,List.append_nil],by omega⟩,by dsimp only; omega⟩
    · obtain rfl:i=4:=by omega
      exact .inr ⟨_,if_neg (dneg (by decide)),rfl⟩) ([],0) ⟨0,rfl,by omega⟩ (by dsimp only; omega)
  rw [hd];simp only [obind];have hil:=insAll_len _ (schL its) rfl;unfold schR
  by_cases c:schL its=[]
  · rw [if_pos c,c]; rfl
  · have hp:0<(schL its).length:=List.length_pos_iff.2 c;rw [if_neg c,if_neg (by simpa using (by omega:¬ ((insAll (schL its)).length:Int)=0))]
def vw (d:List Int) (k:Nat):Int:=d.getD k 0
theorem vw_get {d:List Int}{k:Nat}(h:k<d.length):d[k]? = some (vw d k):=by
  unfold vw; rw [List.getD_eq_getElem?_getD,List.getElem?_eq_getElem h]; rfl
theorem vw_idx {d:List Int}{k:Nat}(h:k<d.length):idx d (k:Int)=some (vw d k):=by rw [idx_nat,vw_get h]
theorem vw_mem {d:List Int}{k:Nat}(h:k<d.length):vw d k∈d:=List.mem_of_getElem? (vw_get h)
theorem idx_ex {d:List Int}{k:Nat}(h:k<d.length):∃ y,idx d (k:Int)=some y:=⟨_,vw_idx h⟩
def sw (f:Nat→Int) (i j:Nat):Nat→Int:=fun k=>if k=j then f i else if k=i then f j else f k
theorem vw_sw {d:List Int}{i j:Nat}(hi:i<d.length)(hj:j<d.length):vw ((d.set i (vw d j)).set j (vw d i))=sw (vw d) i j:=by
  funext k;unfold sw;show ((d.set i (vw d j)).set j (vw d i)).getD k 0=_
  rw [List.getD_eq_getElem?_getD,List.getElem?_set,List.getElem?_set];simp only [List.length_set]
  by_cases h1:k=j
  · subst h1; simp [hj]
  · rw [if_neg (fun e=>h1 e.symm),if_neg h1]
    by_cases h2:k=i
    · subst h2; simp [hi]
    · rw [if_neg (fun e=>h2 e.symm),if_neg h2];unfold vw; rw [List.getD_eq_getElem?_getD]
theorem sw_perm {d:List Int}{i j:Nat}(hi:i<d.length)(hj:j<d.length):((d.set i (vw d j)).set j (vw d i)).Perm d:=by
  have e1:vw d j=d[j]:=by unfold vw; rw [List.getD_eq_getElem?_getD,List.getElem?_eq_getElem hj]; rfl
  have e2:vw d i=d[i]:=by unfold vw; rw [List.getD_eq_getElem?_getD,List.getElem?_eq_getElem hi]; rfl
  rw [e1,e2];exact List.set_set_perm hi hj
structure RR (d d':List Int) (a b:Nat):Prop where
  len:d'.length=d.length
  perm:d'.Perm d
  out:∀ k,k<a∨b≤k→vw d' k=vw d k
  sub:∀ k,a≤k→k<b→∃ l,a≤l∧l<b∧vw d' k=vw d l
theorem RR.refl (d:List Int)(a b:Nat):RR d d a b:=⟨rfl,List.Perm.refl _,fun _ _=>rfl,fun k h1 h2=>⟨k,h1,h2,rfl⟩⟩
theorem RR.trans {d d' d'':List Int}{a b:Nat}(h:RR d d' a b)(k:RR d' d'' a b):RR d d'' a b:=
  ⟨k.len.trans h.len,k.perm.trans h.perm,fun i hi=>(k.out i hi).trans (h.out i hi),fun i h1 h2=>by
    obtain ⟨l,h3,h4,h5⟩:=k.sub i h1 h2;obtain ⟨l2,h6,h7,h8⟩:=h.sub l h3 h4;exact ⟨l2,h6,h7,h5.trans h8⟩⟩
theorem RR.wide {d d':List Int}{a b a' b':Nat}(h:RR d d' a b)(ha:a'≤a)(hb:b≤b'):RR d d' a' b':=
  ⟨h.len,h.perm,fun k hk=>h.out k (by omega),fun k h1 h2=>by
    by_cases hk:a≤k∧k<b
    · obtain ⟨l,h3,h4,h5⟩:=h.sub k hk.1 hk.2;exact ⟨l,by omega,by omega,h5⟩
    · exact ⟨k,h1,h2,h.out k (by omega)⟩⟩
theorem RR.sw {d:List Int}{i j a b:Nat}(hi:i<d.length)(hj:j<d.length)(h1:a≤i)(h2:i<b)(h3:a≤j)(h4:j<b):RR d ((d.set i (vw d j)).set j (vw d i)) a b:=by
  refine ⟨by simp,sw_perm hi hj,fun k hk=>?_,fun k hk1 hk2=>?_⟩
  · rw [vw_sw hi hj]; unfold Proofs.YtlejnkhaphlooaaGreat.sw; rw [if_neg (by omega),if_neg (by omega)]
  · rw [vw_sw hi hj]; unfold Proofs.YtlejnkhaphlooaaGreat.sw
    by_cases e1:k=j
    · rw [if_pos e1]; exact ⟨i,h1,h2,rfl⟩
    · rw [if_neg e1]
      by_cases e2:k=i
      · rw [if_pos e2]; exact ⟨j,h3,h4,rfl⟩
      · rw [if_neg e2]; exact ⟨k,hk1,hk2,rfl⟩
def ky (ld:List Int) (x:Int):Int:=ld.getD x.toNat 0
def ls (ld:List Int) (x y:Int):Prop:=ky ld y<ky ld x∨ky ld x=ky ld y∧x<y
theorem ls_trans {ld:List Int}{x y z:Int}(h:ls ld x y)(k:ls ld y z):ls ld x z:=by unfold ls at *; omega
theorem ls_irr {ld:List Int}{x:Int}:¬ ls ld x x:=by unfold ls; omega
theorem ls_tot {ld:List Int}{x y:Int}(h:x≠y):ls ld x y∨ls ld y x:=by unfold ls; omega
theorem ls_not {ld:List Int}{x y:Int}(h:x≠y)(k:¬ ls ld x y):ls ld y x:=(ls_tot h).resolve_left k
def Dm (ld d:List Int):Prop:=∀ x∈d,0≤x∧x<ld.length
def Wt (ld:List Int):Prop:=∀ x∈ld,0≤x∧x≤1099511627776
theorem Dm.rr {ld d d':List Int}{a b:Nat}(h:Dm ld d)(r:RR d d' a b):Dm ld d':=fun x hx=>h x (r.perm.mem_iff.1 hx)
theorem cmp_ok {ld:List Int}(hw:Wt ld){x y:Int}(hx:0≤x∧x<ld.length)(hy:0≤y∧y<ld.length)(hxy:y<x) :
    ∃ c,assign_order_1 x y ld=some c∧(c<0↔ls ld x y):=by
  have e:∀ z:Int,0≤z∧z<ld.length→idx ld z=some (ky ld z)∧0≤ky ld z∧ky ld z≤1099511627776:=by
    intro z hz;have hl:z.toNat<ld.length:=by omega
    have e1:ld[z.toNat]? = some (ky ld z):=by unfold ky; rw [List.getD_eq_getElem?_getD,List.getElem?_eq_getElem hl]; rfl
    have:=hw (ky ld z) (List.mem_of_getElem? e1);refine ⟨?_,this.1,this.2⟩;unfold idx; rw [if_pos hz.1]; exact e1
  obtain ⟨e1,b1,b2⟩:=e x hx;obtain ⟨e2,b3,b4⟩:=e y hy;unfold assign_order_1;rw [e1,e2];simp only [Option.bind_some];refine ⟨_,rfl,?_⟩;rw [wr_id (by omega) (by omega)];unfold ls;omega
def Srt (ld:List Int) (f:Nat→Int) (a b:Nat):Prop:=∀ i j,a≤i→i<j→j<b→ls ld (f i) (f j)
end Go.Proofs.YtlejnkhaphlooaaGreat
