/- Plain laws of the functions that the statement reaches, text by text. Conditions: those of each theorem. -/
import Derived.Test.YtlejnkhaphlooaaGreatPX0
import Derived.Test.YtlejnkhaphlooaaGreatGassign
import Derived.Test.YtlejnkhaphlooaaGreatGr16
import Derived.Test.YtlejnkhaphlooaaGreatGlaw17tracks
import Derived.Test.YtlejnkhaphlooaaGreatGlaw17sane
import Derived.Test.YtlejnkhaphlooaaGreatGPlannerExact
set_option linter.unusedVariables false
set_option linter.unusedSimpArgs false
set_option linter.unusedSectionVars false
set_option maxRecDepth 100000
namespace Go.Proofs.YtlejnkhaphlooaaGreat
open Go Go.V Go.Proofs
theorem dm_vw {ld d:List Int}(h:Dm ld d){k:Nat}(hk:k<d.length):0≤vw d k∧vw d k<ld.length:=h _ (vw_mem hk)
theorem wk1 {k:Nat}(h:k<4294967296):IntKind.i64.wrap ((k:Int)+1)=((k+1:Nat):Int):=by rw [wr_id (by omega) (by omega)]; omega
theorem wkm1 {k:Nat}(h0:0<k)(h:k<4294967296):IntKind.i64.wrap ((k:Int)-1)=((k-1:Nat):Int):=by rw [wr_id (by omega) (by omega)]; omega
theorem insInner_ok {ld:List Int}(hw:Wt ld)(d1:List Int)(a i:Nat)(hi:i<d1.length)(ha:a≤i)(hs:d1.length<4294967296)(hD:Dm ld d1)(hS:Srt ld (vw d1) a i)(hx:∀ p,a≤p→p<i→vw d1 p<vw d1 i) :
    ∃ d',loop (slices_insertionSortCmpFunc_int__L6 a ld) (d1,(i:Int))=some d'∧RR d1 d' a (i+1)∧Srt ld (vw d') a (i+1):=by
  refine loop_inv (step:=slices_insertionSortCmpFunc_int__L6 a ld)
    (fun s=>∃ j:Nat,s.2=(j:Int)∧a≤j∧j≤i∧RR d1 s.1 a (i+1)∧(∀ p q,a≤p→p<q→q≤i→p≠j→q≠j→ls ld (vw s.1 p) (vw s.1 q))∧(∀ q,j<q→q≤i→ls ld (vw s.1 j) (vw s.1 q))∧(∀ p,a≤p→p≤i→p≠j→vw s.1 p<vw s.1 j))
    (fun s=>s.2.toNat) (fun d'=>RR d1 d' a (i+1)∧Srt ld (vw d') a (i+1)) ?_ (d1,(i:Int)) ?_ (by dsimp only; omega)
  · rintro ⟨d,_⟩ ⟨j,rfl,haj,hji,hR,h1,h2,h3⟩;dsimp only at hR h1 h2 h3 ⊢;have hl:=hR.len;unfold slices_insertionSortCmpFunc_int__L6;dsimp only
    by_cases hja:a<j
    · rw [if_pos (dpos (by omega)),wkm1 (by omega) (by omega),vw_idx (by omega:j<d.length),vw_idx (by omega:j-1<d.length)];simp only [Option.bind_some];obtain ⟨c,hc,hcl⟩:=cmp_ok hw (dm_vw (hD.rr hR) (by omega:j<d.length)) (dm_vw (hD.rr hR) (by omega:j-1<d.length)) (h3 (j-1) (by omega) (by omega) (by omega));rw [hc];simp only [Option.bind_some]
      by_cases hc0:c<0
      · left;have hlt:=hcl.1 hc0;rw [if_pos (dpos hc0)];obtain ⟨y,hy⟩:=idx_ex (d:=d.set j (vw d (j-1))) (k:=j-1) (by rw [List.length_set]; omega);simp only [Int.toNat_natCast];rw [hy];simp only [Option.bind_some];have hv:=vw_sw (d:=d) (i:=j) (j:=j-1) (by omega) (by omega);refine ⟨_,rfl,⟨j-1,rfl,by omega,by omega,hR.trans (RR.sw (by omega) (by omega) (by omega) (by omega) (by omega) (by omega)),?_,?_,?_⟩,by dsimp only; omega⟩
        · intro p q hp hpq hq hpj hqj;dsimp only;rw [hv];unfold sw;rw [if_neg hpj,if_neg hqj]
          by_cases e1:p=j
          · rw [if_pos e1,if_neg (by omega)];exact h1 (j-1) q (by omega) (by omega) hq (by omega) (by omega)
          · rw [if_neg e1]
            by_cases e2:q=j
            · rw [if_pos e2]; exact h1 p (j-1) hp (by omega) (by omega) e1 (by omega)
            · rw [if_neg e2]; exact h1 p q hp hpq hq e1 e2
        · intro q hq1 hq2;dsimp only;rw [hv];unfold sw;rw [if_pos rfl,if_neg (by omega)]
          by_cases e2:q=j
          · rw [if_pos e2]; exact hlt
          · rw [if_neg e2]; exact h2 q (by omega) hq2
        · intro p hp1 hp2 hp3;dsimp only;rw [hv];unfold sw;rw [if_pos rfl,if_neg hp3]
          by_cases e2:p=j
          · rw [if_pos e2]; exact h3 (j-1) (by omega) (by omega) (by omega)
          · rw [if_neg e2]; exact h3 p hp1 hp2 e2
      · right;rw [if_neg (dneg hc0)];refine ⟨_,rfl,hR,fun p q hp hpq hq=>?_⟩;have hge:ls ld (vw d (j-1)) (vw d j):=ls_not (by have:=h3 (j-1) (by omega) (by omega) (by omega); omega) (fun h=>hc0 (hcl.2 h))
        by_cases e1:p=j
        · subst e1; exact h2 q hpq (by omega)
        · by_cases e2:q=j
          · subst e2
            by_cases e3:p=q-1
            · subst e3; exact hge
            · exact ls_trans (h1 p (q-1) hp (by omega) (by omega) e1 (by omega)) hge
          · exact h1 p q hp hpq (by omega) e1 e2
    · right;rw [if_neg (dneg (by omega))];obtain rfl:j=a:=by omega
      refine ⟨_,rfl,hR,fun p q hp hpq hq=>?_⟩
      by_cases e1:p=j
      · subst e1; exact h2 q hpq (by omega)
      · exact h1 p q hp hpq (by omega) e1 (by omega)
  · exact ⟨i,rfl,ha,Nat.le_refl _,RR.refl _ _ _,fun p q hp hpq hq _ h=>hS p q hp hpq (by omega),fun q h1 h2=>by omega,fun p h1 h2 h3=>hx p h1 (by omega)⟩
theorem insertion_ok {ld:List Int}(hw:Wt ld)(d:List Int)(a b:Nat)(hab:a≤b)(hb:b≤d.length)(hs:d.length<4294967296)(hD:Dm ld d)(hA:∀ p q,a≤p→p<q→q<b→vw d p<vw d q) :
    ∃ d',slices_insertionSortCmpFunc_int_ d a b ld=some d'∧RR d d' a b∧Srt ld (vw d') a b:=by
  unfold slices_insertionSortCmpFunc_int_;rw [wk1 (by omega)];obtain ⟨r,hr,h1,h2⟩:=loop_inv (step:=slices_insertionSortCmpFunc_int__L4 a b ld)
    (fun s=>∃ i:Nat,s.2=(i:Int)∧a+1≤i∧(i≤b∨i=a+1)∧RR d s.1 a (min i b)∧Srt ld (vw s.1) a (min i b)) (fun s=>b+1-s.2.toNat) (fun r=>RR d r a b∧Srt ld (vw r) a b) (by
      rintro ⟨x,_⟩ ⟨i,rfl,hai,hib,hR,hS⟩;dsimp only at hR hS ⊢;unfold slices_insertionSortCmpFunc_int__L4;dsimp only
      by_cases hlt:i<b
      · left;rw [if_pos (dpos (by omega))];rw [Nat.min_eq_left (by omega)] at hR hS;have hl:=hR.len;obtain ⟨d',h3,h4,h5⟩:=insInner_ok hw x a i (by omega) (by omega) (by omega) (hD.rr hR) hS (fun p hp1 hp2=>by
          rw [hR.out i (by omega)];obtain ⟨l,h6,h7,h8⟩:=hR.sub p hp1 hp2;rw [h8];exact hA l i h6 h7 hlt)
        rw [h3];simp only [Option.bind_some];rw [wk1 (by omega)];refine ⟨_,rfl,⟨i+1,rfl,by omega,Or.inl (by omega),?_,?_⟩,by dsimp only; omega⟩
        · rw [Nat.min_eq_left (by omega)]; exact (hR.wide (Nat.le_refl _) (by omega)).trans h4
        · rw [Nat.min_eq_left (by omega)]; exact h5
      · right;rw [if_neg (dneg (by omega))];rw [Nat.min_eq_right (by omega)] at hR hS;exact ⟨_,rfl,hR,hS⟩) (d,((a+1:Nat):Int)) ⟨a+1,rfl,Nat.le_refl _,Or.inr rfl,RR.refl _ _ _,fun p q h1 h2 h3=>by omega⟩ (by dsimp only; omega)
  rw [hr];exact ⟨r,rfl,h1,h2⟩
structure MG (ld d:List Int) (a m b:Nat):Prop where
  am:a<m
  mb:m<b
  bl:b≤d.length
  sz:d.length<4294967296
  dm:Dm ld d
  s1:Srt ld (vw d) a m
  s2:Srt ld (vw d) m b
  cr:∀ p q,a≤p→p<m→m≤q→q<b→vw d p<vw d q
theorem srt_rr {ld d d':List Int}{a b x y:Nat}(h:RR d d' a b)(hS:Srt ld (vw d) x y)(hxy:y≤a∨b≤x):Srt ld (vw d') x y:=fun i j h1 h2 h3=>by
  rw [h.out i (by omega),h.out j (by omega)]; exact hS i j h1 h2 h3
def LN:Nat:=20
theorem stable_ok {ld d:List Int}(hw:Wt ld)(hD:Dm ld d)(hA:∀ p q,p<q→q<d.length→vw d p<vw d q)(hnL:d.length≤LN) :
    ∃ d',slices_SortStableFunc_int_int_ d ld=some d'∧d'.Perm d∧Srt ld (vw d') 0 d.length:=by
  have hn:d.length≤20:=hnL;have main:∃ d',slices_stableCmpFunc_int_ d (d.length:Int) ld=some d'∧d'.length=d.length∧d'.Perm d∧Srt ld (vw d') 0 d.length:=by
    unfold slices_stableCmpFunc_int_
    by_cases hb:d.length=20
    · obtain ⟨d1,k1,k2,k3⟩:=insertion_ok hw d 0 20 (by omega) (by omega) (by omega) hD (fun p q h1 h2 h3=>hA p q h2 (by omega));have c20:IntKind.i64.wrap ((20:Int)+20)=40:=by decide
      have s1:slices_stableCmpFunc_int__L5 d.length ld (d,0,20)=some (.next (d1,20,40)):=by
        unfold slices_stableCmpFunc_int__L5;dsimp only;rw [if_pos (dpos (by omega))];have k1':slices_insertionSortCmpFunc_int_ d 0 20 ld=some d1:=k1;rw [k1'];simp only [Option.bind_some];rw [if_pos k2.len,c20]
      have s2:slices_stableCmpFunc_int__L5 d.length ld (d1,20,40)=some (.done (d1,20)):=by
        unfold slices_stableCmpFunc_int__L5;dsimp only;rw [if_neg (dneg (by omega))]
      have s3:loop (slices_stableCmpFunc_int__L5 d.length ld) (d,0,20)=some (d1,20):=by
        exact loop_of 2 (by decide) (by simp only [loopN,s1,s2,Option.bind_some])
      rw [s3];simp only [Option.bind_some];obtain ⟨d2,k4,k5,k6⟩:=insertion_ok hw d1 20 d.length (by omega) (by rw [k2.len]; exact Nat.le_refl _) (by rw [k2.len]; omega) (hD.rr k2) (fun p q h1 h2 h3=>by omega);have k4':slices_insertionSortCmpFunc_int_ d1 20 d.length ld=some d2:=k4;rw [k4'];simp only [Option.bind_some];rw [if_pos k5.len];have t4:slices_stableCmpFunc_int__L11 d.length 20=some (.done ()):=by
        unfold slices_stableCmpFunc_int__L11;dsimp only;rw [if_neg (dneg (by omega))]
      have t5:loop (slices_stableCmpFunc_int__L11 d.length) 20=some ():=by
        exact loop_of 1 (by decide) (by simp only [loopN,t4,Option.bind_some])
      rw [t5];have h20:Srt ld (vw d2) 0 20:=srt_rr k5 k3 (Or.inl (Nat.le_refl _));exact ⟨d2,rfl,k5.len.trans k2.len,k5.perm.trans k2.perm,by rw [hb]; exact h20⟩
    · have hn:d.length<20:=by omega
      have s2:slices_stableCmpFunc_int__L5 d.length ld (d,0,20)=some (.done (d,0)):=by
        unfold slices_stableCmpFunc_int__L5;dsimp only;rw [if_neg (dneg (by omega))]
      have s3:loop (slices_stableCmpFunc_int__L5 d.length ld) (d,0,20)=some (d,0):=by
        exact loop_of 1 (by decide) (by simp only [loopN,s2,Option.bind_some])
      rw [s3];simp only [Option.bind_some];obtain ⟨d2,k4,k5,k6⟩:=insertion_ok hw d 0 d.length (by omega) (Nat.le_refl _) (by omega) hD (fun p q h1 h2 h3=>hA p q h2 h3);have k4':slices_insertionSortCmpFunc_int_ d 0 d.length ld=some d2:=k4;rw [k4'];simp only [Option.bind_some];rw [if_pos k5.len];have t4:slices_stableCmpFunc_int__L11 d.length 20=some (.done ()):=by
        unfold slices_stableCmpFunc_int__L11;dsimp only;rw [if_neg (dneg (by omega))]
      have t5:loop (slices_stableCmpFunc_int__L11 d.length) 20=some ():=by
        exact loop_of 1 (by decide) (by simp only [loopN,t4,Option.bind_some])
      rw [t5];exact ⟨d2,rfl,k5.len,k5.perm,k6⟩
  obtain ⟨d',k1,k2,k3,k4⟩:=main;unfold slices_SortStableFunc_int_int_;rw [k1];simp only [Option.bind_some];rw [if_pos k2];exact ⟨d',rfl,k3,k4⟩
def bw (l:List Bool) (k:Nat):Bool:=l.getD k false
theorem bw_idx {d:List Bool}{k:Nat}(h:k<d.length):idx d (k:Int)=some (bw d k):=by
  rw [idx_nat]; unfold bw; rw [List.getD_eq_getElem?_getD,List.getElem?_eq_getElem h]; rfl
theorem vw_set {d:List Int}{i:Nat}(h:i<d.length)(x:Int)(k:Nat):vw (d.set i x) k=if k=i then x else vw d k:=by
  unfold vw;rw [List.getD_eq_getElem?_getD,List.getElem?_set]
  by_cases e:k=i
  · subst e; simp [h]
  · rw [if_neg (fun h=>e h.symm),if_neg e,List.getD_eq_getElem?_getD]
theorem bw_set {d:List Bool}{i:Nat}(h:i<d.length)(x:Bool)(k:Nat):bw (d.set i x) k=if k=i then x else bw d k:=by
  unfold bw;rw [List.getD_eq_getElem?_getD,List.getElem?_set]
  by_cases e:k=i
  · subst e; simp [h]
  · rw [if_neg (fun h=>e h.symm),if_neg e,List.getD_eq_getElem?_getD]
theorem vw_elem {d:List Int}{k:Nat}(h:k<d.length):vw d k=d[k]:=by unfold vw; rw [List.getD_eq_getElem?_getD,List.getElem?_eq_getElem h]; rfl
theorem vw_of_mem {d:List Int}{x:Int}(h:x∈d):∃ k,k<d.length∧vw d k=x:=by
  obtain ⟨k,hk,e⟩:=List.getElem_of_mem h;exact ⟨k,hk,by unfold vw; rw [List.getD_eq_getElem?_getD,List.getElem?_eq_getElem hk]; exact e⟩
def Vd (a b:List Int):Prop:=a.length≤32∧b.length≤32∧(∀ x∈a,0≤x∧x≤38400)∧∀ x∈b,1≤x∧x≤38400
theorem chk_a (a:List Int)(h:a.length≤32):∃ d,loop (assign_check_L5 a) 0=some d∧((d=.inl ()∧¬ ∀ x∈a,0≤x∧x≤38400)∨(d=.inr ()∧∀ x∈a,0≤x∧x≤38400)):=by
  refine loop_inv (fun s=>∃ i:Nat,s=(i:Int)∧i≤a.length∧∀ k,k<i→0≤vw a k∧vw a k≤38400) (fun s=>a.length-s.toNat) _ ?_ 0 ⟨0,rfl,by omega,fun k hk=>by omega⟩ (by omega);rintro _ ⟨i,rfl,hi,hk⟩;unfold assign_check_L5;dsimp only
  by_cases hlt:i<a.length
  · rw [if_pos (dpos (by omega)),vw_idx hlt];simp only [Option.bind_some]
    by_cases h0:vw a i<0
    · rw [if_pos (dpos h0)]; exact Or.inr ⟨_,rfl,Or.inl ⟨rfl,fun h=>by have:=h _ (vw_mem hlt); omega⟩⟩
    · rw [if_neg (dneg h0)]
      by_cases h1:vw a i>38400
      · rw [if_pos (dpos h1)]; exact Or.inr ⟨_,rfl,Or.inl ⟨rfl,fun h=>by have:=h _ (vw_mem hlt); omega⟩⟩
      · rw [if_neg (dneg h1),wk1 (by omega)];refine Or.inl ⟨_,rfl,⟨i+1,rfl,by omega,fun k hk2=>?_⟩,by omega⟩
        by_cases e:k=i
        · subst e; omega
        · exact hk k (by omega)
  · rw [if_neg (dneg (by omega))];refine Or.inr ⟨_,rfl,Or.inr ⟨rfl,fun x hx=>?_⟩⟩;obtain ⟨k,h1,rfl⟩:=vw_of_mem hx;exact hk k (by omega)
theorem chk_b (a:List Int)(h:a.length≤32):∃ d,loop (assign_check_L9 a) 0=some d∧((d=.inl ()∧¬ ∀ x∈a,1≤x∧x≤38400)∨(d=.inr ()∧∀ x∈a,1≤x∧x≤38400)):=by
  refine loop_inv (fun s=>∃ i:Nat,s=(i:Int)∧i≤a.length∧∀ k,k<i→1≤vw a k∧vw a k≤38400) (fun s=>a.length-s.toNat) _ ?_ 0 ⟨0,rfl,by omega,fun k hk=>by omega⟩ (by omega);rintro _ ⟨i,rfl,hi,hk⟩;unfold assign_check_L9;dsimp only
  by_cases hlt:i<a.length
  · rw [if_pos (dpos (by omega)),vw_idx hlt];simp only [Option.bind_some]
    by_cases h0:vw a i<1
    · rw [if_pos (dpos h0)]; exact Or.inr ⟨_,rfl,Or.inl ⟨rfl,fun h=>by have:=h _ (vw_mem hlt); omega⟩⟩
    · rw [if_neg (dneg h0)]
      by_cases h1:vw a i>38400
      · rw [if_pos (dpos h1)]; exact Or.inr ⟨_,rfl,Or.inl ⟨rfl,fun h=>by have:=h _ (vw_mem hlt); omega⟩⟩
      · rw [if_neg (dneg h1),wk1 (by omega)];refine Or.inl ⟨_,rfl,⟨i+1,rfl,by omega,fun k hk2=>?_⟩,by omega⟩
        by_cases e:k=i
        · subst e; omega
        · exact hk k (by omega)
  · rw [if_neg (dneg (by omega))];refine Or.inr ⟨_,rfl,Or.inr ⟨rfl,fun x hx=>?_⟩⟩;obtain ⟨k,h1,rfl⟩:=vw_of_mem hx;exact hk k (by omega)
theorem chk_eqa (a:List Int):r16_valid_L5 a=assign_check_L5 a:=by
  funext s;unfold r16_valid_L5 assign_check_L5;dsimp only;cases idx a s <;> rfl
theorem chk_eqb (a:List Int):r16_valid_L11 a=assign_check_L9 a:=by
  funext s;unfold r16_valid_L11 assign_check_L9;dsimp only;cases idx a s <;> rfl
theorem valid_eq (a b:List Int):r16_valid a b=assign_check a b:=by
  unfold r16_valid assign_check;rw [chk_eqa,chk_eqb];rfl
theorem check_ok (a b:List Int):∃ c,assign_check a b=some c∧(c=0↔Vd a b):=by
  unfold assign_check Vd
  by_cases h1:a.length≤32
  · rw [if_neg (dneg (by omega))]
    by_cases h2:b.length≤32
    · rw [if_neg (dneg (by omega))];obtain ⟨d,e1,e2⟩:=chk_a a h1;rw [e1];rcases e2 with ⟨rfl,e2⟩ | ⟨rfl,e2⟩
      · exact ⟨2,rfl,by omega,fun h=>absurd h.2.2.1 e2⟩
      · obtain ⟨d,e3,e4⟩:=chk_b b h2;simp only [Option.bind_some];rw [e3];rcases e4 with ⟨rfl,e4⟩ | ⟨rfl,e4⟩
        · exact ⟨2,rfl,by omega,fun h=>absurd h.2.2.2 e4⟩
        · exact ⟨0,rfl,fun _=>⟨h1,h2,e2,e4⟩,fun _=>rfl⟩
    · rw [if_pos (dpos (by omega))];exact ⟨3,rfl,by omega,fun h=>absurd h.2.1 h2⟩
  · rw [if_pos (dpos (by omega))];exact ⟨3,rfl,by omega,fun h=>absurd h.1 h1⟩
theorem vw_pw {d:List Int}(h:d.Pairwise (· < ·)):∀ p q,p<q→q<d.length→vw d p<vw d q:=fun p q h1 h2=>by
  rw [vw_elem (by omega:p<d.length),vw_elem h2];exact List.pairwise_iff_getElem.1 h p q (by omega) h2 h1
theorem wt_of {a:List Int}(h:∀ x∈a,0≤x∧x≤38400):Wt a:=fun x hx=>by have:=h x hx; omega
structure Ord (a o:List Int):Prop where
  mem:∀ x,x∈o↔∃ i:Nat,i<a.length∧x=i∧0<vw a i
  srt:Srt a (vw o) 0 o.length
def NZ (a:List Int):Prop:=∀ d:List Int,d.Pairwise (· < ·)→(∀ x∈d,∃ k:Nat,k<a.length∧x=k∧0<vw a k)→d.length≤LN
theorem asc_len:∀ (n:Nat) (d:List Int),d.Pairwise (· < ·)→(∀ x∈d,0≤x∧x<n)→d.length≤n
  | 0,d,h,hm=>by
    cases d with
    | nil=>simp
    | cons x d=>have:=hm x List.mem_cons_self; omega
  | n+1,d,h,hm=>by
    by_cases c:d=[]
    · subst c; simp
    · have e:=List.dropLast_concat_getLast c;have hp:(d.dropLast++[d.getLast c]).Pairwise (· < ·):=by rw [e]; exact h
      have h1:=List.pairwise_append.1 hp;have h2:=asc_len n d.dropLast h1.1 fun x hx=>by
        have h3:=h1.2.2 x hx _ (List.mem_singleton.2 rfl);have h4:=hm _ (List.getLast_mem c);have h5:=hm x (List.dropLast_subset d hx);omega
      have h6:d.length=d.dropLast.length+1:=by rw [← e]; simp
      omega
theorem NZ.of_len {a:List Int}(h:a.length≤LN):NZ a:=fun d hd hm=>Nat.le_trans (asc_len a.length d hd fun x hx=>by
  obtain ⟨k,h1,rfl,_⟩:=hm x hx;omega) h
theorem aorder_ok {a:List Int}(hl:a.length≤32)(hN:NZ a)(ha:∀ x∈a,0≤x∧x≤38400):∃ o,assign_order a=some o∧Ord a o∧o.length≤32:=by
  unfold assign_order;obtain ⟨d,h1,h2,h3,h4⟩:=loop_inv (step:=assign_order_L5 a) (fun s=>∃ i:Nat,s.2=(i:Int)∧i≤a.length∧s.1.length≤i∧s.1.Pairwise (· < ·)∧∀ x,x∈s.1↔∃ k:Nat,k<i∧x=k∧0<vw a k)
    (fun s=>a.length-s.2.toNat) (fun d=>d.length≤a.length∧d.Pairwise (· < ·)∧∀ x,x∈d↔∃ k:Nat,k<a.length∧x=k∧0<vw a k) (by
      rintro ⟨d,_⟩ ⟨i,rfl,hi,hdl,hp,hm⟩;dsimp only at hdl hp hm ⊢;unfold assign_order_L5;dsimp only
      by_cases hlt:i<a.length
      · rw [if_pos (dpos (by omega)),vw_idx hlt];simp only [Option.bind_some];left
        by_cases h0:vw a i>0
        · rw [if_pos (dpos h0),if_pos (by simp only [List.length_singleton]; omega),wk1 (by omega)];refine ⟨_,rfl,⟨i+1,rfl,by omega,by simp; omega,?_,fun x=>?_⟩,by dsimp only; omega⟩
          · refine List.pairwise_append.2 ⟨hp,List.pairwise_singleton _ _,fun x hx y hy=>?_⟩;obtain ⟨k,h5,rfl,_⟩:=(hm x).1 hx;simp only [List.mem_singleton] at hy;omega
          · simp only [List.mem_append,List.mem_singleton,hm x];constructor
            · rintro (⟨k,h5,h6,h7⟩ | rfl)
              · exact ⟨k,by omega,h6,h7⟩
              · exact ⟨i,by omega,rfl,h0⟩
            · rintro ⟨k,h5,h6,h7⟩
              by_cases e:k=i
              · subst e; exact Or.inr h6
              · exact Or.inl ⟨k,by omega,h6,h7⟩
        · rw [if_neg (dneg h0),wk1 (by omega)];refine ⟨_,rfl,⟨i+1,rfl,by omega,by dsimp only; omega,hp,fun x=>?_⟩,by dsimp only; omega⟩;rw [hm x];constructor
          · rintro ⟨k,h5,h6,h7⟩; exact ⟨k,by omega,h6,h7⟩
          · rintro ⟨k,h5,h6,h7⟩;have:k≠i:=fun e=>by subst e; omega
            exact ⟨k,by omega,h6,h7⟩
      · right;rw [if_neg (dneg (by omega))];obtain rfl:i=a.length:=by omega
        exact ⟨_,rfl,hdl,hp,hm⟩) (([]:List Int),0) ⟨0,rfl,by omega,by simp,List.Pairwise.nil,fun x=>by simp⟩ (by dsimp only; omega)
  rw [h1];simp only [Option.bind_some];obtain ⟨o,h5,h6,h7⟩:=stable_ok (ld:=a) (d:=d) (wt_of ha) (fun x hx=>by obtain ⟨k,h8,rfl,_⟩:=(h4 x).1 hx; omega) (vw_pw h3) (hN d h3 fun x hx=>(h4 x).1 hx);rw [h5];simp only [Option.bind_some];rw [if_pos h6.length_eq];refine ⟨o,rfl,⟨fun x=>?_,by rw [h6.length_eq]; exact h7⟩,by rw [h6.length_eq]; omega⟩;rw [h6.mem_iff,h4]
def bf (b:List Int) (tk:List Bool) (n:Int):Nat→Int
  | 0=>-1
  | k+1=>if bw tk k=false∧n≤vw b k∧(bf b tk n k<0∨vw b k<vw b (bf b tk n k).toNat) then (k:Int) else bf b tk n k
theorem bf_spec (b:List Int)(tk:List Bool)(n:Int):∀ k,(bf b tk n k = -1∧∀ t,t<k→bw tk t=false→vw b t<n)∨∃ t:Nat,t<k∧bf b tk n k=t∧bw tk t=false∧n≤vw b t
  | 0=>Or.inl ⟨rfl,fun t h=>by omega⟩
  | k+1=>by
    have ih:=bf_spec b tk n k;unfold bf
    by_cases e:bw tk k=false∧n≤vw b k∧(bf b tk n k<0∨vw b k<vw b (bf b tk n k).toNat)
    · rw [if_pos e]; exact Or.inr ⟨k,by omega,rfl,e.1,e.2.1⟩
    · rw [if_neg e];rcases ih with ⟨h1,h2⟩ | ⟨t,h1,h2,h3,h4⟩
      · refine Or.inl ⟨h1,fun t ht htk=>?_⟩
        by_cases e2:t=k
        · subst e2
          by_cases h:vw b t<n
          · exact h
          · exact absurd ⟨htk,by omega,Or.inl (by omega)⟩ e
        · exact h2 t (by omega) htk
      · exact Or.inr ⟨t,by omega,h2,h3,h4⟩
theorem bf_range (b:List Int)(tk:List Bool)(n:Int)(k:Nat):bf b tk n k = -1∨∃ t:Nat,t<k∧bf b tk n k=t:=by
  rcases bf_spec b tk n k with ⟨h,_⟩ | ⟨t,h1,h2,_⟩
  · exact Or.inl h
  · exact Or.inr ⟨t,h1,h2⟩
theorem best_ok {a b:List Int}{tk:List Bool}(htk:tk.length=b.length)(hb:b.length≤32){i:Nat}(hi:i<a.length):loop (assign_Match_L23 a b tk i) (-1,0)=some (bf b tk (vw a i) b.length):=by
  obtain ⟨r,h1,rfl⟩:=loop_inv (step:=assign_Match_L23 a b tk i) (fun s=>∃ t:Nat,s=(bf b tk (vw a i) t,(t:Int))∧t≤b.length) (fun s=>b.length-s.2.toNat) (fun r=>r=bf b tk (vw a i) b.length) (by
    rintro _ ⟨t,rfl,ht⟩;unfold assign_Match_L23;dsimp only
    by_cases hlt:t<b.length
    · left;rw [if_pos (dpos (by omega)),vw_idx hlt,bw_idx (by omega:t<tk.length)];simp only [Option.bind_some];rw [vw_idx hi,wk1 (by omega)];simp only [Option.bind_some];have hs:bf b tk (vw a i) (t+1)=if bw tk t=false∧vw a i≤vw b t∧(bf b tk (vw a i) t<0∨vw b t<vw b (bf b tk (vw a i) t).toNat) then (t:Int) else bf b tk (vw a i) t:=rfl
      refine ⟨(bf b tk (vw a i) (t+1),((t+1:Nat):Int)),?_,⟨t+1,rfl,by omega⟩,by dsimp only; omega⟩;rw [hs]
      by_cases e1:bw tk t=true
      · rw [if_neg (by rw [e1]; simp),if_neg (by rw [e1]; simp)]
      · have e1':bw tk t=false:=by simpa using e1
        rw [if_pos (by rw [e1']; rfl)]
        by_cases e2:vw b t≥vw a i
        · rw [if_pos (dpos e2)]
          by_cases e3:bf b tk (vw a i) t<0
          · rw [if_pos (dpos e3),if_pos ⟨e1',e2,Or.inl e3⟩]
          · rw [if_neg (dneg e3)];rcases bf_range b tk (vw a i) t with e | ⟨u,h5,h6⟩
            · omega
            · rw [h6,vw_idx (by omega:u<b.length)];simp only [Option.bind_some,Int.toNat_natCast]
              by_cases e4:vw b t<vw b u
              · rw [if_pos (dpos e4),if_pos ⟨e1',e2,Or.inr e4⟩]
              · rw [if_neg (dneg e4),if_neg (by omega)]
        · rw [if_neg (dneg e2),if_neg (by omega)]
    · right;rw [if_neg (dneg (by omega))];obtain rfl:t=b.length:=by omega
      exact ⟨_,rfl,rfl⟩) (-1,0) ⟨0,rfl,by omega⟩ (by dsimp only; omega)
  exact h1
theorem best_eq (a b:List Int)(tk:List Bool)(i:Int)(htk:tk.length=b.length):r16_Match_L34 a b tk i=assign_Match_L23 a b tk i:=by
  funext ⟨r,t⟩;unfold r16_Match_L34 assign_Match_L23;dsimp only
  by_cases h:t<(b.length:Int)
  · rw [if_pos (dpos h),if_pos (dpos h)]
    by_cases h0:0≤t
    · obtain ⟨k,rfl⟩:∃ k:Nat,t=k:=⟨t.toNat,by omega⟩
      rw [vw_idx (by omega:k<b.length),bw_idx (by omega:k<tk.length)];cases bw tk k <;> rfl
    · have e1:idx b t=none:=by unfold idx; rw [if_neg h0]
      have e2:idx tk t=none:=by unfold idx; rw [if_neg h0]
      rw [e1,e2]; rfl
  · rw [if_neg (dneg h),if_neg (dneg h)]
def gr (a b:List Int):List Int→List Int→List Bool→Sum (List Int) (List Int)
  | [],l,tk=>.inr l
  | i::o,l,tk=>
    if bf b tk (vw a i.toNat) b.length<0 then .inl [i]
    else match gr a b o (l.set i.toNat (bf b tk (vw a i.toNat) b.length)) (tk.set (bf b tk (vw a i.toNat) b.length).toNat true) with
      | .inl p=>.inl (i::p)
      | .inr l'=>.inr l'
def onl (p:List Int):Sum (List Int) (List Int)→Sum (List Int) (List Int)
  | .inl q=>.inl (p++q)
  | .inr l=>.inr l
structure Asd (a b pre l:List Int) (tk:List Bool):Prop where
  ll:l.length=a.length
  tl:tk.length=b.length
  at_:∀ i:Nat,(i:Int)∈pre→i<a.length∧0<vw a i∧∃ t:Nat,t<b.length∧vw l i=t∧bw tk t=true∧vw a i≤vw b t
  nat:∀ x∈pre,0≤x
  no:∀ k,k<a.length→(k:Int)∉pre→vw l k = -1
  tk:∀ t,t<b.length→bw tk t=true→∃ i:Nat,(i:Int)∈pre∧vw l i=t
  inj:∀ i j:Nat,(i:Int)∈pre→(j:Int)∈pre→vw l i=vw l j→i=j
theorem Asd.step {a b pre l:List Int}{tk:List Bool}(h:Asd a b pre l tk){i t:Nat}(hi:i<a.length)(h0:0<vw a i)(hn:(i:Int)∉pre)(ht:t<b.length)(hf:bw tk t=false)(hle:vw a i≤vw b t) :
    Asd a b (pre++[(i:Int)]) (l.set i t) (tk.set t true):=by
  have vl:=vw_set (d:=l) (i:=i) (by rw [h.ll]; exact hi) (t:Int);have vt:=bw_set (d:=tk) (i:=t) (by rw [h.tl]; exact ht) true;have key:∀ j:Nat,(j:Int)∈pre→j≠i:=fun j hj e=>hn (e ▸ hj)
  refine ⟨by simp [h.ll],by simp [h.tl],fun j hj=>?_,fun x hx=>?_,fun k hk hkn=>?_,fun u hu hut=>?_,fun j k hj hk e=>?_⟩
  · simp only [List.mem_append,List.mem_singleton] at hj;rcases hj with hj | hj
    · obtain ⟨h1,h2,u,h3,h4,h5,h6⟩:=h.at_ j hj;refine ⟨h1,h2,u,h3,by rw [vl,if_neg (key j hj)]; exact h4,?_,h6⟩;rw [vt]; split
      · rfl
      · exact h5
    · obtain rfl:j=i:=by omega
      exact ⟨hi,h0,t,ht,by rw [vl,if_pos rfl],by rw [vt,if_pos rfl],hle⟩
  · simp only [List.mem_append,List.mem_singleton] at hx;rcases hx with hx | rfl
    · exact h.nat x hx
    · omega
  · simp only [List.mem_append,List.mem_singleton,not_or] at hkn;rw [vl,if_neg (by omega)]; exact h.no k hk hkn.1
  · rw [vt] at hut
    by_cases e:u=t
    · subst e; exact ⟨i,by simp,by rw [vl,if_pos rfl]⟩
    · rw [if_neg e] at hut;obtain ⟨j,h1,h2⟩:=h.tk u hu hut;exact ⟨j,by simp [h1],by rw [vl,if_neg (key j h1)]; exact h2⟩
  · simp only [List.mem_append,List.mem_singleton] at hj hk;have free:∀ j:Nat,(j:Int)∈pre→vw l j≠t:=fun j hj e2=>by
      obtain ⟨_,_,u,h3,h4,h5,_⟩:=h.at_ j hj;obtain rfl:u=t:=by omega
      rw [hf] at h5; cases h5
    rcases hj with hj | hj <;> rcases hk with hk | hk
    · rw [vl,vl,if_neg (key j hj),if_neg (key k hk)] at e; exact h.inj j k hj hk e
    · obtain rfl:k=i:=by omega
      rw [vl,vl,if_neg (key j hj),if_pos rfl] at e; exact absurd e (free j hj)
    · obtain rfl:j=i:=by omega
      rw [vl,vl,if_neg (key k hk),if_pos rfl] at e; exact absurd e.symm (free k hk)
    · omega
def Gok (a b pre o:List Int):Sum (List Int) (List Int)→Prop
  | .inr l=>∃ tk,Asd a b (pre++o) l tk
  | .inl p=>∃ (q r:List Int) (i:Nat) (l:List Int) (tk:List Bool),o=q++(i:Int)::r∧p=q++[(i:Int)]∧Asd a b (pre++q) l tk∧∀ t,t<b.length→bw tk t=false→vw b t<vw a i
theorem gr_ok {a b:List Int}:∀ (o pre l:List Int) (tk:List Bool),Asd a b pre l tk→(∀ x∈o,∃ i:Nat,x=i∧i<a.length∧0<vw a i)→o.Nodup→(∀ x∈o,x∉pre)→Gok a b pre o (gr a b o l tk)
  | [],pre,l,tk,h,_,_,_=>⟨tk,by rw [List.append_nil]; exact h⟩
  | x::o,pre,l,tk,h,hx,hnd,hd=>by
    obtain ⟨i,rfl,hi,h0⟩:=hx x List.mem_cons_self;unfold gr;rw [Int.toNat_natCast];rcases bf_spec b tk (vw a i) b.length with ⟨h1,h2⟩ | ⟨t,h1,h2,h3,h4⟩
    · rw [h1,if_pos (by omega)];exact ⟨[],o,i,l,tk,rfl,rfl,by rw [List.append_nil]; exact h,h2⟩
    · rw [h2,if_neg (by omega),Int.toNat_natCast];have hnc:=List.nodup_cons.1 hnd;have ih:=gr_ok o (pre++[(i:Int)]) (l.set i t) (tk.set t true) (h.step hi h0 (hd _ List.mem_cons_self) h1 h3 h4) (fun x hx'=>hx x (List.mem_cons_of_mem _ hx')) hnc.2 (fun x hx' hm=>by
        simp only [List.mem_append,List.mem_singleton] at hm;rcases hm with hm | rfl
        · exact hd x (List.mem_cons_of_mem _ hx') hm
        · exact hnc.1 hx')
      generalize hg:gr a b o (l.set i t) (tk.set t true)=g at ih;cases g with
      | inl p=>
        obtain ⟨q,r,j,l',tk',e1,e2,e3,e4⟩:=ih;exact ⟨(i:Int)::q,r,j,l',tk',by rw [e1]; rfl,by rw [e2]; rfl,by rw [List.append_assoc] at e3; exact e3,e4⟩
      | inr l'=>
        obtain ⟨tk',e⟩:=ih;exact ⟨tk',by rw [List.append_assoc] at e; exact e⟩
theorem vw_ext {l k:List Int}(h:l.length=k.length)(e:∀ i,i<l.length→vw l i=vw k i):l=k:=by
  refine List.ext_getElem h fun i h1 h2=>?_
  have:=e i h1;rw [vw_elem h1,vw_elem h2] at this;exact this
theorem loopN_dec {S D:Type}{step:S→Option (Step S D)}(I:Nat→S→Prop)(P:D→Prop)
    (h:∀ n s,I n s→(∃ s' m,step s=some (.next s')∧m<n∧I m s')∨∃ d,step s=some (.done d)∧P d) :
    ∀ (k n:Nat) (s:S),I n s→n<k→∃ d,loopN step k s=some d∧P d
  | 0,n,s,_,hn=>absurd hn (Nat.not_lt_zero _)
  | k+1,n,s,hi,hn=>by
    rcases h n s hi with ⟨s',m,h1,h2,h3⟩ | ⟨d,h1,h2⟩
    · obtain ⟨d,h4,h5⟩:=loopN_dec I P h k m s' h3 (by omega);exact ⟨d,by simp only [loopN,h1,Option.bind_some,h4],h5⟩
    · exact ⟨d,by simp only [loopN,h1,Option.bind_some],h2⟩
theorem loop_dec {S D:Type}{step:S→Option (Step S D)}(I:Nat→S→Prop)(P:D→Prop)
    (h:∀ n s,I n s→(∃ s' m,step s=some (.next s')∧m<n∧I m s')∨∃ d,step s=some (.done d)∧P d)
    (n:Nat) (s:S) (hi:I n s) (hn:n<18446744073709551616):∃ d,loop step s=some d∧P d:=loopN_dec I P h _ n s hi hn
theorem strict_ext:∀ (l k:List Int),l.Pairwise (· < ·)→k.Pairwise (· < ·)→(∀ x,x∈l↔x∈k)→l=k
  | [],[],_,_,_=>rfl
  | [],y::k,_,_,h=>absurd ((h y).2 List.mem_cons_self) (by simp)
  | x::l,[],_,_,h=>absurd ((h x).1 List.mem_cons_self) (by simp)
  | x::l,y::k,hl,hk,h=>by
    have a1:=List.pairwise_cons.1 hl;have a2:=List.pairwise_cons.1 hk;have e:x=y:=by
      rcases List.mem_cons.1 ((h x).1 List.mem_cons_self) with e | e
      · exact e
      · rcases List.mem_cons.1 ((h y).2 List.mem_cons_self) with e2 | e2
        · exact e2.symm
        · have:=a2.1 x e; have:=a1.1 y e2; omega
    subst e;rw [strict_ext l k a1.2 a2.2 fun z=>?_];constructor
    · intro hz;rcases List.mem_cons.1 ((h z).1 (List.mem_cons_of_mem _ hz)) with e | e
      · have:=a1.1 z hz; omega
      · exact e
    · intro hz;rcases List.mem_cons.1 ((h z).2 (List.mem_cons_of_mem _ hz)) with e | e
      · have:=a2.1 z hz; omega
      · exact e
theorem strict_of {l:List Int}(h:l.Pairwise (·≤·))(hn:l.Nodup):l.Pairwise (· < ·):=
  List.Pairwise.imp₂ (fun a b h1 h2=>by omega) h hn
theorem sortI_strict {p:List Int}(h:p.Nodup):(sortI p).Pairwise (· < ·):=strict_of (sortI_sorted p) ((sortI_perm p).nodup_iff.2 h)
theorem Ord.nodup {a o:List Int}(h:Ord a o):o.Nodup:=by
  refine List.pairwise_iff_getElem.2 fun i j h1 h2 hij e=>?_
  have:=h.srt i j (Nat.zero_le _) hij h2;rw [vw_elem h1,vw_elem h2,e] at this;exact ls_irr this
def neg1 (n:Nat):List Int:=List.replicate n (-1)
theorem fill_ok (a:List Int)(hl:a.length≤32):loop (assign_Match_L9 a) ((List.replicate (Int.toNat ((a).length:Int)) 0:List Int),0)=some (neg1 a.length):=by
  obtain ⟨d,h1,rfl⟩:=loop_inv (step:=assign_Match_L9 a) (fun s=>∃ i:Nat,s.2=(i:Int)∧i≤a.length∧s.1.length=a.length∧∀ k,k<i→vw s.1 k = -1) (fun s=>a.length-s.2.toNat) (fun d=>d=neg1 a.length) (by
    rintro ⟨d,_⟩ ⟨i,rfl,hi,hdl,hk⟩;dsimp only at hdl hk ⊢;unfold assign_Match_L9;dsimp only
    by_cases hlt:i<a.length
    · left;rw [if_pos (dpos (by simp; omega)),vw_idx (by omega:i<d.length)];simp only [Option.bind_some,Int.toNat_natCast];rw [wk1 (by omega)];refine ⟨_,rfl,⟨i+1,rfl,by omega,by simp [hdl],fun k hk2=>?_⟩,by dsimp only; omega⟩;dsimp only;rw [vw_set (by omega)]
      split
      · rfl
      · exact hk k (by omega)
    · right;rw [if_neg (dneg (by simp; omega))];refine ⟨_,rfl,vw_ext (by simp [neg1,hdl]) fun k hk2=>?_⟩;rw [hk k (by omega),vw_elem (by simp [neg1]; omega)];simp [neg1]) (List.replicate (Int.toNat ((a).length:Int)) 0,0) ⟨0,rfl,by omega,by simp,fun k hk=>by omega⟩ (by dsimp only; omega)
  exact h1
theorem fill_eq (a:List Int)(hl:a.length≤32):loop r16_Match_L9 ((List.replicate (Int.toNat ((a).length:Int)) 0:List Int),0)=some (neg1 a.length):=by
  obtain ⟨d,h1,rfl⟩:=loop_inv (step:=r16_Match_L9) (fun s=>∃ i:Nat,s.2=(i:Int)∧i≤a.length∧s.1.length=a.length∧∀ k,k<i→vw s.1 k = -1) (fun s=>a.length-s.2.toNat) (fun d=>d=neg1 a.length) (by
    rintro ⟨d,_⟩ ⟨i,rfl,hi,hdl,hk⟩;dsimp only at hdl hk ⊢;unfold r16_Match_L9;dsimp only
    by_cases hlt:i<a.length
    · left;rw [if_pos (dpos (by omega)),vw_idx (by omega:i<d.length)];simp only [Option.bind_some,Int.toNat_natCast];rw [wk1 (by omega)];refine ⟨_,rfl,⟨i+1,rfl,by omega,by simp [hdl],fun k hk2=>?_⟩,by dsimp only; omega⟩;dsimp only;rw [vw_set (by omega)]
      split
      · rfl
      · exact hk k (by omega)
    · right;rw [if_neg (dneg (by omega))];refine ⟨_,rfl,vw_ext (by simp [neg1,hdl]) fun k hk2=>?_⟩;rw [hk k (by omega),vw_elem (by simp [neg1]; omega)];simp [neg1]) (List.replicate (Int.toNat ((a).length:Int)) 0,0) ⟨0,rfl,by omega,by simp,fun k hk=>by omega⟩ (by dsimp only; omega)
  exact h1
def nofree (n:Nat):List Bool:=List.replicate n false
def res:Sum (List Int) (List Int)→(List Int)×(List Int)×Int
  | .inl p=>([],sortI p,14)
  | .inr l=>(l,[],0)
theorem onl_onl {p q:List Int}{g:Sum (List Int) (List Int)}:onl p (onl q g)=onl (p++q) g:=by
  cases g <;> simp [onl]
theorem gr_cons (a b:List Int)(i:Nat)(o l:List Int)(tk:List Bool):gr a b ((i:Int)::o) l tk=if bf b tk (vw a i) b.length<0 then .inl [(i:Int)] else onl [(i:Int)] (gr a b o (l.set i (bf b tk (vw a i) b.length)) (tk.set (bf b tk (vw a i) b.length).toNat true)):=by
  conv=>lhs; unfold gr
  rw [Int.toNat_natCast]
  split
  · rfl
  · cases gr a b o (l.set i (bf b tk (vw a i) b.length)) (tk.set (bf b tk (vw a i) b.length).toNat true) <;> rfl
theorem take_one {o:List Int}{t:Nat}(h:t<o.length):o.take (t+1)=o.take t++[vw o t]:=by rw [List.take_succ_eq_append_getElem h,vw_elem h]
theorem drop_one {o:List Int}{t:Nat}(h:t<o.length):o.drop t=vw o t::o.drop (t+1):=by rw [List.drop_eq_getElem_cons h,vw_elem h]
theorem match_ok {a b:List Int}(hV:Vd a b)(hN:NZ a):∃ o,assign_order a=some o∧Ord a o∧o.length≤32∧assign_Match a b=some (res (gr a b o (neg1 a.length) (nofree b.length))):=by
  obtain ⟨ha,hb,hv,hw⟩:=hV;obtain ⟨o,ho,hO,hol⟩:=aorder_ok ha hN hv;refine ⟨o,ho,hO,hol,?_⟩;obtain ⟨c,hc,hc0⟩:=check_ok a b;obtain rfl:=hc0.2 ⟨ha,hb,hv,hw⟩;unfold assign_Match;rw [hc];simp only [Option.bind_some];rw [if_neg (by decide),if_pos (by omega),fill_ok a ha];simp only [Option.bind_some];rw [if_pos (by omega),ho];simp only [Option.bind_some];have hg:∀ t,t<o.length→∃ i:Nat,vw o t=i∧i<a.length∧0<vw a i:=fun t ht=>by
    obtain ⟨i,h1,h2,h3⟩:=(hO.mem _).1 (vw_mem ht);exact ⟨i,h2,h1,h3⟩
  obtain ⟨r,h1,h2⟩:=loop_inv (step:=assign_Match_L18 a b o) (fun s=>∃ t:Nat,s.2.2=(t:Int)∧t≤o.length∧s.1.length=a.length∧s.2.1.length=b.length∧gr a b o (neg1 a.length) (nofree b.length)=onl (o.take t) (gr a b (o.drop t) s.1 s.2.1)) (fun s=>o.length-s.2.2.toNat)
    (fun r=>match r with | .inl q=>∃ p,gr a b o (neg1 a.length) (nofree b.length)=.inl p∧q=sortI p | .inr l=>gr a b o (neg1 a.length) (nofree b.length)=.inr l) (by
      rintro ⟨l,tk,_⟩ ⟨t,rfl,ht,hl,htl,hgr⟩;dsimp only at hl htl hgr ⊢;unfold assign_Match_L18;dsimp only
      by_cases hlt:t<o.length
      · obtain ⟨i,e1,e2,e3⟩:=hg t hlt;rw [if_pos (dpos (by omega)),vw_idx hlt];simp only [Option.bind_some];rw [e1,best_ok htl hb e2];simp only [Option.bind_some];rw [drop_one hlt,e1] at hgr;rw [gr_cons] at hgr;rcases bf_range b tk (vw a i) b.length with h5 | ⟨u,h5,h6⟩
        · right;rw [h5] at hgr ⊢;rw [if_pos (by omega)] at hgr;rw [if_pos (dpos (by omega)),wk1 (by omega),if_pos (by omega)];have hcl:slices_Clone_int_int_ ((o.drop (Int.toNat (0:Int))).take (Int.toNat ((t+1:Nat):Int)-Int.toNat (0:Int)))=some (o.take (t+1)):=by
            unfold slices_Clone_int_int_;simp only [Int.toNat_natCast,Int.toNat_zero,List.drop_zero,Nat.sub_zero,List.nil_append];rw [if_pos (by simp; omega)]
          rw [hcl];simp only [Option.bind_some];rw [if_pos ⟨by rw [take_one hlt]; simp,by simp; omega⟩];exact ⟨_,rfl,_,hgr,by rw [take_one hlt,e1]⟩
        · left;rw [h6] at hgr ⊢;rw [if_neg (by omega),Int.toNat_natCast,onl_onl] at hgr;rw [if_neg (dneg (by omega)),bw_idx (by omega:u<tk.length)];simp only [Option.bind_some];rw [vw_idx (by omega:i<l.length)];simp only [Option.bind_some,Int.toNat_natCast];rw [wk1 (by omega)];exact ⟨_,rfl,⟨t+1,rfl,by omega,by simp [hl],by simp [htl],by rw [hgr,take_one hlt,e1]⟩,by dsimp only; omega⟩
      · right;rw [if_neg (dneg (by omega))];obtain rfl:t=o.length:=by omega
        rw [List.drop_length] at hgr;exact ⟨_,rfl,hgr⟩) (neg1 a.length,List.replicate (Int.toNat ((b).length:Int)) false,0) ⟨0,rfl,by omega,by simp [neg1],by simp,by
        dsimp only;rw [List.drop_zero,List.take_zero];show _=onl [] (gr a b o (neg1 a.length) (List.replicate (Int.toNat ((b).length:Int)) false))
        rw [Int.toNat_natCast];show gr a b o (neg1 a.length) (nofree b.length)=onl [] (gr a b o (neg1 a.length) (nofree b.length))
        cases gr a b o (neg1 a.length) (nofree b.length) <;> simp [onl]⟩ (by dsimp only; omega)
  rw [h1];cases r with
  | inl q=>obtain ⟨p,h3,rfl⟩:=h2; rw [h3]; rfl
  | inr l=>
    have h2':gr a b o (neg1 a.length) (nofree b.length)=.inr l:=h2;rw [h2']; rfl
def nf (a:List Int) (dn:List Bool):Nat→Int
  | 0=>-1
  | k+1=>if 0<vw a k∧bw dn k=false∧(nf a dn k<0∨vw a (nf a dn k).toNat<vw a k) then (k:Int) else nf a dn k
theorem nf_spec (a:List Int)(dn:List Bool):∀ k,(nf a dn k = -1∧∀ i,i<k→0<vw a i→bw dn i=true)∨
    ∃ i:Nat,i<k∧nf a dn k=i∧0<vw a i∧bw dn i=false∧∀ j:Nat,j<k→0<vw a j→bw dn j=false→j=i∨ls a i j
  | 0=>Or.inl ⟨rfl,fun t h=>by omega⟩
  | k+1=>by
    have ih:=nf_spec a dn k;have key:∀ i:Nat,ky a (i:Int)=vw a i:=fun i=>by unfold ky vw; rw [Int.toNat_natCast]
    unfold nf
    by_cases e:0<vw a k∧bw dn k=false∧(nf a dn k<0∨vw a (nf a dn k).toNat<vw a k)
    · rw [if_pos e];refine Or.inr ⟨k,by omega,rfl,e.1,e.2.1,fun j hj h0 hdn=>?_⟩
      by_cases ej:j=k
      · exact Or.inl ej
      · rcases ih with ⟨h1,h2⟩ | ⟨i,h1,h2,h3,h4,h5⟩
        · rw [h2 j (by omega) h0] at hdn; cases hdn
        · right;rw [h2,Int.toNat_natCast] at e;have hki:ls a k i:=by unfold ls; rw [key,key]; omega
          rcases h5 j (by omega) h0 hdn with rfl | h6
          · exact hki
          · exact ls_trans hki h6
    · rw [if_neg e];rcases ih with ⟨h1,h2⟩ | ⟨i,h1,h2,h3,h4,h5⟩
      · refine Or.inl ⟨h1,fun i hi h0=>?_⟩
        by_cases ei:i=k
        · subst ei;cases hb:bw dn i with
          | true=>rfl
          | false=>exact absurd ⟨h0,hb,Or.inl (by omega)⟩ e
        · exact h2 i (by omega) h0
      · refine Or.inr ⟨i,by omega,h2,h3,h4,fun j hj h0 hdn=>?_⟩
        by_cases ej:j=k
        · subst ej;right;rw [h2,Int.toNat_natCast] at e;unfold ls; rw [key,key]
          by_cases hlt:vw a i<vw a j
          · exact absurd ⟨h0,hdn,Or.inr hlt⟩ e
          · omega
        · exact h5 j (by omega) h0 hdn
theorem next_sel {a:List Int}{dn:List Bool}(hdn:dn.length=a.length)(hl:a.length≤32):loop (r16_Match_L19 a dn) (-1,0)=some (nf a dn a.length):=by
  obtain ⟨r,h1,rfl⟩:=loop_inv (step:=r16_Match_L19 a dn) (fun s=>∃ t:Nat,s=(nf a dn t,(t:Int))∧t≤a.length) (fun s=>a.length-s.2.toNat) (fun r=>r=nf a dn a.length) (by
    rintro _ ⟨t,rfl,ht⟩;unfold r16_Match_L19;dsimp only
    by_cases hlt:t<a.length
    · left;rw [if_pos (dpos (by omega)),vw_idx hlt,bw_idx (by omega:t<dn.length)];simp only [Option.bind_some];rw [wk1 (by omega)];have hs:nf a dn (t+1)=if 0<vw a t∧bw dn t=false∧(nf a dn t<0∨vw a (nf a dn t).toNat<vw a t) then (t:Int) else nf a dn t:=rfl
      refine ⟨(nf a dn (t+1),((t+1:Nat):Int)),?_,⟨t+1,rfl,by omega⟩,by dsimp only; omega⟩;rw [hs]
      by_cases e0:vw a t>0
      · rw [if_pos (dpos e0)]
        by_cases e1:bw dn t=true
        · rw [if_neg (by rw [e1]; simp),if_neg (by rw [e1]; simp)]
        · have e1':bw dn t=false:=by simpa using e1
          rw [if_pos (by rw [e1']; rfl)]
          by_cases e3:nf a dn t<0
          · rw [if_pos (dpos e3),if_pos ⟨e0,e1',Or.inl e3⟩]
          · rw [if_neg (dneg e3)];rcases nf_spec a dn t with ⟨e,_⟩ | ⟨u,h5,h6,_⟩
            · omega
            · rw [h6,vw_idx (by omega:u<a.length)];simp only [Option.bind_some,Int.toNat_natCast]
              by_cases e4:vw a t>vw a u
              · rw [if_pos (dpos e4),if_pos ⟨e0,e1',Or.inr e4⟩]
              · rw [if_neg (dneg e4),if_neg (by omega)]
      · rw [if_neg (dneg e0),if_neg (by omega)]
    · right;rw [if_neg (dneg (by omega))];obtain rfl:t=a.length:=by omega
      exact ⟨_,rfl,rfl⟩) (-1,0) ⟨0,rfl,by omega⟩ (by dsimp only; omega)
  exact h1
theorem marked_ok {a:List Int}{dn:List Bool}{x:Int}{i:Nat}(hx:x=i)(hi:i<a.length)(hdn:dn.length=a.length)(hl:a.length≤32){p:List Int}(hp:p.Nodup)(hm:∀ y,y∈p↔∃ k:Nat,k<a.length∧y=k∧(bw dn k=true∨k=i)) :
    loop (r16_Match_L46 a dn x) (([]:List Int),0)=some (sortI p):=by
  subst hx;obtain ⟨r,h1,rfl⟩:=loop_inv (step:=r16_Match_L46 a dn i) (fun s=>∃ t:Nat,s.2=(t:Int)∧t≤a.length∧s.1.length≤t∧s.1.Pairwise (· < ·)∧∀ y,y∈s.1↔∃ k:Nat,k<t∧y=k∧(bw dn k=true∨k=i)) (fun s=>a.length-s.2.toNat) (fun r=>r=sortI p) (by
    rintro ⟨d,_⟩ ⟨t,rfl,ht,hdl,hpw,hd⟩;dsimp only at hdl hpw hd ⊢;unfold r16_Match_L46;dsimp only;rw [Int.toNat_natCast]
    by_cases hlt:t<a.length
    · left;rw [if_pos (dpos (by omega)),bw_idx (by rw [List.length_set]; omega),bw_set (by omega)];simp only [Option.bind_some];rw [wk1 (by omega)]
      by_cases e:(if t=i then true else bw dn t)=true
      · have e':bw dn t=true∨t=i:=by
          by_cases h:t=i
          · exact Or.inr h
          · rw [if_neg h] at e; exact Or.inl e
        rw [if_pos e,if_pos (by simp only [List.length_singleton]; omega)];refine ⟨_,rfl,⟨t+1,rfl,by omega,by simp; omega,?_,fun y=>?_⟩,by dsimp only; omega⟩
        · refine List.pairwise_append.2 ⟨hpw,List.pairwise_singleton _ _,fun y hy z hz=>?_⟩;obtain ⟨k,h5,rfl,_⟩:=(hd y).1 hy;simp only [List.mem_singleton] at hz;omega
        · simp only [List.mem_append,List.mem_singleton,hd y];constructor
          · rintro (⟨k,h5,h6,h7⟩ | rfl)
            · exact ⟨k,by omega,h6,h7⟩
            · exact ⟨t,by omega,rfl,e'⟩
          · rintro ⟨k,h5,h6,h7⟩
            by_cases h:k=t
            · subst h; exact Or.inr h6
            · exact Or.inl ⟨k,by omega,h6,h7⟩
      · have e':¬ (bw dn t=true∨t=i):=by
          rintro (h | h)
          · apply e; split
            · rfl
            · exact h
          · exact e (by rw [if_pos h])
        rw [if_neg e];refine ⟨_,rfl,⟨t+1,rfl,by omega,by dsimp only; omega,hpw,fun y=>?_⟩,by dsimp only; omega⟩;rw [hd y];constructor
        · rintro ⟨k,h5,h6,h7⟩; exact ⟨k,by omega,h6,h7⟩
        · rintro ⟨k,h5,h6,h7⟩;have:k≠t:=fun h=>e' (h ▸ h7)
          exact ⟨k,by omega,h6,h7⟩
    · right;rw [if_neg (dneg (by omega))];obtain rfl:t=a.length:=by omega
      exact ⟨_,rfl,strict_ext _ _ hpw (sortI_strict hp) fun y=>by rw [hd y,(sortI_perm p).mem_iff,hm y]⟩) (([]:List Int),0) ⟨0,rfl,by omega,by simp,List.Pairwise.nil,fun y=>by simp⟩ (by dsimp only; omega)
  exact h1
theorem refmatch_ok {a b:List Int}(hV:Vd a b){o:List Int}(hO:Ord a o)(hol:o.length≤32):r16_Match a b=some (res (gr a b o (neg1 a.length) (nofree b.length))):=by
  obtain ⟨ha,hb,hv,hw⟩:=hV;obtain ⟨c,hc,hc0⟩:=check_ok a b;obtain rfl:=hc0.2 ⟨ha,hb,hv,hw⟩;unfold r16_Match;rw [valid_eq,hc];simp only [Option.bind_some];rw [if_neg (by decide),if_pos (by omega),fill_eq a ha];simp only [Option.bind_some];rw [if_pos (by omega),if_pos (by omega)];have hg:∀ t,t<o.length→∃ i:Nat,vw o t=i∧i<a.length∧0<vw a i:=fun t ht=>by
    obtain ⟨i,h1,h2,h3⟩:=(hO.mem _).1 (vw_mem ht);exact ⟨i,h2,h1,h3⟩
  have hnd:=hO.nodup;have htk:∀ t,(o.take t).Nodup:=fun t=>hnd.sublist (List.take_sublist _ _)
  have hout:∀ t,t<o.length→vw o t∉o.take t:=fun t ht hm=>by
    have:=htk (t+1);rw [take_one ht] at this;exact (List.nodup_append.1 this).2.2 _ hm _ (by simp) rfl
  have hinit:∀ i:Nat,i<a.length→(bw (List.replicate (Int.toNat ((a).length:Int)) false) i=true↔(i:Int)∈o.take 0):=fun i hi=>by
    rw [List.take_zero];have:bw (List.replicate (Int.toNat ((a).length:Int)) false) i=false:=by
      unfold bw;rw [List.getD_eq_getElem?_getD,List.getElem?_eq_getElem (by simp; omega)];simp
    rw [this];simp
  obtain ⟨r,h1,h2⟩:=loop_dec (step:=r16_Match_L17 a b) (fun n s=>∃ t:Nat,n=o.length-t∧t≤o.length∧s.1.length=a.length∧s.2.1.length=b.length∧s.2.2.length=a.length∧(∀ i:Nat,i<a.length→(bw s.2.2 i=true↔(i:Int)∈o.take t))∧gr a b o (neg1 a.length) (nofree b.length)=onl (o.take t) (gr a b (o.drop t) s.1 s.2.1))
    (fun r=>r=res (gr a b o (neg1 a.length) (nofree b.length))) (by
      rintro n ⟨l,tk,dn⟩ ⟨t,rfl,ht,hl,htl,hdl,hd,hgr⟩;dsimp only at hl htl hdl hd hgr ⊢;unfold r16_Match_L17;dsimp only;rw [next_sel hdl ha];simp only [Option.bind_some]
      by_cases hlt:t<o.length
      · obtain ⟨i,e1,e2,e3⟩:=hg t hlt;have hni:bw dn i=false:=by
          cases hb2:bw dn i with
          | false=>rfl
          | true=>exact absurd ((hd i e2).1 hb2) (by rw [← e1]; exact hout t hlt)
        have hn:nf a dn a.length=i:=by
          rcases nf_spec a dn a.length with ⟨_,h5⟩ | ⟨j,h5,h6,h7,h8,h9⟩
          · rw [h5 i e2 e3] at hni; cases hni
          · rw [h6];rcases h9 i e2 e3 hni with e | e
            · rw [e]
            · exfalso;obtain ⟨q,hq,hqj⟩:=vw_of_mem ((hO.mem (j:Int)).2 ⟨j,h5,rfl,h7⟩);have hqt:t≤q:=by
                rcases Nat.lt_or_ge q t with h | h
                · exfalso;have:(j:Int)∈o.take t:=by
                    rw [← hqj,vw_elem hq];exact List.mem_iff_getElem.2 ⟨q,by simp; omega,by simp⟩
                  rw [(hd j h5).2 this] at h8; cases h8
                · exact h
              by_cases hqe:q=t
              · subst hqe;have:(i:Int)=j:=by rw [← e1,hqj]
                obtain rfl:i=j:=by omega
                exact ls_irr e
              · have:=hO.srt t q (Nat.zero_le _) (by omega) hq;rw [e1,hqj] at this;exact ls_irr (ls_trans this e)
        rw [hn,if_neg (dneg (by omega)),bw_idx (by omega:i<dn.length)];simp only [Option.bind_some];rw [best_eq a b tk i htl,best_ok htl hb e2];simp only [Option.bind_some];rw [drop_one hlt,e1] at hgr;rw [gr_cons] at hgr;rcases bf_range b tk (vw a i) b.length with h5 | ⟨u,h5,h6⟩
        · right;rw [h5] at hgr ⊢;rw [if_pos (by omega)] at hgr;rw [if_pos (dpos (by omega))];have hgr':gr a b o (neg1 a.length) (nofree b.length)=.inl (o.take t++[(i:Int)]):=hgr;rw [marked_ok (p:=o.take t++[(i:Int)]) rfl e2 hdl ha (by rw [← e1,← take_one hlt]; exact htk _) fun y=>?_,hgr']
          · exact ⟨_,rfl,rfl⟩
          · simp only [List.mem_append,List.mem_singleton];constructor
            · rintro (h | rfl)
              · obtain ⟨k,h7,rfl,h8⟩:=(hO.mem y).1 (List.mem_of_mem_take h);exact ⟨k,h7,rfl,Or.inl ((hd k h7).2 h)⟩
              · exact ⟨i,e2,rfl,Or.inr rfl⟩
            · rintro ⟨k,h7,rfl,h8 | rfl⟩
              · exact Or.inl ((hd k h7).1 h8)
              · exact Or.inr rfl
        · left;rw [h6] at hgr ⊢;rw [if_neg (by omega),Int.toNat_natCast,onl_onl] at hgr;rw [if_neg (dneg (by omega)),bw_idx (by omega:u<tk.length)];simp only [Option.bind_some];rw [vw_idx (by omega:i<l.length)];simp only [Option.bind_some,Int.toNat_natCast];refine ⟨_,o.length-(t+1),rfl,by omega,t+1,rfl,by omega,by simp [hl],by simp [htl],by simp [hdl],fun k hk=>?_,by dsimp only; rw [hgr,take_one hlt,e1]⟩;dsimp only;rw [bw_set (by omega),take_one hlt,e1];simp only [List.mem_append,List.mem_singleton]
          by_cases e:k=i
          · rw [if_pos e,e]; simp
          · rw [if_neg e,hd k hk];constructor
            · exact Or.inl
            · rintro (h | h)
              · exact h
              · exact absurd (by omega) e
      · right;obtain rfl:t=o.length:=by omega
        have hn:nf a dn a.length = -1:=by
          rcases nf_spec a dn a.length with ⟨h5,_⟩ | ⟨j,h5,h6,h7,h8,h9⟩
          · exact h5
          · rw [(hd j h5).2 (by rw [List.take_length]; exact (hO.mem _).2 ⟨j,h5,rfl,h7⟩)] at h8; cases h8
        rw [hn,if_pos (dpos (by omega))];rw [List.drop_length] at hgr;have hgr':gr a b o (neg1 a.length) (nofree b.length)=.inr l:=hgr;exact ⟨_,rfl,by rw [hgr']; rfl⟩) o.length (neg1 a.length,List.replicate (Int.toNat ((b).length:Int)) false,List.replicate (Int.toNat ((a).length:Int)) false) ⟨0,rfl,by omega,by simp [neg1],by simp,by simp,hinit,by
        dsimp only;rw [List.drop_zero,List.take_zero];show _=onl [] (gr a b o (neg1 a.length) (List.replicate (Int.toNat ((b).length:Int)) false))
        rw [Int.toNat_natCast];show gr a b o (neg1 a.length) (nofree b.length)=onl [] (gr a b o (neg1 a.length) (nofree b.length))
        cases gr a b o (neg1 a.length) (nofree b.length) <;> simp [onl]⟩ (by omega)
  rw [h1];subst h2;rfl
theorem match_bad {a b:List Int}(hV:¬ Vd a b):∃ c,assign_check a b=some c∧c≠0∧c≠14∧assign_Match a b=some ([],[],c):=by
  obtain ⟨c,hc,hc0⟩:=check_ok a b;have hne:c≠0:=fun e=>hV (hc0.1 e)
  have h14:c≠14:=by
    intro e;subst e;unfold assign_check at hc
    split at hc
    · cases hc
    · split at hc
      · cases hc
      · rename_i q1 q2
        obtain ⟨d,e1,e2⟩:=chk_a a (by simp at q1; omega);obtain ⟨d',e3,e4⟩:=chk_b b (by simp at q2; omega);rw [e1] at hc;simp only [Option.bind_some] at hc;rw [e3] at hc;rcases e2 with ⟨rfl,_⟩ | ⟨rfl,_⟩
        · cases hc
        · rcases e4 with ⟨rfl,_⟩ | ⟨rfl,_⟩ <;> cases hc
  refine ⟨c,hc,hne,h14,?_⟩;unfold assign_Match; rw [hc]; simp only [Option.bind_some]; rw [if_pos (by simpa using hne)]
theorem match_spec (a b:List Int)(hN:NZ a):∃ r,assign_Match a b=some r∧(¬ Vd a b→r.1=[]∧r.2.1=[]∧r.2.2≠0∧r.2.2≠14):=by
  by_cases hV:Vd a b
  · obtain ⟨o,_,hO,hol,h1⟩:=match_ok hV hN;exact ⟨_,h1,fun h=>absurd hV h⟩
  · obtain ⟨c,hc,hne,h14,h1⟩:=match_bad hV;exact ⟨_,h1,fun _=>⟨rfl,rfl,hne,h14⟩⟩
theorem rmatch_eq (a b:List Int)(hN:NZ a):r16_Match a b=assign_Match a b:=by
  by_cases hV:Vd a b
  · obtain ⟨o,_,hO,hol,h1⟩:=match_ok hV hN;rw [h1,refmatch_ok hV hO hol]
  · obtain ⟨c,hc,hne,h14,h1⟩:=match_bad hV;rw [h1];unfold r16_Match; rw [valid_eq,hc]; simp only [Option.bind_some]; rw [if_pos (by simpa using hne)]
theorem len_le {α:Type} [DecidableEq α]:∀ (l m:List α),l.Nodup→(∀ x,x∈l→x∈m)→l.length≤m.length
  | [],m,_,_=>Nat.zero_le _
  | x::l,m,hn,hs=>by
    have h:=List.nodup_cons.1 hn;have hx:x∈m:=hs x List.mem_cons_self;have:=len_le l (m.erase x) h.2 fun y hy=>by
      have hyx:y≠x:=fun e=>h.1 (e ▸ hy)
      exact (List.mem_erase_of_ne hyx).2 (hs y (List.mem_cons_of_mem _ hy))
    rw [List.length_erase_of_mem hx] at this;have hp:0<m.length:=List.length_pos_of_mem hx;simp only [List.length_cons];omega
def tl (b:List Int) (n:Int) (k:Nat):List Nat:=(List.range k).filter fun t=>decide (n≤vw b t)
theorem tl_mem {b:List Int}{n:Int}{k t:Nat}:t∈tl b n k↔t<k∧n≤vw b t:=by unfold tl; simp
theorem tl_nodup (b:List Int)(n:Int)(k:Nat):(tl b n k).Nodup:=List.nodup_range.filter _
def Few (a b:List Int):Prop:=∃ k,k<a.length∧0<vw a k∧(tl b (vw a k) b.length).length<(tl a (vw a k) a.length).length
structure Asg (a b l:List Int):Prop where
  ll:l.length=a.length
  z:∀ i,i<a.length→vw a i=0→vw l i = -1
  at_:∀ i,i<a.length→vw a i≠0→∃ t:Nat,t<b.length∧vw l i=t∧vw a i≤vw b t
  inj:∀ i j,i<a.length→j<a.length→vw a i≠0→vw a j≠0→vw l i=vw l j→i=j
theorem nofew_f {a b:List Int}(f:Nat→Nat)(hat:∀ i,i<a.length→vw a i≠0→f i<b.length∧vw a i≤vw b (f i))(hinj:∀ i j,i<a.length→j<a.length→vw a i≠0→vw a j≠0→f i=f j→i=j):¬ Few a b:=by
  rintro ⟨k,hk,h0,hlt⟩;have hin:∀ i,i∈tl a (vw a k) a.length→i<a.length∧vw a i≠0:=fun i hi=>by
    have:=tl_mem.1 hi;exact ⟨this.1,by omega⟩
  have h1:((tl a (vw a k) a.length).map f).Nodup:=by
    refine List.pairwise_map.2 (List.Pairwise.imp_of_mem ?_ (tl_nodup a (vw a k) a.length));intro i j hi hj hne e;exact hne (hinj i j (hin i hi).1 (hin j hj).1 (hin i hi).2 (hin j hj).2 e)
  have h2:=len_le _ (tl b (vw a k) b.length) h1 fun x hx=>by
    obtain ⟨i,hi,rfl⟩:=List.mem_map.1 hx;obtain ⟨ht,e2⟩:=hat i (hin i hi).1 (hin i hi).2;have:=tl_mem.1 hi;exact tl_mem.2 ⟨ht,by omega⟩
  rw [List.length_map] at h2;omega
structure Rfs (a b r:List Int):Prop where
  asc:r.Pairwise (· < ·)
  mem:∀ x∈r,∃ i:Nat,x=i∧i<a.length∧0<vw a i
  least:∃ i:Nat,(i:Int)∈r∧(∀ j:Nat,(j:Int)∈r→vw a i≤vw a j)∧(tl b (vw a i) b.length).length<r.length
theorem Rfs.few {a b r:List Int}(h:Rfs a b r):Few a b:=by
  obtain ⟨i,hi,hle,hlt⟩:=h.least;obtain ⟨i',e,h1,h2⟩:=h.mem _ hi;obtain rfl:i=i':=by omega
  refine ⟨i,h1,h2,Nat.lt_of_lt_of_le hlt ?_⟩;have hnd:(r.map Int.toNat).Nodup:=by
    refine List.pairwise_map.2 (List.Pairwise.imp_of_mem ?_ h.asc);intro x y hx hy hxy e;obtain ⟨j,rfl,_,_⟩:=h.mem x hx;obtain ⟨k,rfl,_,_⟩:=h.mem y hy;omega
  have:=len_le _ (tl a (vw a i) a.length) hnd fun x hx=>by
    obtain ⟨y,hy,rfl⟩:=List.mem_map.1 hx;obtain ⟨j,rfl,h3,h4⟩:=h.mem y hy;rw [Int.toNat_natCast];exact tl_mem.2 ⟨h3,hle j hy⟩
  rwa [List.length_map] at this
theorem asd_nil (a b:List Int):Asd a b [] (neg1 a.length) (nofree b.length):=
  ⟨by simp [neg1],by simp [nofree],fun i h=>(by cases h),fun x h=>(by cases h),fun k hk _=>by
    rw [vw_elem (by simp [neg1]; omega)]; simp [neg1],fun t ht h=>by
    have:bw (nofree b.length) t=false:=by
      unfold bw nofree;rw [List.getD_eq_getElem?_getD,List.getElem?_eq_getElem (by simp; omega)];simp
    rw [this] at h;exact Bool.noConfusion h,fun i j h=>(by cases h)⟩
theorem greedy {a b o:List Int}(hV:Vd a b)(hO:Ord a o):(∃ l,gr a b o (neg1 a.length) (nofree b.length)=.inr l∧Asg a b l)∨∃ p,gr a b o (neg1 a.length) (nofree b.length)=.inl p∧Rfs a b (sortI p):=by
  have hx:∀ x∈o,∃ i:Nat,x=i∧i<a.length∧0<vw a i:=fun x hx=>by
    obtain ⟨i,h1,h2,h3⟩:=(hO.mem x).1 hx;exact ⟨i,h2,h1,h3⟩
  have h:=gr_ok (b:=b) o [] _ _ (asd_nil a b) hx hO.nodup (fun x _ h=>by cases h);generalize gr a b o (neg1 a.length) (nofree b.length)=g at h;cases g with
  | inr l=>
    left;obtain ⟨tk,hA⟩:=h;rw [List.nil_append] at hA;have hpos:∀ i,i<a.length→vw a i≠0→(i:Int)∈o:=fun i hi h0=>(hO.mem _).2 ⟨i,hi,rfl,by have:=hV.2.2.1 _ (vw_mem hi); omega⟩
    refine ⟨l,rfl,hA.ll,fun i hi h0=>hA.no i hi fun hm=>?_,fun i hi h0=>?_,fun i j hi hj h1 h2 e=>hA.inj i j (hpos i hi h1) (hpos j hj h2) e⟩
    · obtain ⟨j,_,e,h2⟩:=(hO.mem _).1 hm;obtain rfl:i=j:=by omega
      omega
    · obtain ⟨_,_,t,h3,h4,_,h5⟩:=hA.at_ i (hpos i hi h0);exact ⟨t,h3,h4,h5⟩
  | inl p=>
    right;obtain ⟨q,r,i,l,tk,rfl,rfl,hA,hfree⟩:=h;rw [List.nil_append] at hA;refine ⟨_,rfl,?_⟩;have hnd:=hO.nodup;have hq:(q++[(i:Int)]).Nodup:=by
      refine hnd.sublist ?_;exact List.Sublist.append_left (by simp) q
    have hper:=sortI_perm (q++[(i:Int)]);obtain ⟨i',e,hi,h0⟩:=hx (i:Int) (by simp);obtain rfl:i=i':=by omega
    refine ⟨sortI_strict hq,fun x hx'=>hx x ?_,i,hper.mem_iff.2 (by simp),fun j hj=>?_,?_⟩
    · have:=hper.mem_iff.1 hx';simp only [List.mem_append,List.mem_singleton] at this;rcases this with h | h
      · simp [h]
      · simp [h]
    · have:=hper.mem_iff.1 hj;simp only [List.mem_append,List.mem_singleton] at this;rcases this with h | h
      · obtain ⟨k,hk,e2⟩:=vw_of_mem h;have hs:=hO.srt k q.length (Nat.zero_le _) hk (by simp);have e3:vw (q++(i:Int)::r) k=j:=by
          rw [vw_elem (by simp; omega),List.getElem_append_left hk,← vw_elem hk]; exact e2
        have e4:vw (q++(i:Int)::r) q.length=i:=by
          rw [vw_elem (by simp)]; simp
        rw [e3,e4] at hs;have key:∀ i:Nat,ky a (i:Int)=vw a i:=fun i=>by unfold ky vw; rw [Int.toNat_natCast]
        unfold ls at hs;rw [key,key] at hs;omega
      · obtain rfl:j=i:=by omega
        exact Int.le_refl _
    · rw [hper.length_eq,List.length_append,List.length_singleton];have:=len_le (tl b (vw a i) b.length) (q.map fun x=>(vw l x.toNat).toNat) (tl_nodup _ _ _) fun t ht=>by
        obtain ⟨h1,h2⟩:=tl_mem.1 ht;cases hb:bw tk t with
        | false=>have:=hfree t h1 hb; omega
        | true=>
          obtain ⟨j,h3,h4⟩:=hA.tk t h1 hb;exact List.mem_map.2 ⟨(j:Int),h3,by rw [Int.toNat_natCast,h4,Int.toNat_natCast]⟩
      rw [List.length_map] at this;omega
theorem match_two {a b:List Int}(hV:Vd a b)(hN:NZ a):(∃ l,assign_Match a b=some (l,[],0)∧Asg a b l)∨∃ r,assign_Match a b=some ([],r,14)∧Rfs a b r:=by
  obtain ⟨o,_,hO,_,h1⟩:=match_ok hV hN;rcases greedy hV hO with ⟨l,h2,h3⟩ | ⟨p,h2,h3⟩
  · exact Or.inl ⟨l,by rw [h1,h2]; rfl,h3⟩
  · exact Or.inr ⟨_,by rw [h1,h2]; rfl,h3⟩
theorem fits_eq (a b l:List Int):r16_Fits a b l=assign_Fits a b l:=by
  have e:r16_Fits_L9 a b l=assign_Fits_L9 a b l:=by
    funext ⟨tk,t⟩;unfold r16_Fits_L9 assign_Fits_L9;dsimp only;cases idx l t with
    | none=>cases idx a t with
      | none=>rfl
      | some y=>simp
    | some x=>cases idx a t with
      | none=>rfl
      | some y=>
        simp only [Option.bind_some]
  unfold r16_Fits assign_Fits;rw [valid_eq,e];rfl
theorem fits_total (a b l:List Int):∃ v,assign_Fits a b l=some v:=by
  obtain ⟨c,hc,hc0⟩:=check_ok a b;unfold assign_Fits;rw [hc];simp only [Option.bind_some]
  by_cases e:c=0
  · subst e;obtain ⟨ha,hb,hv,hw⟩:=hc0.1 rfl;rw [if_neg (by decide)]
    by_cases hl:l.length=a.length
    · rw [if_neg (by simp [hl]),if_pos (by omega)];obtain ⟨d,h1,_⟩:=loop_inv (step:=assign_Fits_L9 a b l) (fun s=>∃ t:Nat,s.2=(t:Int)∧t≤l.length∧s.1.length=b.length) (fun s=>l.length-s.2.toNat) (fun _=>True) (by
        rintro ⟨tk,_⟩ ⟨t,rfl,ht,htl⟩;dsimp only at htl ⊢;unfold assign_Fits_L9;dsimp only
        by_cases hlt:t<l.length
        · rw [if_pos (dpos (by omega)),vw_idx hlt,vw_idx (by omega:t<a.length)];simp only [Option.bind_some];rw [wk1 (by omega)]
          by_cases e1:vw a t=0
          · rw [if_pos (by simp [e1])]
            by_cases e2:vw l t = -1
            · rw [if_neg (by simp [e2])];exact Or.inl ⟨_,rfl,⟨t+1,rfl,by omega,htl⟩,by dsimp only; omega⟩
            · rw [if_pos (by simp [e2])];exact Or.inr ⟨_,rfl,trivial⟩
          · rw [if_neg (by simp [e1])]
            by_cases e2:vw l t<0
            · rw [if_pos (dpos e2)]; exact Or.inr ⟨_,rfl,trivial⟩
            · rw [if_neg (dneg e2)]
              by_cases e3:vw l t≥b.length
              · rw [if_pos (dpos e3)]; exact Or.inr ⟨_,rfl,trivial⟩
              · rw [if_neg (dneg e3)];obtain ⟨u,hu⟩:∃ u:Nat,vw l t=u:=⟨(vw l t).toNat,by omega⟩
                rw [hu,bw_idx (by omega:u<tk.length),vw_idx (by omega:u<b.length)];simp only [Option.bind_some];cases bw tk u with
                | true=>exact Or.inr ⟨_,rfl,trivial⟩
                | false=>
                  by_cases e4:vw b u<vw a t
                  · refine Or.inr ⟨.inl (),?_,trivial⟩;rw [if_neg (by simp),if_pos (dpos e4)]
                  · refine Or.inl ⟨(tk.set u true,((t+1:Nat):Int)),?_,⟨t+1,rfl,by omega,by simp [htl]⟩,by dsimp only; omega⟩;rw [if_neg (by simp),if_neg (dneg e4)];rfl
        · rw [if_neg (dneg (by omega))];exact Or.inr ⟨_,rfl,trivial⟩) (List.replicate (Int.toNat ((b).length:Int)) false,0) ⟨0,rfl,by omega,by simp⟩ (by dsimp only; omega)
      rw [h1];cases d with
      | inl _=>exact ⟨_,rfl⟩
      | inr _=>exact ⟨_,rfl⟩
    · rw [if_pos (by simp; omega)]; exact ⟨_,rfl⟩
  · rw [if_pos (by simpa using e)]; exact ⟨_,rfl⟩
theorem fits_ok {a b l:List Int}(hV:Vd a b)(hA:Asg a b l):assign_Fits a b l=some true:=by
  obtain ⟨c,hc,hc0⟩:=check_ok a b;obtain rfl:=hc0.2 hV;obtain ⟨ha,hb,hv,hw⟩:=hV;unfold assign_Fits;rw [hc];simp only [Option.bind_some];have hl:=hA.ll;rw [if_neg (by decide),if_neg (by simp [hl]),if_pos (by omega)];obtain ⟨d,h1,rfl⟩:=loop_inv (step:=assign_Fits_L9 a b l) (fun s=>∃ t:Nat,s.2=(t:Int)∧t≤l.length∧s.1.length=b.length∧∀ u,u<b.length→bw s.1 u=true→∃ j,j<t∧vw a j≠0∧vw l j=u) (fun s=>l.length-s.2.toNat) (fun d=>d=.inr ()) (by
    rintro ⟨tk,_⟩ ⟨t,rfl,ht,htl,htk⟩;dsimp only at htl htk ⊢;unfold assign_Fits_L9;dsimp only
    by_cases hlt:t<l.length
    · rw [if_pos (dpos (by omega)),vw_idx hlt,vw_idx (by omega:t<a.length)];simp only [Option.bind_some];rw [wk1 (by omega)];left
      by_cases e1:vw a t=0
      · rw [if_pos (by simp [e1]),if_neg (by simp [hA.z t (by omega) e1])];refine ⟨_,rfl,⟨t+1,rfl,by omega,htl,fun u hu htu=>?_⟩,by dsimp only; omega⟩;obtain ⟨j,h2,h3,h4⟩:=htk u hu htu;exact ⟨j,by omega,h3,h4⟩
      · obtain ⟨u,h2,h3,h4⟩:=hA.at_ t (by omega) e1;rw [if_neg (by simp [e1]),h3,if_neg (dneg (by omega)),if_neg (dneg (by omega)),bw_idx (by omega:u<tk.length),vw_idx h2];simp only [Option.bind_some];have hf:bw tk u=false:=by
          cases hb2:bw tk u with
          | false=>rfl
          | true=>
            obtain ⟨j,h5,h6,h7⟩:=htk u h2 hb2;have:=hA.inj j t (by omega) (by omega) h6 e1 (by omega);omega
        rw [hf,if_neg (by simp),if_neg (dneg (by omega))];refine ⟨_,rfl,⟨t+1,rfl,by omega,by simp [htl],fun v hv htv=>?_⟩,by dsimp only; omega⟩;dsimp only at htv;rw [Int.toNat_natCast,bw_set (by omega)] at htv
        by_cases ev:v=u
        · subst ev; exact ⟨t,by omega,e1,h3⟩
        · rw [if_neg ev] at htv;obtain ⟨j,h5,h6,h7⟩:=htk v hv htv;exact ⟨j,by omega,h6,h7⟩
    · rw [if_neg (dneg (by omega))];exact Or.inr ⟨_,rfl,rfl⟩) (List.replicate (Int.toNat ((b).length:Int)) false,0) ⟨0,rfl,by omega,by simp,fun u hu h=>by
        exfalso;have:bw (List.replicate (Int.toNat ((b).length:Int)) false) u=false:=by
          unfold bw;rw [List.getD_eq_getElem?_getD,List.getElem?_eq_getElem (by simp; omega)];simp
        dsimp only at h;rw [this] at h; cases h⟩ (by dsimp only; omega)
  rw [h1];rfl
def ldOf (its:List Item) (S:Int) (v:List Int):List Int:=lst (ld (yard its S v) (lens its) its.length) (S.toNat+trains its)
theorem make_plan {its:List Item}{w S:Int}{v:List Int}(hg:JobGood its w)(hl:leastcode_Least its w=some ((S,v),0)) :
    ∃ c,certificate_Make its w=some (((S,v),c),0)∧Accepts its w S v c∧c.length≤41:=by
  rcases Make_ok0 hg with ⟨v',S',m,c,hv,hm,hS,hA,hcl,hM,hL⟩ | h
  · rw [hl] at hL;cases hL;exact ⟨c,hM,hA,hcl⟩
  · exfalso;obtain ⟨p,e1,e2⟩:=Least_ok hg;rw [hl] at e1;cases e1;rcases e2 with ⟨v',S',m,hv,e,hm,hS⟩ | ⟨e,_⟩
    · cases e;obtain ⟨q,w1,w4⟩:=Witness_ok hg;unfold certificate_Make at h;rw [hl] at h;simp only [obind] at h;rw [w1] at h;rcases w4 with ⟨v',hv',h0,h3⟩ | ⟨_,hs⟩
      · simp only [obind] at h;rw [h0] at h;simp at h
      · exact absurd hv (hs.none (fun i=>(hg.b i).1) v)
    · cases e
theorem ldOf_len (its:List Item)(S:Int)(v:List Int):(ldOf its S v).length=S.toNat+trains its:=lst_len _ _
theorem ldOf_vd {its:List Item}{w S:Int}{v:List Int}(hG:Good its w S v)(tr:List Int):Vd (ldOf its S v) tr↔(tr.length≤32∧∀ x∈tr,1≤x∧x≤38400):=by
  have h1:=hG.st;have h2:trains its≤16:=trains_bound its 0 (by omega) fun x hx=>by
    obtain ⟨i,hi⟩:=List.getElem?_of_mem hx;exact (hG.job.it i x hi).1.2
  have h3:=hG.job.len;unfold Vd;rw [ldOf_len];constructor
  · rintro ⟨_,a,_,b⟩; exact ⟨a,b⟩
  · rintro ⟨a,b⟩;refine ⟨by omega,a,fun x hx=>?_,b⟩;obtain ⟨p,_,rfl⟩:=List.mem_map.1 hx;have:=ld_range (yard its S v) (lens its) (fun i=>lens_range hG i) its.length p;omega
def NZI (its:List Item):Prop:=∀ (w S:Int) (v:List Int),HasPlan its w S v→NZ (ldOf its S v)
theorem NZI.of_trains {its:List Item}(hN:12+trains its≤LN):NZI its:=fun w S v hP=>by
  obtain ⟨_,_,_,_,hG⟩:=hP;have h1:=hG.st;exact NZ.of_len (by rw [ldOf_len]; omega)
theorem sheet_ok {its:List Item}{w S:Int}{v:List Int}(hP:HasPlan its w S v)(hl:leastcode_Least its w=some ((S,v),0))(hN:NZI its)(tr:List Int) :
    ∃ c r,certificate_Make its w=some (((S,v),c),0)∧Accepts its w S v c∧c.length≤41∧assign_Match (ldOf its S v) tr=some r∧
      (¬ (tr.length≤32∧∀ x∈tr,1≤x∧x≤38400)→r.1=[]∧r.2.1=[]∧r.2.2≠0∧r.2.2≠14)∧
      ((tr.length≤32∧∀ x∈tr,1≤x∧x≤38400)→(r.2.1=[]∧r.2.2=0∧Asg (ldOf its S v) tr r.1)∨(r.1=[]∧r.2.2=14∧Rfs (ldOf its S v) tr r.2.1))∧
      rollin_Loads its w S v=some (ldOf its S v,0)∧
      planner_sheet its w tr=some (if r.2.2≠0 then ((([],0),((0,[]),[]),[]),r.2.1,r.2.2) else (((its,w),((S,v),c),r.1),[],0)):=by
  have hnz:=hN w S v hP;obtain ⟨m,hv,hm,hS,hG⟩:=hP;have hg:=hG.job;obtain ⟨c,hM,hA,hcl⟩:=make_plan hg hl;obtain ⟨r,r1,r3⟩:=match_spec (ldOf its S v) tr hnz;have hL:=Loads_ok hG;refine ⟨c,r,hM,hA,hcl,r1,fun h=>r3 fun q=>h ((ldOf_vd hG tr).1 q),fun h=>?_,hL,?_⟩
  · rcases match_two ((ldOf_vd hG tr).2 h) hnz with ⟨l,e,q⟩ | ⟨l,e,q⟩
    · rw [r1] at e; cases e; exact .inl ⟨rfl,rfl,q⟩
    · rw [r1] at e; cases e; exact .inr ⟨rfl,rfl,q⟩
  · unfold planner_sheet slices_Clone_humpyard_api_Item_humpyard_api_Item_;have hlen:=hg.len;rw [if_pos (by simp only [List.length_nil]; omega)];simp only [obind,List.nil_append];rw [hM];simp only [obind,bne_self_eq_false,Bool.false_eq_true,if_false];rw [hL];simp only [obind,bne_self_eq_false,Bool.false_eq_true,if_false];show ((assign_Match (ldOf its S v) tr).bind _)=_
    rw [r1];simp only [obind]
    by_cases q:r.2.2=0
    · rw [if_neg (by simpa using q),if_neg (by simpa using q)]
    · rw [if_pos (by simpa using q),if_pos q]
theorem tb_iff (x i:Nat):x.testBit i=true↔x / 2 ^ i%2=1:=by
  rw [Nat.testBit_eq_decide_div_mod_eq,decide_eq_true_iff]
theorem one_new {n a c r w p q:Nat}(hc:c<4096)(hN:isN r w c=true)(hl:∀ x,n≤x→x<c→isN r w x=false)(hn:n≤a+1)(hp:r≤p)(hpq:p<q)(hbp:c.testBit p=true)(hbq:c.testBit q=true)(hgt:a / 2 ^ q<c / 2 ^ q):False:=by
  have hq12:q<12:=by
    have h1:=(tb_iff c q).1 hbq;rcases Nat.lt_or_ge q 12 with h | h
    · exact h
    · have h2:2 ^ 12≤2 ^ q:=Nat.pow_le_pow_right (by omega) h;have h3:c / 2 ^ q=0:=Nat.div_eq_of_lt (by omega);rw [h3] at h1;omega
  unfold isN at hN;rw [Bool.and_eq_true,decide_eq_true_iff,decide_eq_true_iff] at hN;obtain ⟨hm,hw⟩:=hN;have hr0:0<2 ^ r:=Nat.two_pow_pos r;have hq0:0<2 ^ q:=Nat.two_pow_pos q;obtain ⟨j,rfl⟩:∃ j,q=r+j:=⟨q-r,by omega⟩
  have epow:2 ^ (r+j)=2 ^ r*2 ^ j:=Nat.pow_add 2 r j;generalize hM:c / 2 ^ (r+j)=M at *
  have e1:(2 ^ r*(2 ^ j*M)+(2 ^ r-1))%2 ^ r=2 ^ r-1:=by
    rw [Nat.mul_add_mod]; exact Nat.mod_eq_of_lt (by omega)
  have e2:(2 ^ r*(2 ^ j*M)+(2 ^ r-1)) / 2 ^ r=2 ^ j*M:=by
    rw [Nat.mul_add_div hr0,Nat.div_eq_of_lt (by omega),Nat.add_zero]
  have e3:c / 2 ^ r=2 ^ j*M+c / 2 ^ r%2 ^ j:=by
    have h1:=Nat.div_add_mod (c / 2 ^ r) (2 ^ j);rw [Nat.div_div_eq_div_mul,← epow,hM] at h1;exact h1.symm
  have hj12:j≤12:=by omega
  have w1:=pc_add j M (c / 2 ^ r%2 ^ j) hj12 (Nat.mod_lt _ (Nat.two_pow_pos j));have w2:=pc_add j M 0 hj12 (Nat.two_pow_pos j);rw [Nat.add_zero,pcd_zero] at w2;rw [← e3] at w1;have hN':isN r w (2 ^ r*(2 ^ j*M)+(2 ^ r-1))=true:=by
    unfold isN;rw [Bool.and_eq_true,decide_eq_true_iff,decide_eq_true_iff,e1,e2];exact ⟨rfl,by omega⟩
  have hge:n≤2 ^ r*(2 ^ j*M)+(2 ^ r-1):=by
    have h1:a<2 ^ (r+j)*(a / 2 ^ (r+j)+1):=by
      have h2:=Nat.div_add_mod a (2 ^ (r+j));have h3:=Nat.mod_lt a hq0;rw [Nat.mul_add,Nat.mul_one];omega
    have h4:2 ^ (r+j)*(a / 2 ^ (r+j)+1)≤2 ^ (r+j)*M:=Nat.mul_le_mul_left _ hgt;have h5:2 ^ r*(2 ^ j*M)=2 ^ (r+j)*M:=by rw [epow,Nat.mul_assoc]
    omega
  have hlt:2 ^ r*(2 ^ j*M)+(2 ^ r-1)<c:=by
    have h1:=Nat.div_add_mod c (2 ^ r);rw [hm] at h1;rcases Nat.lt_or_ge (2 ^ r*(2 ^ j*M)+(2 ^ r-1)) c with h | h
    · exact h
    · exfalso;have h2:c / 2 ^ r≤2 ^ j*M:=by
        have h3:2 ^ r*(c / 2 ^ r)≤2 ^ r*(2 ^ j*M):=by omega
        exact Nat.le_of_mul_le_mul_left h3 hr0
      have h4:c / 2 ^ r%2 ^ j=0:=by omega
      obtain ⟨i,rfl⟩:∃ i,p=r+i:=⟨p-r,by omega⟩
      have h5:=(tb_iff c (r+i)).1 hbp;rw [Nat.pow_add,← Nat.div_div_eq_div_mul] at h5;have h6:c / 2 ^ r=2 ^ j*M:=by omega
      obtain ⟨u,rfl⟩:∃ u,j=i+1+u:=⟨j-(i+1),by omega⟩
      rw [h6,Nat.pow_add,Nat.pow_succ,Nat.mul_assoc,Nat.mul_assoc,Nat.mul_div_cancel_left _ (Nat.two_pow_pos i)] at h5;omega
  rw [hl _ hge hlt] at hN';cases hN'
theorem con_of_ld (Y:Yard)(ln:Nat→Int)(h:∀ i,0≤ln i∧ln i≤400)(p:Nat):∀ n,0<ld Y ln n p→∃ i,i<n∧0<con Y ln i p
  | 0,h0=>by simp [ld] at h0
  | n+1,h0=>by
    simp only [ld] at h0
    by_cases c:0<con Y ln n p
    · exact ⟨n,by omega,c⟩
    · obtain ⟨i,h1,h2⟩:=con_of_ld Y ln h p n (by omega);exact ⟨i,by omega,h2⟩
theorem min_by (f:Nat→Nat)(Pr:Nat→Prop):∀ b i,f i<b→Pr i→∃ i,Pr i∧∀ j,Pr j→f i≤f j
  | 0,i,h,_=>by omega
  | b+1,i,h,hi=>by
    by_cases c:∃ j,Pr j∧f j<f i
    · obtain ⟨j,h1,h2⟩:=c;exact min_by f Pr b j (by omega) h1
    · exact ⟨i,hi,fun j hj=>by
        rcases Nat.lt_or_ge (f j) (f i) with q | q
        · exact absurd ⟨j,hj,q⟩ c
        · exact q⟩
theorem con_step {Y:Yard}{ln:Nat→Int}{i p:Nat}(hp:p<Y.S)(hl:0<ln i):0<con Y ln i p↔Y.rd i≤p∧(Y.c i).testBit p=true:=by
  unfold con;rw [if_pos hp]
  by_cases h:Y.rd i≤p∧(Y.c i).testBit p=true
  · rw [if_pos h]; exact ⟨fun _=>h,fun _=>hl⟩
  · rw [if_neg h]; exact ⟨fun q=>by omega,fun q=>absurd q h⟩
theorem con_train {Y:Yard}{ln:Nat→Int}{i p:Nat}(hp:¬ p<Y.S)(hl:0<ln i):0<con Y ln i p↔p=Y.S+Y.tr i:=by
  unfold con;rw [if_neg hp]
  by_cases h:p=Y.S+Y.tr i
  · rw [if_pos h]; exact ⟨fun _=>h,fun _=>hl⟩
  · rw [if_neg h]; exact ⟨fun q=>by omega,fun q=>absurd q h⟩
theorem nz_plan {its:List Item}{w S:Int}{v:List Int}(hP:HasPlan its w S v)(hlen:its.length≤20):NZ (ldOf its S v):=by
  obtain ⟨m,hv,hm,hS,hG⟩:=hP;have hg:=hG.job;have hw:=hg.w;have hb:=fun i=>lens_range hG i
  have hpos:∀ i,i<its.length→0<lens its i:=fun i hi=>by
    have h1:its[i]? = some its[i]:=List.getElem?_eq_getElem hi;rw [lens_at hG h1];have:=(hg.it i _ h1).2.2.2;omega
  have fac:∀ i,i<its.length→v.getD i 0=(((yard its S v).c i:Nat):Int)∧rOf its i=(((yard its S v).rd i:Nat):Int)∧isN ((yard its S v).rd i) w.toNat ((yard its S v).c i)=true:=fun i hi=>by
    obtain ⟨x,c,h1,h2,h3,h4,h5,h6,h7,h8,h9⟩:=item_at hG hi;refine ⟨by rw [List.getD_eq_getElem?_getD,h2,← h4]; rfl,?_,h9⟩;unfold rOf;rw [h1,← h6]
  have least:∀ i,i<its.length→(need its v i).toNat≤(yard its S v).c i∧(yard its S v).c i<4096∧∀ x,(need its v i).toNat≤x→x<(yard its S v).c i→isN ((yard its S v).rd i) w.toNat x=false:=fun i hi=>by
    obtain ⟨f1,f2,f3⟩:=fac i hi;have e:=hv.eq i hi;obtain ⟨_,_,h3⟩:=nx_ok (needU_nn its v i) (hg.r i) hw;rw [e] at h3;rcases h3 with ⟨k,e1,h4,h5,h6,h7⟩ | ⟨e1,_⟩
    · have e2:v.getD i 0=(k:Int):=congrArg Prod.fst e1;obtain rfl:k=(yard its S v).c i:=by omega
      have e3:(rOf its i).toNat=(yard its S v).rd i:=by omega
      rw [e3] at h7;exact ⟨h4,h5,h7⟩
    · exact absurd (show (0:Int)=15 from congrArg Prod.snd e1) (by decide)
  have asc:=asc_le hg;have zero:∀ i,i<its.length→need its v i=0→∀ p,(yard its S v).rd i≤p→((yard its S v).c i).testBit p=false:=fun i hi h0 p hp=>by
    obtain ⟨h1,h2,h3⟩:=least i hi;rw [h0] at h3;have hc:(yard its S v).c i≤2 ^ (yard its S v).rd i-1:=by
      rcases Nat.lt_or_ge (2 ^ (yard its S v).rd i-1) ((yard its S v).c i) with q | q
      · have:=h3 _ (Nat.zero_le _) q;unfold isN at this;have hr0:0<2 ^ (yard its S v).rd i:=Nat.two_pow_pos _;rw [Nat.mod_eq_of_lt (by omega),Nat.div_eq_of_lt (by omega)] at this;simp [pc,pcd_zero] at this
      · exact q
    have hr0:0<2 ^ (yard its S v).rd i:=Nat.two_pow_pos _;have h4:2 ^ (yard its S v).rd i≤2 ^ p:=Nat.pow_le_pow_right (by omega) hp;have h5:(yard its S v).c i / 2 ^ p=0:=Nat.div_eq_of_lt (by omega);cases h6:((yard its S v).c i).testBit p with
    | false=>rfl
    | true=>
      have:=(tb_iff _ _).1 h6;rw [h5] at this;omega
  have pred:∀ i,i<its.length→need its v i≠0→∃ x,x<its.length∧rel its x i>0∧bOf its x<bOf its i∧(yard its S v).tr x=(yard its S v).tr i∧(need its v i).toNat≤(yard its S v).c x+1∧
      (((yard its S v).rd x≤(yard its S v).rd i∧(yard its S v).c x≤(yard its S v).c i)∨((yard its S v).rd i≤(yard its S v).rd x∧(yard its S v).c x<(yard its S v).c i)):=fun i hi h0=>by
    rcases needU_at its v i its.length with q | ⟨x,hx,hr,he⟩
    · exact absurd q h0
    · obtain ⟨fx,fr,_⟩:=fac x hx;obtain ⟨l1,l2,_⟩:=least i hi;have he':v.getD x 0+rel its x i-1=need its v i:=he;rcases rel_cases its x i with q | ⟨a,b,ha,hb2,ht,hbl,hrel⟩
      · omega
      · have hrr:∀ (j:Nat) (y:Item),its[j]? = some y→j<its.length→(((yard its S v).rd j:Nat):Int)=y.2.2.1∧(((yard its S v).tr j:Nat):Int)=y.1:=fun j y hy hj=>by
          obtain ⟨z,_,z1,_,_,_,_,z6,z7,_⟩:=item_at hG hj;rw [hy] at z1;cases z1;exact ⟨z6.symm,z7.symm⟩
        have hxa:=hrr x a ha hx;have hib:=hrr i b hb2 hi;refine ⟨x,hx,hr,(rel_blk hr).1,by omega,?_,?_⟩
        · rcases rel_range its x i with e | e | e <;> omega
        · by_cases c:i<x
          · right;rw [if_pos c] at hrel;obtain ⟨d,rfl⟩:∃ d,x=i+d:=⟨x-i,by omega⟩
            have:=asc d i b a hb2 ha;omega
          · left;rw [if_neg c] at hrel;obtain ⟨d,rfl⟩:∃ d,i=x+d:=⟨i-x,by omega⟩
            have:=asc d x a b ha hb2;omega
  intro d hd hk;have hld:∀ k,k<(ldOf its S v).length→vw (ldOf its S v) k=ld (yard its S v) (lens its) its.length k:=fun k hk=>by
    have hk':k<S.toNat+trains its:=by rw [← ldOf_len its S v]; exact hk
    have h5:=lst_get (ld (yard its S v) (lens its) its.length) hk';have h6:=vw_get hk;rw [show (ldOf its S v)[k]? = some (ld (yard its S v) (lens its) its.length k) from h5] at h6;exact (Option.some.inj h6).symm
  have ex:∀ k:Nat,∃ i,(0<ld (yard its S v) (lens its) its.length k→(i<its.length∧0<con (yard its S v) (lens its) i k)∧∀ j,j<its.length→0<con (yard its S v) (lens its) j k→(bOf its i).toNat≤(bOf its j).toNat):=fun k=>by
    by_cases c:0<ld (yard its S v) (lens its) its.length k
    · obtain ⟨i,h1,h2⟩:=con_of_ld _ _ hb k its.length c;obtain ⟨i,h3,h4⟩:=min_by (fun i=>(bOf its i).toNat) (fun i=>i<its.length∧0<con (yard its S v) (lens its) i k) _ i (Nat.lt_succ_self _) ⟨h1,h2⟩;exact ⟨i,fun _=>⟨h3,fun j hj hj2=>h4 j ⟨hj,hj2⟩⟩⟩
    · exact ⟨0,fun q=>absurd q c⟩
  have hbn:∀ i,0≤bOf its i:=fun i=>(hg.b i).1
  have hfn:∃ f:Nat→Nat,∀ k,0<ld (yard its S v) (lens its) its.length k→(f k<its.length∧0<con (yard its S v) (lens its) (f k) k)∧∀ j,j<its.length→0<con (yard its S v) (lens its) j k→(bOf its (f k)).toNat≤(bOf its j).toNat:=⟨fun k=>Classical.choose (ex k),fun k=>Classical.choose_spec (ex k)⟩
  obtain ⟨f,hf⟩:=hfn;have inj:∀ p q,p<q→0<ld (yard its S v) (lens its) its.length p→0<ld (yard its S v) (lens its) its.length q→f p≠f q:=fun p q hpq h1 h2 he=>by
    obtain ⟨⟨a1,a2⟩,a3⟩:=hf p h1;obtain ⟨⟨b1,b2⟩,b3⟩:=hf q h2;rw [← he] at b1 b2 b3;generalize f p=y at *
    have hyl:=hpos y a1
    by_cases c:q<S.toNat
    · have hq:q<(yard its S v).S:=c;have hp:p<(yard its S v).S:=Nat.lt_trans hpq c;obtain ⟨q1,q2⟩:=(con_step hq hyl).1 b2;obtain ⟨p1,p2⟩:=(con_step hp hyl).1 a2;have hne:need its v y≠0:=fun h0=>by
        rw [zero y a1 h0 p p1] at p2;cases p2
      obtain ⟨x,hx,_,hbx,htx,hnx,hdir⟩:=pred y a1 hne;have hxq:¬ ((yard its S v).rd x≤q∧((yard its S v).c x).testBit q=true):=fun h3=>by
        have h4:=b3 x hx ((con_step hq (hpos x hx)).2 h3);have h5:=hbn x;omega
      obtain ⟨l1,l2,l3⟩:=least y a1;obtain ⟨_,_,hNy⟩:=fac y a1;obtain ⟨_,_,hNx⟩:=fac x hx;have heq:((yard its S v).c x) / 2 ^ q=((yard its S v).c y) / 2 ^ q→((yard its S v).c x).testBit q=true:=fun e=>by
        rw [tb_iff,e]; exact (tb_iff _ _).1 q2
      have hgt:(yard its S v).c x / 2 ^ q<(yard its S v).c y / 2 ^ q:=by
        rcases hdir with ⟨d1,d2⟩ | ⟨d1,d2⟩
        · have h6:(yard its S v).c x / 2 ^ q≤(yard its S v).c y / 2 ^ q:=Nat.div_le_div_right d2;rcases Nat.lt_or_eq_of_le h6 with h7 | h7
          · exact h7
          · exact absurd ⟨by omega,heq h7⟩ hxq
        · by_cases c2:(yard its S v).rd x≤q
          · have h6:(yard its S v).c x / 2 ^ q≤(yard its S v).c y / 2 ^ q:=Nat.div_le_div_right (Nat.le_of_lt d2);rcases Nat.lt_or_eq_of_le h6 with h7 | h7
            · exact h7
            · exact absurd ⟨c2,heq h7⟩ hxq
          · generalize (yard its S v).rd x=rx at *
            generalize (yard its S v).c x=cx at *
            generalize (yard its S v).c y=cy at *
            unfold isN at hNx;rw [Bool.and_eq_true,decide_eq_true_iff] at hNx;have hr0:0<2 ^ rx:=Nat.two_pow_pos rx;have h8:=Nat.div_add_mod cx (2 ^ rx);rw [hNx.1] at h8;have h9:cx / 2 ^ rx<cy / 2 ^ rx:=by
              rw [Nat.lt_iff_add_one_le,Nat.le_div_iff_mul_le hr0,Nat.add_mul,Nat.one_mul,Nat.mul_comm];omega
            rcases Nat.lt_or_ge (cx / 2 ^ q) (cy / 2 ^ q) with h10 | h10
            · exact h10
            · exfalso;obtain ⟨u,rfl⟩:∃ u,rx=q+u:=⟨rx-q,by omega⟩
              have h11:=Nat.div_le_div_right (c:=2 ^ u) h10;rw [Nat.div_div_eq_div_mul,Nat.div_div_eq_div_mul,← Nat.pow_add] at h11;omega
      exact one_new l2 hNy l3 hnx p1 hpq p2 q2 hgt
    · have hq:¬ q<(yard its S v).S:=c;have q1:=(con_train hq hyl).1 b2
      by_cases c2:p<(yard its S v).S
      · obtain ⟨p1,p2⟩:=(con_step c2 hyl).1 a2;have hne:need its v y≠0:=fun h0=>by
          rw [zero y a1 h0 p p1] at p2;cases p2
        obtain ⟨x,hx,_,hbx,htx,_⟩:=pred y a1 hne;have h4:=b3 x hx ((con_train hq (hpos x hx)).2 (by rw [htx]; exact q1));have h5:=hbn x;omega
      · have p1:=(con_train c2 hyl).1 a2;omega
  have inj2:∀ p q,0<ld (yard its S v) (lens its) its.length p→0<ld (yard its S v) (lens its) its.length q→f p=f q→p=q:=fun p q h1 h2 he=>by
    rcases Nat.lt_trichotomy p q with h | h | h
    · exact absurd he (inj p q h h1 h2)
    · exact h
    · exact absurd he.symm (inj q p h h2 h1)
  have hnd:(d.map fun x=>f x.toNat).Nodup:=by
    refine List.pairwise_map.2 (List.Pairwise.imp_of_mem ?_ hd);intro x y hx hy hxy e;obtain ⟨i,hi,rfl,h1⟩:=hk x hx;obtain ⟨j,hj,rfl,h2⟩:=hk y hy;rw [hld i hi] at h1;rw [hld j hj] at h2;rw [Int.toNat_natCast,Int.toNat_natCast] at e;have:=inj2 i j h1 h2 e;omega
  have h3:=len_le _ (List.range its.length) hnd fun z hz=>by
    obtain ⟨x,hx,rfl⟩:=List.mem_map.1 hz;obtain ⟨i,hi,rfl,h1⟩:=hk x hx;rw [hld i hi] at h1;rw [Int.toNat_natCast];exact List.mem_range.2 (hf i h1).1.1
  rw [List.length_map,List.length_range] at h3;show d.length≤20
  omega
theorem schR_mem {its:List Item}(h:JobGood its 0){s:Sc}(hs:s∈insAll (schL its)):∃ w S v,w∈ws4∧s=scOf its w S v∧HasPlan its w S v∧leastcode_Least its w=some ((S,v),0):=
  schL_mem h ((insAll_mem s _ _ rfl).1 hs)
theorem loopN_cong {S D:Type}{f g:S→Option (Step S D)}(I:S→Prop)(h:∀ s,I s→f s=g s∧∀ t,f s=some (.next t)→I t):∀ n s,I s→loopN f n s=loopN g n s
  | 0,_,_=>rfl
  | n+1,s,hi=>by
    obtain ⟨e,ht⟩:=h s hi;simp only [loopN];rw [← e];cases hf:f s with
    | none=>rfl
    | some t=>
      cases t with
      | next t=>simp only [Option.bind_some]; exact loopN_cong I h n t (ht t hf)
      | done d=>rfl
theorem loop_cong {S D:Type}{f g:S→Option (Step S D)}(I:S→Prop)(h:∀ s,I s→f s=g s∧∀ t,f s=some (.next t)→I t)(s:S)(hi:I s):loop f s=loop g s:=loopN_cong I h _ s hi
abbrev Sh:=((List Item×Int)×((Int×List Int)×List Int)×List Int)
def sh0:Sh:=(([],0),((0,[]),[]),[])
def TrOK (tr:List Int):Prop:=tr.length≤32∧∀ x∈tr,1≤x∧x≤38400
def NoFit (its:List Item) (tr:List Int) (s:Sc):Prop:=∀ S v,leastcode_Least its s.1=some ((S,v),0)→∃ r,Rfs (ldOf its S v) tr r
theorem pl_step {its:List Item}(h:JobGood its 0)(hN:NZI its){tr:List Int}(hT:TrOK tr)(e0:Int){i:Nat}(hi:i<(insAll (schL its)).length) :
    ∃ w S v c,(insAll (schL its))[i]=scOf its w S v∧HasPlan its w S v∧leastcode_Least its w=some ((S,v),0)∧Accepts its w S v c∧c.length≤41∧certificate_Make its w=some (((S,v),c),0)∧
      ((∃ l,assign_Match (ldOf its S v) tr=some (l,[],0)∧Asg (ldOf its S v) tr l∧∀ d,planner_Plan_L10 its tr (insAll (schL its),e0) (d,(i:Int))=some (.done (.inl (its,w,S,v,c,l,0))))∨
       (∃ q r,assign_Match (ldOf its S v) tr=some (q,r,14)∧Rfs (ldOf its S v) tr r∧∀ d,planner_Plan_L10 its tr (insAll (schL its),e0) (d,(i:Int))=some (.next (if i=0 then r else d,((i+1:Nat):Int))))):=by
  obtain ⟨w,S,v,hw,hs,hP,hl⟩:=schR_mem h (List.getElem_mem hi);obtain ⟨c,r,q1,q3,q4,q5,q7,q8,q9,q11⟩:=sheet_ok hP hl hN tr;have hlen:(insAll (schL its)).length≤4:=by rw [insAll_len _ _ rfl]; exact schL_len its
  have hx:idx (insAll (schL its)) (i:Int)=some (scOf its w S v):=by rw [idx_nat,List.getElem?_eq_getElem hi,hs]
  refine ⟨w,S,v,c,hs,hP,hl,q3,q4,q1,?_⟩;rcases q8 hT with ⟨a1,a2,a3⟩ | ⟨a1,a2,a3⟩
  · refine .inl ⟨r.1,by rw [q5,← a1,← a2],a3,fun d=>?_⟩;unfold planner_Plan_L10;dsimp only;rw [if_pos (dpos (by omega)),hx];simp only [obind];rw [show (scOf its w S v).1=w from rfl,q11,if_neg (by simpa using a2)];rfl
  · refine .inr ⟨r.1,r.2.1,by rw [q5,← a2],a3,fun d=>?_⟩;unfold planner_Plan_L10;dsimp only;rw [if_pos (dpos (by omega)),hx];simp only [obind];rw [show (scOf its w S v).1=w from rfl,q11,if_pos (by rw [a2]; decide)];simp only [obind];rw [a2,if_neg (by decide),if_pos (by decide),lk1 (by omega)]
    by_cases c0:i=0
    · subst c0; rfl
    · rw [if_neg (by simpa using c0),if_neg c0]
theorem pl_end {its:List Item}(tr:List Int)(e0:Int)(d:List Int):planner_Plan_L10 its tr (insAll (schL its),e0) (d,((insAll (schL its)).length:Int))=some (.done (.inr d)):=by
  unfold planner_Plan_L10;dsimp only;rw [if_neg (dneg (by omega))]
theorem pl_same {its:List Item}(h:JobGood its 0)(hN:NZI its){tr:List Int}(hT:TrOK tr)(e0:Int){i:Nat}(hi:i<(insAll (schL its)).length)(d:List Int) :
    r17_Plan_L10 its tr (insAll (schL its),e0) (d,(i:Int))=planner_Plan_L10 its tr (insAll (schL its),e0) (d,(i:Int)):=by
  obtain ⟨w,S,v,c,hs,hP,hl,hA,hc,hM,h1⟩:=pl_step h hN hT e0 hi;have hlen:(insAll (schL its)).length≤4:=by rw [insAll_len _ _ rfl]; exact schL_len its
  have hx:idx (insAll (schL its)) (i:Int)=some (scOf its w S v):=by rw [idx_nat,List.getElem?_eq_getElem hi,hs]
  obtain ⟨_,_,_,_,hG⟩:=id hP;have hL:=rLoads_ok hG;unfold r17_Plan_L10;dsimp only;rw [if_pos (dpos (by omega)),hx];simp only [obind];rw [show (scOf its w S v).1=w from rfl,rMake_same hG.job,hM];simp only [obind];rw [hL];simp only [obind];have hr:=rmatch_eq (ldOf its S v) tr (hN _ _ _ hP);rcases h1 with ⟨l,m1,_,m2⟩ | ⟨q,r,m1,_,m2⟩
  · rw [m1] at hr;unfold ldOf at hr;rw [hr,m2];simp only [obind];rw [if_pos (by decide)]
  · rw [m1] at hr;unfold ldOf at hr;rw [hr,m2];simp only [obind];rw [if_neg (by decide),lk1 (by omega)]
    by_cases c0:i=0
    · subst c0; rfl
    · rw [if_neg (by simpa using c0),if_neg c0]
theorem pl_endR {its:List Item}(tr:List Int)(e0:Int)(d:List Int):r17_Plan_L10 its tr (insAll (schL its),e0) (d,((insAll (schL its)).length:Int))=some (.done (.inr d)):=by
  unfold r17_Plan_L10;dsimp only;rw [if_neg (dneg (by omega))]
theorem pl_cong {its:List Item}(h:JobGood its 0)(hN:NZI its){tr:List Int}(hT:TrOK tr)(e0:Int):loop (planner_Plan_L10 its tr (insAll (schL its),e0)) ([],0)=loop (r17_Plan_L10 its tr (insAll (schL its),e0)) ([],0):=by
  refine loop_cong (fun s=>∃ i:Nat,s.2=(i:Int)∧i≤(insAll (schL its)).length) ?_ _ ⟨0,rfl,Nat.zero_le _⟩;rintro ⟨d,_⟩ ⟨i,rfl,hi⟩
  by_cases c:i<(insAll (schL its)).length
  · rw [pl_same h hN hT e0 c d];obtain ⟨w,S,v,cc,_,_,_,_,_,_,⟨l,_,_,q⟩ | ⟨_,r,_,_,q⟩⟩:=pl_step h hN hT e0 c
    · rw [q d];exact ⟨rfl,fun t ht=>by cases ht⟩
    · rw [q d];refine ⟨rfl,fun t ht=>?_⟩;cases ht;exact ⟨i+1,rfl,c⟩
  · obtain rfl:i=(insAll (schL its)).length:=by omega
    rw [pl_end tr e0 d,pl_endR tr e0 d];exact ⟨rfl,fun t ht=>by cases ht⟩
inductive Planned (its:List Item) (tr:List Int):Sh→List Int→Int→Prop
  | fits {P:List Sc} {w S:Int} {v c l:List Int} {Q:List Sc} (hL:insAll (schL its)=P++scOf its w S v::Q) (hP:HasPlan its w S v) (hl:leastcode_Least its w=some ((S,v),0)) (hA:Accepts its w S v c) (hc:c.length≤41)
      (ha:Asg (ldOf its S v) tr l) (hn:∀ s∈P,NoFit its tr s):Planned its tr (((its,w),((S,v),c),l)) [] 0
  | room {w S:Int} {v c:List Int} {Q:List Sc} {r:List Int} (hL:insAll (schL its)=scOf its w S v::Q) (hP:HasPlan its w S v) (hl:leastcode_Least its w=some ((S,v),0)) (hM:certificate_Make its w=some (((S,v),c),0))
      (hr:Rfs (ldOf its S v) tr r) (hn:∀ s∈insAll (schL its),NoFit its tr s):Planned its tr sh0 r 14
theorem nofit_of {its:List Item}{tr:List Int}{w S:Int}{v:List Int}(hl:leastcode_Least its w=some ((S,v),0)){r:List Int}(h:Rfs (ldOf its S v) tr r):NoFit its tr (scOf its w S v):=by
  intro S' v' e
  change leastcode_Least its w=_ at e
  rw [hl] at e;cases e;exact ⟨r,h⟩
theorem pl_loop {its:List Item}(h:JobGood its 0)(hN:NZI its){tr:List Int}(hT:TrOK tr)(hne:schL its≠[])(e0:Int) :
    ∃ d,loop (planner_Plan_L10 its tr (insAll (schL its),e0)) ([],0)=some d∧
      ((∃ w S v c l,d=.inl (its,w,S,v,c,l,0)∧Planned its tr ((its,w),((S,v),c),l) [] 0)∨∃ r,d=.inr r∧Planned its tr sh0 r 14):=by
  have hp:0<(insAll (schL its)).length:=by rw [insAll_len _ _ rfl]; exact List.length_pos_iff.2 hne
  have hlen:(insAll (schL its)).length≤4:=by rw [insAll_len _ _ rfl]; exact schL_len its
  refine loop_inv (step:=planner_Plan_L10 its tr (insAll (schL its),e0)) (fun s=>∃ i:Nat,s.2=(i:Int)∧i≤(insAll (schL its)).length∧(∀ x∈(insAll (schL its)).take i,NoFit its tr x)∧
      (0<i→∃ w S v c Q,insAll (schL its)=scOf its w S v::Q∧HasPlan its w S v∧leastcode_Least its w=some ((S,v),0)∧certificate_Make its w=some (((S,v),c),0)∧Rfs (ldOf its S v) tr s.1)) (fun s=>(insAll (schL its)).length-s.2.toNat) _ ?_ ([],0) ⟨0,rfl,by omega,fun x hx=>by simp at hx,fun q=>by omega⟩ (by dsimp only; omega)
  rintro ⟨d,_⟩ ⟨i,rfl,hi,hn,hf⟩;dsimp only at hf ⊢
  by_cases c:i<(insAll (schL its)).length
  · obtain ⟨w,S,v,cc,h1,h2,h3,h4,h5,h6,⟨l,_,hl,q⟩ | ⟨_,r,_,hr,q⟩⟩:=pl_step h hN hT e0 c
    · refine .inr ⟨_,q d,.inl ⟨w,S,v,cc,l,rfl,?_⟩⟩;refine .fits (P:=(insAll (schL its)).take i) (Q:=(insAll (schL its)).drop (i+1)) ?_ h2 h3 h4 h5 hl hn;rw [← h1,← List.drop_eq_getElem_cons c,List.take_append_drop]
    · refine .inl ⟨_,q d,⟨i+1,rfl,c,fun x hx=>?_,fun _=>?_⟩,by dsimp only; omega⟩
      · rw [List.take_succ_eq_append_getElem c,List.mem_append] at hx;rcases hx with hx | hx
        · exact hn x hx
        · rw [List.mem_singleton.1 hx,h1];exact nofit_of h3 hr
      · dsimp only
        by_cases c0:i=0
        · subst c0;rw [if_pos rfl];refine ⟨w,S,v,cc,(insAll (schL its)).drop 1,?_,h2,h3,h6,hr⟩;rw [← h1,← List.drop_eq_getElem_cons c,List.drop_zero]
        · rw [if_neg c0];exact hf (by omega)
  · obtain rfl:i=(insAll (schL its)).length:=by omega
    refine .inr ⟨_,pl_end tr e0 d,.inr ⟨d,rfl,?_⟩⟩;obtain ⟨w,S,v,cc,Q,h1,h2,h3,h4,h5⟩:=hf hp;exact .room h1 h2 h3 h4 h5 fun x hx=>hn x (by rw [List.take_of_length_le (Nat.le_refl _)]; exact hx)
theorem Plan_ok {its:List Item}(h:JobGood its 0)(hN:NZI its){tr:List Int}(hT:TrOK tr) :
    ∃ s r e,planner_Plan its tr=some (s,r,e)∧((schL its=[]∧s=sh0∧r=[]∧e=15)∨(schL its≠[]∧Planned its tr s r e)):=by
  unfold planner_Plan;rw [Schemes_ok h];simp only [obind];unfold schR
  by_cases c:schL its=[]
  · rw [if_pos c];exact ⟨_,_,_,rfl,.inl ⟨c,rfl,rfl,rfl⟩⟩
  · rw [if_neg c,if_neg (by simp)];obtain ⟨d,hd,hd2⟩:=pl_loop h hN hT c 0;rw [hd];simp only [obind];rcases hd2 with ⟨w,S,v,cc,l,rfl,q⟩ | ⟨r,rfl,q⟩
    · exact ⟨_,_,_,rfl,.inr ⟨c,q⟩⟩
    · exact ⟨_,_,_,rfl,.inr ⟨c,q⟩⟩
theorem rPlan_ok {its:List Item}(h:JobGood its 0)(hN:NZI its){tr:List Int}(hT:TrOK tr):r17_Plan its tr=planner_Plan its tr:=by
  unfold planner_Plan r17_Plan;rw [Schemes_ok h,rSchemes_ok h];simp only [obind];unfold schR
  by_cases c:schL its=[]
  · rw [if_pos c,if_pos (by decide),if_pos (by decide)]
  · rw [if_neg c,if_neg (by simp),if_neg (by simp),← pl_cong h hN hT];obtain ⟨d,hd,hd2⟩:=pl_loop h hN hT c 0;rw [hd];simp only [obind];rcases hd2 with ⟨w,S,v,cc,l,rfl,q⟩ | ⟨r,rfl,q⟩ <;> rfl
theorem Plan_badT {its:List Item}{tr:List Int}(hj:JobGood its 0)(hN:NZI its)(hT:¬ TrOK tr)(hne:schL its≠[]):∃ w S v r,(insAll (schL its)).head? = some (scOf its w S v)∧HasPlan its w S v∧certificate_Make its w=some (((S,v),r),0)∧∃ m,assign_Match (ldOf its S v) tr=some m∧m.1=[]∧m.2.1=[]∧m.2.2≠0∧m.2.2≠14∧planner_Plan its tr=some (sh0,[],m.2.2):=by
  unfold planner_Plan;rw [Schemes_ok hj];simp only [obind];unfold schR;rw [if_neg hne,if_neg (by simp)];have hi:0<(insAll (schL its)).length:=by rw [insAll_len _ _ rfl]; exact List.length_pos_iff.2 hne
  obtain ⟨w,S,v,hw,hs,hP,hl⟩:=schR_mem hj (List.getElem_mem hi);obtain ⟨cc,r,q1,q3,q4,q5,q7,q8,q9,q11⟩:=sheet_ok hP hl hN tr;obtain ⟨b1,b2,b3,b4⟩:=q7 hT;have hx:idx (insAll (schL its)) 0=some (scOf its w S v):=by rw [show (0:Int)=((0:Nat):Int) from rfl,idx_nat,List.getElem?_eq_getElem hi,hs]
  have s1:planner_Plan_L10 its tr (insAll (schL its),0) ([],0)=some (.done (.inl ([],0,0,[],[],[],r.2.2))):=by
    unfold planner_Plan_L10;dsimp only;rw [if_pos (dpos (by omega)),hx];simp only [obind];rw [show (scOf its w S v).1=w from rfl,q11,if_pos b3];simp only [obind];rw [if_neg (by simpa using b3),if_neg (by simpa using b4)]
  rw [loop_of (step:=planner_Plan_L10 its tr (insAll (schL its),0)) 1 (by omega) (by simp only [loopN]; rw [s1]; rfl)];exact ⟨w,S,v,cc,by rw [List.head?_eq_getElem?,List.getElem?_eq_getElem hi,hs],hP,q1,r,q5,b1,b2,b3,b4,rfl⟩
theorem rPlan_badT {its:List Item}{tr:List Int}(hj:JobGood its 0)(hN:NZI its)(hT:¬ TrOK tr)(hne:schL its≠[]):r17_Plan its tr=planner_Plan its tr:=by
  obtain ⟨w,S,v,cc,hh,hP,hM,r,hm,b1,b2,b3,b4,e⟩:=Plan_badT hj hN hT hne;rw [e];unfold r17_Plan;rw [rSchemes_ok hj];simp only [obind];unfold schR;rw [if_neg hne,if_neg (by simp)];have hi:0<(insAll (schL its)).length:=by rw [insAll_len _ _ rfl]; exact List.length_pos_iff.2 hne
  obtain ⟨_,_,_,_,hG⟩:=id hP;have hL:=rLoads_ok hG;have hx:idx (insAll (schL its)) 0=some (scOf its w S v):=by rw [show (0:Int)=((0:Nat):Int) from rfl,idx_nat,← List.head?_eq_getElem?,hh]
  have hr:=rmatch_eq (ldOf its S v) tr (hN _ _ _ hP);rw [hm] at hr;unfold ldOf at hr;have s2:r17_Plan_L10 its tr (insAll (schL its),0) ([],0)=some (.done (.inl ([],0,0,[],[],[],r.2.2))):=by
    unfold r17_Plan_L10;dsimp only;rw [if_pos (dpos (by omega)),hx];simp only [obind];rw [show (scOf its w S v).1=w from rfl,rMake_same hG.job,hM];simp only [obind];rw [hL];simp only [obind];rw [hr];simp only [obind];rw [if_neg (by simpa using b3),if_pos (by decide),if_pos (by simpa using b4)]
  rw [loop_of (step:=r17_Plan_L10 its tr (insAll (schL its),0)) 1 (by omega) (by simp only [loopN]; rw [s2]; rfl)];rfl
theorem Plan_same (its:List Item)(tr:List Int)(hN':JobGood its 0→NZI its):r17_Plan its tr=planner_Plan its tr∧∃ s r e,planner_Plan its tr=some (s,r,e)∧((JobGood its 0∧TrOK tr∧Planned its tr s r e)∨(s=sh0∧r=[]∧e≠0)):=by
  by_cases hj:JobGood its 0
  · have hN:=hN' hj
    by_cases hT:TrOK tr
    · refine ⟨rPlan_ok hj hN hT,?_⟩;obtain ⟨s,r,e,h1,⟨_,h2,h3,h4⟩ | ⟨_,h2⟩⟩:=Plan_ok hj hN hT
      · exact ⟨s,r,e,h1,.inr ⟨h2,h3,by omega⟩⟩
      · exact ⟨s,r,e,h1,.inl ⟨hj,hT,h2⟩⟩
    · by_cases c:schL its=[]
      · have h1:planner_Plan its tr=some (sh0,[],15):=by
          unfold planner_Plan;rw [Schemes_ok hj];simp only [obind];unfold schR;rw [if_pos c]; rfl
        have h2:r17_Plan its tr=some (sh0,[],15):=by
          unfold r17_Plan;rw [rSchemes_ok hj];simp only [obind];unfold schR;rw [if_pos c]; rfl
        exact ⟨by rw [h1,h2],_,_,_,h1,.inr ⟨rfl,rfl,by decide⟩⟩
      · refine ⟨rPlan_badT hj hN hT c,?_⟩;obtain ⟨w,S,v,cc,hh,hP,hM,r,hm,b1,b2,b3,b4,e⟩:=Plan_badT hj hN hT c;exact ⟨_,_,_,e,.inr ⟨rfl,rfl,b3⟩⟩
  · obtain ⟨e,he,hv,e1⟩:=Schemes_bad hj;have h1:planner_Plan its tr=some (sh0,[],e):=by
      unfold planner_Plan;rw [e1];simp only [obind];rw [if_pos (by simpa using he)]; rfl
    have h2:r17_Plan its tr=some (sh0,[],e):=by
      unfold r17_Plan;rw [rSchemes_bad hv he];simp only [obind];rw [if_pos (by simpa using he)]; rfl
    exact ⟨by rw [h1,h2],_,_,_,h1,.inr ⟨rfl,rfl,he⟩⟩
theorem Check_same (its:List Item)(w S:Int)(v c l tr:List Int)(hcl:v.length<4611686018427387904∨its.length≤1000):∃ e,planner_Check its w S v c l tr=some e∧r17_Check its w S v c l tr=some e∧(Accepts its w S v c→e=0∨e=14)∧
    (Accepts its w S v c→TrOK tr→Asg (ldOf its S v) tr l→e=0):=by
  obtain ⟨e,h1,h2,h3,_⟩:=Check_ok its w S v c hcl;unfold planner_Check r17_Check;rw [h1,h2];simp only [obind]
  by_cases he:e=0
  · subst he;have hA:=h3.1 rfl;have hG:=hA.1;rw [if_neg (by decide),if_neg (by decide),Loads_ok hG,rLoads_ok hG];simp only [obind];rw [if_neg (by decide),fits_eq];obtain ⟨b,hb⟩:=fits_total (ldOf its S v) tr l;have hb':=hb;unfold ldOf at hb';rw [hb'];simp only [obind];cases b with
    | true=>exact ⟨0,rfl,rfl,fun _=>.inl rfl,fun _ _ _=>rfl⟩
    | false=>
      refine ⟨14,rfl,rfl,fun _=>.inr rfl,fun _ hT ha=>?_⟩;rw [fits_ok ((ldOf_vd hG tr).2 hT) ha] at hb;cases hb
  · rw [if_pos (by simpa using he),if_pos (by simpa using he)];exact ⟨e,rfl,rfl,fun q=>absurd (h3.2 q) he,fun q=>absurd (h3.2 q) he⟩
theorem from_ok (l:List Int)(k a b:Int)(hk:0≤k)(hk2:k≤100000000)(hab:a≤b)(ha:-1000000≤a)(hb:b≤1000000):∃ v,gen_Maker_From l k a b=some (v,k+1)∧a≤v∧v≤b:=by
  unfold gen_Maker_From;rw [wr_id (n:=b-a) (by omega) (by omega),wr_id (n:=b-a+1) (by omega) (by omega)];obtain ⟨v,e1,e2,e3⟩:=next_ok l k (b-a+1) hk (by omega) (by omega) (by omega);rw [e1];simp only [obind];rw [wr_id (by omega) (by omega)];exact ⟨_,rfl,by omega,by omega⟩
theorem trains_max:∀ (l:List Item) (m k:Nat),m≤k→(∀ x∈l,x.1.toNat+1≤k)→l.foldl (fun m x=>max m (x.1.toNat+1)) m≤k
  | [],m,k,hm,h=>hm
  | x::l,m,k,hm,h=>by
    have h1:=h x List.mem_cons_self;exact trains_max l (max m (x.1.toNat+1)) k (by omega) fun y hy=>h y (List.mem_cons_of_mem _ hy)
theorem trains_three {its:List Item}(h:∀ x∈its,x.1≤2):NZI its:=NZI.of_trains <| by
  have h1:trains its≤3:=trains_max its 0 3 (by omega) fun x hx=>by have:=h x hx; omega
  unfold LN; omega
theorem made_items (l:List Int)(k n:Int)(hk:0≤k∧k≤10000000)(hn:0≤n∧n≤90):∃ its k',gen_Maker_Items l k n=some (its,k')∧k≤k'∧k'≤k+1000∧(its.length:Int)≤n∧JobGood its 0∧NZI its:=by
  obtain ⟨its,k1,e1,q1,q2,q3,q4⟩:=items_ok l k n hk hn;exact ⟨its,k1,e1,q1,q2,q3,⟨by omega,by omega,fun i x hx=>(q4.it i x hx).1,q4.asc⟩,trains_three fun x hx=>by
    obtain ⟨i,hi⟩:=List.getElem?_of_mem hx;exact (q4.it i x hi).2.2⟩
theorem tracks_ok (l:List Int)(k:Int)(hk:0≤k∧k≤10000000):∃ tr k',law17_tracks l k=some (tr,k')∧k≤k'∧k'≤k+20∧1≤tr.length∧tr.length≤10∧∀ x∈tr,300≤x∧x≤4000:=by
  obtain ⟨n,e1,n1,n2⟩:=from_ok l k 1 10 hk.1 (by omega) (by omega) (by omega) (by omega);unfold law17_tracks;rw [e1];simp only [obind];obtain ⟨d,hd,h1,h2,h3,h4,h5⟩:=loop_inv (step:=law17_tracks_L5 l) (fun s=>k+1≤s.1∧s.1≤k+1+(n-s.2.2)∧(s.2.1.length:Int)=n-s.2.2∧0≤s.2.2∧s.2.2≤n∧∀ x∈s.2.1,300≤x∧x≤4000) (fun s=>s.2.2.toNat)
    (fun d=>k≤d.1∧d.1≤k+20∧1≤d.2.length∧d.2.length≤10∧∀ x∈d.2,300≤x∧x≤4000) (by
    rintro ⟨e,d,i⟩ ⟨h1,h2,h3,h4,h5,h6⟩;dsimp only at h1 h2 h3 h4 h5 h6 ⊢;unfold law17_tracks_L5;dsimp only
    by_cases hi:i>0
    · left;obtain ⟨v,v1,v2⟩:=pick_ok l e [300,500,900,1500,4000] (by omega) (by omega) (by decide) (by decide);have hv:300≤v∧v≤4000:=(by decide:∀ x∈[(300:Int),500,900,1500,4000],300≤x∧x≤4000) v v2;rw [if_pos (dpos hi),v1];simp only [obind];rw [if_pos (by simp only [List.length_singleton]; omega),wr_id (by omega) (by omega)];refine ⟨_,rfl,⟨by dsimp only; omega,by dsimp only; omega,by dsimp only; rw [List.length_append,List.length_singleton]; omega,by dsimp only; omega,by dsimp only; omega,fun x hx=>?_⟩,by dsimp only; omega⟩;rcases List.mem_append.1 hx with hx | hx
      · exact h6 x hx
      · rw [List.mem_singleton.1 hx]; exact hv
    · right;rw [if_neg (dneg hi)];exact ⟨_,rfl,by dsimp only; omega,by dsimp only; omega,by dsimp only; omega,by dsimp only; omega,h6⟩) (k+1,[],n) ⟨by dsimp only; omega,by dsimp only; omega,by simp,by dsimp only; omega,by dsimp only; omega,fun x hx=>by simp at hx⟩ (by dsimp only; omega)
  rw [hd];simp only [obind];exact ⟨_,_,rfl,h1,h2,h3,h4,h5⟩
theorem good_of {its:List Item}{wt:Int}(h:job_Valid its wt=some 0):JobGood its wt:=by
  obtain ⟨e,h1,h2⟩:=jobvalid_spec its wt;rw [h] at h1;cases h1;rcases h2 with ⟨_,h2⟩ | ⟨h2,_⟩
  · exact h2
  · exact absurd rfl h2
theorem Least_none {its:List Item}{wt:Int}(hg:JobGood its wt)(h:∀ v,¬ IsLst its wt v):leastcode_Least its wt=some ((0,[]),15):=by
  obtain ⟨p,h1,h2⟩:=Least_ok hg;rcases h2 with ⟨v,S,m,hv,_⟩ | ⟨rfl,_⟩
  · exact absurd hv (h v)
  · exact h1
theorem Least_some {its:List Item}{wt:Int}(hg:JobGood its wt){v:List Int}{m:Nat}{S:Int}(hv:IsLst its wt v)(hm:IsMx v m)(hS:LongSpec m S):leastcode_Least its wt=some ((S,v),0):=by
  obtain ⟨p,h1,h2⟩:=Least_ok hg;rcases h2 with ⟨v',S',m',hv',rfl,hm',hS'⟩ | ⟨_,hs⟩
  · have e:=lst_unique (fun i=>(hg.b i).1) hv hv';subst e;have e:=hm.uniq hm';subst e;rw [h1,long_unique hS hS']
  · exact absurd hv (hs.none (fun i=>(hg.b i).1) v)
theorem mx_of {v:List Int}{m:Nat}(h:∀ x∈v,x≤(m:Int))(h2:m=0∨(m:Int)∈v):IsMx v m:=by
  refine ⟨fun y=>?_,?_⟩
  · by_cases hy:y<v.length
    · rw [List.getD_eq_getElem?_getD,List.getElem?_eq_getElem hy];exact h _ (List.getElem_mem hy)
    · rw [List.getD_eq_getElem?_getD,List.getElem?_eq_none (by omega)];show (0:Int)≤m
      omega
  · rcases h2 with h2 | h2
    · exact .inl h2
    · obtain ⟨i,hi,e⟩:=List.getElem_of_mem h2;exact .inr ⟨i,hi,by rw [List.getD_eq_getElem?_getD,List.getElem?_eq_getElem hi]; exact e⟩
theorem schO_of {its:List Item}{w S:Int}{v:List Int}(hg:JobGood its w)(hl:leastcode_Least its w=some ((S,v),0)):schO its w=some (scOf its w S v):=by
  rcases sch_cases hg with ⟨S',v',hP,q0,q⟩ | ⟨_,q0,q⟩
  · rw [hl] at q0;cases q0;exact schO_some q
  · rw [hl] at q0;cases q0
theorem schO_no {its:List Item}{w:Int}(hg:JobGood its w)(hl:leastcode_Least its w=some ((0,[]),15)):schO its w=none:=by
  rcases sch_cases hg with ⟨S',v',hP,q0,q⟩ | ⟨_,q0,q⟩
  · rw [hl] at q0;cases q0
  · exact schO_none q
def T3:List Item:=[(0,0,0,100),(0,0,0,100),(0,1,0,100)]
theorem T3_good (w:Int)(h:w=0∨w=1∨w=2∨w=12):JobGood T3 w:=by
  rcases h with rfl | rfl | rfl | rfl <;> exact good_of (by decide +kernel)
theorem T3_least (w:Int)(h:w=0∨w=1∨w=2∨w=12):leastcode_Least T3 w=some ((0,[0,0,0]),0):=by
  refine Least_some (T3_good w h) ⟨rfl,?_⟩ (mx_of (m:=0) (by decide) (.inl rfl)) ⟨0,rfl,by omega,by decide,.inl rfl⟩;rcases h with rfl | rfl | rfl | rfl <;> decide +kernel
theorem T3_sc:Prod.snd (scOf T3 0 0 [0,0,0])=(0,3,1):=by decide +kernel
theorem T3_sc' (w:Int):scOf T3 w 0 [0,0,0]=(w,0,3,1):=by
  have h:=T3_sc;unfold scOf at *
  rw [← h]
theorem T3_all:schL T3=[(0,0,3,1),(1,0,3,1),(2,0,3,1),(12,0,3,1)]:=by
  have h0:=schO_of (T3_good 0 (by simp)) (T3_least 0 (by simp));have h1:=schO_of (T3_good 1 (by simp)) (T3_least 1 (by simp));have h2:=schO_of (T3_good 2 (by simp)) (T3_least 2 (by simp));have h3:=schO_of (T3_good 12 (by simp)) (T3_least 12 (by simp));rw [T3_sc'] at h0 h1 h2 h3;unfold schL ws4;rw [List.filterMap_cons_some h0,List.filterMap_cons_some h1,List.filterMap_cons_some h2,List.filterMap_cons_some h3,List.filterMap_nil]
theorem T3_schemes:planner_Schemes T3=some ([(0,0,3,1),(1,0,3,1),(2,0,3,1),(12,0,3,1)],0):=by
  rw [Schemes_ok (T3_good 0 (.inl rfl))];unfold schR;rw [T3_all,if_neg (by simp)];exact congrArg some (congrArg (fun x=>(x,(0:Int))) (by decide +kernel))
def T4:List Item:=[(0,1,0,100),(0,3,0,100),(0,0,0,100),(0,2,0,100)]
theorem T4_good (w:Int)(h:w=0∨w=1∨w=2∨w=12):JobGood T4 w:=by
  rcases h with rfl | rfl | rfl | rfl <;> exact good_of (by decide +kernel)
theorem T4_least (w:Int)(h:w=1∨w=2∨w=12):leastcode_Least T4 w=some ((2,[1,2,0,1]),0):=by
  refine Least_some (T4_good w (.inr h)) ⟨rfl,?_⟩ (mx_of (m:=2) (by decide) (.inr (by decide))) ⟨2,rfl,by omega,by decide,.inr (by decide)⟩;rcases h with rfl | rfl | rfl <;> decide +kernel
theorem T4_none:leastcode_Least T4 0=some ((0,[]),15):=by
  refine Least_none (T4_good 0 (.inl rfl)) fun v hv=>?_
  have e2:need T4 v 2=0:=rfl;have h2:=hv.eq 2 (by decide);rw [e2,show NX 0 (rOf T4 2) 0=(0,0) by decide +kernel] at h2;have h2':v.getD 2 0=0:=(congrArg Prod.fst h2).symm;have e0:need T4 v 0=if v.getD 2 0+2-1>0 then v.getD 2 0+2-1 else 0:=rfl
  rw [h2'] at e0;have h0:=hv.eq 0 (by decide);rw [e0,show NX (if (0:Int)+2-1>0 then 0+2-1 else 0) (rOf T4 0) 0=(0,15) by decide +kernel] at h0;exact absurd (show (15:Int)=0 from congrArg Prod.snd h0) (by decide)
theorem T4_sc:Prod.snd (scOf T4 0 2 [1,2,0,1])=(2,7,3):=by decide +kernel
theorem T4_sc' (w:Int):scOf T4 w 2 [1,2,0,1]=(w,2,7,3):=by
  have h:=T4_sc;unfold scOf at *
  rw [← h]
theorem T4_all:schL T4=[(1,2,7,3),(2,2,7,3),(12,2,7,3)]:=by
  have h0:=schO_no (T4_good 0 (by simp)) T4_none;have h1:=schO_of (T4_good 1 (by simp)) (T4_least 1 (by simp));have h2:=schO_of (T4_good 2 (by simp)) (T4_least 2 (by simp));have h3:=schO_of (T4_good 12 (by simp)) (T4_least 12 (by simp));rw [T4_sc'] at h1 h2 h3;unfold schL ws4;rw [List.filterMap_cons_none h0,List.filterMap_cons_some h1,List.filterMap_cons_some h2,List.filterMap_cons_some h3,List.filterMap_nil]
theorem T4_ins:insAll (schL T4)=[(1,2,7,3),(2,2,7,3),(12,2,7,3)]:=by rw [T4_all]; decide +kernel
theorem T4_ld:ldOf T4 2 [1,2,0,1]=[200,100,400]:=by decide +kernel
theorem T4_plan {tr:List Int}(hT:TrOK tr)(hl:3≤tr.length)(hx:∀ x∈tr,500≤x):∃ c l,planner_Plan T4 tr=some (((T4,1),((2,[1,2,0,1]),c),l),[],0)∧Accepts T4 1 2 [1,2,0,1] c∧Asg (ldOf T4 2 [1,2,0,1]) tr l:=by
  have hno:¬ NoFit T4 tr (1,2,7,3):=fun h=>by
    obtain ⟨r,hr⟩:=h _ _ (T4_least 1 (.inl rfl));refine nofew_f (fun i=>i) (fun i hi h0=>?_) (fun i j _ _ _ _ e=>e) hr.few;rw [T4_ld] at hi ⊢;have hi3:i<3:=hi;have h1:vw tr i∈tr:=vw_mem (by omega);have h2:=hx _ h1;refine ⟨by omega,?_⟩;have:∀ i,i<3→vw [200,100,400] i≤500:=by decide
    have:=this i hi3;omega
  obtain ⟨s,r,e,h1,⟨h2,_⟩ | ⟨_,h2⟩⟩:=Plan_ok (T4_good 0 (.inl rfl)) (NZI.of_trains (by decide)) hT
  · rw [T4_all] at h2; cases h2
  · rw [h1];cases h2 with
    | @fits P w S v c l Q hL hP hl hA hc ha hn=>
      rw [T4_ins] at hL;cases P with
      | nil=>
        have hs:(1,2,7,3)=scOf T4 w S v:=(List.cons.inj hL).1;have hw:(1:Int)=w:=congrArg Prod.fst hs;subst hw;rw [T4_least 1 (.inl rfl)] at hl;cases hl;exact ⟨c,l,rfl,hA,ha⟩
      | cons p P=>
        have hs:(1,2,7,3)=p:=(List.cons.inj hL).1;exact absurd (hs ▸ hn p List.mem_cons_self) hno
    | room hL hP hl hM hr hn=>
      exact absurd (hn _ (by rw [T4_ins]; exact List.mem_cons_self)) hno
theorem sane17:law17_sane=some true:=by
  have h1:law17_items [0,0,1]=some T3:=by decide +kernel
  have h2:law17_items [1,3,0,2]=some T4:=by decide +kernel
  have h3:∃ l,planner_Items ([(([([98]:List UInt8)]:List (List UInt8)))]:List (List (List UInt8))) ([(([51,49,56,48,50,55,55,51,49,50,51,55]:List UInt8),100,2,100,0,0,false,([97]:List UInt8))]:List ((List UInt8)×Int×Int×Int×Int×Int×Bool×(List UInt8)))=some (l,13):=⟨[],by decide +kernel⟩
  obtain ⟨c,l,h4,_⟩:=T4_plan (tr:=[500,500,500]) ⟨by decide,by decide⟩ (by decide) (by decide);obtain ⟨k,h3⟩:=h3;unfold law17_sane;rw [h1];simp only [obind];rw [T3_schemes];simp only [obind];rw [h2];simp only [obind];rw [h4];simp only [obind];rw [h3];simp only [obind];rw [if_pos (by decide),if_pos (by decide),show (0:Int)=((0:Nat):Int) from rfl,idx_nat];rfl
theorem items_same (a:List Item)(h:a.length<4611686018427387904):gen_Items a a=some true:=by
  unfold gen_Items;rw [if_neg (by simp)];have h1:=loop_count (gen_Items_L4 a a) (.inr ()) 0 a.length (by omega) (by omega) (fun i _ hi=>by
    unfold gen_Items_L4;dsimp only;rw [if_pos (dpos (by omega)),idx_nat,List.getElem?_eq_getElem hi];simp only [obind];rw [if_neg (by simp),wr_id (by omega) (by omega)]) (by
    unfold gen_Items_L4;dsimp only;rw [if_neg (dneg (by omega))])
  rw [show ((0:Nat):Int)=0 from rfl] at h1;rw [h1];rfl
theorem schemes_same (a:List Sc)(h:a.length<4611686018427387904):gen_Schemes a a=some true:=by
  unfold gen_Schemes;rw [if_neg (by simp)];have h1:=loop_count (gen_Schemes_L4 a a) (.inr ()) 0 a.length (by omega) (by omega) (fun i _ hi=>by
    unfold gen_Schemes_L4;dsimp only;rw [if_pos (dpos (by omega)),idx_nat,List.getElem?_eq_getElem hi];simp only [obind];rw [if_neg (by simp),wr_id (by omega) (by omega)]) (by
    unfold gen_Schemes_L4;dsimp only;rw [if_neg (dneg (by omega))])
  rw [show ((0:Nat):Int)=0 from rfl] at h1;rw [h1];rfl
theorem ints_eq (a:List Int)(h:a.length<4611686018427387904):gen_Ints a a=some true:=by rw [ints_ok a a h]; simp
theorem sheets_same (s:Sh)(h1:s.1.1.length≤1000)(h2:s.2.1.1.2.length≤1000)(h3:s.2.1.2.length≤1000)(h4:s.2.2.length≤1000) :
    gen_Sheets s.1.1 s.1.2 s.2.1.1.1 s.2.1.1.2 s.2.1.2 s.2.2 s.1.1 s.1.2 s.2.1.1.1 s.2.1.1.2 s.2.1.2 s.2.2=some true:=by
  unfold gen_Sheets gen_Proofs gen_Plans;rw [if_pos (by simp),items_same _ (by omega)];simp only [obind];rw [if_pos trivial,if_pos (by simp),ints_eq _ (by omega)];simp only [obind];rw [if_pos trivial,ints_eq _ (by omega)];simp only [obind];rw [if_pos trivial,ints_eq _ (by omega)];rfl
theorem sch_same (its:List Item):∃ l e,planner_Schemes its=some (l,e)∧r17_Schemes its=some (l,e)∧l.length≤4:=by
  by_cases h:JobGood its 0
  · have h1:(schR its).1.length≤4:=by
      unfold schR
      by_cases c:schL its=[]
      · rw [if_pos c]; simp
      · rw [if_neg c];show (insAll (schL its)).length≤4
        rw [insAll_len _ _ rfl]; exact schL_len its
    exact ⟨(schR its).1,(schR its).2,Schemes_ok h,rSchemes_ok h,h1⟩
  · obtain ⟨e,he,hv,h1⟩:=Schemes_bad h;exact ⟨[],e,h1,rSchemes_bad hv he,by simp⟩
theorem E57_ok (i:Nat)(hi:i<4)(its:List Item)(w S:Int)(v c l:List Int)(tr:List Int)(r r2:List Int)(e e2 k:Int)(z:List Int)(hl:its.length≤1000) :
    law17_PlannerExact_J57 (i:Int) tr (((its,w),((S,v),c),l),r,e) (((its,w),((S,v),c),l),r2,e2) k z=some (.next (k,((i+1:Nat):Int))):=by
  unfold law17_PlannerExact_J57;dsimp only;obtain ⟨x,h1,h2,_⟩:=Check_same its w S v c l tr (.inr hl);obtain ⟨y,g1,g2,_⟩:=Check_same its w S v c z tr (.inr hl);rw [h1];simp only [obind];rw [h2];simp only [obind];rw [if_neg (by simp),g1];simp only [obind];rw [g2];simp only [obind];rw [if_neg (by simp),lk1 (by omega)]
theorem E16_ok (t:List Int)(i:Nat)(hi:i<4)(y0:List Int)(k:Int)(hk:0≤k∧k≤1000000)(its:List Item)(hl:its.length≤20)(tr:List Int)(ht:tr.length≤40) :
    ∃ k',law17_PlannerExact_J16 (t,0) (i:Int) (y0,k) its tr=some (.next (k',((i+1:Nat):Int)))∧k≤k'∧k'≤k+2:=by
  unfold law17_PlannerExact_J16;obtain ⟨l,e,h1,h2,h3⟩:=sch_same its;rw [h1];simp only [obind];rw [h2];simp only [obind];rw [schemes_same l (by omega)];simp only [obind];rw [if_neg (by decide),if_neg (by simp)];obtain ⟨q1,s,r,f,q2,q3⟩:=Plan_same its tr (fun _ w S v hP=>nz_plan hP hl);rw [q1,q2];simp only [obind];have hb:s.1.1.length≤1000∧s.2.1.1.2.length≤1000∧s.2.1.2.length≤1000∧s.2.2.length≤1000∧r.length≤1000∧(f=0→∃ w S v c a,s=((its,w),((S,v),c),a)):=by
    rcases q3 with ⟨hj,hT,q3⟩ | ⟨rfl,rfl,hf⟩
    · cases q3 with
      | @fits P w S v c a Q hL hP hl2 hA hc ha hn=>
        have hG:=hA.1;have h5:=hG.cl;have h6:=ha.ll;have h7:=((ldOf_vd hG tr).2 hT).1;exact ⟨by dsimp only; omega,by dsimp only; omega,by dsimp only; omega,by dsimp only; omega,by simp,fun _=>⟨w,S,v,c,a,rfl⟩⟩
      | @room w S v c Q a hL hP hl2 hM hr hn=>
        obtain ⟨_,_,_,_,hG⟩:=id hP;have h7:=((ldOf_vd hG tr).2 hT).1;have h8:=asc_len (ldOf its S v).length r hr.asc fun x hx=>by
          obtain ⟨j,rfl,h9,_⟩:=hr.mem x hx;omega
        exact ⟨by simp [sh0],by simp [sh0],by simp [sh0],by simp [sh0],by omega,fun q=>by cases q⟩
    · exact ⟨by simp [sh0],by simp [sh0],by simp [sh0],by simp [sh0],by simp,fun q=>absurd q hf⟩
  obtain ⟨b1,b2,b3,b4,b5,b6⟩:=hb;rw [sheets_same s b1 b2 b3 b4];simp only [obind];rw [if_neg (by decide),ints_eq r (by omega)];simp only [obind];rw [if_neg (by decide),if_neg (by simp)]
  by_cases hf:f=0
  · obtain ⟨w,S,v,c,a,rfl⟩:=b6 hf;rw [if_pos (by simpa using hf),if_pos (by simp only [List.length_nil]; dsimp only at b4; omega)];dsimp only at b4;dsimp only
    by_cases ha:0<a.length
    · obtain ⟨j,g1,g2⟩:=next_nat t k (a.length:Int) hk.1 (by omega) (by omega) (by omega);obtain ⟨u,g3,g4,g5⟩:=from_ok t (k+1) (-1) (tr.length:Int) (by omega) (by omega) (by omega) (by omega) (by omega);rw [if_pos (dpos (by rw [List.nil_append]; omega)),List.nil_append,g1];simp only [obind];rw [g3];simp only [obind];rw [idx_nat,List.getElem?_eq_getElem (by omega)];simp only [obind];rw [E57_ok i hi its w S v c a tr _ _ _ _ _ _ (by omega)];exact ⟨_,rfl,by omega,by omega⟩
    · rw [if_neg (dneg (by rw [List.nil_append]; omega)),E57_ok i hi its w S v c a tr _ _ _ _ _ _ (by omega)];exact ⟨_,rfl,by omega,by omega⟩
  · rw [if_neg (by simpa using hf),lk1 (by omega)];exact ⟨_,rfl,by omega,by omega⟩
theorem exact_ok (t:List Int)(its:List Item)(tr:List Int):law17_PlannerExact t its tr=some true:=by
  unfold law17_PlannerExact gen_New;simp only [obind];obtain ⟨d,hd,rfl⟩:=loop_inv (step:=law17_PlannerExact_L8 its tr (t,0)) (fun s=>∃ i:Nat,s.2=(i:Int)∧i≤4∧0≤s.1∧s.1≤1100*i) (fun s=>4-s.2.toNat) (fun d=>d=.inr ()) (by
    rintro ⟨k,_⟩ ⟨i,rfl,hi,k0,k1⟩;dsimp only at k0 k1 ⊢;unfold law17_PlannerExact_L8;dsimp only
    by_cases c:i<4
    · left;obtain ⟨x,k2,e1,e2,e3,e4,hg,hN⟩:=made_items t k 10 (by omega) (by omega);obtain ⟨y,k3,f1,f2,f3,f4,f5,f6⟩:=tracks_ok t k2 (by omega);rw [if_pos (dpos (by omega)),e1];simp only [obind];rw [f1];simp only [obind];obtain ⟨k4,m1,m2,m3⟩:=E16_ok t i c y k3 (by omega) x (by omega) y (by omega);have made:∃ s',law17_PlannerExact_J16 (t,0) (i:Int) (y,k3) x y=some (.next s')∧(∃ j:Nat,s'.2=(j:Int)∧j≤4∧0≤s'.1∧s'.1≤1100*j)∧4-s'.2.toNat<4-(i:Int).toNat:=
        ⟨_,m1,⟨i+1,rfl,by omega,by dsimp only; omega,by dsimp only; omega⟩,by dsimp only; omega⟩
      by_cases c3:i=3
      · rw [if_pos (by simp [c3])]
        by_cases c4:its.length≤20
        · by_cases c5:tr.length≤40
          · rw [if_pos (dpos (by omega)),if_pos (dpos (by omega))];obtain ⟨k5,n1,n2,n3⟩:=E16_ok t i c y k3 (by omega) its c4 tr c5;exact ⟨_,n1,⟨i+1,rfl,by omega,by dsimp only; omega,by dsimp only; omega⟩,by dsimp only; omega⟩
          · rw [if_pos (dpos (by omega)),if_neg (dneg (by omega))];exact made
        · rw [if_neg (dneg (by omega))];exact made
      · rw [if_neg (by simp; omega)];exact made
    · right;rw [if_neg (dneg (by omega))];exact ⟨_,rfl,rfl⟩) (0,0) ⟨0,rfl,by omega,by decide,by decide⟩ (by decide)
  rw [hd];simp only [obind];rw [sane17];rfl
end Go.Proofs.YtlejnkhaphlooaaGreat
