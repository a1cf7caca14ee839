
/- Sorting and its kin in Go's library, as contracts on slices that are owned. Conditions: those of each theorem. -/
import Derived.Test.YtlejnkhaphlooaaGreatH
import Derived.Shelf.SlSortCmp.NoneTotal
import Derived.Sort.OwnSortedInts
import Derived.Shelf.Slices.Reverse
import Derived.Shelf.Slices.CompactI
import Derived.Shelf.Sort.Plain
set_option linter.unusedSimpArgs false
set_option linter.unusedVariables false
namespace Go.V
open Go Go.Sort Go.Proofs
theorem putCells_size {α:Type} [Inhabited α] (enc:α→Value)(off:Nat)(d:Array α)(c:Array Value):(putCells enc off d c).size=c.size:=by simp [putCells]
theorem own_put {α:Type} [Inhabited α] (f:α→Int){T:TypeId}{w:World}{M:List Nat}{a:Option Addr}{c:Nat}{xs:List Int}{g n:Nat}{os:Array Obj}{d:Array α}
    (h:OwnS (eInt .i64) T w M a c xs) (ha:a=some ⟨g,0,none⟩) (hd:d.size≤c) :
    Ev (blk a) w (grow (putRow (fun x=>Value.int .i64 (f x)) (Sort.ahead w n) g 0 d) os)∧∀ M',OwnS (eInt .i64) T (grow (putRow (fun x=>Value.int .i64 (f x)) (Sort.ahead w n) g 0 d) os) M' a c (d.toList.map f):=by
  rcases h with ⟨h,_,_⟩ | ⟨g',cur,hg',hg,h1,h2,h3,h4⟩
  · rw [h] at ha; cases ha
  rw [ha] at hg';cases hg';subst ha;have hlt:=lt_of_heap hg;refine ⟨⟨rfl,rfl,rfl,by simp [Sort.ahead],fun k hk hm=>?_⟩,fun M'=>.inr ⟨g,putCells (fun x=>Value.int .i64 (f x)) 0 d cur,rfl,?_,?_,h2,?_,fun i x hx=>⟨[.int .i64 x],rfl,fun k v hv=>?_⟩⟩⟩
  · rw [heap_grow_old _ _ (by simpa [Sort.ahead] using hk)];have:g≠k:=fun e=>hm (by simp [blk,e])
    simp [putRow,mapBlock,Sort.ahead,Array.getElem?_modify,this]
  · rw [heap_grow_old _ _ (by simpa [Sort.ahead] using hlt)];simp [putRow,mapBlock,Sort.ahead,Array.getElem?_modify,hg,onCells]
  · simp only [List.length_map,Array.length_toList]; exact hd
  · rw [putCells_size]; exact h3
  · have hc1:(eInt .i64).n=1:=rfl;cases k with
    | succ k=>simp at hv
    | zero=>
      simp only [List.getElem?_cons_zero,Option.some.injEq] at hv;subst hv;rw [hc1,Nat.mul_one,Nat.add_zero];have hi:i<d.size:=by
        have:=(List.getElem?_eq_some_iff.1 hx).1
        simpa using this
      have hic:i<cur.size:=by rw [h3,hc1]; omega
      rw [List.getElem?_map,Array.getElem?_toList,Array.getElem?_eq_getElem hi] at hx;simp only [Option.map_some,Option.some.injEq] at hx;subst hx;simp only [putCells,Array.getElem?_mapIdx,Array.getElem?_eq_getElem hic,Option.map_some,Nat.zero_le,Nat.zero_add,hi,and_self,if_true,Nat.sub_zero];rw [getElem!_pos d i hi]
theorem own_holds {T:TypeId}{w:World}{M:List Nat}{a:Option Addr}{c:Nat}{xs:List Int}{g:Nat}(h:OwnS (eInt .i64) T w M a c xs)(ha:a=some ⟨g,0,none⟩) :
    ∀ j,j<xs.length→w.cell? ⟨g,0+j,none⟩=some (.int .i64 xs[j]!)∧w.frozen? ⟨g,0+j,none⟩=false:=by
  rcases h with ⟨h,_,_⟩ | ⟨g',cur,hg',hg,h1,h2,h3,h4⟩
  · rw [h] at ha; cases ha
  rw [ha] at hg';cases hg';intro j hj;refine ⟨?_,by simp [World.frozen?,hg]⟩;obtain ⟨cs,h5,h6⟩:=h4 j xs[j] (List.getElem?_eq_getElem hj);have h5':cs=[.int .i64 xs[j]]:=h5;have:=h6 0 _ (by rw [h5']; rfl);rw [Nat.zero_add,box_cell hg,getElem!_pos xs j hj]
  simpa [eInt] using this
theorem own_Holds {T:TypeId}{w:World}{M:List Nat}{a:Option Addr}{c:Nat}{xs:List Int}{g:Nat}(h:OwnS (eInt .i64) T w M a c xs)(ha:a=some ⟨g,0,none⟩):Holds (Value.int .i64) w g 0 xs.toArray:=by
  intro j hj;have hj':j<xs.length:=by simpa using hj
  have:=own_holds h ha j hj';refine ⟨?_,this.2⟩;rw [this.1,getElem!_pos xs j hj',getElem!_pos xs.toArray j hj];simp
theorem own_cases {T:TypeId}{w:World}{M:List Nat}{a:Option Addr}{c:Nat}{xs:List Int}(h:OwnS (eInt .i64) T w M a c xs):xs=[]∨∃ g,a=some ⟨g,0,none⟩:=by
  rcases h with ⟨_,_,h⟩ | ⟨g,_,h,_⟩
  · exact .inl h
  · exact .inr ⟨g,h⟩
theorem own_small {T:TypeId}{w:World}{M:List Nat}{a:Option Addr}{c:Nat}{xs:List Int}(h:OwnS (eInt .i64) T w M a c xs):xs.length≤9223372036854775807:=by
  rcases h with ⟨_,_,h⟩ | ⟨g,_,h,_,h1,h2,_⟩
  · subst h; simp
  · unfold maxLen at h2; omega
theorem own_empty {T:TypeId}{w:World}{M M':List Nat}{a:Option Addr}{c:Nat}(h:OwnS (eInt .i64) T w M a c []):OwnS (eInt .i64) T w M' a c []:=by
  rcases h with h | ⟨g',cur,hg',hg,h1,h2,h3,h4⟩
  · exact .inl h
  · exact .inr ⟨g',cur,hg',hg,h1,h2,h3,fun i x hx=>by cases hx⟩
theorem revI_w {P : Program} {ρ : Go.Shelf.Ren} (L : Lays.n112 P ρ) {f : Nat} (hf : ρ.f 112 = f) (hcal : ∃ fn, P.funcs[f]? = some fn ∧ (fn.name == "runtime.NumGoroutine") = false ∧ fn.body.isNone = false)
    {T:TypeId} {w:World} {M:List Nat} {a:Option Addr} {c:Nat} {xs:List Int} (h:OwnS (eInt .i64) T w M a c xs) :
    CallVC P f [.slice a xs.length c] w fun v w'=>v=.tuple #[]∧Ev (blk a) w w'∧xs.reverse.length=xs.length∧∀ M',OwnS (eInt .i64) T w' M' a c xs.reverse:=by
  refine ⟨?_,hcal⟩;subst hf;rcases own_cases h with hx | ⟨g,ha⟩
  · subst hx;refine (Any.slices_Reverse_int_empty L a c w).mono fun e w' ⟨he,hw⟩=>⟨_,he,rfl,?_,rfl,fun M'=>?_⟩
    · rw [hw]; exact Ev.refl _ _
    · rw [hw]; exact own_empty h
  · have key:=Any.slices_Reverse_int L g 0 c xs w (own_Holds h ha) (own_small h);rw [← ha] at key;refine key.mono fun e w' ⟨he,n,hw⟩=>⟨_,he,rfl,?_,by simp,fun M'=>?_⟩
    · rw [hw];have:=(own_put (n:=n) (os:=#[]) (d:=xs.reverse.toArray) id h ha (by simpa using h.le)).1;rw [grow_empty] at this;exact this
    · rw [hw];have:=(own_put (n:=n) (os:=#[]) (d:=xs.reverse.toArray) id h ha (by simpa using h.le)).2 M';rw [grow_empty] at this
      simpa using this
def insI (x:Int):List Int→List Int
  | []=>[x]
  | y::l=>if x≤y then x::y::l else y::insI x l
def sortI:List Int→List Int
  | []=>[]
  | x::l=>insI x (sortI l)
theorem insI_perm (x:Int):∀ l,(insI x l).Perm (x::l)
  | []=>List.Perm.refl _
  | y::l=>by
    unfold insI
    split
    · exact List.Perm.refl _
    · exact ((insI_perm x l).cons y).trans (List.Perm.swap x y l)
theorem sortI_perm:∀ l,(sortI l).Perm l
  | []=>List.Perm.refl _
  | x::l=>(insI_perm x (sortI l)).trans ((sortI_perm l).cons x)
theorem insI_sorted (x:Int):∀ l:List Int,l.Pairwise (·≤·)→(insI x l).Pairwise (·≤·)
  | [],_=>by simp [insI]
  | y::l,h=>by
    unfold insI;have h':=List.pairwise_cons.1 h
    split
    · rename_i hxy
      refine List.pairwise_cons.2 ⟨fun z hz=>?_,h⟩;rcases List.mem_cons.1 hz with rfl | hz
      · exact hxy
      · exact Int.le_trans hxy (h'.1 z hz)
    · rename_i hxy
      refine List.pairwise_cons.2 ⟨fun z hz=>?_,insI_sorted x l h'.2⟩;rcases List.mem_cons.1 ((insI_perm x l).mem_iff.1 hz) with rfl | hz
      · omega
      · exact h'.1 z hz
theorem sortI_sorted:∀ l:List Int,(sortI l).Pairwise (·≤·)
  | []=>List.Pairwise.nil
  | x::l=>insI_sorted x _ (sortI_sorted l)
theorem sorted_uniq:∀ (l k:List Int),l.Perm k→l.Pairwise (·≤·)→k.Pairwise (·≤·)→l=k
  | [],k,hp,_,_=>(List.nil_perm.1 hp).symm
  | x::l,[],hp,_,_=>absurd hp.symm (by simp)
  | x::l,y::k,hp,h1,h2=>by
    have a1:=List.pairwise_cons.1 h1;have a2:=List.pairwise_cons.1 h2;have hxy:x=y:=by
      have m1:x∈y::k:=hp.mem_iff.1 List.mem_cons_self;have m2:y∈x::l:=hp.mem_iff.2 List.mem_cons_self;rcases List.mem_cons.1 m1 with h | h
      · exact h
      · rcases List.mem_cons.1 m2 with h' | h'
        · exact h'.symm
        · have:=a2.1 x h; have:=a1.1 y h'; omega
    subst hxy;rw [sorted_uniq l k (List.Perm.cons_inv hp) a1.2 a2.2]
theorem sortI_eq (l:List Int):l.mergeSort (fun x y=>decide (x≤y))=sortI l:=by
  refine sorted_uniq _ _ ((List.mergeSort_perm l _).trans (sortI_perm l).symm) ?_ (sortI_sorted l);have:=List.pairwise_mergeSort (le:=fun x y:Int=>decide (x≤y)) (fun a b c h1 h2=>by simp at *; omega) (fun a b=>by simp; omega) l;exact this.imp (fun h=>by simpa using h)
theorem sortI_w {P : Program} {ρ : Go.Shelf.Ren} (L : Lays.n189 P ρ) {f : Nat} (hf : ρ.f 189 = f) (hcal : ∃ fn, P.funcs[f]? = some fn ∧ (fn.name == "runtime.NumGoroutine") = false ∧ fn.body.isNone = false)
    {T:TypeId} {w:World} {M:List Nat} {a:Option Addr} {c:Nat} {xs:List Int} (h:OwnS (eInt .i64) T w M a c xs) (hl:xs≠[]∧xs.length≤4294967296) :
    CallVC P f [.slice a xs.length c] w fun v w'=>v=.tuple #[]∧Ev (blk a) w w'∧(sortI xs).length=xs.length∧∀ M',OwnS (eInt .i64) T w' M' a c (sortI xs):=by
  refine ⟨?_,hcal⟩;subst hf;rcases own_cases h with hx | ⟨g,ha⟩
  · exact absurd hx hl.1
  · have key:=Any.slices_Sort_int L g 0 c xs w (own_Holds h ha) (h.lt g (by rw [ha]; simp [blk])) (by omega);rw [← ha,sortI_eq] at key;have hlen:(sortI xs).length=xs.length:=(sortI_perm xs).length_eq;refine key.mono fun e w' ⟨he,n,os,hw⟩=>⟨_,he,rfl,?_,hlen,fun M'=>?_⟩
    · rw [hw]; exact (own_put (n:=n) (os:=os) (d:=(sortI xs).toArray) id h ha (by simp [hlen]; exact h.le)).1
    · rw [hw];have:=(own_put (n:=n) (os:=os) (d:=(sortI xs).toArray) id h ha (by simp [hlen]; exact h.le)).2 M'
      simpa using this
def okF (cmp:Int→Int→Option Int) (xs:List Int):Bool:=
  decide (xs.length≤4294967296)&&xs.all fun x=>decide (¬ (cmp x x).getD 0<0)&&xs.all fun y=>(cmp x y).isSome&&xs.all fun z=>
    (decide (¬ ((cmp x y).getD 0<0∧(cmp y z).getD 0<0)∨(cmp x z).getD 0<0))&&(decide ((cmp x y).getD 0<0∨(cmp y z).getD 0<0∨¬ (cmp x z).getD 0<0))
def cfS (cmp:Int→Int→Option Int) (xs:List Int) (x y:{x // x∈xs}):Int:=(cmp x.1 y.1).getD 0
def sortF (cmp:Int→Int→Option Int) (xs:List Int):Option (List Int):=
  if hx:xs=[] then some [] else
    if okF cmp xs=true then
      haveI:Inhabited {x // x∈xs}:=⟨⟨xs.head hx,List.head_mem hx⟩⟩
      some ((pdq (ltOf (cfS cmp xs)) xs.attach.toArray 0 xs.attach.toArray.size (Lib.bitLen xs.attach.toArray.size) true true).toList.map Subtype.val)
    else none
theorem okF_iff {cmp:Int→Int→Option Int}{xs:List Int}(h:okF cmp xs=true):xs.length≤4294967296∧(∀ x∈xs,∀ y∈xs,∃ r,cmp x y=some r)∧SWO (ltOf (cfS cmp xs)):=by
  simp only [okF,Bool.and_eq_true,List.all_eq_true,decide_eq_true_eq,Option.isSome_iff_exists] at h;obtain ⟨h1,h2⟩:=h;refine ⟨h1,fun x hx y hy=>((h2 x hx).2 y hy).1,⟨fun x=>?_,fun x y z hxy hyz=>?_,fun x y z hxy hyz=>?_⟩⟩
  · exact decide_eq_false (h2 x.1 x.2).1
  · have hxy:=of_decide_eq_true hxy;have hyz:=of_decide_eq_true hyz;refine decide_eq_true ?_;rcases (((h2 x.1 x.2).2 y.1 y.2).2 z.1 z.2).1 with h | h
    · exact absurd ⟨hxy,hyz⟩ h
    · exact h
  · have hxy:=of_decide_eq_false hxy;have hyz:=of_decide_eq_false hyz;refine decide_eq_false ?_;rcases (((h2 x.1 x.2).2 y.1 y.2).2 z.1 z.2).2 with h | h | h
    · exact absurd h hxy
    · exact absurd h hyz
    · exact h
theorem ev_grown {w w':World}{q:Nat}(h:w'=w.drewN q):w'=grow (w.drewN q) #[]:=by rw [h,grow_empty]
theorem sortF_w {P : Program} {ρ : Go.Shelf.Ren} (L : SlLaysF.n6 P ρ) {f g : Nat} (hf : ρ.f 6 = f) (hcal : ∃ fn, P.funcs[f]? = some fn ∧ (fn.name == "runtime.NumGoroutine") = false ∧ fn.body.isNone = false)
    (hcg : ∃ fn, P.funcs[g]? = some fn ∧ (fn.name == "runtime.NumGoroutine") = false ∧ fn.body.isNone = false) (cb : List Value) {T : TypeId} {w : World} {M : List Nat} {a : Option Addr} {c : Nat} {xs ys : List Int} (cmp : Int → Int → Option Int)
    (h:OwnS (eInt .i64) T w M a c xs)
    (hcmp:∀ (w':World) (x y r:Int),Ev (blk a) w w'→cmp x y=some r→CallVC P g ([.int .i64 x,.int .i64 y]++cb) w' fun v u=>v=.int .i64 r∧∃ q,u=w'.drewN q)
    (hs:sortF cmp xs=some ys) :
    CallVC P f [.slice a xs.length c,.func (.func g) #[] cb.toArray] w fun v w'=>v=.tuple #[]∧Ev (blk a) w w'∧ys.length=xs.length∧∀ M',OwnS (eInt .i64) T w' M' a c ys:=by
  refine ⟨?_,hcal⟩;subst hf;unfold sortF at hs
  split at hs
  · rename_i hx
    cases hs;subst hx;refine (AnyF.slices_SortFunc_none (P:=P) (ρ:=ρ) { L with } a c (.func (.func g) #[] cb.toArray) w).mono fun e w' ⟨he,hw⟩=>⟨_,he,rfl,?_,rfl,?_⟩
    · rw [hw]; exact Ev.refl _ _
    · intro M';rw [hw];rcases h with h | ⟨g',cur,hg',hg,h1,h2,h3,h4⟩
      · exact .inl h
      · exact .inr ⟨g',cur,hg',hg,h1,h2,h3,fun i x hx=>by cases hx⟩
  · rename_i hx
    split at hs
    · rename_i hok
      simp only [Option.some.injEq] at hs;obtain ⟨hlen,hall,hO⟩:=okF_iff hok
      letI:Inhabited {x // x∈xs}:=⟨⟨xs.head hx,List.head_mem hx⟩⟩
      obtain ⟨g0,ha⟩:∃ g0,a=some ⟨g0,0,none⟩:=by
        rcases h with ⟨_,_,h⟩ | ⟨g',cur,hg',_⟩
        · exact absurd h hx
        · exact ⟨g',hg'⟩
      have hblk:g0<w.heap.size:=by
        have:=h.lt g0 (by rw [ha]; simp [blk]);exact this
      have hsz:xs.attach.toArray.size=xs.length:=by simp
      have hle:xs.length≤c:=h.le;have hev:∀ m os (dk:Array {x // x∈xs}),dk.size=xs.attach.toArray.size→Ev (blk a) w (sortWorld (fun x:{x // x∈xs}=>Value.int .i64 x.1) w g0 0 m dk os):=fun m os dk hdk=>
        (own_put Subtype.val h ha (by rw [hdk,hsz]; exact hle)).1
      have key:=Any.slices_SortFunc_eq L (fun x:{x // x∈xs}=>Value.int .i64 x.1) (fun x=>rfl) (cfS cmp xs) hO g cb.toArray g0 0 c xs.attach.toArray w
        (fun args w=>by obtain ⟨fn,h1,h2,h3⟩:=hcg; exact callFunc_run args w h1 h2 h3)
        (fun m os dk hdk x y=>by
          obtain ⟨r,hr⟩:=hall x.1 x.2 y.1 y.2;have hc:=(hcmp _ x.1 y.1 r (hev m os dk hdk) hr).run;have e1:([Value.int .i64 x.1,.int .i64 y.1]++cb).toArray = #[Value.int .i64 x.1,Value.int .i64 y.1]++cb.toArray:=by simp
          rw [e1] at hc;refine hc.mono fun e u ⟨v,he,hv,q,hu⟩=>?_
          subst he; subst hv;exact ⟨by simp [cfS,hr],q,#[],ev_grown hu⟩)
        (fun j hj=>by
          have:=own_holds h ha j (by rw [hsz] at hj; exact hj);refine ⟨?_,this.2⟩;rw [this.1,getElem!_pos xs j (by rw [hsz] at hj; exact hj),getElem!_pos _ j hj];simp) hblk (by rw [hsz]; omega)
      rw [hsz] at key;rw [ha];refine key.mono fun e w' ⟨he,n,os,hw⟩=>?_
      have hperm:=pdq_sorts (ltOf (cfS cmp xs)) hO xs.attach.toArray 0 xs.length (Lib.bitLen xs.length) true true (Nat.zero_le _) (by rw [hsz]; exact Nat.le_refl _) (Or.inl rfl);have hps:=hperm.1.1;rw [hsz] at hs hps;have ho:=own_put (n:=n) (os:=os) (d:=pdq (ltOf (cfS cmp xs)) xs.attach.toArray 0 xs.length (Lib.bitLen xs.length) true true) Subtype.val h ha (by rw [hps]; exact hle);refine ⟨_,he,rfl,?_,?_,?_⟩
      · rw [hw,← ha]; exact ho.1
      · rw [← hs]; simp only [List.length_map,Array.length_toList]; exact hps
      · intro M'; rw [hw,← ha,← hs]; exact ho.2 M'
    · cases hs
theorem sortF_spec {cmp:Int→Int→Option Int}{xs:List Int}(key:Int→Int)(hl:xs.length≤4294967296)(hc:∀ x∈xs,∀ y∈xs,cmp x y=some (key x-key y)) :
    ∃ ys,sortF cmp xs=some ys∧ys.Perm xs∧ys.Pairwise (fun a b=>key a≤key b):=by
  by_cases hx:xs=[]
  · subst hx; exact ⟨[],by simp [sortF],List.Perm.refl _,List.Pairwise.nil⟩
  letI:Inhabited {x // x∈xs}:=⟨⟨xs.head hx,List.head_mem hx⟩⟩
  have hok:okF cmp xs=true:=by
    simp only [okF,Bool.and_eq_true,List.all_eq_true,decide_eq_true_eq,Option.isSome_iff_exists];refine ⟨hl,fun x h1=>⟨by rw [hc x h1 x h1]; simp,fun y h2=>⟨⟨_,hc x h1 y h2⟩,fun z h3=>?_⟩⟩⟩;rw [hc x h1 y h2,hc y h2 z h3,hc x h1 z h3];simp only [Option.getD_some];omega
  obtain ⟨_,hall,hO⟩:=okF_iff hok;have hsz:xs.attach.toArray.size=xs.length:=by simp
  have hperm:=pdq_sorts (ltOf (cfS cmp xs)) hO xs.attach.toArray 0 xs.attach.toArray.size (Lib.bitLen xs.attach.toArray.size) true true (Nat.zero_le _) (Nat.le_refl _) (Or.inl rfl);refine ⟨_,by unfold sortF; rw [dif_neg hx,if_pos hok],?_,?_⟩
  · have e1:∀ (d:Array {x // x∈xs}) (n:Nat),d.size=n→d.extract 0 n=d:=fun d n h=>by subst h; simp
    have e2:=e1 _ _ hperm.1.1;have e3:=e1 xs.attach.toArray _ rfl;have:=hperm.1.2.2;rw [e2,e3] at this;have:=this.map Subtype.val
    simpa using this
  · have hso:=hperm.2;have hps:=hperm.1.1;generalize pdq (ltOf (cfS cmp xs)) xs.attach.toArray 0 xs.attach.toArray.size (Lib.bitLen xs.attach.toArray.size) true true=d at *
    rw [List.pairwise_map,List.pairwise_iff_getElem];intro i j hi hj hij;have hj':j<d.size:=by simpa using hj
    have hi':i<d.size:=by simpa using hi
    have:=hso i j (Nat.zero_le _) hij (by rw [← hps]; exact hj');rw [getElem!_pos d j hj',getElem!_pos d i hi'] at this;have:=of_decide_eq_false this;simp only [cfS] at this;rw [hc _ d[j].2 _ d[i].2] at this;simp only [Option.getD_some] at this;simp only [Array.getElem_toList];omega
end Go.V
