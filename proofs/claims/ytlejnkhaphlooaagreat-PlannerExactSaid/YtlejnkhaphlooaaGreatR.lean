
/- What any argument that came in reads as: integers, bools, strings, slices and structs of them. No condition. -/
import Derived.Test.YtlejnkhaphlooaaGreatH
import Derived.Deep.Slices
namespace Go.V
open Go
def RD {α:Type} (P:Program) (e:Enc α) (t:TypeId) (Q:α→Prop):Prop:=∀ (H:Type) (enc:TypeId×Value→H) (W:World) (base:Nat) (sp:Nat→Bool) (held:Bool) (fuel:Nat) (cs:List Value) (x:DataW H×List MemPlace),
  DataW.trod enc P W base sp held fuel t cs=some x→∃ d,e.R W [] cs d∧Q d
theorem rd_int {P:Program}{t:TypeId}{k:IntKind}(ht:P.underlying t=some (.int k)):RD P (eInt k) t (fun n=>(Lit.int k n).wf=true):=by
  intro H enc W base sp held fuel cs x h;obtain ⟨n,rfl,_,hw⟩:=DataW.trod_int ht h;exact ⟨n,rfl,hw⟩
theorem list_of {α:Type}{p:Nat→α→Prop}:∀ (n:Nat),(∀ i,i<n→∃ y,p i y)→∃ ys:List α,ys.length=n∧∀ (i:Nat) (y:α),ys[i]? = some y→p i y
  | 0,_=>⟨[],rfl,fun i y h=>by simp at h⟩
  | n+1,h=>by
    obtain ⟨ys,h1,h2⟩:=list_of n (fun i hi=>h i (by omega));obtain ⟨y,hy⟩:=h n (by omega);refine ⟨ys++[y],by simp [h1],fun i z hz=>?_⟩;rcases Nat.lt_or_ge i ys.length with hi | hi
    · rw [List.getElem?_append_left hi] at hz; exact h2 i z hz
    · rw [List.getElem?_append_right hi] at hz;have h0:i-ys.length=0:=by
        rcases Nat.eq_zero_or_pos (i-ys.length) with h | h
        · exact h
        · rw [List.getElem?_eq_none (by simp; omega)] at hz; cases hz
      rw [h0] at hz;cases hz;have:i=n:=by omega
      subst this; exact hy
theorem rd_slice {P:Program}{α:Type}{e:Enc α}{t el:TypeId}{Q:α→Prop}(ht:P.underlying t=some (.slice el))(hn:P.cellsOf el=e.n)(hp:Nat.blt 0 e.n=true)(he:RD P e el Q):RD P (eSl e) t (fun l=>∀ y∈l,Q y):=by
  intro H enc W base sp held fuel cs x h;have hp:=Nat.le_of_ble_eq_true hp;rcases Go.Deep.open_slice ht h with ⟨rfl,_⟩ | ⟨a,len,cap,m,n,D,Pl,rfl,hb,hl,hm,hmm,_,hx⟩
  · exact ⟨[],⟨none,0,rfl,SlR.empty _ _ _⟩,by simp⟩
  · have hlm:len≤m:=by rw [hmm]; split <;> omega
    obtain ⟨ys,h1,h2⟩:=list_of (p:=fun i y=>∃ cs',W.cells? base (a.add (i*e.n)) e.n=some cs'∧e.R W [] cs' y∧Q y) len (fun i hi=>by
      obtain ⟨cs',c1,c2⟩:=hx i (by omega);rw [hn] at c1;obtain ⟨y,c3,c4⟩:=he H enc W base sp held n cs' _ c2;exact ⟨y,cs',c1,c3,c4⟩)
    have spot:0<len→a.spot=none∧a.block<W.heap.size:=by
      intro hlen;obtain ⟨cs',c1,c2⟩:=hx 0 (by omega);rw [hn] at c1;obtain ⟨_,c3,c4⟩:=World.cells?_some c1;have c5:=c4 0 (by omega);rw [List.getElem?_eq_getElem (by omega)] at c5;have e0:(a.add (0*e.n)).add 0=a:=by simp [Addr.add]
      rw [e0] at c5;refine ⟨World.cell?_spot c5,?_⟩;simp only [World.cell?] at c5
      split at c5
      · rename_i hb; exact lt_of_heap hb
      · cases c5
    refine ⟨ys,⟨some a,cap,by rw [h1],?_⟩,fun y hy=>?_⟩
    · refine ⟨by omega,hm,fun h=>(by cases h),fun ad ha hpos=>?_⟩;cases ha;obtain ⟨s1,s2⟩:=spot (by omega);refine ⟨s1,by simp,s2,fun i y hy=>?_⟩;obtain ⟨cs',c1,c2,_⟩:=h2 i y hy;obtain ⟨_,c3,c4⟩:=World.cells?_some c1;refine ⟨cs',c2,fun k v hv=>?_⟩;have hk:k<e.n:=by have:=(List.getElem?_eq_some_iff.1 hv).1; omega
      have c5:=c4 k hk;rw [addr_add s1,addr_add rfl,hv] at c5;rw [← Nat.add_assoc];exact c5
    · obtain ⟨i,hi,rfl⟩:=List.getElem_of_mem hy;exact (h2 i _ (List.getElem?_eq_getElem hi)).choose_spec.2.2
def FD {α:Type} (P:Program) (e:Enc α) (fs:List Field) (off:Nat) (Q:α→Prop):Prop:=∀ (H:Type) (enc:TypeId×Value→H) (W:World) (base:Nat) (sp:Nat→Bool) (held:Bool) (fuel:Nat) (cs:List Value),
  (∀ f∈fs,∃ x,DataW.trod enc P W base sp held fuel f.type ((cs.drop f.offset).take (P.cellsOf f.type))=some x)→cs.length=off+e.n→∃ d,e.R W [] (cs.drop off) d∧Q d
theorem fd_one {P:Program}{α:Type}{e:Enc α}{f:Field}{off:Nat}{Q:α→Prop}{ft:TypeId}(he:RD P e ft Q)(hft:f.type=ft)(ho:f.offset=off)(hn:P.cellsOf f.type=e.n):FD P e [f] off Q:=by
  subst hft;intro H enc W base sp held fuel cs h hl;obtain ⟨x,hx⟩:=h f List.mem_cons_self;rw [ho,hn,List.take_of_length_le (by rw [List.length_drop]; omega)] at hx;exact he H enc W base sp held fuel _ x hx
theorem fd_cons {P:Program}{α β:Type}{e:Enc α}{e':Enc β}{f:Field}{fs:List Field}{off:Nat}{Q:α→Prop}{Q':β→Prop}{ft:TypeId}(he:RD P e ft Q)(hft:f.type=ft)(ho:f.offset=off)(hn:P.cellsOf f.type=e.n)(ht:FD P e' fs (off+e.n) Q') :
    FD P (eProd e e') (f::fs) off (fun d=>Q d.1∧Q' d.2):=by
  subst hft;intro H enc W base sp held fuel cs h hl;have hl':cs.length=off+(e.n+e'.n):=hl;obtain ⟨x,hx⟩:=h f List.mem_cons_self;rw [ho,hn] at hx;obtain ⟨d,h1,h2⟩:=he H enc W base sp held fuel _ x hx;obtain ⟨d',h3,h4⟩:=ht H enc W base sp held fuel cs (fun g hg=>h g (List.mem_cons_of_mem _ hg)) (by omega);refine ⟨(d,d'),⟨_,_,?_,h1,h3⟩,h2,h4⟩;rw [← List.drop_drop];exact (List.take_append_drop _ _).symm
theorem rd_struct {P:Program}{α:Type}{e:Enc α}{t:TypeId}{fs:Array Field}{Q:α→Prop}(hs:P.underlying t=some (.struct fs))(hn:P.cellsOf t=e.n)(h:FD P e fs.toList 0 Q):RD P e t Q:=by
  intro H enc W base sp held fuel cs x hx;obtain ⟨xs,n,_,_,hl,hxl,hf⟩:=DataW.trod_struct hs hx;have:=h H enc W base sp held n cs (fun f hfm=>by
    obtain ⟨i,hi,he⟩:=List.getElem_of_mem hfm;have hi':i<fs.size:=by simpa using hi
    have e1:fs[i]? = some f:=by rw [Array.getElem?_eq_getElem hi']; rw [← he]; simp
    have e2:=hf i f e1;exact ⟨xs[i]'(by omega),by rw [e2]; exact List.getElem?_eq_getElem _⟩) (by rw [hl,hn]; omega)
  simpa using this
end Go.V
