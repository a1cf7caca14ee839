
/- What any argument that came in reads as: integers, bools, strings, slices and structs of them. No condition. -/
import Derived.Test.YtlihkahbjlnbbaaGreatH
import Derived.Deep.Slices
namespace Go.V
open Go
def RD {α:Type} (P:Program) (e:MN α) (t:TypeId) (Q:α→Prop):Prop:=∀ (H:Type) (enc:TypeId×Value→H) (W:World) (base:Nat) (q:Nat→Bool) (j:Bool) (g:Nat) (cs:List Value) (x:DataW H×List MemPlace),
  DataW.trod enc P W base q j g t cs=some x→∃ d,e.R W [] cs d∧Q d
theorem Mb4 {P:Program}{t:TypeId}{k:IntKind}(g:P.underlying t=some (.int k)):RD P (Zd k) t (fun n=>(Lit.int k n).wf=true):=by
  intro H enc W base u r q cs x h;obtain ⟨n,rfl,_,j⟩:=DataW.trod_int g h;exact ⟨n,rfl,j⟩
theorem M7e {α:Type}{p:Nat→α→Prop}:∀ (n:Nat),(∀ i,i<n→∃ y,p i y)→∃ ys:List α,ys.length=n∧∀ (i:Nat) (y:α),ys[i]? = some y→p i y
  | 0,_=>⟨[],rfl,fun i y h=>by simp at h⟩
  | n+1,h=>by
    obtain ⟨ys,h1,q⟩:=M7e n (fun i hi=>h i (by omega));obtain ⟨y,r⟩:=h n (by omega);refine ⟨ys++[y],by simp [h1],fun i z g=>?_⟩;rcases Nat.lt_or_ge i ys.length with hi | hi
    · rw [List.getElem?_append_left hi] at g; exact q i z g
    · rw [List.getElem?_append_right hi] at g;have j:i-ys.length=0:=by
        rcases Nat.eq_zero_or_pos (i-ys.length) with h | h
        · exact h
        · rw [List.getElem?_eq_none (by simp; omega)] at g; cases g
      rw [j] at g;cases g;have:i=n:=by omega
      subst this; exact r
theorem M8C {P:Program}{α:Type}{e:MN α}{t el:TypeId}{Q:α→Prop}(ht:P.underlying t=some (.slice el))(G:P.cellsOf el=e.n)(I:Nat.blt 0 e.n=true)(X:RD P e el Q):RD P (Mi e) t (fun l=>∀ y∈l,Q y):=by
  intro H enc W base sp Y ah cs x h;have I:=Nat.le_of_ble_eq_true I;rcases Go.Deep.open_slice ht h with ⟨rfl,_⟩ | ⟨a,len,cap,m,n,D,Pl,rfl,E,hl,hm,ab,_,J⟩
  · exact ⟨[],⟨none,0,rfl,Ma.empty _ _ _⟩,by simp⟩
  · have ak:len≤m:=by rw [ab]; split <;> omega
    obtain ⟨ys,h1,B⟩:=M7e (p:=fun i y=>∃ cs',W.cells? base (a.add (i*e.n)) e.n=some cs'∧e.R W [] cs' y∧Q y) len (fun i F=>by
      obtain ⟨cs',j,r⟩:=J i (by omega);rw [G] at j;obtain ⟨y,u,q⟩:=X H enc W base sp Y n cs' _ r;exact ⟨y,cs',j,u,q⟩)
    have spot:0<len→a.spot=none∧a.block<W.heap.size:=by
      intro aj;obtain ⟨cs',j,r⟩:=J 0 (by omega);rw [G] at j;obtain ⟨_,u,q⟩:=World.cells?_some j;have g:=q 0 (by omega);rw [List.getElem?_eq_getElem (by omega)] at g;have U:(a.add (0*e.n)).add 0=a:=by simp [Addr.add]
      rw [U] at g;refine ⟨World.cell?_spot g,?_⟩;simp only [World.cell?] at g
      split at g
      · rename_i E; exact MA E
      · cases g
    refine ⟨ys,⟨some a,cap,by rw [h1],?_⟩,fun y A=>?_⟩
    · refine ⟨by omega,hm,fun h=>(by cases h),fun ad ha am=>?_⟩;cases ha;obtain ⟨O,s2⟩:=spot (by omega);refine ⟨O,by simp,s2,fun i y A=>?_⟩;obtain ⟨cs',j,r,_⟩:=B i y A;obtain ⟨_,u,q⟩:=World.cells?_some j;refine ⟨cs',r,fun k v hv=>?_⟩;have Z:k<e.n:=by have:=(List.getElem?_eq_some_iff.1 hv).1; omega
      have g:=q k Z;rw [MM O,MM rfl,hv] at g;rw [← Nat.add_assoc];exact g
    · obtain ⟨i,F,rfl⟩:=List.getElem_of_mem A;exact (B i _ (List.getElem?_eq_getElem F)).choose_spec.2.2
end Go.V
