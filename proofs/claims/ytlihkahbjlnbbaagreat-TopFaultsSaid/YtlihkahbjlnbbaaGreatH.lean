
/- How data lie in memory: encodings, slices that are read, boxes, slices that are owned; and what the operations do to them. No condition. -/
import Derived.Test.YtlihkahbjlnbbaaGreatV
import Derived.Deep.AppendLies
import Derived.Laws.OwnMore
import Derived.Laws.MakeOwn
set_option linter.unusedSimpArgs false
set_option linter.unusedVariables false
namespace Go.V
open Go
theorem nn {b:Nat}:b∉([]:List Nat):=fun h=>by cases h
theorem nn2 {A:List Nat}:∀ x∈A,x∉([]:List Nat):=fun _ _ h=>by cases h
theorem Ev.lt {M:List Nat}{w w':World}(h:Ev M w w'){b:Nat}(g:b<w.heap.size):b<w'.heap.size:=Nat.lt_of_lt_of_le g h.size
theorem Ev.sub {M M':List Nat}{w w':World}(h:Ev M w w')(hs:∀ b∈M,b∈M'):Ev M' w w':=
  ⟨h.os,h.tape,h.output,h.size,fun k g q=>h.block k g fun j=>q (hs k j)⟩
theorem Ev.nil {M:List Nat}{w w':World}(h:Ev [] w w'):Ev M w w':=h.sub (fun _ h=>by cases h)
theorem Ev.cell {M:List Nat}{w w':World}(h:Ev M w w'){a:Addr}(g:a.block<w.heap.size)(j:a.block∉M):w'.cell? a=w.cell? a:=by
  simp only [World.cell?,h.block a.block g j]
theorem MA {w:World}{b:Nat}{o:Obj}(h:w.heap[b]? = some o):b<w.heap.size:=(Array.getElem?_eq_some_iff.1 h).1
theorem Ev.box {M:List Nat}{w w':World}(h:Ev M w w'){b:Nat}{o:Obj}(g:w.heap[b]? = some o)(j:b∉M):w'.heap[b]? = some o:=by
  rw [h.block b (MA g) j]; exact g
structure Ro (M:List Nat) (w:World) (M':List Nat) (w':World):Prop where
  ev:Ev M w w'
  new:∀ b∈M',b∈M∨w.heap.size≤b
theorem Ro.of {Mo M M':List Nat}{w w':World}(h:Ev Mo w w')(hs:∀ b∈Mo,b∈M)(g:∀ b∈M',b∈M∨w.heap.size≤b):Ro M w M' w':=⟨h.sub hs,g⟩
theorem Ro.same {Mo M:List Nat}{w w':World}(h:Ev Mo w w')(hs:∀ b∈Mo,b∈M):Ro M w M w':=⟨h.sub hs,fun _ h=>.inl h⟩
theorem Ro.sub {M M':List Nat}(w:World)(hs:∀ b∈M',b∈M):Ro M w M' w:=⟨Ev.refl _ _,fun b h=>.inl (hs b h)⟩
structure MN (α:Type) where
  n:Nat
  R:World→List Nat→List Value→α→Prop
  len:∀ {w:World} {M:List Nat} {cs:List Value} {x:α},R w M cs x→cs.length=n
  step:∀ {w w':World} {M M':List Nat} {cs:List Value} {x:α},R w M cs x→Ro M w M' w'→R w' M' cs x
  one:∀ {w:World} {M:List Nat} {cs:List Value} {x:α},R w M cs x→∀ v∈cs,v.oneCell'=true
def Zd (k:IntKind):MN Int:=⟨1,fun _ _ cs x=>cs=[.int k x],fun h=>by rw [h]; rfl,fun h _=>h,fun h v hv=>by rw [h] at hv; simp at hv; subst hv; rfl⟩
def Pt:MN Bool:=⟨1,fun _ _ cs x=>cs=[.bool x],fun h=>by rw [h]; rfl,fun h _=>h,fun h v hv=>by rw [h] at hv; simp at hv; subst hv; rfl⟩
abbrev Vs (l:List UInt8):Value:=.string ⟨⟨l⟩⟩
def Mv:MN (List UInt8):=⟨1,fun _ _ cs x=>cs=[Vs x],fun h=>by rw [h]; rfl,fun h _=>h,fun h v hv=>by rw [h] at hv; simp at hv; subst hv; rfl⟩
def MaL:MN Unit:=⟨0,fun _ _ cs _=>cs=[],fun h=>by rw [h]; rfl,fun h _=>h,fun h v hv=>by rw [h] at hv; cases hv⟩
def M3 {α β:Type} (e:MN α) (f:MN β):MN (α×β):=
  ⟨e.n+f.n,fun w M cs x=>∃ g j,cs=g++j∧e.R w M g x.1∧f.R w M j x.2,
    fun ⟨g,j,h,h1,q⟩=>by rw [h,List.length_append,e.len h1,f.len q],
    fun ⟨g,j,h,h1,q⟩ r=>⟨g,j,h,e.step h1 r,f.step q r⟩,
    fun ⟨g,j,h,h1,q⟩ v hv=>by rw [h] at hv; rcases List.mem_append.1 hv with hv | hv; exact e.one h1 v hv; exact f.one q v hv⟩
structure Ma {α:Type} (e:MN α) (w:World) (M:List Nat) (a:Option Addr) (c:Nat) (xs:List α):Prop where
  le:xs.length≤c
  cap:c≤maxLen
  nil:a=none→xs=[]
  at_:∀ ad,a=some ad→0<xs.length→ad.spot=none∧ad.block∉M∧ad.block<w.heap.size∧
    ∀ (i:Nat) (x:α),xs[i]? = some x→∃ cs,e.R w M cs x∧∀ (k:Nat) (v:Value),cs[k]? = some v→w.cell? ⟨ad.block,ad.off+(i*e.n+k),none⟩=some v
theorem Ma.step {α:Type}{e:MN α}{w w':World}{M M':List Nat}{a:Option Addr}{c:Nat}{xs:List α}(h:Ma e w M a c xs)(hs:Ro M w M' w'):Ma e w' M' a c xs:=by
  refine ⟨h.le,h.cap,h.nil,fun ad ha B=>?_⟩;obtain ⟨h1,g,j,q⟩:=h.at_ ad ha B;refine ⟨h1,fun A=>?_,hs.ev.lt j,fun i x D=>?_⟩
  · rcases hs.new _ A with h | h
    · exact g h
    · omega
  · obtain ⟨cs,r,u⟩:=q i x D;exact ⟨cs,e.step r hs,fun k v hv=>by rw [hs.ev.cell (a:=⟨ad.block,_,none⟩) j g]; exact u k v hv⟩
theorem Ma.empty {α:Type}(e:MN α)(w:World)(M:List Nat):Ma e w M none 0 []:=
  ⟨Nat.le_refl _,Nat.zero_le _,fun _=>rfl,fun ad h=>by cases h⟩
def Mi {α:Type} (e:MN α):MN (List α):=
  ⟨1,fun w M cs xs=>∃ a c,cs=[.slice a xs.length c]∧Ma e w M a c xs,fun ⟨a,c,h,_⟩=>by rw [h]; rfl,fun ⟨a,c,h,h1⟩ hs=>⟨a,c,h,h1.step hs⟩,
    fun ⟨a,c,h,_⟩ v hv=>by rw [h] at hv; simp at hv; subst hv; rfl⟩
def idx {α:Type} (xs:List α) (i:Int):Option α:=if 0≤i then xs[i.toNat]? else none
theorem R7 {α:Type}{xs:List α}{i:Int}{x:α}(h:idx xs i=some x):0≤i∧i<xs.length∧xs[i.toNat]? = some x:=by
  unfold idx at h
  split at h
  · rename_i g
    have:=(List.getElem?_eq_some_iff.1 h).1;exact ⟨g,by omega,h⟩
  · cases h
structure Ms (w:World) (M:List Nat) (ad:Addr) (cs:List Value):Prop where
  spot:ad.spot=none
  out:ad.block∉M
  lt:ad.block<w.heap.size
  at_:∀ (k:Nat) (v:Value),cs[k]? = some v→w.cell? ⟨ad.block,ad.off+k,none⟩=some v
theorem Ms.step {w w':World}{M M':List Nat}{ad:Addr}{cs:List Value}(h:Ms w M ad cs)(hs:Ro M w M' w'):Ms w' M' ad cs:=
  ⟨h.spot,fun g=>by rcases hs.new _ g with h1 | h1; exact h.out h1; exact absurd h.lt (by omega),hs.ev.lt h.lt,
    fun k v hv=>by rw [hs.ev.cell (a:=⟨ad.block,_,none⟩) h.lt h.out]; exact h.at_ k v hv⟩
def MT (P:Program) (t:TypeId):Prop:=∀ w,(isAgg t).run P w=.ok false w∧(sizeOf t).run P w=.ok 1 w
def TC (P:Program) (t:TypeId) (n:Nat):Prop:=∀ w,(isAgg t).run P w=.ok true w∧(sizeOf t).run P w=.ok n w
def MJ (P:Program) (t:TypeId) (e:TypeId) (n:Nat):Prop:=P.underlying t=some (.slice e)∧∀ w,(sizeOf e).run P w=.ok n w
theorem M8A {ad:Addr}(h:ad.spot=none):ad=⟨ad.block,ad.off,none⟩:=by cases ad; simp_all
theorem MM {ad:Addr}(h:ad.spot=none)(n:Nat):ad.add n=⟨ad.block,ad.off+n,none⟩:=by
  unfold Addr.add
  split
  · rename_i g; subst g; exact M8A h
  · rfl
theorem M7N {P:Program}{M:List Nat}{t e n:Nat}(g:MJ P t e n)(ty:TypeId)(a:Option Addr)(l c:Nat)(w:World):ME P M (Builtin.len_ #[t] ty [.slice a l c].toArray) w (.int .i64 l):=by
  intro w' _;simp only [Builtin.len_];show Sem.run P (underlying t >>= _) w'=_
  rw [run_bind,run_underlying g.1];rfl
theorem M1Z {P:Program}{Mo M:List Nat}{α:Type}{e:MN α}{t el:Nat}{w:World}{a:Option Addr}{c:Nat}{xs:List α}{i:Int}{x:α}(q:MJ P t el e.n)(hs:Ma e w M a c xs)(F:idx xs i=some x) :
    ∃ ad cs,ME P Mo (Instr.indexAt t (.slice a xs.length c) (.int .i64 i)) w (.pointer (some ad))∧Ms w M ad cs∧e.R w M cs x:=by
  obtain ⟨r,h1,j⟩:=R7 F;cases a with
  | none=>rw [hs.nil rfl] at j; simp at j
  | some ad=>
    obtain ⟨g,u,A,B⟩:=hs.at_ ad rfl (by omega);obtain ⟨cs,D,E⟩:=B _ _ j;refine ⟨ad.add (i.toNat*e.n),cs,fun w' _=>?_,⟨?_,?_,?_,fun k v hv=>?_⟩,D⟩
    · have G:=q.2 w';simp only [Instr.indexAt,asIntOf,Sem.run_bind,Sem.run_pure,Result.andThen_ok,run_underlying q.1,r,h1,and_self,if_true,G]
    · rw [MM g]
    · rw [MM g]; exact u
    · rw [MM g]; exact A
    · rw [MM g];show w.cell? ⟨ad.block,ad.off+i.toNat*e.n+k,none⟩=some v
      rw [Nat.add_assoc]; exact E k v hv
theorem Mw {P:Program}{Mo M:List Nat}{t:TypeId}{w:World}{ad:Addr}{cs:List Value}(r:MT P t)(h:Ms w M ad cs)(q:∀ b∈Mo,b∈M)(k:Nat)(v:Value)(hv:cs[k]? = some v) :
    ME P Mo (Instr.loadAt t (.pointer (some (ad.add k)))) w v:=by
  intro w' j;simp only [Instr.loadAt,Instr.sureAddr];show (loadVar t (ad.add k)).run P w'=_
  unfold loadVar;rw [run_bind,(r w').1];show (load (ad.add k)).run P w'=_
  have h1:=h.at_ k v hv;rw [← j.cell (a:=⟨ad.block,ad.off+k,none⟩) h.lt (fun g=>h.out (q _ g))] at h1;rw [MM h.spot];simp only [load,Sem.run,h1]
theorem M20 {P:Program}{Mo M:List Nat}{t:TypeId}{w:World}{ad:Addr}{v:Value}{cs:List Value}(j:MT P t)(h:Ms w M ad (v::cs))(g:∀ b∈Mo,b∈M) :
    ME P Mo (Instr.loadAt t (.pointer (some ad))) w v:=by
  have:=Mw j h g 0 v rfl
  rwa [Addr.add,if_pos rfl] at this
theorem R8 {P:Program}{Mo M:List Nat}{t:TypeId}{w:World}{ad:Addr}{cs:List Value}(g:TC P t cs.length)(h:Ms w M ad cs)(A:∀ b∈Mo,b∈M) :
    ME P Mo (Instr.loadAt t (.pointer (some ad))) w (.agg cs.toArray):=by
  intro w' r;simp only [Instr.loadAt,Instr.sureAddr];show (loadVar t ad).run P w'=_
  unfold loadVar;rw [run_bind,(g w').1];show ((do pure (.agg (← loadCells ad (← sizeOf t))):Sem Value)).run P w'=_
  rw [run_bind,(g w').2];simp only;have u:(loadCells ad cs.length).run P w'=.ok cs.toArray w':=run_loadCells_list (P:=P) w' ad cs (fun j v hv=>by
    rw [MM h.spot,r.cell (a:=⟨ad.block,ad.off+j,none⟩) h.lt (fun q=>h.out (A _ q))];exact h.at_ j v hv)
  rw [run_bind,u];rfl
def Mg (P:Program) (s:TypeId) (f:Nat) (off:Nat):Prop:=∀ (ad:Addr) (w:World),(Instr.fieldAt s (.pointer (some ad)) f).run P w=.ok (.pointer (some (ad.add off))) w
theorem M21 {P:Program}{s f off:Nat}(h:Mg P s f off)(ad:Addr):Alw P (Instr.fieldAt s (.pointer (some ad)) f) (.pointer (some (ad.add off))):=
  fun w'=>h ad w'
theorem M1x {P:Program}{Mo:List Nat}{t:TypeId}{p:Addr}{w:World}{v:Value}(h:ME P Mo (Instr.loadAt t (.pointer (some p))) w v):(loadVar t p).run P w=.ok v w:=by
  have h1:=h w (Ev.refl _ _);simp only [Instr.loadAt,Instr.sureAddr] at h1;exact h1
theorem PG {w:World}{b:Nat}{cs:Array Value}{t:TypeId}{fz:Nat×Nat}(h:w.heap[b]? = some (.cells cs t fz))(k:Nat):w.cell? ⟨b,k,none⟩=cs[k]?:=by
  simp [World.cell?,h]
theorem M3S {P:Program}{Mo:List Nat}{t T:TypeId}{w:World}{b:Nat}{cs:Array Value}{fz:Nat×Nat}(q:MT P t)(h:w.heap[b]? = some (.cells cs T fz))(j:b∉Mo)(k:Nat)(v:Value)(hv:cs[k]? = some v) :
    ME P Mo (Instr.loadAt t (.pointer (some ⟨b,k,none⟩))) w v:=by
  intro w' g;simp only [Instr.loadAt,Instr.sureAddr];show (loadVar t ⟨b,k,none⟩).run P w'=_
  unfold loadVar;rw [run_bind,(q w').1];show (load ⟨b,k,none⟩).run P w'=_
  have h1:w'.cell? ⟨b,k,none⟩=some v:=by rw [PG (g.box h j)]; exact hv
  simp only [load,Sem.run,h1]
theorem M4n {P:Program}{Mo:List Nat}{t T:TypeId}{w:World}{b:Nat}{cs:Array Value}{fz:Nat×Nat}(k:Nat)(vs:List Value)(r:TC P t vs.length)(h:w.heap[b]? = some (.cells cs T fz))(q:b∉Mo)(hv:(cs.toList.drop k).take vs.length=vs) :
    ME P Mo (Instr.loadAt t (.pointer (some ⟨b,k,none⟩))) w (.agg vs.toArray):=by
  refine R8 (M:=Mo) (cs:=vs) r ⟨rfl,q,MA h,fun j v g=>?_⟩ (fun _ h=>h);rw [PG h];rw [← hv,List.getElem?_take] at g
  split at g
  · rw [List.getElem?_drop] at g; simpa using g
  · cases g
theorem Ev.setRow {w:World}(b:Nat)(cs:Array Value):Ev [b] w (w.setRow b cs):=by
  refine ⟨rfl,rfl,rfl,?_,fun k j g=>setRow_other w b k cs (by simpa using g)⟩;simp [World.setRow]
theorem M1y {P:Program}{t T:TypeId}{w:World}{b:Nat}{cs:Array Value}(k:Nat)(v:Value)(cs':Array Value)(r:MT P t)(h:w.heap[b]? = some (.cells cs T (0,0)))(g:Nat.blt k cs.size=true)(h1:v.oneCell'=true)
    (q:cs.setIfInBounds k v=cs') :
    ∃ w',(Instr.storeAt t (.pointer (some ⟨b,k,none⟩)) v).run P w=.ok () w'∧w'.heap[b]? = some (.cells cs' T (0,0))∧Ev [b] w w':=by
  have g:=Nat.le_of_ble_eq_true g;refine ⟨w.setRow b cs',?_,setRow_heap w b cs cs' T (0,0) h,Ev.setRow b cs'⟩;have j:v.cells = #[v]:=by cases v <;> first | rfl | cases h1
  simp only [Instr.storeAt,Instr.sureAddr];show (storeVar t ⟨b,k,none⟩ v).run P w=_
  unfold storeVar;rw [run_bind,(r w).2];simp only [j];rw [if_neg (by simp)];have:=run_storeCells_at P b k T [v] 0 cs w h (by simp only [List.length_cons,List.length_nil]; omega) (by simpa using h1);show (storeCells ⟨b,k,none⟩ [v] 0).run P w=_
  rw [this]
  congr 2
  rw [← q];apply Array.ext';simp only [Nat.add_zero,List.length_cons,List.length_nil,Nat.zero_add,Array.toList_setIfInBounds];rw [List.set_eq_take_append_cons_drop,if_pos (by rw [Array.length_toList]; omega)];simp
theorem M0M {P:Program}{t T:TypeId}{w:World}{b:Nat}{cs:Array Value}(k:Nat)(vs:List Value)(cs':Array Value)(r:TC P t vs.length)(h:w.heap[b]? = some (.cells cs T (0,0)))(g:Nat.ble (k+vs.length) cs.size=true)(h1:vs.all (fun v=>v.oneCell')=true)
    (q:(cs.toList.take k++vs++cs.toList.drop (k+vs.length)).toArray=cs') :
    ∃ w',(Instr.storeAt t (.pointer (some ⟨b,k,none⟩)) (.agg vs.toArray)).run P w=.ok () w'∧w'.heap[b]? = some (.cells cs' T (0,0))∧Ev [b] w w':=by
  have g:=Nat.le_of_ble_eq_true g;refine ⟨w.setRow b cs',?_,setRow_heap w b cs cs' T (0,0) h,Ev.setRow b cs'⟩;simp only [Instr.storeAt,Instr.sureAddr];show (storeVar t ⟨b,k,none⟩ (.agg vs.toArray)).run P w=_
  unfold storeVar;rw [run_bind,(r w).2];have j:(Value.agg vs.toArray).cells=vs.toArray:=rfl;rw [j];simp only [];rw [if_neg (by simp)];have:=run_storeCells_at P b k T vs 0 cs w h (by simpa using g) (by simpa using h1);show (storeCells ⟨b,k,none⟩ vs 0).run P w=_
  rw [this];simp only [Nat.add_zero];rw [q]
theorem VP {i j:Nat}(h:i≠j):Nat.beq i j=false:=by
  cases g:Nat.beq i j with
  | false=>rfl
  | true=>exact absurd (Nat.eq_of_beq_eq_true g) h
def fl:List (List Nat)→List Nat
  | []=>[]
  | [l]=>l
  | l::l'::ls=>l++fl (l'::ls)
theorem Mx:∀ (ls:List (List Nat)) (x:Nat),x∈fl ls↔∃ l∈ls,x∈l
  | [],x=>by simp [fl]
  | [l],x=>by simp [fl]
  | l::l'::ls,x=>by
    rw [fl,List.mem_append,Mx (l'::ls) x];simp
structure MS (w:World) (ls:List (List Nat)):Prop where
  pd:ls.Pairwise fun a b=>∀ x∈a,x∉b
  lt:∀ l∈ls,∀ b∈l,b<w.heap.size
theorem MS.lt' {w:World}{ls:List (List Nat)}(h:MS w ls){b:Nat}(g:b∈fl ls):b<w.heap.size:=by
  obtain ⟨l,q,j⟩:=(Mx _ _).1 g;exact h.lt l q b j
theorem MS.ev {w w':World}{ls:List (List Nat)}{M:List Nat}(h:MS w ls)(j:Ev M w w'):MS w' ls:=⟨h.pd,fun l q b g=>j.lt (h.lt l q b g)⟩
theorem MS.apart {w:World}{ls:List (List Nat)}(h:MS w ls)(i j:Nat){A B:List Nat}(r:ls[i]? = some A)(D:ls[j]? = some B)(u:Nat.beq i j=false):∀ x∈A,x∉B:=by
  have G:i≠j:=fun e=>by subst e; simp at u
  have E:=(List.getElem?_eq_some_iff.1 r)
  have F:=(List.getElem?_eq_some_iff.1 D)
  obtain ⟨h1,rfl⟩:=E;obtain ⟨g,rfl⟩:=F;have q:=List.pairwise_iff_getElem.1 h.pd;rcases Nat.lt_or_gt_of_ne G with h3 | h3
  · exact q i j h1 g h3
  · exact fun x H I=>q j i g h1 h3 x I H
theorem MS.push {w w':World}{ls:List (List Nat)}(h:MS w ls){M l:List Nat}(u:Ev M w w')(r:∀ b∈l,w.heap.size≤b∧b<w'.heap.size):MS w' (l::ls):=by
  refine ⟨List.pairwise_cons.2 ⟨fun j g x A B=>?_,h.pd⟩,fun j g b q=>?_⟩
  · have:=h.lt j g x B;have:=(r x A).1;omega
  · cases g with
    | head=>exact (r b q).2
    | tail _ g=>exact u.lt (h.lt j g b q)
theorem MS.box {w w':World}{ls:List (List Nat)}(h:MS w ls){M:List Nat}{b:Nat}{o:Obj}(j:Ev M w w')(r:b=w.heap.size)(q:w'.heap[b]? = some o):MS w' ([b]::ls):=
  h.push j fun x g=>by
    simp only [List.mem_singleton] at g;subst g;exact ⟨by omega,MA q⟩
theorem MS.upd {w w':World}{ls:List (List Nat)}(h:MS w ls){M A B:List Nat}(i:Nat)(I:Ev M w w')(J:ls[i]? = some A)(E:∀ b∈B,(b∈A∨w.heap.size≤b)∧b<w'.heap.size):MS w' (ls.set i B):=by
  have O:=List.getElem?_eq_some_iff.1 J;obtain ⟨Y,H⟩:=O;refine ⟨List.pairwise_iff_getElem.2 fun j k q u D=>?_,fun l' Z b G=>?_⟩
  · have F:=List.pairwise_iff_getElem.1 h.pd;simp only [List.length_set] at q u;simp only [List.getElem_set];intro x r g
    split at r
    · rename_i U
      subst U;rw [if_neg (by omega)] at g;rcases (E x r).1 with h1 | h1
      · rw [← H] at h1; exact F i k q u D x h1 g
      · have:=h.lt _ (List.getElem_mem u) x g; omega
    · split at g
      · rename_i X
        subst X;rcases (E x g).1 with h1 | h1
        · rw [← H] at h1; exact F j i q Y D x r h1
        · have:=h.lt _ (List.getElem_mem q) x r; omega
      · exact F j k q u D x r g
  · rcases List.mem_or_eq_of_mem_set Z with h1 | h1
    · exact I.lt (h.lt l' h1 b G)
    · subst h1; exact (E b G).2
theorem MS.join {w w':World}{ls res q:List (List Nat)}{M:List Nat}(h:MS w ls)(r:Ev M w w')(j:MS w' (res++q))(fr:∀ l∈res,∀ b∈l,w.heap.size≤b):MS w' (res++ls):=by
  refine ⟨List.pairwise_append.2 ⟨(List.pairwise_append.1 j.pd).1,h.pd,fun a ha b g x u A=>?_⟩,fun l hl b g=>?_⟩
  · have:=fr a ha x u;have:=h.lt b g x A;omega
  · rcases List.mem_append.1 hl with hl | hl
    · exact j.lt l (List.mem_append_left _ hl) b g
    · exact r.lt (h.lt l hl b g)
theorem MS.all {w:World}{ls:List (List Nat)}(h:MS w ls):MS w [fl ls]:=
  ⟨List.pairwise_cons.2 ⟨fun _ h=>(by cases h),List.Pairwise.nil⟩,fun l g b j=>by
    simp only [List.mem_singleton] at g;subst g; exact h.lt' j⟩
theorem MS.focus {w:World}{ls:List (List Nat)}(h:MS w ls)(i:Nat){A:List Nat}(u:ls[i]? = some A):MS w [A,fl (ls.eraseIdx i)]:=by
  refine ⟨List.pairwise_cons.2 ⟨fun l g x F G=>?_,List.pairwise_cons.2 ⟨fun _ h=>(by cases h),List.Pairwise.nil⟩⟩,fun l g b r=>?_⟩
  · simp only [List.mem_singleton] at g;subst g;obtain ⟨l,g,H⟩:=(Mx _ _).1 G;obtain ⟨j,q⟩:=List.getElem?_of_mem g;obtain ⟨k,D,E⟩:∃ k,ls[k]? = some l∧Nat.beq i k=false:=by
      rw [List.getElem?_eraseIdx] at q
      split at q
      · exact ⟨j,q,VP (by omega)⟩
      · exact ⟨j+1,q,VP (by omega)⟩
    exact h.apart i k u D E x F H
  · simp only [List.mem_cons,List.not_mem_nil,or_false] at g;rcases g with rfl | rfl
    · exact h.lt _ (List.mem_of_getElem? u) b r
    · obtain ⟨l,g,B⟩:=(Mx _ _).1 r;exact h.lt l (List.mem_of_mem_eraseIdx g) b B
theorem Ro.ev' {w w':World}{ls:List (List Nat)}{M:List Nat}(g:Ev M w w')(hs:∀ b∈M,b∈fl ls):Ro (fl ls) w (fl ls) w':=Ro.same g hs
theorem Ro.ext {w w':World}{ls:List (List Nat)}(g:Ev [] w w'):Ro (fl ls) w (fl ls) w':=Ro.same g (fun _ h=>by cases h)
theorem Ro.push {w w':World}{ls:List (List Nat)}{M l:List Nat}(r:Ev M w w')(hs:∀ b∈M,b∈fl ls)(u:∀ b∈l,w.heap.size≤b):Ro (fl ls) w (fl (l::ls)) w':=
  ⟨r.sub hs,fun b q=>by
    obtain ⟨A,g,j⟩:=(Mx _ _).1 q;cases g with
    | head=>exact .inr (u b j)
    | tail _ g=>exact .inl ((Mx _ _).2 ⟨A,g,j⟩)⟩
theorem Ro.box {w w':World}{ls:List (List Nat)}{b:Nat}(g:Ev [] w w')(q:b=w.heap.size):Ro (fl ls) w (fl ([b]::ls)) w':=
  Ro.push g (fun _ h=>by cases h) (fun x j=>by simp only [List.mem_singleton] at j; omega)
theorem Ro.join {w w':World}{ls res:List (List Nat)}{M:List Nat}(r:Ev M w w')(hs:∀ b∈M,b∈fl ls)(fr:∀ l∈res,∀ b∈l,w.heap.size≤b):Ro (fl ls) w (fl (res++ls)) w':=
  ⟨r.sub hs,fun b q=>by
    obtain ⟨j,hl',g⟩:=(Mx _ _).1 q;rcases List.mem_append.1 hl' with hl' | hl'
    · exact .inr (fr j hl' b g)
    · exact .inl ((Mx _ _).2 ⟨j,hl',g⟩)⟩
theorem Ro.upd {w w':World}{ls:List (List Nat)}{A B:List Nat}(i:Nat)(r:Ev A w w')(q:ls[i]? = some A)(D:∀ b∈B,b∈A∨w.heap.size≤b):Ro (fl ls) w (fl (ls.set i B)) w':=
  ⟨r.sub fun b g=>(Mx _ _).2 ⟨A,List.mem_of_getElem? q,g⟩,fun b g=>by
    obtain ⟨l,u,j⟩:=(Mx _ _).1 g;rcases List.mem_or_eq_of_mem_set u with h1 | h1
    · exact .inl ((Mx _ _).2 ⟨l,h1,j⟩)
    · subst h1;rcases D b j with h2 | h2
      · exact .inl ((Mx _ _).2 ⟨A,List.mem_of_getElem? q,h2⟩)
      · exact .inr h2⟩
theorem M5d {ls:List (List Nat)}(i:Nat){A:List Nat}(j:ls[i]? = some A):∀ b∈A,b∈fl ls:=fun b g=>(Mx _ _).2 ⟨A,List.mem_of_getElem? j,g⟩
def FR (B:Nat) (ls:List (List Nat)):Prop:=∀ l∈ls,∀ b∈l,B≤b
theorem FR.nil (B:Nat):FR B []:=fun _ h=>by cases h
theorem FR.push {B:Nat}{ls:List (List Nat)}{l:List Nat}(h:FR B ls)(q:∀ b∈l,B≤b):FR B (l::ls):=fun r g b j=>by
  cases g with
  | head=>exact q b j
  | tail _ g=>exact h r g b j
theorem FR.box {B:Nat}{ls:List (List Nat)}{b:Nat}{w:World}(h:FR B ls)(j:B≤w.heap.size)(q:b=w.heap.size):FR B ([b]::ls):=h.push fun x g=>by simp only [List.mem_singleton] at g; omega
theorem FR.upd {B C:Nat}{ls:List (List Nat)}{A l:List Nat}(h:FR B ls)(i:Nat)(j:ls[i]? = some A)(D:B≤C)(r:∀ b∈l,b∈A∨C≤b):FR B (ls.set i l):=fun u q b g=>by
  rcases List.mem_or_eq_of_mem_set q with h1 | h1
  · exact h u h1 b g
  · subst h1;rcases r b g with h2 | h2
    · exact h A (List.mem_of_getElem? j) b h2
    · omega
theorem FR.join {B C:Nat}{ls res:List (List Nat)}(h:FR B ls)(j:FR C res)(q:B≤C):FR B (res++ls):=fun l hl b g=>by
  rcases List.mem_append.1 hl with hl | hl
  · exact Nat.le_trans q (j l hl b g)
  · exact h l hl b g
theorem FR.at {B:Nat}{ls:List (List Nat)}(h:FR B ls)(i:Nat){A:List Nat}(g:ls[i]? = some A):∀ b∈A,B≤b:=h A (List.mem_of_getElem? g)
theorem Ev.then {M Mo:List Nat}{w v u:World}(h:Ev M w v)(k:Ev Mo v u)(q:∀ b∈Mo,b∈M∨w.heap.size≤b):Ev M w u:=
  ⟨k.os.trans h.os,k.tape.trans h.tape,k.output.trans h.output,Nat.le_trans h.size k.size,fun i g j=>
    (k.block i (Nat.lt_of_lt_of_le g h.size) (fun r=>by rcases q i r with h3 | h3; exact j h3; omega)).trans (h.block i g j)⟩
theorem Ev.ext {M:List Nat}{w v u:World}(h:Ev M w v)(k:Ev [] v u):Ev M w u:=h.then k (fun _ h=>by cases h)
theorem Ma.sub {α:Type}{e:MN α}{w:World}{M M':List Nat}{a:Option Addr}{c:Nat}{xs:List α}(h:Ma e w M a c xs)(hs:∀ b∈M',b∈M):Ma e w M' a c xs:=h.step (Ro.sub w hs)
theorem Ms.sub {w:World}{M M':List Nat}{ad:Addr}{cs:List Value}(h:Ms w M ad cs)(hs:∀ b∈M',b∈M):Ms w M' ad cs:=h.step (Ro.sub w hs)
theorem XY {α:Type}{e:MN α}{T:TypeId}{w w':World}{ls:List (List Nat)}{b n:Nat}{cs:Array Value}{xs:List α}(u:MS w ls)(B:b=w.heap.size)(h:w'.heap[b]? = some (.cells cs T (0,0)))(g:Nat.ble n 4294967296=true)(j:xs.length=n)
    (A:∀ (i:Nat) (x:α),xs[i]? = some x→∃ c,e.R w' (fl ls) c x∧∀ (k:Nat) (v:Value),c[k]? = some v→cs[i*e.n+k]? = some v):Ma e w' (fl ls) (some ⟨b,0,none⟩) n xs:=by
  have g:=Nat.le_of_ble_eq_true g;refine ⟨by omega,by unfold maxLen; omega,fun h=>(by cases h),fun ad ha _=>?_⟩;cases ha;refine ⟨rfl,fun r=>?_,MA h,fun i x j=>?_⟩
  · have:=u.lt' r;simp only at this;omega
  · obtain ⟨c,h1,q⟩:=A i x j;refine ⟨c,h1,fun k v hv=>?_⟩;simp only [Nat.zero_add];rw [PG h]; exact q k v hv
def ML (a:Option Addr):List Nat:=match a with | some ad=>[ad.block] | none=>[]
def M9 {α:Type} (e:MN α) (T:TypeId) (w:World) (M:List Nat) (a:Option Addr) (c:Nat) (xs:List α):Prop:=
  (a=none∧c=0∧xs=[])∨
  ∃ g cur,a=some ⟨g,0,none⟩∧w.heap[g]? = some (.cells cur T (0,0))∧xs.length≤c∧c≤maxLen∧cur.size=c*e.n∧
    ∀ (i:Nat) (x:α),xs[i]? = some x→∃ cs,e.R w M cs x∧∀ (k:Nat) (v:Value),cs[k]? = some v→cur[i*e.n+k]? = some v
theorem M9.nil {α:Type}(e:MN α)(T:TypeId)(w:World)(M:List Nat):M9 e T w M none 0 []:=.inl ⟨rfl,rfl,rfl⟩
theorem M9.lt {α:Type}{e:MN α}{T:TypeId}{w:World}{M:List Nat}{a:Option Addr}{c:Nat}{xs:List α}(h:M9 e T w M a c xs):∀ b∈ML a,b<w.heap.size:=by
  rcases h with ⟨rfl,_,_⟩ | ⟨g,cur,rfl,q,_⟩
  · intro b j; cases j
  · intro b j;simp only [ML,List.mem_singleton] at j;subst j; exact MA q
theorem M9.step {α:Type}{e:MN α}{T:TypeId}{w w':World}{M M' Mo:List Nat}{a:Option Addr}{c:Nat}{xs:List α}(h:M9 e T w M a c xs)(hs:Ro M w M' w')(B:Ev Mo w w')(E:∀ b∈ML a,b∉Mo):M9 e T w' M' a c xs:=by
  rcases h with h | ⟨g,cur,rfl,D,h1,j,q,r⟩
  · exact .inl h
  · refine .inr ⟨g,cur,rfl,B.box D (E g (by simp [ML])),h1,j,q,fun i x F=>?_⟩;obtain ⟨cs,u,A⟩:=r i x F;exact ⟨cs,e.step u hs,A⟩
theorem M9.ro {α:Type}{e:MN α}{T:TypeId}{w:World}{M M':List Nat}{a:Option Addr}{c:Nat}{xs:List α}(h:M9 e T w M a c xs)(B:∀ b∈M',b∈M)(D:∀ b∈ML a,b∉M'):Ma e w M' a c xs:=by
  rcases h with ⟨rfl,rfl,rfl⟩ | ⟨g,cur,rfl,j,h1,q,F,r⟩
  · exact Ma.empty e w M'
  · refine ⟨h1,q,fun h=>(by cases h),fun ad ha _=>?_⟩;cases ha;refine ⟨rfl,D g (by simp [ML]),MA j,fun i x E=>?_⟩;obtain ⟨cs,u,A⟩:=r i x E;refine ⟨cs,e.step u (Ro.sub w B),fun k v hv=>?_⟩;simp only [Nat.zero_add];rw [PG j]; exact A k v hv
theorem M2O {α:Type}{e:MN α}{T:TypeId}{w:World}{M:List Nat}{b n:Nat}{cs:Array Value}{xs:List α}(h:w.heap[b]? = some (.cells cs T (0,0)))(g:n≤maxLen)(q:xs.length=n)(hs:cs.size=n*e.n)
    (j:∀ (i:Nat) (x:α),xs[i]? = some x→∃ c,e.R w M c x∧∀ (k:Nat) (v:Value),c[k]? = some v→cs[i*e.n+k]? = some v):M9 e T w M (some ⟨b,0,none⟩) n xs:=
  .inr ⟨b,cs,rfl,h,by omega,g,hs,j⟩
theorem M9.sub {α:Type}{e:MN α}{T:TypeId}{w:World}{M M':List Nat}{a:Option Addr}{c:Nat}{xs:List α}(h:M9 e T w M a c xs)(hs:∀ b∈M',b∈M):M9 e T w M' a c xs:=
  h.step (Ro.sub w hs) (Ev.refl [] w) (fun _ _ h=>by cases h)
structure Pa (P:Program) (t T n bytes:Nat) (z:Value):Prop where
  und:P.underlying t=some (.slice T)
  info:∃ i,P.info? T=some i∧i.zero=some z∧i.size=n∧i.bytes=bytes
  zs:z.cells.size=n
  pos:Nat.blt 0 n=true
  small:Nat.ble bytes 4096=true
theorem Pa.slice {P:Program}{t T n bytes:Nat}{z:Value}(h:Pa P t T n bytes z):MJ P t T n:=by
  obtain ⟨i,g,_,j,_⟩:=h.info;refine ⟨h.und,fun w=>?_⟩;simp [sizeOf,typeInfo,g,j]
theorem M8B {w w':World}{a:Option Addr}{n c:Nat}(h:w.grownBy w' (Value.ownBlock (.slice a n c))):Ev (ML a) w w':=
  ⟨h.os,h.tape,h.output,h.size,fun k g j=>h.block k g fun e=>by
    cases a with
    | none=>cases e
    | some ad=>simp only [Value.ownBlock,Option.some.injEq] at e; subst e; exact j (by simp [ML])⟩
theorem Ma.cells {α:Type}{e:MN α}{w:World}{M:List Nat}{ad:Addr}{c:Nat}{ys:List α}(h:Ma e w M (some ad) c ys)(I:0<e.n)(O:0<ys.length) :
    ∃ B:List Value,B.length=ys.length*e.n∧(∀ j u,B[j]? = some u→w.cell? (ad.add j)=some u)∧(∀ u∈B,u.oneCell'=true)∧
      ∀ (i:Nat) (y:α),ys[i]? = some y→∃ cs,e.R w M cs y∧∀ (k:Nat) (v:Value),cs[k]? = some v→B[i*e.n+k]? = some v:=by
  obtain ⟨h1,X,Y,G⟩:=h.at_ ad rfl O;have cell:∀ j,j<ys.length*e.n→∃ u,w.cell? (ad.add j)=some u∧u.oneCell'=true:=by
    intro j g;have E:j / e.n<ys.length:=Nat.div_lt_of_lt_mul (by rw [Nat.mul_comm]; exact g);obtain ⟨cs,r,D⟩:=G (j / e.n) _ (List.getElem?_eq_getElem E);have F:j%e.n<cs.length:=by rw [e.len r]; exact Nat.mod_lt _ I
    refine ⟨cs[j%e.n],?_,e.one r _ (List.getElem_mem F)⟩;rw [MM h1];have:=D _ _ (List.getElem?_eq_getElem F)
    rwa [Nat.mul_comm,Nat.div_add_mod] at this
  refine ⟨(List.range (ys.length*e.n)).map fun j=>(w.cell? (ad.add j)).getD undef,by simp,fun j u q=>?_,fun u q=>?_,fun i y H=>?_⟩
  · rw [List.getElem?_map] at q
    by_cases g:j<ys.length*e.n
    · obtain ⟨U,A,_⟩:=cell j g;rw [List.getElem?_range g] at q;simp only [Option.map_some,A,Option.getD_some,Option.some.injEq] at q;rw [A,q]
    · rw [List.getElem?_eq_none (by simpa using g)] at q; cases q
  · obtain ⟨j,g,rfl⟩:=List.mem_map.1 q;obtain ⟨U,A,J⟩:=cell j (List.mem_range.1 g);rw [A]; exact J
  · obtain ⟨cs,r,D⟩:=G i y H;refine ⟨cs,r,fun k v hv=>?_⟩;have E:i<ys.length:=(List.getElem?_eq_some_iff.1 H).1;have F:k<e.n:=by rw [← e.len r]; exact (List.getElem?_eq_some_iff.1 hv).1
    have g:i*e.n+k<ys.length*e.n:=by
      have:(i+1)*e.n≤ys.length*e.n:=Nat.mul_le_mul_right _ E;rw [Nat.add_mul] at this; omega
    rw [List.getElem?_map,List.getElem?_range g];simp only [Option.map_some];rw [MM h1,D k v hv]; rfl
theorem Xs {P:Program}{α:Type}{e:MN α}{t T bytes:Nat}{z:Value}(B:Pa P t T e.n bytes z)(ty:TypeId){w:World}{M M2:List Nat}{a b:Option Addr}{c d:Nat}{xs ys:List α}
    (h:M9 e T w M a c xs) (aE:∀ x∈ML a,x∈M) (hy:Ma e w M2 b d ys) (hR:∀ cs y,e.R w M2 cs y→e.R w M cs y) (hl:xs.length+ys.length≤4294967296) :
    ∃ a' U w',(Builtin.append_ #[t,t] ty [.slice a xs.length c,.slice b ys.length d].toArray).run P w=.ok (.slice a' (xs++ys).length U) w'∧Ev (ML a) w w'∧
      (∀ x∈ML a',(x∈ML a∨w.heap.size≤x)∧x<w'.heap.size)∧(∀ x∈ML a',x∈ML a∨x=w.heap.size)∧(∀ M',(∀ x∈M',x∈M∨w.heap.size≤x)→M9 e T w' M' a' U (xs++ys)):=by
  obtain ⟨i,Y,hz,hn,aj⟩:=B.info;have aa:0<e.n:=Nat.le_of_ble_eq_true B.pos;have aD:bytes≤4096:=Nat.le_of_ble_eq_true B.small;have ar:xs.length≤c:=by
    rcases h with ⟨_,_,rfl⟩ | ⟨g,cur,_,_,h1,_⟩
    · simp
    · exact h1
  by_cases O:ys=[]
  · subst O;refine ⟨a,c,w,?_,Ev.refl _ _,fun x q=>⟨.inl q,h.lt x q⟩,fun x q=>.inl q,fun M' H=>?_⟩
    · cases a <;> cases b <;> simp [Builtin.append_,run_underlying B.und,sizeOf,typeInfo,Y,Builtin.lenOf,Builtin.firstCells,ar,storeCells,loadCells,loadCellsFrom]
    · rw [List.append_nil];rcases h with h | ⟨g,cur,rfl,I,h1,D,A,E⟩
      · exact .inl h
      · refine .inr ⟨g,cur,rfl,I,h1,D,A,fun i x q=>?_⟩;obtain ⟨cs,r,u⟩:=E i x q;exact ⟨cs,e.step r ⟨Ev.refl _ _,H⟩,u⟩
  · have ae:0<ys.length:=List.length_pos_iff.2 O;cases b with
    | none=>exact absurd (hy.nil rfl) O
    | some ad=>
      obtain ⟨af,ay,ax,aw,az⟩:=hy.cells aa ae;have aC:∃ F,w.ownsRow 0 T e.n (.slice a xs.length c) xs.length F∧∀ (i:Nat) (x:α),xs[i]? = some x→∃ cs,e.R w M cs x∧∀ (k:Nat) (v:Value),cs[k]? = some v→F[i*e.n+k]? = some v:=by
        rcases h with ⟨rfl,rfl,rfl⟩ | ⟨g,cur,rfl,I,h1,D,A,E⟩
        · exact ⟨[],World.ownsRow_nil w 0 T e.n,fun i x q=>by simp at q⟩
        · have aK:xs.length*e.n≤cur.size:=by rw [A]; exact Nat.mul_le_mul_right _ h1
          refine ⟨cur.toList.take (xs.length*e.n),⟨by simp; omega,.inr ⟨g,c,cur,rfl,Nat.zero_le _,I,h1,D,A,rfl⟩⟩,fun i x q=>?_⟩;obtain ⟨cs,r,u⟩:=E i x q;refine ⟨cs,r,fun k v hv=>?_⟩;have J:i<xs.length:=(List.getElem?_eq_some_iff.1 q).1;have hk:k<e.n:=by rw [← e.len r]; exact (List.getElem?_eq_some_iff.1 hv).1
          have hj:i*e.n+k<xs.length*e.n:=by
            have:(i+1)*e.n≤xs.length*e.n:=Nat.mul_le_mul_right _ J;rw [Nat.add_mul] at this; omega
          rw [List.getElem?_take,if_pos hj]
          simpa using u k v hv
      obtain ⟨F,Z,aG⟩:=aC;have ak:(xs.length+ys.length)*bytes≤140737488355328:=by
        have:=Nat.mul_le_mul hl aD;omega
      obtain ⟨g,cap,w',hr,aA,ao,hat,au⟩:=run_append_lies (P:=P) w t ty 0 T i z e.n bytes B.und Y hz hn aj B.zs aa _ _ _ Z ad ys.length d af ay ax aw ae (by unfold maxLen; omega) ak (Nat.zero_le _) _ rfl;have X:=M8B ao;refine ⟨some ⟨g,0,none⟩,cap,w',by rw [List.length_append]; exact hr,X,fun x q=>?_,fun x q=>?_,fun M' H=>?_⟩
      · simp only [ML,List.mem_singleton] at q;subst q;refine ⟨?_,au⟩;rcases hat with hat | hat
        · left;cases a with
          | none=>cases hat
          | some ag=>simp only [Value.ownBlock,Option.some.injEq] at hat; simp [ML,hat]
        · right; omega
      · simp only [ML,List.mem_singleton] at q;subst q;rcases hat with hat | hat
        · left;cases a with
          | none=>cases hat
          | some ag=>simp only [Value.ownBlock,Option.some.injEq] at hat; simp [ML,hat]
        · exact .inr hat
      · have ab:Ro M w M' w':=⟨X.sub aE,H⟩
        rcases aA.2 with ⟨h0,_⟩ | ⟨g',aI,cur,am,_,an,h1,D,A,E⟩
        · cases h0
        · cases am;refine .inr ⟨g,cur,rfl,an,by rw [List.length_append]; exact h1,D,A,fun i x q=>?_⟩;have aF:F.length=xs.length*e.n:=Z.1;have fin:∀ (j:Nat) (v:Value),(F++af)[j]? = some v→cur[j]? = some v:=by
            intro j v hv;rw [← E,List.getElem?_take] at hv
            split at hv
            · simpa using hv
            · cases hv
          by_cases J:i<xs.length
          · rw [List.getElem?_append_left J] at q;obtain ⟨cs,r,u⟩:=aG i x q;refine ⟨cs,e.step r ab,fun k v hv=>fin _ _ ?_⟩;have G:=u k v hv;rw [List.getElem?_append_left (List.getElem?_eq_some_iff.1 G).1]; exact G
          · rw [List.getElem?_append_right (by omega)] at q;obtain ⟨cs,r,u⟩:=az _ x q;refine ⟨cs,e.step (hR _ _ r) ab,fun k v hv=>fin _ _ ?_⟩;have G:=u k v hv;have aN:xs.length*e.n≤i*e.n:=Nat.mul_le_mul_right _ (by omega);rw [List.getElem?_append_right (by omega),aF];rw [show i*e.n+k-xs.length*e.n=(i-xs.length)*e.n+k by rw [Nat.sub_mul]; omega];exact G
theorem Mb {P:Program}{α:Type}{e:MN α}{t T bytes:Nat}{z:Value}(r:Pa P t T e.n bytes z)(ty:TypeId){w:World}{M:List Nat}{a b:Option Addr}{c d:Nat}{xs ys:List α}
    (h:M9 e T w M a c xs) (q:∀ x∈ML a,x∈M) (u:Ma e w M b d ys) (j:xs.length+ys.length≤4294967296) :
    ∃ a' g w',(Builtin.append_ #[t,t] ty [.slice a xs.length c,.slice b ys.length d].toArray).run P w=.ok (.slice a' (xs++ys).length g) w'∧Ev (ML a) w w'∧
      (∀ x∈ML a',(x∈ML a∨w.heap.size≤x)∧x<w'.heap.size)∧(∀ x∈ML a',x∈ML a∨x=w.heap.size)∧(∀ M',(∀ x∈M',x∈M∨w.heap.size≤x)→M9 e T w' M' a' g (xs++ys)):=by
  exact Xs r ty h q u (fun _ _ h=>h) j
theorem M6k {P:Program}{α:Type}{e:MN α}{t T bytes:Nat}{z:Value}(B:Pa P t T e.n bytes z)(ty:TypeId){w:World}{M:List Nat}{a b:Option Addr}{c d:Nat}{xs ys:List α}
    (h:M9 e T w M a c xs) (A:∀ x∈ML a,x∈M) (D:Ma e w M b d ys) (u:xs.length+ys.length≤4294967296) :
    ∃ a' g w',(Builtin.append_ #[t,t] ty [.slice a xs.length c,.slice b ys.length d].toArray).run P w=.ok (.slice a' (xs++ys).length g) w'∧Ev (ML a) w w'∧
      (∀ x∈ML a',(x∈ML a∨w.heap.size≤x)∧x<w'.heap.size)∧(∀ M',(∀ x∈M',x∈M∨w.heap.size≤x)→M9 e T w' M' a' g (xs++ys)):=by
  obtain ⟨a',g,w',h1,j,q,_,r⟩:=Mb (P:=P) B ty h A D u;exact ⟨a',g,w',h1,j,q,r⟩
theorem M5e {P:Program}{α:Type}{e:MN α}{t T bytes:Nat}{z:Value}(j:Pa P t T e.n bytes z)(w:World)(n:Int)(O:0≤n)(hn:n≤4294967296)(A:α)(hz:∀ w M,e.R w M z.cells.toList A) :
    ∃ a' E w',(Instr.makeSlice t (.int .i64 n) (.int .i64 n)).run P w=.ok (.slice a' (List.replicate n.toNat A).length E) w'∧Ev [] w w'∧
      (∀ x∈ML a',w.heap.size≤x∧x<w'.heap.size)∧(∀ M',M9 e T w' M' a' E (List.replicate n.toNat A)):=by
  obtain ⟨i,hi,ak,ai,aa⟩:=j.info;have an:0<e.n:=Nat.le_of_ble_eq_true j.pos;have ah:bytes≤4096:=Nat.le_of_ble_eq_true j.small;obtain ⟨m,rfl⟩:=Int.eq_ofNat_of_zero_le O;have hm:m≤4294967296:=by omega
  obtain ⟨w',hr,I,q⟩:=run_make_full (P:=P) w 0 t T i z e.n j.und hi ak ai .i64 .i64 m (by rw [aa]; have:=Nat.mul_le_mul ah hm; omega) (by unfold maxLen; omega) (Nat.zero_le _);have D:(List.replicate (Int.toNat (m:Int)) A).length=m:=by simp
  have ab:Ev [] w w':=⟨q.os,q.tape,q.output,q.size,fun k u _=>q.block k u (by simp)⟩
  refine ⟨_,m,w',by rw [D]; exact hr,ab,fun x r=>?_,fun M'=>?_⟩
  · simp only [ML,List.mem_singleton] at r;subst r;rcases I.2 with ⟨h1,_⟩ | ⟨g,cap,cur,h1,_,B,_⟩
    · cases h1
    · cases h1; exact ⟨Nat.le_refl _,MA B⟩
  · rcases I.2 with ⟨h1,_⟩ | ⟨g,cap,cur,h1,_,B,U,X,Y,Z⟩
    · cases h1
    · cases h1;refine .inr ⟨_,cur,rfl,B,by rw [D]; exact U,X,Y,fun i x r=>⟨z.cells.toList,?_,fun k v hv=>?_⟩⟩
      · have:=List.mem_of_getElem? r;rw [List.eq_of_mem_replicate this]; exact hz _ _
      · have ad:i<m:=by have:=(List.getElem?_eq_some_iff.1 r).1; rwa [D] at this
        have u:k<e.n:=by
          have:=(List.getElem?_eq_some_iff.1 hv).1;rw [Array.length_toList,j.zs] at this; exact this
        have F:i*e.n+k<m*e.n:=by
          have:(i+1)*e.n≤m*e.n:=Nat.mul_le_mul_right _ ad;rw [Nat.add_mul] at this; omega
        have G:(madeCells z.cells (m*e.n)).toList[i*e.n+k]? = some v:=by
          have af:(i*e.n+k)%z.cells.size=k:=by rw [j.zs,Nat.mul_comm,Nat.mul_add_mod,Nat.mod_eq_of_lt u]
          have H:k<z.cells.size:=by rw [j.zs]; exact u
          have J:z.cells[k]? = some v:=by simpa using hv
          simp only [madeCells,Array.toList_map,Array.toList_range,List.getElem?_map,List.getElem?_range F,Option.map_some,af];rw [getElem!_pos z.cells k H];rw [Array.getElem?_eq_getElem H] at J;exact J
        rw [← Z,List.getElem?_take,if_pos F] at G
        simpa using G
theorem ZG {P:Program}{Mo M:List Nat}{α:Type}{e:MN α}{t T:Nat}{w:World}{a:Option Addr}{c:Nat}{xs:List α}{i:Int}{x:α}(r:MJ P t T e.n)(h:M9 e T w M a c xs)(E:idx xs i=some x) :
    ∃ g cs,a=some ⟨g,0,none⟩∧ME P Mo (Instr.indexAt t (.slice a xs.length c) (.int .i64 i)) w (.pointer (some ⟨g,i.toNat*e.n,none⟩))∧Ms w [] ⟨g,i.toNat*e.n,none⟩ cs∧e.R w M cs x:=by
  obtain ⟨u,h1,j⟩:=R7 E;rcases h with ⟨_,_,rfl⟩ | ⟨g,cur,rfl,q,G,H,I,A⟩
  · simp at j
  · obtain ⟨cs,B,D⟩:=A _ _ j;refine ⟨g,cs,rfl,fun w' _=>?_,⟨rfl,by simp,MA q,fun k v hv=>?_⟩,B⟩
    · have F:=r.2 w';simp only [Instr.indexAt,asIntOf,Sem.run_bind,Sem.run_pure,Result.andThen_ok,run_underlying r.1,u,h1,and_self,if_true,F];rw [MM rfl];simp
    · rw [PG q]; exact D k v hv
theorem M1z {P:Program}{M:List Nat}{α:Type}{e:MN α}{U T:Nat}{w:World}{g:Nat}{c:Nat}{xs:List α}{i:Int}{x y:α}(o:Nat)(v:Value)(ht:MT P U)(h:M9 e T w M (some ⟨g,0,none⟩) c xs)(ag:g∈M)(hx:idx xs i=some x)
    (h1:v.oneCell'=true) (I:Nat.blt o e.n=true) (hy:∀ w M cs,e.R w M cs x→e.R w M (cs.set o v) y) :
    ∃ w',(Instr.storeAt U (.pointer (some ⟨g,i.toNat*e.n+o,none⟩)) v).run P w=.ok () w'∧Ev [g] w w'∧M9 e T w' M (some ⟨g,0,none⟩) c (xs.set i.toNat y):=by
  obtain ⟨h0,hl,X⟩:=R7 hx;have I:=Nat.le_of_ble_eq_true I;rcases h with ⟨hh,_,_⟩ | ⟨g',cur,ac,hg,Y,Z,F,G⟩
  · cases hh
  · cases ac;have ao:i.toNat<xs.length:=by omega
    have aa:i.toNat*e.n+o<cur.size:=by
      rw [F];have:(i.toNat+1)*e.n≤c*e.n:=Nat.mul_le_mul_right _ (by omega);rw [Nat.add_mul] at this; omega
    obtain ⟨w',hr,A,H⟩:=M1y (P:=P) (i.toNat*e.n+o) v (cur.setIfInBounds (i.toNat*e.n+o) v) ht hg (Nat.ble_eq ▸ aa) h1 rfl;refine ⟨w',hr,H,.inr ⟨g,_,rfl,A,by rw [List.length_set]; exact Y,Z,by rw [Array.size_setIfInBounds]; exact F,fun j z B=>?_⟩⟩;have O:Ro M w M w':=Ro.same H (fun b A=>by simp only [List.mem_singleton] at A; subst A; exact ag);rw [List.getElem?_set] at B
    split at B
    · rename_i E
      · cases B;subst E;obtain ⟨cs,r,D⟩:=G _ _ X;refine ⟨cs.set o v,e.step (hy _ _ _ r) O,fun k u q=>?_⟩;rw [List.getElem?_set] at q;rw [Array.getElem?_setIfInBounds]
        split at q
        · rename_i J
          subst J
          split at q
          · cases q; rw [if_pos (by omega),if_pos (by omega)]
          · cases q
        · rename_i J
          rw [if_neg (by omega)];exact D k u q
    · rename_i E
      obtain ⟨cs,r,D⟩:=G _ _ B;refine ⟨cs,e.step r O,fun k u q=>?_⟩;have hk:k<e.n:=by rw [← e.len r]; exact (List.getElem?_eq_some_iff.1 q).1
      rw [Array.getElem?_setIfInBounds_ne]
      · exact D k u q
      · intro an;rcases Nat.lt_or_gt_of_ne E with ae | hgt
        · have:(i.toNat+1)*e.n≤j*e.n:=Nat.mul_le_mul_right _ ae;rw [Nat.add_mul] at this; omega
        · have:(j+1)*e.n≤i.toNat*e.n:=Nat.mul_le_mul_right _ hgt;rw [Nat.add_mul] at this; omega
theorem MS.out {w:World}{ls:List (List Nat)}(h:MS w ls)(i:Nat){A:List Nat}(g:ls[i]? = some A):∀ x∈A,x∉fl (ls.eraseIdx i):=fun x j q=>by
  have:=(h.focus i g).apart 0 1 rfl rfl rfl;exact this x j q
def MN.Plain {α:Type} (e:MN α):Prop:=∀ (w w':World) (M M':List Nat) (cs:List Value) (x:α),e.R w M cs x→e.R w' M' cs x
abbrev M7:MN (Int×Int×Int×Int):=M3 (Zd .i64) (M3 (Zd .i64) (M3 (Zd .i64) (Zd .i64)))
theorem M3T (k:IntKind):(Zd k).Plain:=fun _ _ _ _ _ _ h=>h
theorem M7O:Mv.Plain:=fun _ _ _ _ _ _ h=>h
theorem M2P {α β:Type}{e:MN α}{f:MN β}(r:e.Plain)(u:f.Plain):(M3 e f).Plain:=fun w w' M M' cs x ⟨g,j,h,h1,q⟩=>⟨g,j,h,r w w' M M' g _ h1,u w w' M M' j _ q⟩
theorem M9.plain {α:Type}{e:MN α}(D:e.Plain){T:TypeId}{w:World}{M M':List Nat}{a:Option Addr}{c:Nat}{xs:List α}(h:M9 e T w M a c xs):M9 e T w M' a c xs:=by
  rcases h with h | ⟨g,cur,ha,B,h1,j,q,r⟩
  · exact .inl h
  · refine .inr ⟨g,cur,ha,B,h1,j,q,fun i x E=>?_⟩;obtain ⟨cs,u,A⟩:=r i x E;exact ⟨cs,D _ _ _ _ _ _ u,A⟩
def Pz (ls:List (List Nat)):List (Option Nat)→Option (List (List Nat))
  | []=>some []
  | none::l=>(Pz ls l).map (ML none::·)
  | some i::l=>match ls[i]? with
    | none=>none
    | some A=>(Pz ls l).map (A::·)
def distinct:List (Option Nat)→Bool
  | []=>true
  | none::l=>distinct l
  | some i::l=>l.all (fun o=>match o with | none=>true | some j=>!(Nat.beq i j))&&distinct l
theorem V6 {ls:List (List Nat)}:∀ (l:List (Option Nat)) (r:List (List Nat)),Pz ls l=some r→∀ B∈r,B=[]∨∃ j,some j∈l∧ls[j]? = some B
  | [],r,h,B,g=>by cases h; cases g
  | none::l,r,h,B,g=>by
    unfold Pz at h;cases q:Pz ls l with
    | none=>rw [q] at h; cases h
    | some E=>
      rw [q] at h; cases h;cases g with
      | head=>exact .inl rfl
      | tail _ g=>
        rcases V6 l E q B g with h | ⟨j,h1,u⟩
        · exact .inl h
        · exact .inr ⟨j,List.mem_cons_of_mem _ h1,u⟩
  | some i::l,r,h,B,g=>by
    unfold Pz at h;cases D:ls[i]? with
    | none=>rw [D] at h; cases h
    | some A=>
      rw [D] at h;simp only at h;cases q:Pz ls l with
      | none=>rw [q] at h; cases h
      | some E=>
        rw [q] at h; cases h;cases g with
        | head=>exact .inr ⟨i,List.mem_cons_self,D⟩
        | tail _ g=>
          rcases V6 l E q B g with h | ⟨j,h1,u⟩
          · exact .inl h
          · exact .inr ⟨j,List.mem_cons_of_mem _ h1,u⟩
theorem M2Q {w:World}{ls:List (List Nat)}(h:MS w ls):∀ (l:List (Option Nat)) (r:List (List Nat)),Pz ls l=some r→distinct l=true→r.Pairwise fun a b=>∀ x∈a,x∉b
  | [],r,hp,_=>by cases hp; exact List.Pairwise.nil
  | none::l,r,hp,hd=>by
    unfold Pz at hp;cases g:Pz ls l with
    | none=>rw [g] at hp; cases hp
    | some q=>
      rw [g] at hp; cases hp;exact List.pairwise_cons.2 ⟨fun B _ x D=>(by cases D),M2Q h l q g hd⟩
  | some i::l,r,hp,hd=>by
    unfold Pz at hp;cases u:ls[i]? with
    | none=>rw [u] at hp; cases hp
    | some A=>
      rw [u] at hp;simp only at hp;cases g:Pz ls l with
      | none=>rw [g] at hp; cases hp
      | some q=>
        rw [g] at hp; cases hp;unfold distinct at hd;simp only [Bool.and_eq_true] at hd;refine List.pairwise_cons.2 ⟨fun B G x D E=>?_,M2Q h l q g hd.2⟩;rcases V6 l q g B G with rfl | ⟨j,h1,F⟩
        · cases E
        · have:=List.all_eq_true.1 hd.1 _ h1;simp only [Bool.not_eq_true'] at this;exact h.apart i j u F this x D E
theorem MS.pick {w:World}{ls:List (List Nat)}(h:MS w ls)(l:List (Option Nat))(r:List (List Nat))(u:(distinct l,Pz ls l)=(true,some r)):MS w r:=by
  have h1:distinct l=true:=congrArg Prod.fst u;have g:Pz ls l=some r:=congrArg Prod.snd u;refine ⟨M2Q h l r g h1,fun B D b q=>?_⟩;rcases V6 l r g B D with rfl | ⟨j,_,A⟩
  · cases q
  · exact h.lt B (List.mem_of_getElem? A) b q
theorem FR.pick {C:Nat}{ls:List (List Nat)}(h:FR C ls)(l:List (Option Nat))(r:List (List Nat))(A:Pz ls l=some r):FR C r:=by
  intro B u b g;rcases V6 l r A B u with rfl | ⟨j,_,q⟩
  · cases g
  · exact h B (List.mem_of_getElem? q) b g
theorem M5f {ls:List (List Nat)}(l:List (Option Nat))(r:List (List Nat))(A:Pz ls l=some r):∀ x∈fl r,x∈fl ls:=by
  intro x D;obtain ⟨B,u,g⟩:=(Mx _ _).1 D;rcases V6 l r A B u with rfl | ⟨j,_,q⟩
  · cases g
  · exact (Mx _ _).2 ⟨B,List.mem_of_getElem? q,g⟩
theorem run_eql_bool {P:Program}{t:TypeId}(g:P.underlying t=some .bool)(a b:Bool)(w:World):(Op.equal t (.bool a) (.bool b)).run P w=.ok (a==b) w:=by
  unfold Op.equal Op.maxDepth;show Sem.run P (Op.equalIn (9999+1) t (.bool a) (.bool b)) w=_
  unfold Op.equalIn;rw [run_bind,run_underlying g];rfl
theorem M0l {P:Program}{t:TypeId}{xo yo:Operand}{a b:Bool}(g:P.underlying t=some .bool)(K:Value→Prop)(h:K (.bool (a==b))):Vd P .eql t xo yo (.bool a) (.bool b) K:=by
  refine ⟨_,fun w=>?_,h⟩;show Sem.run P (binOp .eql t (.bool a) (.bool b)) w=_
  show Sem.run P (do pure (.bool (← Op.equal t (.bool a) (.bool b))):Sem Value) w=_
  rw [run_bind,run_eql_bool g];rfl
theorem WN {P:Program}{t:TypeId}{xo yo:Operand}{a b:Bool}(g:P.underlying t=some .bool)(K:Value→Prop)(h:K (.bool (a != b))):Vd P .neq t xo yo (.bool a) (.bool b) K:=by
  refine ⟨_,fun w=>?_,h⟩;show Sem.run P (binOp .neq t (.bool a) (.bool b)) w=_
  show Sem.run P (do pure (.bool (!(← Op.equal t (.bool a) (.bool b)))):Sem Value) w=_
  rw [run_bind,run_eql_bool g];rfl
theorem Mq {w:World}{ls:List (List Nat)}(h:MS w ls)(i:Nat){A:List Nat}(D:ls[i]? = some A)(l:List (Option Nat))(r:List (List Nat))(F:Pz ls l=some r)
    (E:l.all (fun o=>match o with | none=>true | some j=>!(Nat.beq i j))=true):∀ x∈A,x∉fl r:=by
  intro x G H;obtain ⟨B,u,g⟩:=(Mx _ _).1 H;rcases V6 l r F B u with rfl | ⟨j,h1,q⟩
  · cases g
  · have:=List.all_eq_true.1 E _ h1;simp only [Bool.not_eq_true'] at this;exact h.apart i j D q this x G g
theorem M5g {w w':World}(h:Ev [] w w'):Go.RowKit.Below w.heap.size w w':=⟨h.os,h.tape,h.output,h.size,fun k g=>h.block k g (fun h=>by cases h)⟩
theorem Mb3 (w:World):MS w [[]]:=⟨List.pairwise_singleton _ _,fun l g b j=>by simp only [List.mem_singleton] at g; subst g; cases j⟩
def M0N:MN (Option Addr×Nat×Nat):=⟨1,fun _ _ cs h=>cs=[.slice h.1 h.2.1 h.2.2],fun h=>by rw [h]; rfl,fun h _=>h,fun h v hv=>by rw [h] at hv; simp at hv; subst hv; rfl⟩
theorem XZ:M0N.Plain:=fun _ _ _ _ _ _ h=>h
theorem M9.evp {α:Type}{e:MN α}(F:e.Plain){T:TypeId}{w w':World}{M M' Mo:List Nat}{a:Option Addr}{c:Nat}{xs:List α}(h:M9 e T w M a c xs)(B:Ev Mo w w')(E:∀ b∈ML a,b∉Mo):M9 e T w' M' a c xs:=by
  rcases h with h | ⟨g,cur,rfl,D,h1,j,q,r⟩
  · exact .inl h
  · refine .inr ⟨g,cur,rfl,B.box D (E g (by simp [ML])),h1,j,q,fun i x G=>?_⟩;obtain ⟨cs,u,A⟩:=r i x G;exact ⟨cs,F _ _ _ _ _ _ u,A⟩
def P6 {α:Type} (e:MN α) (T Tr:TypeId) (w:World) (B:List Nat) (a:Option Addr) (c:Nat) (g:List (List α)) (skip:Option Nat):Prop:=
  ∃ hs:List (Option Addr×Nat×Nat),M9 M0N Tr w [] a c hs∧hs.length=g.length∧(∀ x∈ML a,x∈B)∧
    (∀ (i:Nat) (h:Option Addr×Nat×Nat) (xs:List α),hs[i]? = some h→g[i]? = some xs→skip≠some i→M9 e T w [] h.1 h.2.2 xs∧h.2.1=xs.length∧∀ x∈ML h.1,x∈B∧x∉ML a)∧
    (∀ (i j:Nat) (h k:Option Addr×Nat×Nat),hs[i]? = some h→hs[j]? = some k→i≠j→skip≠some i→skip≠some j→∀ x∈ML h.1,x∉ML k.1)
theorem P6.nil {α:Type}(e:MN α)(T Tr:TypeId)(w:World)(B:List Nat):P6 e T Tr w B none 0 [] none:=
  ⟨[],M9.nil _ _ _ _,rfl,(fun x g=>by cases g),(fun i h xs h1=>by cases h1),(fun i j h k h1=>by cases h1)⟩
theorem P6.step {α:Type}{e:MN α}(O:e.Plain){T Tr:TypeId}{w w':World}{B Mo:List Nat}{a:Option Addr}{c:Nat}{A:List (List α)}{skip:Option Nat}(h:P6 e T Tr w B a c A skip)(r:Ev Mo w w')(u:∀ b∈B,b∉Mo):P6 e T Tr w' B a c A skip:=by
  obtain ⟨hs,h1,D,j,E,F⟩:=h;refine ⟨hs,h1.evp XZ r (fun b g=>u b (j b g)),D,j,fun i h xs I U J=>?_,F⟩;obtain ⟨G,H,q⟩:=E i h xs I U J;exact ⟨G.evp O r (fun b g=>u b (q b g).1),H,q⟩
theorem P6.more {α:Type}{e:MN α}{T Tr:TypeId}{w:World}{B j:List Nat}{a:Option Addr}{c:Nat}{u:List (List α)}{skip:Option Nat}(h:P6 e T Tr w B a c u skip)(r:∀ b∈B,b∈j):P6 e T Tr w j a c u skip:=by
  obtain ⟨hs,h1,A,D,E,F⟩:=h;refine ⟨hs,h1,A,fun x g=>r x (D x g),fun i h xs I g J=>?_,F⟩;obtain ⟨G,H,q⟩:=E i h xs I g J;exact ⟨G,H,fun x g=>⟨r x (q x g).1,(q x g).2⟩⟩
theorem M4o:M0N.n=1:=rfl
theorem P6.index {P:Program}{Mo:List Nat}{α:Type}{e:MN α}{t T Tr:Nat}{w:World}{B:List Nat}{a:Option Addr}{c:Nat}{r:List (List α)}{i:Int}{xs:List α}(X:MJ P t Tr 1)(h:P6 e T Tr w B a c r none)(q:idx r i=some xs) :
    ∃ g ai ci,a=some ⟨g,0,none⟩∧ME P Mo (Instr.indexAt t (.slice a r.length c) (.int .i64 i)) w (.pointer (some ⟨g,i.toNat,none⟩))∧Ms w [] ⟨g,i.toNat,none⟩ [.slice ai xs.length ci]∧
      M9 e T w [] ai ci xs∧(∀ x∈ML ai,x∈B):=by
  obtain ⟨hs,h1,E,Z,F,h5⟩:=h;obtain ⟨D,hl,Y⟩:=R7 q;have u:i.toNat<hs.length:=by omega
  have U:idx hs i=some hs[i.toNat]:=by
    unfold idx; rw [if_pos D]; exact List.getElem?_eq_getElem u
  obtain ⟨g,cs,ha,A,j,J⟩:=ZG (P:=P) (Mo:=Mo) (e:=M0N) (t:=t) X h1 U;obtain ⟨G,H,I⟩:=F i.toNat hs[i.toNat] xs (List.getElem?_eq_getElem u) Y (by simp);rw [M4o,Nat.mul_one] at A j;refine ⟨g,hs[i.toNat].1,hs[i.toNat].2.2,ha,by rw [← E]; exact A,?_,G,fun x q=>(I x q).1⟩;have O:cs=[.slice hs[i.toNat].1 hs[i.toNat].2.1 hs[i.toNat].2.2]:=J;rw [O,H] at j;exact j
theorem P6.open_ {α:Type}{e:MN α}{T Tr:Nat}{w:World}{B:List Nat}{g:Nat}{c:Nat}{I:List (List α)}{i:Int}{xs:List α}{ai:Option Addr}{ci:Nat}(h:P6 e T Tr w B (some ⟨g,0,none⟩) c I none)(q:idx I i=some xs)(hc:Ms w [] ⟨g,i.toNat,none⟩ [.slice ai xs.length ci]) :
    ∃ A,P6 e T Tr w A (some ⟨g,0,none⟩) c I (some i.toNat)∧M9 e T w [] ai ci xs∧(∀ x∈A,x∈B)∧(∀ x∈ML ai,x∈B)∧(∀ x∈ML ai,x∉A):=by
  obtain ⟨hs,h1,h2,h3,U,X⟩:=h;obtain ⟨h0,hl,aw⟩:=R7 q;have F:i.toNat<hs.length:=by omega
  obtain ⟨Y,h7,D⟩:=U i.toNat hs[i.toNat] xs (List.getElem?_eq_getElem F) aw (by simp);have Z:hs[i.toNat]=(ai,xs.length,ci):=by
    rcases h1 with ⟨hn,_,_⟩ | ⟨g',cur,ar,hg,h9,aA,aB,ag⟩
    · cases hn
    · cases ar;obtain ⟨cs,ah,ak⟩:=ag i.toNat _ (List.getElem?_eq_getElem F);have aj:cs=[.slice hs[i.toNat].1 hs[i.toNat].2.1 hs[i.toNat].2.2]:=ah;have r:=hc.at_ 0 _ rfl;have O:=ak 0 (.slice hs[i.toNat].1 hs[i.toNat].2.1 hs[i.toNat].2.2) (by rw [aj]; rfl);rw [PG hg] at r;rw [M4o,Nat.mul_one] at O;rw [O] at r;simp only [Option.some.injEq,Value.slice.injEq] at r;obtain ⟨e3,e4,e5⟩:=r
      calc hs[i.toNat]=(hs[i.toNat].1,hs[i.toNat].2.1,hs[i.toNat].2.2):=rfl
        _=_:=by rw [e3,e4,e5]
  rw [Z] at Y D;refine ⟨B.filter (fun x=>!((ML ai).contains x)),⟨hs,h1,h2,fun x q=>?_,fun j h ys u hy G=>?_,fun j k h h' u G H aF aG=>X j k h h' u G H (by simp) (by simp)⟩,Y,fun x q=>(List.mem_filter.1 q).1,fun x q=>(D x q).1,fun x q av=>?_⟩
  · refine List.mem_filter.2 ⟨h3 x q,?_⟩;cases E:(ML ai).contains x with
    | false=>rfl
    | true=>exact absurd q (D x (by simpa using E)).2
  · obtain ⟨a1,a2,J⟩:=U j h ys u hy (by simp);refine ⟨a1,a2,fun x q=>⟨List.mem_filter.2 ⟨(J x q).1,?_⟩,(J x q).2⟩⟩;cases E:(ML ai).contains x with
    | false=>rfl
    | true=>
      have H:j≠i.toNat:=fun he=>G (by rw [he])
      have:=X j i.toNat h hs[i.toNat] u (List.getElem?_eq_getElem F) H (by simp) (by simp) x q;rw [Z] at this;exact absurd (by simpa using E) this
  · have:=(List.mem_filter.1 av).2;simp [q] at this
theorem P6.close {P:Program}{α:Type}{e:MN α}(hp:e.Plain){te T Tr:Nat}{w:World}{B B2:List Nat}{g:Nat}{c:Nat}{F:List (List α)}{i:Int}{xs:List α}{a':Option Addr}{G:Nat}{ys:List α}(ht:MT P te)
    (h:P6 e T Tr w B (some ⟨g,0,none⟩) c F (some i.toNat)) (r:idx F i=some xs) (hy:M9 e T w B2 a' G ys) (hd:∀ x∈ML a',x∉B) :
    ∃ w',(Instr.storeAt te (.pointer (some ⟨g,i.toNat,none⟩)) (.slice a' ys.length G)).run P w=.ok () w'∧Ev [g] w w'∧g∈B∧P6 e T Tr w' (ML a'++B) (some ⟨g,0,none⟩) c (F.set i.toNat ys) none:=by
  obtain ⟨hs,h1,h2,J,O,h5⟩:=h;obtain ⟨h0,hl,ax⟩:=R7 r;have ao:i.toNat<hs.length:=by omega
  have hh:idx hs i=some hs[i.toNat]:=by
    unfold idx; rw [if_pos h0]; exact List.getElem?_eq_getElem ao
  have aa:g∈B:=J g (by simp [ML]);obtain ⟨w',hr,X,ho⟩:=M1z (P:=P) (M:=[g]) (e:=M0N) (y:=(a',ys.length,G)) 0 (.slice a' ys.length G) ht (h1.plain XZ) (by simp) hh rfl rfl (fun w M cs hR=>by
    have am:cs=[.slice hs[i.toNat].1 hs[i.toNat].2.1 hs[i.toNat].2.2]:=hR;rw [am]; rfl)
  rw [M4o,Nat.mul_one,Nat.add_zero] at hr;refine ⟨w',hr,X,aa,hs.set i.toNat (a',ys.length,G),ho.plain XZ,by simp [h2],fun x r=>List.mem_append_right _ (J x r),fun j h zs q A u=>?_,fun j k h Z q u ap _ _ x r I=>?_⟩
  · rw [List.getElem?_set] at q A
    by_cases D:i.toNat=j
    · rw [if_pos D,if_pos (by omega)] at q A;cases q; cases A;refine ⟨hy.evp hp X (fun b U H=>?_),rfl,fun x r=>⟨List.mem_append_left _ r,fun I=>?_⟩⟩
      · simp only [List.mem_singleton] at H;subst H;exact hd b U aa
      · exact hd x r (J x I)
    · rw [if_neg D] at q A;obtain ⟨a1,a2,E⟩:=O j h zs q A (by simpa using D);refine ⟨a1.evp hp X (fun b U H=>?_),a2,fun x r=>⟨List.mem_append_right _ (E x r).1,(E x r).2⟩⟩;simp only [List.mem_singleton] at H;subst H;exact (E b U).2 (by simp [ML])
  · rw [List.getElem?_set] at q u
    by_cases D:i.toNat=j
    · rw [if_pos D,if_pos (by omega)] at q;cases q;rw [if_neg (by omega)] at u;have av:=u;obtain ⟨zs,A⟩:∃ zs,F[k]? = some zs:=⟨F[k]'(by have:=(List.getElem?_eq_some_iff.1 u).1; omega),List.getElem?_eq_getElem _⟩
      obtain ⟨_,_,E⟩:=O k Z zs u A (by simp; omega);exact hd x r (E x I).1
    · rw [if_neg D] at q
      by_cases Y:i.toNat=k
      · rw [if_pos Y,if_pos (by omega)] at u;cases u;obtain ⟨zs,A⟩:∃ zs,F[j]? = some zs:=⟨F[j]'(by have:=(List.getElem?_eq_some_iff.1 q).1; omega),List.getElem?_eq_getElem _⟩
        obtain ⟨_,_,E⟩:=O j h zs q A (by simpa using D);exact hd x I (E x r).1
      · rw [if_neg Y] at u;exact h5 j k h Z q u ap (by simpa using D) (by simpa using Y) x r I
theorem P6.make {P:Program}{α:Type}(e:MN α){t T Tr bytes:Nat}(H:Pa P t Tr 1 bytes (.slice none 0 0))(w:World)(n:Int)(B:0≤n)(G:n≤4294967296) :
    ∃ a' q w',(Instr.makeSlice t (.int .i64 n) (.int .i64 n)).run P w=.ok (.slice a' (List.replicate n.toNat ([]:List α)).length q) w'∧Ev [] w w'∧
      (∀ x∈ML a',w.heap.size≤x∧x<w'.heap.size)∧P6 e T Tr w' (ML a') a' q (List.replicate n.toNat ([]:List α)) none:=by
  obtain ⟨a',q,w',h1,D,E,F⟩:=M5e (P:=P) (e:=M0N) H w n B G (none,0,0) (fun _ _=>rfl);refine ⟨a',q,w',by simpa using h1,D,E,List.replicate n.toNat (none,0,0),F [],by simp,fun x g=>g,fun i h xs u g _=>?_,fun i j h k u I _ _ _ x g=>?_⟩
  · have r:h=(none,0,0):=by
      have:=List.mem_of_getElem? u;exact List.eq_of_mem_replicate this
    have A:xs=[]:=List.eq_of_mem_replicate (List.mem_of_getElem? g);subst r; subst A;exact ⟨M9.nil _ _ _ _,rfl,fun x g=>by cases g⟩
  · have r:h=(none,0,0):=List.eq_of_mem_replicate (List.mem_of_getElem? u);subst r;cases g
theorem P6.ro {α:Type}{e:MN α}(hp:e.Plain){T Tr:TypeId}{w:World}{B M':List Nat}{a:Option Addr}{c:Nat}{j:List (List α)}(h:P6 e T Tr w B a c j none)(u:∀ b∈B,b∉M'):Ma (Mi e) w M' a c j:=by
  obtain ⟨hs,h1,J,O,U,h5⟩:=h;rcases h1 with ⟨rfl,rfl,rfl⟩ | ⟨g,cur,rfl,q,h6,X,h8,Y⟩
  · have:j=[]:=List.eq_nil_of_length_eq_zero (by simpa using J.symm);subst this;exact Ma.empty _ _ _
  · refine ⟨by omega,X,fun h=>(by cases h),fun ad ha _=>?_⟩;cases ha;refine ⟨rfl,u g (O g (by simp [ML])),MA q,fun i x A=>?_⟩;have r:i<hs.length:=by have:=(List.getElem?_eq_some_iff.1 A).1; omega
    obtain ⟨D,E,F⟩:=U i hs[i] x (List.getElem?_eq_getElem r) A (by simp);obtain ⟨cs,G,I⟩:=Y i hs[i] (List.getElem?_eq_getElem r);have H:cs=[.slice hs[i].1 hs[i].2.1 hs[i].2.2]:=G;refine ⟨cs,⟨hs[i].1,hs[i].2.2,by rw [H,E],(M9.plain (M':=M') hp D).ro (fun _ h=>h) (fun b Z=>u b (F b Z).1)⟩,fun k v hv=>?_⟩;show w.cell? ⟨g,0+(i*1+k),none⟩=some v
    rw [Nat.zero_add,PG q];exact I k v hv
theorem P6.append {P:Program}{α:Type}{e:MN α}(hp:e.Plain){t T Tr bytes:Nat}{z:Value}(ht:Pa P t Tr 1 bytes z)(ty:TypeId){w:World}{B B2:List Nat}{a b a':Option Addr}{c d E:Nat}{u:List (List α)}{ys:List α}
    (h:P6 e T Tr w B a c u none) (hs:Ma M0N w B b d [(a',ys.length,E)]) (hy:M9 e T w B2 a' E ys) (hd:∀ x∈ML a',x∉B) (aq:∀ x∈B,x<w.heap.size) (hl:u.length+1≤4294967296) :
    ∃ A H w',(Builtin.append_ #[t,t] ty [.slice a u.length c,.slice b 1 d].toArray).run P w=.ok (.slice A (u++[ys]).length H) w'∧Ev (ML a) w w'∧(∀ x∈ML a,x∈B)∧
      (∀ x∈ML A,(x∈B∨w.heap.size≤x)∧x<w'.heap.size)∧P6 e T Tr w' (ML A++(ML a'++B)) A H (u++[ys]) none:=by
  obtain ⟨r,h1,J,F,h4,h5⟩:=h;have ar:∀ x∈ML a',x<w.heap.size:=hy.lt;obtain ⟨A,H,w',hr,U,Z,ho⟩:=M6k (P:=P) (e:=M0N) (M:=B) ht ty (h1.plain XZ) F hs (by simpa [J] using hl);simp only [List.length_append,List.length_cons,List.length_nil,Nat.zero_add,J] at hr;refine ⟨A,H,w',by simpa using hr,U,F,fun x q=>⟨(Z x q).1.imp (fun h=>F x h) id,(Z x q).2⟩,r++[(a',ys.length,E)],(ho [] (fun _ h=>by cases h)),by simp [J],
    fun x q=>List.mem_append_left _ q,fun i k zs g D _=>?_,fun i j k l g hj au _ _ x q aa=>?_⟩
  · have ac:∀ x,x<w.heap.size→x∉ML a→x∉ML A:=fun x h6 h7 h8=>by
      rcases (Z x h8).1 with h9 | h9
      · exact h7 h9
      · omega
    rcases Nat.lt_or_ge i r.length with hil | hil
    · rw [List.getElem?_append_left hil] at g;rw [List.getElem?_append_left (by omega)] at D;obtain ⟨a1,a3,G⟩:=h4 i k zs g D (by simp);refine ⟨a1.evp hp U (fun b O=>(G b O).2),a3,fun x q=>⟨List.mem_append_right _ (List.mem_append_right _ (G x q).1),ac x (aq x (G x q).1) (G x q).2⟩⟩
    · rw [List.getElem?_append_right hil] at g;rw [List.getElem?_append_right (by omega)] at D;have I:i-r.length=0:=by
        rcases Nat.eq_zero_or_pos (i-r.length) with h | h
        · exact h
        · rw [List.getElem?_eq_none (by simp; omega)] at g; cases g
      rw [I] at g;rw [show i-u.length=0 by omega] at D;cases g; cases D;refine ⟨hy.evp hp U (fun b O an=>hd b O (F b an)),rfl,fun x q=>⟨List.mem_append_right _ (List.mem_append_left _ q),ac x (ar x q) (fun h=>hd x q (F x h))⟩⟩
  · have old:∀ {i:Nat} {k:Option Addr×Nat×Nat},(r++[(a',ys.length,E)])[i]? = some k→(i<r.length∧r[i]? = some k)∨(i=r.length∧k=(a',ys.length,E)):=by
      intro i k g;rcases Nat.lt_or_ge i r.length with hil | hil
      · rw [List.getElem?_append_left hil] at g;exact .inl ⟨hil,g⟩
      · rw [List.getElem?_append_right hil] at g;have I:i-r.length=0:=by
          rcases Nat.eq_zero_or_pos (i-r.length) with h | h
          · exact h
          · rw [List.getElem?_eq_none (by simp; omega)] at g; cases g
        rw [I] at g;cases g;exact .inr ⟨by omega,rfl⟩
    have WD:∀ {i:Nat} {k:Option Addr×Nat×Nat},r[i]? = some k→∀ x∈ML k.1,x∈B:=by
      intro i k g x q;have hil:=(List.getElem?_eq_some_iff.1 g).1;obtain ⟨zs,D⟩:∃ zs,u[i]? = some zs:=⟨u[i]'(by omega),List.getElem?_eq_getElem _⟩
      exact ((h4 i k zs g D (by simp)).2.2 x q).1
    rcases old g with ⟨_,X⟩ | ⟨X,rfl⟩ <;> rcases old hj with ⟨_,Y⟩ | ⟨Y,rfl⟩
    · exact h5 i j k l X Y au (by simp) (by simp) x q aa
    · exact hd x aa (WD X x q)
    · exact hd x q (WD Y x aa)
    · omega
theorem MS.split {w:World}{ls:List (List Nat)}(h:MS w ls)(i:Nat){A D u:List Nat}(q:ls[i]? = some A)(h1:∀ x∈D,x∈A)(E:∀ x∈u,x∈A)(hd:∀ x∈D,x∉u):MS w (D::ls.set i u):=by
  have J:i<ls.length:=(List.getElem?_eq_some_iff.1 q).1;have G:MS w (ls.set i u):=h.upd i (Ev.refl [] w) q (fun b g=>⟨.inl (E b g),h.lt A (List.mem_of_getElem? q) b (E b g)⟩);refine ⟨List.pairwise_cons.2 ⟨fun l r x H B=>?_,G.pd⟩,fun l r b g=>?_⟩
  · obtain ⟨j,F,rfl⟩:=List.getElem_of_mem r;rw [List.length_set] at F;rw [List.getElem_set] at B
    split at B
    · exact hd x H B
    · rename_i I
      exact h.apart i j q (List.getElem?_eq_getElem F) (VP I) x (h1 x H) B
  · cases r with
    | head=>exact h.lt A (List.mem_of_getElem? q) b (h1 b g)
    | tail _ r=>exact G.lt l r b g
theorem MS.merge {w:World}{ls:List (List Nat)}(h:MS w ls)(i j:Nat){A B C:List Nat}(E:ls[i]? = some A)(J:ls[j]? = some B)(G:∀ x∈C,x∈A∨x∈B):MS w ((ls.set j C).eraseIdx i):=by
  rcases Nat.decEq i j with hij | hij
  · refine ⟨List.pairwise_iff_getElem.2 fun k l Z q ao x g ag=>?_,fun l q b u=>?_⟩
    · rw [List.length_eraseIdx,List.length_set] at Z q;have F:i<ls.length:=(List.getElem?_eq_some_iff.1 E).1;rw [if_pos F] at Z q;have ac:∀ (m:Nat) (hm:m<((ls.set j C).eraseIdx i).length),∀ x∈((ls.set j C).eraseIdx i)[m],∃ m',m'=(if m<i then m else m+1)∧m'<ls.length∧((m'=j∧x∈C)∨(m'≠j∧∃ D,ls[m']? = some D∧x∈D)):=by
        intro m hm x g;have af:=hm;rw [List.length_eraseIdx,List.length_set,if_pos F] at af;rw [List.getElem_eraseIdx] at g;refine ⟨_,rfl,by split <;> omega,?_⟩
        split at g
        · rename_i h1
          rw [if_pos h1];rw [List.getElem_set] at g
          split at g
          · exact .inl ⟨by omega,g⟩
          · exact .inr ⟨by omega,_,List.getElem?_eq_getElem (by omega),g⟩
        · rename_i h1
          rw [if_neg h1];rw [List.getElem_set] at g
          split at g
          · exact .inl ⟨by omega,g⟩
          · exact .inr ⟨by omega,_,List.getElem?_eq_getElem (by omega),g⟩
      obtain ⟨k',Y,am,sk⟩:=ac k (by rw [List.length_eraseIdx,List.length_set,if_pos F]; omega) x g;obtain ⟨r,el,aa,sl⟩:=ac l (by rw [List.length_eraseIdx,List.length_set,if_pos F]; omega) x ag;have O:k'≠r:=by
        rw [Y,el]; split <;> split <;> omega
      have ad:k'≠i:=by rw [Y]; split <;> omega
      have ae:r≠i:=by rw [el]; split <;> omega
      rcases sk with ⟨rfl,ah⟩ | ⟨an,D,H,U⟩ <;> rcases sl with ⟨h2,ai⟩ | ⟨ap,D2,I,X⟩
      · omega
      · rcases G x ah with h3 | h3
        · exact h.apart i r E I (VP (Ne.symm ae)) x h3 X
        · exact h.apart k' r J I (VP O) x h3 X
      · subst h2;rcases G x ai with h3 | h3
        · exact h.apart k' i H E (VP ad) x U h3
        · exact h.apart k' r H J (VP O) x U h3
      · exact h.apart k' r H I (VP O) x U X
    · have aa:=List.mem_of_mem_eraseIdx q;rcases List.mem_or_eq_of_mem_set aa with h1 | h1
      · exact h.lt l h1 b u
      · subst h1;rcases G b u with h2 | h2
        · exact h.lt A (List.mem_of_getElem? E) b h2
        · exact h.lt B (List.mem_of_getElem? J) b h2
  · subst hij;refine ⟨?_,fun l q b u=>?_⟩
    · exact List.Pairwise.sublist (by
        have e:(ls.set i C).eraseIdx i=ls.eraseIdx i:=by
          simp [List.eraseIdx_set_eq]
        rw [e];exact List.eraseIdx_sublist ls i) h.pd
    · have e:(ls.set i C).eraseIdx i=ls.eraseIdx i:=by
        simp [List.eraseIdx_set_eq]
      rw [e] at q;exact h.lt l (List.mem_of_mem_eraseIdx q) b u
inductive R6 {α:Type} (e:MN α) (w:World) (M:List Nat):List α→List Value→Prop where
  | nil:R6 e w M [] []
  | cons {x:α} {xs:List α} {c cs:List Value} (h:e.R w M c x) (t:R6 e w M xs cs):R6 e w M (x::xs) (c++cs)
theorem Ze {α:Type}{e:MN α}{w:World}{M:List Nat}{xs:List α}{cs:List Value}(h:R6 e w M xs cs) :
    ∀ (i:Nat) (x:α),xs[i]? = some x→∃ c,e.R w M c x∧∀ (k:Nat) (v:Value),c[k]? = some v→cs.toArray[i*e.n+k]? = some v:=by
  induction h with
  | nil=>intro i x g; simp at g
  | @cons y ys c cs h t ih=>
    intro i x g;cases i with
    | zero=>
      simp only [List.getElem?_cons_zero,Option.some.injEq] at g;subst g;refine ⟨c,h,fun k v hv=>?_⟩;have A:=(List.getElem?_eq_some_iff.1 hv).1;simp only [Nat.zero_mul,Nat.zero_add,List.getElem?_toArray];rw [List.getElem?_append_left A];exact hv
    | succ i=>
      rw [List.getElem?_cons_succ] at g;obtain ⟨q,r,u⟩:=ih i x g;refine ⟨q,r,fun k v hv=>?_⟩;have j:=e.len h;have:=u k v hv;simp only [List.getElem?_toArray] at this ⊢;rw [List.getElem?_append_right (by rw [j,Nat.add_mul]; omega),j,← this]
      congr 1
      rw [Nat.add_mul];omega
structure Wb {α:Type} (e:MN α) (T:TypeId) (w:World) (B:List Nat) (a:Option Addr) (d:List (List α)) (g i:Nat) (ai:Option Addr) (ci:Nat) (xs:List α):Prop where
  eq:a=some ⟨g,0,none⟩
  gB:g∈B
  row:M9 e T w [] ai ci xs
  cell:Ms w [] ⟨g,i,none⟩ [.slice ai xs.length ci]
  sub:∀ x∈ML ai,x∈B
  at_:d[i]? = some xs
theorem Ms.evp {w w':World}{Mo:List Nat}{ad:Addr}{cs:List Value}(h:Ms w [] ad cs)(g:Ev Mo w w')(j:ad.block∉Mo):Ms w' [] ad cs:=
  ⟨h.spot,fun h=>(by cases h),g.lt h.lt,fun k v hv=>by rw [g.cell (a:=⟨ad.block,_,none⟩) h.lt j]; exact h.at_ k v hv⟩
theorem Wb.step {α:Type}{e:MN α}(u:e.Plain){T:TypeId}{w w':World}{B Mo:List Nat}{a:Option Addr}{d:List (List α)}{g i:Nat}{ai:Option Addr}{ci:Nat}{xs:List α}(h:Wb e T w B a d g i ai ci xs)(j:Ev Mo w w')(q:∀ b∈B,b∉Mo):Wb e T w' B a d g i ai ci xs:=
  ⟨h.eq,h.gB,h.row.evp u j (fun b r=>q b (h.sub b r)),h.cell.evp j (q g h.gB),h.sub,h.at_⟩
theorem Wb.load {P:Program}{α:Type}{e:MN α}{T j:TypeId}{w:World}{B:List Nat}{a:Option Addr}{d:List (List α)}{g i:Nat}{ai:Option Addr}{ci:Nat}{xs:List α}(r:MT P j)(h:Wb e T w B a d g i ai ci xs) :
    ME P [] (Instr.loadAt j (.pointer (some ⟨g,i,none⟩))) w (.slice ai xs.length ci):=M20 r h.cell (fun b q=>by cases q)
theorem Ms.away {w:World}{Mo:List Nat}{ad:Addr}{cs:List Value}(h:Ms w [] ad cs)(g:ad.block∉Mo):Ms w Mo ad cs:=⟨h.spot,g,h.lt,h.at_⟩
theorem Wb.elem {P:Program}{Mo:List Nat}{α:Type}{e:MN α}{t T:Nat}{w:World}{B:List Nat}{a:Option Addr}{d:List (List α)}{g i:Nat}{ai:Option Addr}{ci:Nat}{xs:List α}{j:Int}{x:α}(D:MJ P t T e.n)(h:Wb e T w B a d g i ai ci xs)(E:idx xs j=some x) :
    ∃ ad cs,ME P Mo (Instr.indexAt t (.slice ai xs.length ci) (.int .i64 j)) w (.pointer (some ad))∧Ms w [] ad cs∧e.R w [] cs x∧ad.block∈B∧(∀ k,ai=some ⟨k,0,none⟩→ad=⟨k,j.toNat*e.n,none⟩):=by
  obtain ⟨F,cs,ha,A,u,r⟩:=ZG (P:=P) (Mo:=Mo) D h.row E;exact ⟨_,cs,A,u,r,h.sub _ (by rw [ha]; simp [ML]),fun k q=>by rw [ha] at q; cases q; rfl⟩
theorem Wb.ro {α:Type}{e:MN α}(r:e.Plain){T:TypeId}{w:World}{B M:List Nat}{a:Option Addr}{d:List (List α)}{g i:Nat}{ai:Option Addr}{ci:Nat}{xs:List α}(h:Wb e T w B a d g i ai ci xs)(q:∀ b∈B,b∉M):Ma e w M ai ci xs:=
  (M9.plain (M':=M) r h.row).ro (fun _ h=>h) (fun b j=>q b (h.sub b j))
theorem P6.opn {α:Type}{e:MN α}{T Tr:TypeId}{w:World}{B:List Nat}{a:Option Addr}{c:Nat}{d:List (List α)}{g i:Nat}{ai:Option Addr}{ci:Nat}{xs:List α}(h:P6 e T Tr w B a c d none)(hv:Wb e T w B a d g i ai ci xs) :
    ∃ j,P6 e T Tr w j a c d (some i)∧M9 e T w [] ai ci xs∧(∀ x∈j,x∈B)∧(∀ x∈ML ai,x∈B)∧(∀ x∈ML ai,x∉j):=by
  have q:(Int.toNat (i:Int))=i:=by omega
  have A:idx d (i:Int)=some xs:=by unfold idx; rw [if_pos (by omega),q]; exact hv.at_
  have r:=hv.cell;rw [← q] at r;obtain ⟨j,h1,u⟩:=P6.open_ (i:=(i:Int)) (by rw [← hv.eq]; exact h) A r;rw [q,← hv.eq] at h1;exact ⟨j,h1,u⟩
theorem P6.cls {P:Program}{α:Type}{e:MN α}(U:e.Plain){H T Tr:Nat}{w:World}{B M:List Nat}{g i:Nat}{a:Option Addr}{c:Nat}{d:List (List α)}{xs:List α}{a':Option Addr}{A:Nat}{ys:List α}(X:MT P H)
    (h:P6 e T Tr w B a c d (some i)) (I:a=some ⟨g,0,none⟩) (j:d[i]? = some xs) (G:M9 e T w M a' A ys) (hd:∀ x∈ML a',x∉B) (O:∀ x∈B,x<w.heap.size) :
    ∃ w' u,(Instr.storeAt H (.pointer (some ⟨g,i,none⟩)) (.slice a' ys.length A)).run P w=.ok () w'∧Ev (ML a'++B) w w'∧(∀ x∈u,(x∈ML a'++B∨w.heap.size≤x)∧x<w'.heap.size)∧P6 e T Tr w' u a c (d.set i ys) none:=by
  have q:(Int.toNat (i:Int))=i:=by omega
  have Y:idx d (i:Int)=some xs:=by unfold idx; rw [if_pos (by omega),q]; exact j
  subst I;obtain ⟨w',F,r,J,E⟩:=P6.close (P:=P) (i:=(i:Int)) U X (by rw [q]; exact h) Y G hd;rw [q] at F E;refine ⟨w',_,F,r.sub (fun b D=>?_),fun x j=>⟨.inl j,?_⟩,E⟩
  · simp only [List.mem_singleton] at D;subst D; exact List.mem_append_right _ J
  · rcases List.mem_append.1 j with h1 | h1
    · exact r.lt (G.lt x h1)
    · exact r.lt (O x h1)
theorem P6.app {P:Program}{α:Type}{e:MN α}(O:e.Plain){t T Tr bytes:Nat}{z:Value}(X:Pa P t Tr 1 bytes z)(ty:TypeId){w:World}{B M M':List Nat}{a b a':Option Addr}{c d D:Nat}{g:List (List α)}{ys:List α}
    (h:P6 e T Tr w B a c g none) (hs:Ma M0N w M b d [(a',ys.length,D)]) (H:∀ x∈B,x∈M) (G:M9 e T w M' a' D ys) (hd:∀ x∈ML a',x∉B) (F:∀ x∈B,x<w.heap.size) (I:g.length+1≤4294967296) :
    ∃ j q w' A,(Builtin.append_ #[t,t] ty [.slice a g.length c,.slice b 1 d].toArray).run P w=.ok (.slice j (g++[ys]).length q) w'∧Ev (ML a'++B) w w'∧Ev B w w'∧
      (∀ x∈A,(x∈ML a'++B∨w.heap.size≤x)∧x<w'.heap.size)∧P6 e T Tr w' A j q (g++[ys]) none:=by
  obtain ⟨j,q,w',U,r,h1,E,J⟩:=P6.append (P:=P) O X ty h (hs.sub H) G hd F I;refine ⟨j,q,w',_,U,r.sub (fun x u=>List.mem_append_right _ (h1 x u)),r.sub h1,fun x u=>?_,J⟩;rcases List.mem_append.1 u with h3 | h3
  · exact ⟨(E x h3).1.imp (fun h=>List.mem_append_right _ h) id,(E x h3).2⟩
  · refine ⟨.inl h3,?_⟩;rcases List.mem_append.1 h3 with h4 | h4
    · exact r.lt (G.lt x h4)
    · exact r.lt (F x h4)
theorem P6.mk {P:Program}{α:Type}(e:MN α){t T Tr bytes:Nat}(D:Pa P t Tr 1 bytes (.slice none 0 0))(w:World)(n:Int)(q:0≤n)(B:n≤4294967296) :
    ∃ a' g w' j,(Instr.makeSlice t (.int .i64 n) (.int .i64 n)).run P w=.ok (.slice a' (List.replicate n.toNat ([]:List α)).length g) w'∧Ev [] w w'∧
      (∀ x∈j,w.heap.size≤x∧x<w'.heap.size)∧P6 e T Tr w' j a' g (List.replicate n.toNat ([]:List α)) none:=by
  obtain ⟨a',g,w',h1,r,u,A⟩:=P6.make (P:=P) (T:=T) e D w n q B;exact ⟨a',g,w',_,h1,r,u,A⟩
theorem M7P {ls:List (List Nat)}(i:Nat){A q r:List Nat}(u:ls[i]? = some A)(h1:∀ x∈q,x∈A)(B:∀ x∈r,x∈A):∀ x∈fl (q::ls.set i r),x∈fl ls:=by
  intro x D;obtain ⟨l,g,j⟩:=(Mx _ _).1 D;cases g with
  | head=>exact (Mx _ _).2 ⟨A,List.mem_of_getElem? u,h1 x j⟩
  | tail _ g=>
    rcases List.mem_or_eq_of_mem_set g with h3 | h3
    · exact (Mx _ _).2 ⟨l,h3,j⟩
    · subst h3; exact (Mx _ _).2 ⟨A,List.mem_of_getElem? u,B x j⟩
theorem ZH {ls:List (List Nat)}(i j:Nat){A B C:List Nat}(r:ls[i]? = some A)(u:ls[j]? = some B)(q:∀ x∈C,x∈A∨x∈B):∀ x∈fl ((ls.set j C).eraseIdx i),x∈fl ls:=by
  intro x E;obtain ⟨l,D,g⟩:=(Mx _ _).1 E;rcases List.mem_or_eq_of_mem_set (List.mem_of_mem_eraseIdx D) with h3 | h3
  · exact (Mx _ _).2 ⟨l,h3,g⟩
  · subst h3;rcases q x g with h4 | h4
    · exact (Mx _ _).2 ⟨A,List.mem_of_getElem? r,h4⟩
    · exact (Mx _ _).2 ⟨B,List.mem_of_getElem? u,h4⟩
def NP (g:List Nat) (N:Nat) (ls:List (List Nat)):Prop:=∀ l∈ls,∀ b∈l,b∈g∨N≤b
theorem NP.init (ls:List (List Nat))(N:Nat):NP (fl ls) N ls:=fun l j _ g=>.inl ((Mx _ _).2 ⟨l,j,g⟩)
theorem NP.nil (g:List Nat)(N:Nat):NP g N []:=fun _ h=>by cases h
theorem NP.cons {g:List Nat}{N:Nat}{l:List Nat}{ls:List (List Nat)}(h1:∀ b∈l,b∈g∨N≤b)(r:NP g N ls):NP g N (l::ls):=fun u j b q=>by
  cases j with
  | head=>exact h1 b q
  | tail _ j=>exact r u j b q
theorem NP.at {g:List Nat}{N:Nat}{ls:List (List Nat)}(h:NP g N ls)(i:Nat){A:List Nat}(j:ls[i]? = some A):∀ b∈A,b∈g∨N≤b:=h A (List.mem_of_getElem? j)
theorem NP.mem {g:List Nat}{N:Nat}{ls:List (List Nat)}(h:NP g N ls):∀ b∈fl ls,b∈g∨N≤b:=fun b j=>by
  obtain ⟨l,r,q⟩:=(Mx _ _).1 j;exact h l r b q
theorem FR.mem {N:Nat}{ls:List (List Nat)}(h:FR N ls):∀ b∈fl ls,N≤b:=fun b g=>by
  obtain ⟨l,q,j⟩:=(Mx _ _).1 g;exact h l q b j
theorem MS.fold {w:World}{P R:List (List Nat)}(h:MS w (P++R)):MS w (P++[fl R]):=by
  have u:=List.pairwise_append.1 h.pd;refine ⟨List.pairwise_append.2 ⟨u.1,List.pairwise_singleton _ _,fun A D B q x F G=>?_⟩,fun l g b r=>?_⟩
  · simp only [List.mem_singleton] at q;subst q;obtain ⟨l,g,j⟩:=(Mx _ _).1 G;exact u.2.2 A D l g x F j
  · rcases List.mem_append.1 g with h1 | h1
    · exact h.lt l (List.mem_append_left _ h1) b r
    · simp only [List.mem_singleton] at h1;subst h1;obtain ⟨H,E,j⟩:=(Mx _ _).1 r;exact h.lt H (List.mem_append_right _ E) b j
theorem MS.right {w:World}{P R:List (List Nat)}(h:MS w (P++R)):MS w R:=⟨(List.pairwise_append.1 h.pd).2.1,fun l j b g=>h.lt l (List.mem_append_right _ j) b g⟩
theorem MS.outs {w:World}{P R:List (List Nat)}(h:MS w (P++R))(j:Nat){A:List Nat}(g:R[j]? = some A):∀ x∈A,x∉fl P:=fun x r u=>by
  obtain ⟨l,q,B⟩:=(Mx _ _).1 u;exact (List.pairwise_append.1 h.pd).2.2 l q A (List.mem_of_getElem? g) x B r
theorem Ro.call {w w':World}{LS res par R:List (List Nat)}{Mo:List Nat}(u:Ev Mo w w')(j:∀ b∈Mo,b∈fl LS)(A:FR w.heap.size res)(D:NP Mo w.heap.size par)(q:∀ x∈fl R,x∈fl LS):Ro (fl LS) w (fl (res++(par++R))) w':=
  ⟨u.sub j,fun b r=>by
    obtain ⟨l,B,g⟩:=(Mx _ _).1 r;rcases List.mem_append.1 B with h1 | h1
    · exact .inr (A l h1 b g)
    · rcases List.mem_append.1 h1 with h2 | h2
      · exact (D l h2 b g).imp (j b) id
      · exact .inl (q b ((Mx _ _).2 ⟨l,h2,g⟩))⟩
theorem M1A {P R:List (List Nat)}:∀ x∈fl R,x∈fl (P++R):=fun x j=>by
  obtain ⟨l,g,q⟩:=(Mx _ _).1 j;exact (Mx _ _).2 ⟨l,List.mem_append_right _ g,q⟩
theorem M2R {P R:List (List Nat)}:∀ x∈fl P,x∈fl (P++R):=fun x j=>by
  obtain ⟨l,g,q⟩:=(Mx _ _).1 j;exact (Mx _ _).2 ⟨l,List.mem_append_left _ g,q⟩
theorem M1B {P R:List (List Nat)}:∀ x∈fl (P++[fl R]),x∈fl (P++R):=fun x r=>by
  obtain ⟨l,j,g⟩:=(Mx _ _).1 r;rcases List.mem_append.1 j with h | h
  · exact (Mx _ _).2 ⟨l,List.mem_append_left _ h,g⟩
  · simp only [List.mem_singleton] at h;subst h;obtain ⟨A,q,u⟩:=(Mx _ _).1 g;exact (Mx _ _).2 ⟨A,List.mem_append_right _ q,u⟩
theorem MS.ltat {w:World}{ls:List (List Nat)}(h:MS w ls)(i:Nat){A:List Nat}(g:ls[i]? = some A):∀ x∈A,x<w.heap.size:=h.lt A (List.mem_of_getElem? g)
theorem FR.cons {N:Nat}{l:List Nat}{ls:List (List Nat)}(h1:∀ b∈l,N≤b)(g:FR N ls):FR N (l::ls):=g.push h1
theorem NP.pick {g:List Nat}{N:Nat}{ls:List (List Nat)}(h:NP g N ls)(l:List (Option Nat))(r:List (List Nat))(D:Pz ls l=some r):NP g N r:=by
  intro B A b q;rcases V6 l r D B A with rfl | ⟨j,_,u⟩
  · cases q
  · exact h B (List.mem_of_getElem? u) b q
theorem Ro.res {M M' g:List Nat}{w w':World}(h:Ro M w M' w')(hs:∀ x∈g,x∈M'):Ro M w g w':=⟨h.ev,fun b j=>h.new b (hs b j)⟩
theorem MS.call {w w':World}{P R res par:List (List Nat)}{M:List Nat}(h:MS w (P++R))(G:Ev (fl P) w w')(D:MS w' (res++(par++[M])))(H:FR w.heap.size res)(I:NP (fl P) w.heap.size par):MS w' (res++(par++R)):=by
  have q:=List.pairwise_append.1 D.pd;have O:=List.pairwise_append.1 q.2.1;have p:=List.pairwise_append.1 h.pd;refine ⟨List.pairwise_append.2 ⟨q.1,List.pairwise_append.2 ⟨O.1,p.2.1,fun A j B r x u g=>?_⟩,fun A j B r x u g=>?_⟩,fun l F b E=>?_⟩
  · rcases I A j x u with h1 | h1
    · obtain ⟨l,F,J⟩:=(Mx _ _).1 h1;exact p.2.2 l F B r x J g
    · have:=h.lt B (List.mem_append_right _ r) x g;omega
  · rcases List.mem_append.1 r with h1 | h1
    · exact q.2.2 A j B (List.mem_append_left _ h1) x u g
    · have:=H A j x u;have:=h.lt B (List.mem_append_right _ h1) x g;omega
  · rcases List.mem_append.1 F with h1 | h1
    · exact D.lt l (List.mem_append_left _ h1) b E
    · rcases List.mem_append.1 h1 with h3 | h3
      · exact D.lt l (List.mem_append_right _ (List.mem_append_left _ h3)) b E
      · exact G.lt (h.lt l (List.mem_append_right _ h3) b E)
theorem Wb.hdr {α:Type}{e:MN α}{T Tr:TypeId}{w:World}{B:List Nat}{a:Option Addr}{c:Nat}{d:List (List α)}{g i:Nat}{ai:Option Addr}{ci:Nat}{xs:List α}(hv:Wb e T w B a d g i ai ci xs){hs:List (Option Addr×Nat×Nat)}(h1:M9 M0N Tr w [] a c hs){q:Option Addr×Nat×Nat}(O:hs[i]? = some q) :
    q=(ai,xs.length,ci):=by
  rcases h1 with ⟨A,_,_⟩ | ⟨D,cur,u,I,Z,X,Y,E⟩
  · rw [hv.eq] at A; cases A
  · have J:g=D:=by rw [hv.eq] at u; cases u; rfl
    subst J;obtain ⟨cs,F,H⟩:=E i _ O;have G:cs=[.slice q.1 q.2.1 q.2.2]:=F;have j:=hv.cell.at_ 0 _ rfl;have r:=H 0 (.slice q.1 q.2.1 q.2.2) (by rw [G]; rfl);rw [PG I] at j;rw [M4o,Nat.mul_one] at r;rw [r] at j;simp only [Option.some.injEq,Value.slice.injEq] at j;obtain ⟨j,r,U⟩:=j;rcases q with ⟨q1,q2,q3⟩
    simp_all
theorem Wb.store {P:Program}{α:Type}{e:MN α}{te T Tr:TypeId}{w:World}{B:List Nat}{a:Option Addr}{c:Nat}{d:List (List α)}{g i:Nat}{ai:Option Addr}{ci:Nat}{xs:List α}{j:Int}{x y:α}{ad:Addr}(v:Value)(F:e.Plain)(ht:MT P te)
    (h:P6 e T Tr w B a c d none) (hv:Wb e T w B a d g i ai ci xs) (hx:idx xs j=some x) (aj:∀ k,ai=some ⟨k,0,none⟩→ad=⟨k,j.toNat*e.n,none⟩)
    (h1:v.oneCell'=true) (hn:Nat.blt 0 e.n=true) (hy:∀ w M cs,e.R w M cs x→e.R w M (cs.set 0 v) y) :
    ∃ w',(Instr.storeAt te (.pointer (some ad)) v).run P w=.ok () w'∧Ev B w w'∧Wb e T w' B a (d.set i (xs.set j.toNat y)) g i ai ci (xs.set j.toNat y)∧P6 e T Tr w' B a c (d.set i (xs.set j.toNat y)) none:=by
  obtain ⟨k,ha⟩:∃ k,ai=some ⟨k,0,none⟩:=by
    rcases hv.row with ⟨_,_,h⟩ | ⟨k,_,h,_⟩
    · obtain ⟨h0,J,_⟩:=R7 hx;rw [h] at J;exact absurd J (by simp; omega)
    · exact ⟨k,h⟩
  have aa:=hv.row;rw [ha] at aa;obtain ⟨w',Z,D,X⟩:=M1z (P:=P) (M:=[k]) (y:=y) 0 v ht (M9.plain (M':=[k]) F aa) (by simp) hx h1 hn hy;rw [Nat.add_zero] at Z;have ak:k∈B:=hv.sub k (by rw [ha]; simp [ML]);obtain ⟨hs,o1,o2,o3,o4,o5⟩:=h;have O:i<d.length:=(List.getElem?_eq_some_iff.1 hv.at_).1;have E:i<hs.length:=by omega
  have G:=hv.hdr o1 (List.getElem?_eq_getElem E);obtain ⟨q1,q2,q3⟩:=o4 i hs[i] xs (List.getElem?_eq_getElem E) hv.at_ (by simp);have am:k∉ML a:=(q3 k (by rw [G,ha]; simp [ML])).2;have Y:∀ b∈ML a,b∉[k]:=fun b r u=>by simp only [List.mem_singleton] at u; subst u; exact am r
  have U:(xs.set j.toNat y).length=xs.length:=by simp
  refine ⟨w',by rw [aj k ha]; exact Z,D.sub (fun b r=>by simp only [List.mem_singleton] at r; subst r; exact ak),⟨hv.eq,hv.gB,by rw [ha]; exact M9.plain (M':=[]) F X,?_,hv.sub,by rw [List.getElem?_set]; simp [O]⟩,hs,M9.evp XZ o1 D Y,by rw [List.length_set]; exact o2,o3,fun n q zs H A ao=>?_,o5⟩
  · rw [U]; exact hv.cell.evp D (Y g (by rw [hv.eq]; simp [ML]))
  · by_cases I:n=i
    · subst I;rw [List.getElem?_set] at A;simp [O] at A;subst A;rw [List.getElem?_eq_getElem E] at H;cases H;rw [G];refine ⟨by rw [ha]; exact M9.plain (M':=[]) F X,by rw [U],fun b r=>?_⟩;have:=q3 b (by rw [G]; exact r);exact this
    · rw [List.getElem?_set,if_neg (Ne.symm I)] at A;obtain ⟨r1,r2,r3⟩:=o4 n q zs H A ao;refine ⟨M9.evp F r1 D (fun b r u=>?_),r2,r3⟩;simp only [List.mem_singleton] at u;subst u;exact o5 n i q hs[i] H (List.getElem?_eq_getElem E) I (by simp) (by simp) b r (by rw [G,ha]; simp [ML])
theorem M2t {k:IntKind}{w:World}{M:List Nat}{cs:List Value}{x y:Int}(h:(Zd k).R w M cs x):(Zd k).R w M (cs.set 0 (.int k y)) y:=by
  have g:cs=[.int k x]:=h;subst g; rfl
theorem WE {P:Program}{w:World}(k:IntKind)(i:Int)(y:Nat)(c:BoundsCode)(g:0≤i)(h1:i≤y):(Instr.sliceBound (.int k i) y c).run P w=.ok i.toNat w:=by
  simp only [Instr.sliceBound,asIntOf,Sem.run_bind,Sem.run_pure,Result.andThen_ok,g,h1,and_self,if_true]
def Ml (o:Option Int) (d:Nat):Int:=match o with | some i=>i | none=>d
theorem M6l {P:Program}{w:World}(len cap:Nat)(g j q:Option Int)(E:q.isSome=true→j.isSome=true)(h1:0≤Ml g 0)(u:Ml g 0≤Ml j len)(A:Ml j len≤Ml q cap)(B:Ml q cap≤cap) :
    (Instr.sliceBounds true len cap (g.map (.int .i64 ·)) (j.map (.int .i64 ·)) (q.map (.int .i64 ·))).run P w=.ok ((Ml g 0).toNat,(Ml j len).toNat,(Ml q cap).toNat) w:=by
  unfold Instr.sliceBounds;cases q with
  | none=>
    simp only [Ml] at *
    cases j with
    | none=>
      cases g with
      | none=>simp [Sem.run_bind,Sem.run_pure,Ml]
      | some l=>simp only [Option.map,Sem.run_bind,Sem.run_pure,Result.andThen_ok]; rw [WE _ _ _ _ h1 (by simpa [Ml] using u)]; simp [Sem.run_bind,Sem.run_pure,Ml]
    | some r=>
      simp only [Ml] at *
      simp only [Option.map,Sem.run_bind,Sem.run_pure,Result.andThen_ok];rw [WE _ _ _ _ (by cases g <;> simp_all <;> omega) A];cases g with
      | none=>simp [Sem.run_bind,Sem.run_pure,Ml]
      | some l=>simp only [Result.andThen_ok,Option.map]; simp only [Sem.run_bind]; rw [WE _ _ _ _ h1 (show l≤_ by have:l≤r:=u; omega)]; simp [Sem.run_bind,Sem.run_pure,Ml]
  | some m=>
    cases j with
    | none=>simp at E
    | some r=>
      simp only [Ml] at *
      have D:0≤r:=by cases g <;> simp_all <;> omega
      simp only [Option.map,Sem.run_bind,Sem.run_pure,Result.andThen_ok];rw [WE _ _ _ _ (by omega) B];simp only [Result.andThen_ok,Sem.run_bind];rw [WE _ _ _ _ D (by omega)];cases g with
      | none=>simp [Sem.run_bind,Sem.run_pure,Ml]
      | some l=>simp only [Result.andThen_ok,Option.map]; simp only [Sem.run_bind]; rw [WE _ _ _ _ h1 (show l≤_ by have:l≤r:=u; omega)]; simp [Sem.run_bind,Sem.run_pure,Ml]
theorem Xt {P:Program}{Mo:List Nat}{t el n:Nat}{w:World}(r:MJ P t el n)(a:Option Addr)(len c:Nat)(g q j:Option Int)(D:j.isSome=true→q.isSome=true)(h1:0≤Ml g 0)(u:Ml g 0≤Ml q len)(A:Ml q len≤Ml j c)(B:Ml j c≤c) :
    ME P Mo (Instr.sliceAt t (.slice a len c) (g.map (.int .i64 ·)) (q.map (.int .i64 ·)) (j.map (.int .i64 ·))) w
      (.slice (if (Ml j c).toNat=(Ml g 0).toNat then a else a.map (·.add ((Ml g 0).toNat*n))) ((Ml q len).toNat-(Ml g 0).toNat) ((Ml j c).toNat-(Ml g 0).toNat)):=by
  intro w' _;simp only [Instr.sliceAt,Instr.slice,Sem.run_bind,run_underlying r.1,Result.andThen_ok];rw [M6l len c g q j D h1 u A B];simp only [Result.andThen_ok,r.2 w',Sem.run_pure]
theorem Ma.cut {α:Type}{e:MN α}{w:World}{M:List Nat}{a:Option Addr}{c:Nat}{xs:List α}(h:Ma e w M a c xs)(l g m:Nat)(h1:l≤g)(J:g≤xs.length)(O:g≤m)(U:m≤c) :
    Ma e w M (if m=l then a else a.map (·.add (l*e.n))) (m-l) ((xs.drop l).take (g-l)):=by
  have r:((xs.drop l).take (g-l)).length=g-l:=by rw [List.length_take,List.length_drop]; omega
  refine ⟨by rw [r]; omega,Nat.le_trans (by omega) h.cap,fun q=>?_,fun ad ha B=>?_⟩
  · have ha:a=none:=by
      by_cases j:m=l
      · rw [if_pos j] at q; exact q
      · rw [if_neg j] at q; simpa using q
    rw [h.nil ha]; simp
  · rw [r] at B;have j:m≠l:=by omega
    rw [if_neg j] at ha;cases a with
    | none=>simp at ha
    | some b=>
      simp only [Option.map_some,Option.some.injEq] at ha;obtain ⟨D,E,F,G⟩:=h.at_ b rfl (by omega);subst ha;rw [MM D];refine ⟨rfl,E,F,fun i x u=>?_⟩;have A:i<g-l:=by
        have:=(List.getElem?_eq_some_iff.1 u).1
        rwa [r] at this
      rw [List.getElem?_take,if_pos A,List.getElem?_drop] at u;obtain ⟨cs,H,I⟩:=G _ _ u;refine ⟨cs,H,fun k v hv=>?_⟩;have:=I k v hv;show w.cell? ⟨b.block,b.off+l*e.n+(i*e.n+k),none⟩=some v
      rw [show b.off+l*e.n+(i*e.n+k)=b.off+((l+i)*e.n+k) by rw [Nat.add_mul]; omega];exact this
theorem M9U {α:Type}{xs:List α}{l g:Int}(j:0≤l)(h1:l≤g)(q:g≤xs.length):((xs.drop l.toNat).take (g.toNat-l.toNat)).length=g.toNat-l.toNat:=by
  rw [List.length_take,List.length_drop]; omega
theorem M9.trunc {α:Type}{e:MN α}{T:TypeId}{w:World}{M:List Nat}{a:Option Addr}{c:Nat}{xs:List α}(h:M9 e T w M a c xs)(n:Nat):M9 e T w M a c (xs.take n):=by
  rcases h with ⟨ha,A,rfl⟩ | ⟨g,cur,ha,B,h1,q,r,u⟩
  · exact .inl ⟨ha,A,by simp⟩
  · refine .inr ⟨g,cur,ha,B,Nat.le_trans (by rw [List.length_take]; omega) h1,q,r,fun i x j=>u i x ?_⟩;rw [List.getElem?_take] at j
    split at j
    · exact j
    · cases j
theorem M5h {P:Program}{Mo:List Nat}{α:Type}{t el n:Nat}{w:World}(D:MJ P t el n)(a:Option Addr)(c:Nat)(xs:List α)(i:Int)(B:0≤i)(h1:i≤xs.length)(E:xs.length≤c) :
    ME P Mo (Instr.sliceAt t (.slice a xs.length c) none (some (.int .i64 i)) none) w (.slice a (xs.take i.toNat).length c):=by
  have this:=Xt (P:=P) (Mo:=Mo) (w:=w) D a xs.length c none (some i) none (by simp) (by simp [Ml]) (by simpa [Ml] using B) (by simp [Ml]; omega) (by simp [Ml]);have r:(xs.take i.toNat).length=i.toNat:=by rw [List.length_take]; omega
  have u:∀ b:Addr,b.add 0=b:=fun b=>by simp [Addr.add]
  have g:(Ml none 0).toNat=0:=rfl;have j:(Ml none c).toNat=c:=by simp [Ml]
  have q:(Ml (some i) xs.length).toNat=i.toNat:=rfl;have hv:(Value.slice (if (Ml none c).toNat=(Ml none 0).toNat then a else a.map (·.add ((Ml none 0).toNat*n))) ((Ml (some i) xs.length).toNat-(Ml none 0).toNat) ((Ml none c).toNat-(Ml none 0).toNat))=.slice a (xs.take i.toNat).length c:=by
    rw [g,j,q,r];have A:(if c=0 then a else a.map (·.add (0*n)))=a:=by
      split
      · rfl
      · cases a <;> simp [u]
    rw [A];simp
  rw [hv] at this;exact this
theorem M9.le {α:Type}{e:MN α}{T:TypeId}{w:World}{M:List Nat}{a:Option Addr}{c:Nat}{xs:List α}(h:M9 e T w M a c xs):xs.length≤c:=by
  rcases h with ⟨_,_,rfl⟩ | ⟨g,cur,_,_,h1,_⟩
  · simp
  · exact h1
theorem M5i {α:Type}{e:MN α}{T:Nat}{w:World}{M:List Nat}{g c:Nat}{xs:List α}{i:Int}{x:α}(h:M9 e T w M (some ⟨g,0,none⟩) c xs)(E:idx xs i=some x) :
    ∃ cs,Ms w [] ⟨g,i.toNat*e.n,none⟩ cs∧e.R w M cs x:=by
  obtain ⟨G,h1,q⟩:=R7 E;rcases h with ⟨D,_,_⟩ | ⟨F,cur,B,j,H,I,J,r⟩
  · cases D
  · cases B;obtain ⟨cs,u,A⟩:=r _ _ q;exact ⟨cs,⟨rfl,by simp,MA j,fun k v hv=>by rw [PG j]; exact A k v hv⟩,u⟩
theorem Ma.sliced {P:Program}{Mo:List Nat}{α:Type}{e:MN α}{t el:Nat}{w:World}{M:List Nat}{a:Option Addr}{c:Nat}{xs:List α}(D:MJ P t el e.n)(h:Ma e w M a c xs)(g j:Option Int)(h1:0≤Ml g 0∧Ml g 0≤Ml j xs.length∧Ml j xs.length≤xs.length) :
    ∃ a' r,ME P Mo (Instr.sliceAt t (.slice a xs.length c) (g.map (.int .i64 ·)) (j.map (.int .i64 ·)) none) w (.slice a' ((xs.drop (Ml g 0).toNat).take ((Ml j xs.length).toNat-(Ml g 0).toNat)).length r)∧
      Ma e w M a' r ((xs.drop (Ml g 0).toNat).take ((Ml j xs.length).toNat-(Ml g 0).toNat)):=by
  obtain ⟨u,A,E⟩:=h1;have F:=h.le;have q:(Ml none c).toNat=c:=by simp [Ml]
  have B:=Xt (P:=P) (Mo:=Mo) (w:=w) D a xs.length c g j none (by simp) u A (show Ml j xs.length≤(c:Int) by omega) (Int.le_refl _);have hs:=h.cut (Ml g 0).toNat (Ml j xs.length).toNat (Ml none c).toNat (by omega) (by omega) (by rw [q]; omega) (by rw [q]; omega);refine ⟨_,_,?_,hs⟩;rw [M9U u A E];exact B
theorem M4p {res par R:List (List Nat)}:∀ x∈fl (res++(par++R)),x∈fl (res++(par++[fl R])):=fun x q=>by
  obtain ⟨l,j,g⟩:=(Mx _ _).1 q;rcases List.mem_append.1 j with h2 | h2
  · exact (Mx _ _).2 ⟨l,List.mem_append_left _ h2,g⟩
  · rcases List.mem_append.1 h2 with h3 | h3
    · exact (Mx _ _).2 ⟨l,List.mem_append_right _ (List.mem_append_left _ h3),g⟩
    · exact (Mx _ _).2 ⟨_,List.mem_append_right _ (List.mem_append_right _ (List.mem_singleton.2 rfl)),(Mx _ _).2 ⟨l,h3,g⟩⟩
def WO (w:World):List Nat:=[w.heap.size,w.heap.size+1,w.heap.size+2]
theorem M3U {w:World}{A:List Nat}(h:∀ x∈A,x<w.heap.size):∀ x∈A,x∉WO w:=fun x j g=>by
  have:=h x j;simp only [WO,List.mem_cons,List.not_mem_nil,or_false] at g;omega
theorem WG {w:World}{x k:Nat}(h:x=w.heap.size+k)(g:Nat.ble k 2=true):x∈WO w:=by
  have:=Nat.le_of_ble_eq_true g;simp only [WO,List.mem_cons,List.not_mem_nil,or_false];omega
theorem ZI {w0 w:World}{A B:List Nat}{k:Nat}(h:∀ x∈B,x∈A∨x=w.heap.size)(g:∀ x∈A,x∈WO w0)(hs:w.heap.size=w0.heap.size+k)(j:Nat.ble k 2=true):∀ x∈B,x∈WO w0:=fun x q=>by
  rcases h x q with h1 | h1
  · exact g x h1
  · exact WG (h1.trans hs) j
end Go.V
