
/- More laws of memory: an append to a cut whose capacity ends with it. Conditions: those of each theorem. -/
import Derived.Test.YtlihkahbjlnbbaaGreatH
import Derived.ArgAppend
import Derived.Laws.Strings2
import Derived.Laws.Slices
import Derived.Laws.BytesString
import Derived.Laws.IdiomStrings
import Derived.Lib.ConvBytes
set_option linter.unusedSimpArgs false
set_option linter.unusedVariables false
namespace Go.V
open Go
theorem M4q {P:Program}{Mo:List Nat}{α:Type}{t el n:Nat}{w:World}(A:MJ P t el n)(a:Option Addr)(c:Nat)(xs:List α)(i:Int)(B:0≤i)(h1:i≤xs.length)(D:xs.length≤c) :
    ME P Mo (Instr.sliceAt t (.slice a xs.length c) none (some (.int .i64 i)) (some (.int .i64 i))) w (.slice a (xs.take i.toNat).length i.toNat):=by
  have this:=Xt (P:=P) (Mo:=Mo) (w:=w) A a xs.length c none (some i) (some i) (by simp) (by simp [Ml]) (by simp only [Ml]; omega) (by simp [Ml]) (by simp only [Ml]; omega);have r:(xs.take i.toNat).length=i.toNat:=by rw [List.length_take]; omega
  have u:∀ b:Addr,b.add 0=b:=fun b=>by simp [Addr.add]
  have g:(Ml none 0).toNat=0:=rfl;have j:(Ml (some i) c).toNat=i.toNat:=rfl;have q:(Ml (some i) xs.length).toNat=i.toNat:=rfl;have hv:(Value.slice (if (Ml (some i) c).toNat=(Ml none 0).toNat then a else a.map (·.add ((Ml none 0).toNat*n))) ((Ml (some i) xs.length).toNat-(Ml none 0).toNat) ((Ml (some i) c).toNat-(Ml none 0).toNat))=.slice a (xs.take i.toNat).length i.toNat:=by
    rw [g,j,q,r]
    split
    · rw [Nat.sub_zero]
    · cases a <;> simp [u]
  rw [hv] at this;exact this
theorem M5j {P:Program}{α:Type}{e:MN α}{t T bytes:Nat}{z:Value}(A:Pa P t T e.n bytes z)(ty:TypeId){w:World}{M M2:List Nat}{a b:Option Addr}{c d:Nat}{xs ys:List α}(i:Int)
    (h:M9 e T w M a c xs) (aF:∀ x∈ML a,x∈M) (U:Ma e w M2 b d ys) (hR:∀ cs y,e.R w M2 cs y→e.R w M cs y)
    (D:0≤i∧i≤xs.length∧0<ys.length∧(xs.take i.toNat).length+ys.length≤4294967296) :
    ∃ a' Y w',(Builtin.append_ #[t,t] ty [.slice a (xs.take i.toNat).length i.toNat,.slice b ys.length d].toArray).run P w=.ok (.slice a' (xs.take i.toNat++ys).length Y) w'∧Ev (ML a) w w'∧
      (∀ x∈ML a',(x∈ML a∨w.heap.size≤x)∧x<w'.heap.size)∧(∀ x∈ML a',x∈ML a∨x=w.heap.size)∧(∀ M',(∀ x∈M',x∈M∨w.heap.size≤x)→M9 e T w' M' a' Y (xs.take i.toNat++ys)):=by
  obtain ⟨h0,h1,ar,D⟩:=D;obtain ⟨I,hi,hz,O,ab⟩:=A.info;have an:0<e.n:=Nat.le_of_ble_eq_true A.pos;have aE:bytes≤4096:=Nat.le_of_ble_eq_true A.small;have F:(xs.take i.toNat).length=i.toNat:=by rw [List.length_take]; omega
  have hm:ys≠[]:=List.length_pos_iff.1 ar;cases b with
  | none=>exact absurd (U.nil rfl) hm
  | some ad=>
    obtain ⟨X,ak,aj,aY,aC⟩:=U.cells an ar;rcases h with ⟨rfl,rfl,rfl⟩ | ⟨g,cur,rfl,hg,q1,q2,q3,q4⟩
    · have aA:i=0:=by simp only [List.length_nil] at h1; omega
      subst aA;exact Xs (P:=P) A ty (M9.nil e T w M) aF U hR (by simpa using D)
    · have ac:(i.toNat+ys.length)*bytes≤140737488355328:=by
        rw [F] at D;have:=Nat.mul_le_mul D aE;omega
      have aU:i.toNat*e.n≤cur.size:=by rw [q3]; exact Nat.mul_le_mul_right _ (by omega)
      have G:(cur.toList.take (i.toNat*e.n)).length=i.toNat*e.n:=by simp; omega
      have am:∀ j u,(cur.toList.take (i.toNat*e.n))[j]? = some u→w.cell? ((⟨g,0,none⟩:Addr).add j)=some u:=by
        intro j u r;rw [Addr.add_lit,Nat.zero_add,PG hg];rw [List.getElem?_take] at r
        split at r
        · simpa using r
        · cases r
      have aw:i.toNat+ys.length≤maxLen:=by unfold maxLen; omega
      obtain ⟨v',w',hr,aD,B⟩:=run_append_arg_grows (P:=P) w t ty T I z e.n bytes A.und hi hz O ab A.zs an ⟨g,0,none⟩ i.toNat i.toNat (cur.toList.take (i.toNat*e.n)) G am ad ys.length d X ak aj (by omega) aw ac;have ap:=run_append_grow (P:=P) w t ty T I z A.und hi hz ⟨g,0,none⟩ i.toNat i.toNat (cur.toList.take (i.toNat*e.n)) (by rw [O]; exact G) am ad ys.length d X (by rw [O]; exact ak) aj (by omega) (by omega) (growslice_fits (by omega) (by rw [ab]; exact ac));have hv:v'=.slice (some ⟨w.heap.size,0,none⟩) (i.toNat+ys.length) (grownCap w (i.toNat+ys.length) i.toNat T):=by
        rw [hr] at ap
        injection ap
      subst hv;have ae:Ev [] w w':=⟨B.os,B.tape,B.output,B.size,fun k hk _=>B.block k hk (by simp)⟩
      rcases aD.2 with ⟨e0,_⟩ | ⟨g',aO,Z,ay,_,af,r1,r2,r3,r4⟩
      · cases e0
      · cases ay;refine ⟨some ⟨w.heap.size,0,none⟩,_,w',by rw [List.length_append,F]; exact hr,ae.sub (by simp),fun x q=>?_,fun x q=>?_,fun M' ax=>?_⟩
        · simp only [ML,List.mem_singleton] at q;subst q;exact ⟨.inr (Nat.le_refl _),MA af⟩
        · simp only [ML,List.mem_singleton] at q;exact .inr q
        · have aq:Ro M w M' w':=⟨ae.sub (by simp),ax⟩
          refine .inr ⟨w.heap.size,Z,rfl,af,by rw [List.length_append,F]; exact r1,r2,r3,fun j x q=>?_⟩;have fin:∀ (j:Nat) (v:Value),(cur.toList.take (i.toNat*e.n)++X)[j]? = some v→Z[j]? = some v:=by
            intro j v hv;rw [← r4,List.getElem?_take] at hv
            split at hv
            · simpa using hv
            · cases hv
          by_cases ah:j<i.toNat
          · rw [List.getElem?_append_left (by omega),List.getElem?_take,if_pos ah] at q;obtain ⟨cs,E,H⟩:=q4 j x q;refine ⟨cs,e.step E aq,fun k v hv=>fin _ _ ?_⟩;have J:=H k v hv;have hk:k<e.n:=by rw [← e.len E]; exact (List.getElem?_eq_some_iff.1 hv).1
            have r:j*e.n+k<i.toNat*e.n:=by
              have:(j+1)*e.n≤i.toNat*e.n:=Nat.mul_le_mul_right _ ah;rw [Nat.add_mul] at this; omega
            rw [List.getElem?_append_left (by rw [G]; exact r),List.getElem?_take,if_pos r]
            simpa using J
          · rw [List.getElem?_append_right (by omega),F] at q;obtain ⟨cs,E,H⟩:=aC _ x q;refine ⟨cs,e.step (hR _ _ E) aq,fun k v hv=>fin _ _ ?_⟩;have J:=H k v hv;have aX:i.toNat*e.n≤j*e.n:=Nat.mul_le_mul_right _ (by omega);rw [List.getElem?_append_right (by omega),G];rw [show j*e.n+k-i.toNat*e.n=(j-i.toNat)*e.n+k by rw [Nat.sub_mul]; omega];exact J
def ofB (l:List Int):List UInt8:=l.map fun n=>UInt8.ofNat n.toNat
def sAt (l:List UInt8) (i:Int):Option Int:=(idx l i).map fun b=>(b.toNat:Int)
theorem M5k (l:List UInt8):(⟨⟨l⟩⟩:ByteArray).size=l.length:=rfl
theorem M8D (l:List UInt8):(⟨⟨l⟩⟩:ByteArray).toList=l:=by rw [ByteArray.toList_eq]
theorem Rp {P:Program}{Mo:List Nat}{t:Nat}{w:World}{l:List UInt8}{i x:Int}(B:P.underlying t=some .string)(g:sAt l i=some x) :
    ME P Mo (Instr.index t (Vs l) (.int .i64 i)) w (.int .u8 x):=by
  intro w' _;unfold sAt at g;cases j:idx l i with
  | none=>rw [j] at g; cases g
  | some b=>
    rw [j] at g;simp only [Option.map_some,Option.some.injEq] at g;subst g;obtain ⟨r,h1,q⟩:=R7 j;rw [run_index_string w' t _ .i64 i B,dif_pos ⟨r,by rw [M5k]; omega⟩];have u:l[i.toNat]'(by omega)=b:=by rw [List.getElem?_eq_getElem (by omega)] at q; exact Option.some.inj q
    have A:(⟨⟨l⟩⟩:ByteArray)[i.toNat]'(by rw [M5k]; omega)=b:=u;rw [A]
theorem VQ {P:Program}{Mo:List Nat}{t ty:Nat}{w:World}(g:P.underlying t=some .string)(l:List UInt8) :
    ME P Mo (Builtin.len_ #[t] ty [Vs l].toArray) w (.int .i64 (l.length:Int)):=by
  intro w' _;exact run_len_string w' t ty _ g
theorem MbC {P:Program}{op:BinOp}{t:TypeId}{xo yo:Operand}{a b:List UInt8}{v:Value}(h:∀ w,(Op.stringOp op ⟨⟨a⟩⟩ ⟨⟨b⟩⟩).run P w=.ok v w)(hs:(op matches .shl | .shr)=false) :
    ∀ K:Value→Prop,K v→Vd P op t xo yo (Vs a) (Vs b) K:=by
  intro K g;refine ⟨v,fun w=>?_,g⟩;have q:(eqGuard op t xo yo (Vs a) (Vs b)).run P w=.ok () w:=by
    unfold eqGuard;cases op <;> rfl
  rw [run_bind,q];have j:binOp op t (Vs a) (Vs b)=Op.stringOp op ⟨⟨a⟩⟩ ⟨⟨b⟩⟩:=by
    cases op <;> simp [binOp]
  rw [j];exact h w
theorem M9W {P:Program}{t:TypeId}{xo yo:Operand}{a b:List UInt8}:∀ K:Value→Prop,K (.bool (a==b))→Vd P .eql t xo yo (Vs a) (Vs b) K:=by
  refine MbC (fun w=>?_) rfl;simp only [Op.stringOp,M8D,Sem.run_pure]
theorem M9X {P:Program}{q dst el:TypeId}(hs:P.underlying q=some (.slice el))(I:P.underlying el=some (.int .u8))(hd:P.underlying dst=some .string)
    {w:World} {M:List Nat} {a:Option Addr} {c:Nat} {xs:List Int} (h:Ma (Zd .u8) w M a c xs) :
    (convert q dst (.slice a xs.length c)).run P w=.ok (Vs (ofB xs)) w:=by
  rw [run_convert_bytes_string w q dst el a _ c hs I hd];have key:∀ (xs:List Int) (s:ByteArray),xs.foldl (fun r n=>r.push (UInt8.ofNat n.toNat)) s=⟨s.data++(ofB xs).toArray⟩:=by
    intro xs
    induction xs with
    | nil=>intro s; simp [ofB]
    | cons x xs O=>
      intro s;rw [List.foldl_cons,O];simp [ofB,ByteArray.push]
  cases a with
  | none=>
    have:=h.nil rfl;subst this;rfl
  | some ad=>
    have J:(loadCells ad xs.length).run P w=.ok (xs.map (Value.int .u8)).toArray w:=by
      have:=run_loadCells_list (P:=P) w ad (xs.map (Value.int .u8)) (fun j v g=>by
        have A:j<xs.length:=by
          have:=(List.getElem?_eq_some_iff.1 g).1
          simpa using this
        obtain ⟨h1,U,X,D⟩:=h.at_ ad rfl (by omega);obtain ⟨cs,E,G⟩:=D j _ (List.getElem?_eq_getElem A);have F:cs=[.int .u8 xs[j]]:=E;have u:=G 0 _ (by rw [F]; rfl);have H:(Zd .u8).n=1:=rfl;rw [H,Nat.mul_one,Nat.add_zero] at u;rw [MM h1,u];rw [List.getElem?_map,List.getElem?_eq_getElem A] at g;exact g)
      simpa using this
    rw [run_bytesToString w ad _ c xs J,key];have B:ByteArray.empty.data = #[]:=rfl;rw [B,Array.empty_append]
def M2i {α:Type} (e:MN α) (T:TypeId) (w:World) (M:List Nat) (a:Option Addr) (c:Nat) (xs:List α):Prop:=
  ∃ g cur j q,a=some ⟨g,0,none⟩∧w.heap[g]? = some (.cells cur T (j,q))∧cur.size≤j∧xs.length≤c∧c≤maxLen∧cur.size=c*e.n∧
    ∀ (i:Nat) (x:α),xs[i]? = some x→∃ cs,e.R w M cs x∧∀ (k:Nat) (v:Value),cs[k]? = some v→cur[i*e.n+k]? = some v
theorem M2i.lt {α:Type}{e:MN α}{T:TypeId}{w:World}{M:List Nat}{a:Option Addr}{c:Nat}{xs:List α}(h:M2i e T w M a c xs):∀ b∈ML a,b<w.heap.size:=by
  obtain ⟨g,cur,u,r,rfl,q,_⟩:=h;intro b j;simp only [ML,List.mem_singleton] at j;subst j; exact MA q
theorem M2i.step {α:Type}{e:MN α}{T:TypeId}{w w':World}{M M' Mo:List Nat}{a:Option Addr}{c:Nat}{xs:List α}(h:M2i e T w M a c xs)(hs:Ro M w M' w')(D:Ev Mo w w')(G:∀ b∈ML a,b∉Mo):M2i e T w' M' a c xs:=by
  obtain ⟨g,cur,I,F,rfl,E,j,h1,q,r,u⟩:=h;refine ⟨g,cur,I,F,rfl,D.box E (G g (by simp [ML])),j,h1,q,r,fun i x H=>?_⟩;obtain ⟨cs,A,B⟩:=u i x H;exact ⟨cs,e.step A hs,B⟩
theorem M2i.sub {α:Type}{e:MN α}{T:TypeId}{w:World}{M M':List Nat}{a:Option Addr}{c:Nat}{xs:List α}(h:M2i e T w M a c xs)(hs:∀ b∈M',b∈M):M2i e T w M' a c xs:=
  h.step (Ro.sub w hs) (Ev.refl [] w) (fun _ _ h=>by cases h)
theorem M2i.ro {α:Type}{e:MN α}{T:TypeId}{w:World}{M M':List Nat}{a:Option Addr}{c:Nat}{xs:List α}(h:M2i e T w M a c xs)(B:∀ b∈M',b∈M)(D:∀ b∈ML a,b∉M'):Ma e w M' a c xs:=by
  obtain ⟨g,cur,I,H,rfl,j,F,h1,q,G,r⟩:=h;refine ⟨h1,q,fun h=>(by cases h),fun ad ha _=>?_⟩;cases ha;refine ⟨rfl,D g (by simp [ML]),MA j,fun i x E=>?_⟩;obtain ⟨cs,u,A⟩:=r i x E;refine ⟨cs,e.step u (Ro.sub w B),fun k v hv=>?_⟩;simp only [Nat.zero_add];rw [PG j]; exact A k v hv
theorem M2i.le {α:Type}{e:MN α}{T:TypeId}{w:World}{M:List Nat}{a:Option Addr}{c:Nat}{xs:List α}(h:M2i e T w M a c xs):xs.length≤c:=by
  obtain ⟨g,cur,q,j,_,_,_,h1,_⟩:=h;exact h1
end Go.V
