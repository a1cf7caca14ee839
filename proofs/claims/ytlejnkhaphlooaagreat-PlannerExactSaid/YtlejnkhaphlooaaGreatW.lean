
/- More laws of memory: an append to a cut whose capacity ends with it. Conditions: those of each theorem. -/
import Derived.Test.YtlejnkhaphlooaaGreatH
import Derived.ArgAppend
import Derived.Laws.Strings2
import Derived.Laws.Slices
import Derived.Laws.BytesString
import Derived.Laws.IdiomStrings
import Derived.Lib.ConvBytes
set_option linter.unusedSimpArgs false
set_option linter.unusedVariables false
namespace Go.V
open Go
def sAt (l:List UInt8) (i:Int):Option Int:=(idx l i).map fun b=>(b.toNat:Int)
theorem str_size (l:List UInt8):(⟨⟨l⟩⟩:ByteArray).size=l.length:=rfl
theorem str_list (l:List UInt8):(⟨⟨l⟩⟩:ByteArray).toList=l:=by rw [ByteArray.toList_eq]
theorem reads_sindex {P:Program}{Mo:List Nat}{t:Nat}{w:World}{l:List UInt8}{i x:Int}(ht:P.underlying t=some .string)(hx:sAt l i=some x) :
    Reads P Mo (Instr.index t (Vs l) (.int .i64 i)) w (.int .u8 x):=by
  intro w' _;unfold sAt at hx;cases hb:idx l i with
  | none=>rw [hb] at hx; cases hx
  | some b=>
    rw [hb] at hx;simp only [Option.map_some,Option.some.injEq] at hx;subst hx;obtain ⟨h0,h1,h2⟩:=idx_some hb;rw [run_index_string w' t _ .i64 i ht,dif_pos ⟨h0,by rw [str_size]; omega⟩];have h3:l[i.toNat]'(by omega)=b:=by rw [List.getElem?_eq_getElem (by omega)] at h2; exact Option.some.inj h2
    have h4:(⟨⟨l⟩⟩:ByteArray)[i.toNat]'(by rw [str_size]; omega)=b:=h3;rw [h4]
theorem reads_slen {P:Program}{Mo:List Nat}{t ty:Nat}{w:World}(ht:P.underlying t=some .string)(l:List UInt8) :
    Reads P Mo (Builtin.len_ #[t] ty [Vs l].toArray) w (.int .i64 (l.length:Int)):=by
  intro w' _;exact run_len_string w' t ty _ ht
theorem reads_scut {P:Program}{Mo:List Nat}{t:Nat}{w:World}(ht:P.underlying t=some .string)(l:List UInt8)(lo hi:Option Int)
    (h:0≤bound lo 0∧bound lo 0≤bound hi l.length∧bound hi l.length≤l.length) :
    Reads P Mo (Instr.sliceAt t (Vs l) (lo.map (.int .i64 ·)) (hi.map (.int .i64 ·)) none) w (Vs ((l.drop (bound lo 0).toNat).take ((bound hi l.length).toNat-(bound lo 0).toNat))):=by
  intro w' _;rw [run_sliceAt_string w' t _ _ _ _ ht];obtain ⟨q1,q2,q3⟩:=h;have he:∀ a b,(⟨⟨l⟩⟩:ByteArray).extract a b=⟨⟨(l.drop a).take (b-a)⟩⟩:=fun a b=>ByteArray.extract_mk l a b
  cases lo with
  | none=>
    cases hi with
    | none=>
      have:=run_slice_string_all (P:=P) w' t ⟨⟨l⟩⟩ ht;rw [he] at this;exact this
    | some hi=>
      have:=run_slice_string_h (P:=P) w' t ⟨⟨l⟩⟩ ht .i64 hi (by simpa [bound] using q2) (by simpa only [bound,str_size] using q3);rw [he] at this;exact this
  | some lo=>
    cases hi with
    | none=>
      have:=run_slice_string_l (P:=P) w' t ⟨⟨l⟩⟩ ht .i64 lo (by simpa only [bound] using q1) (by simpa only [bound,str_size] using q2);rw [he] at this;exact this
    | some hi=>
      have:=run_slice_string (P:=P) w' t ⟨⟨l⟩⟩ .i64 .i64 lo hi ht (by simpa only [bound] using q1) (by simpa only [bound] using q2) (by simpa only [bound,str_size] using q3);rw [he] at this;exact this
theorem bin_s {P:Program}{op:BinOp}{t:TypeId}{xo yo:Operand}{a b:List UInt8}{v:Value}(h:∀ w,(Op.stringOp op ⟨⟨a⟩⟩ ⟨⟨b⟩⟩).run P w=.ok v w)(hs:(op matches .shl | .shr)=false) :
    ∀ K:Value→Prop,K v→vcBin P op t xo yo (Vs a) (Vs b) K:=by
  intro K hK;refine ⟨v,fun w=>?_,hK⟩;have hg:(eqGuard op t xo yo (Vs a) (Vs b)).run P w=.ok () w:=by
    unfold eqGuard;cases op <;> rfl
  rw [run_bind,hg];have hb:binOp op t (Vs a) (Vs b)=Op.stringOp op ⟨⟨a⟩⟩ ⟨⟨b⟩⟩:=by
    cases op <;> simp [binOp]
  rw [hb];exact h w
theorem bin_seq {P:Program}{t:TypeId}{xo yo:Operand}{a b:List UInt8}:∀ K:Value→Prop,K (.bool (a==b))→vcBin P .eql t xo yo (Vs a) (Vs b) K:=by
  refine bin_s (fun w=>?_) rfl;simp only [Op.stringOp,str_list,Sem.run_pure]
def OwnM {α:Type} (e:Enc α) (T:TypeId) (w:World) (M:List Nat) (a:Option Addr) (c:Nat) (xs:List α):Prop:=
  ∃ g cur lo hi,a=some ⟨g,0,none⟩∧w.heap[g]? = some (.cells cur T (lo,hi))∧cur.size≤lo∧xs.length≤c∧c≤maxLen∧cur.size=c*e.n∧
    ∀ (i:Nat) (x:α),xs[i]? = some x→∃ cs,e.R w M cs x∧∀ (k:Nat) (v:Value),cs[k]? = some v→cur[i*e.n+k]? = some v
theorem OwnM.lt {α:Type}{e:Enc α}{T:TypeId}{w:World}{M:List Nat}{a:Option Addr}{c:Nat}{xs:List α}(h:OwnM e T w M a c xs):∀ b∈blk a,b<w.heap.size:=by
  obtain ⟨g,cur,lo,hi,rfl,hg,_⟩:=h;intro b hb;simp only [blk,List.mem_singleton] at hb;subst hb; exact lt_of_heap hg
theorem OwnM.step {α:Type}{e:Enc α}{T:TypeId}{w w':World}{M M' Mo:List Nat}{a:Option Addr}{c:Nat}{xs:List α}(h:OwnM e T w M a c xs)(hs:Stp M w M' w')(he:Ev Mo w w')(hm:∀ b∈blk a,b∉Mo):OwnM e T w' M' a c xs:=by
  obtain ⟨g,cur,lo,hi,rfl,hg,h0,h1,h2,h3,h4⟩:=h;refine ⟨g,cur,lo,hi,rfl,he.box hg (hm g (by simp [blk])),h0,h1,h2,h3,fun i x hx=>?_⟩;obtain ⟨cs,h5,h6⟩:=h4 i x hx;exact ⟨cs,e.step h5 hs,h6⟩
theorem OwnM.sub {α:Type}{e:Enc α}{T:TypeId}{w:World}{M M':List Nat}{a:Option Addr}{c:Nat}{xs:List α}(h:OwnM e T w M a c xs)(hs:∀ b∈M',b∈M):OwnM e T w M' a c xs:=
  h.step (Stp.sub w hs) (Ev.refl [] w) (fun _ _ h=>by cases h)
theorem OwnM.ro {α:Type}{e:Enc α}{T:TypeId}{w:World}{M M':List Nat}{a:Option Addr}{c:Nat}{xs:List α}(h:OwnM e T w M a c xs)(hM:∀ b∈M',b∈M)(hm:∀ b∈blk a,b∉M'):SlR e w M' a c xs:=by
  obtain ⟨g,cur,lo,hi,rfl,hg,h0,h1,h2,h3,h4⟩:=h;refine ⟨h1,h2,fun h=>(by cases h),fun ad ha _=>?_⟩;cases ha;refine ⟨rfl,hm g (by simp [blk]),lt_of_heap hg,fun i x hx=>?_⟩;obtain ⟨cs,h5,h6⟩:=h4 i x hx;refine ⟨cs,e.step h5 (Stp.sub w hM),fun k v hv=>?_⟩;simp only [Nat.zero_add];rw [box_cell hg]; exact h6 k v hv
theorem OwnM.le {α:Type}{e:Enc α}{T:TypeId}{w:World}{M:List Nat}{a:Option Addr}{c:Nat}{xs:List α}(h:OwnM e T w M a c xs):xs.length≤c:=by
  obtain ⟨g,cur,lo,hi,_,_,_,h1,_⟩:=h;exact h1
end Go.V
